/- The statement TableSumsSaid: for every input the law returns true, and each argument reads afterwards as it read before. Conditions: none. -/
import Derived.Test.YtalnlphinlfenaaSx0
import Derived.Test.YtalnlphinlfenaaMTableSums1
import Derived.Test.YtalnlphinlfenaaSxMathBitsAdd64
import Derived.Test.YtalnlphinlfenaaSxMoneyTold
import Derived.Test.YtalnlphinlfenaaMTableSums2
import Derived.Test.YtalnlphinlfenaaSxWideMulDiv
import Derived.Test.YtalnlphinlfenaaSxMoneyAdd
import Derived.Test.YtalnlphinlfenaaSxMoneySub
import Derived.Test.YtalnlphinlfenaaSxRateMay
import Derived.Handy
import Derived.Test.YtalnlphinlfenaaSxRateInterest
import Derived.Test.YtalnlphinlfenaaWWords
import Derived.ChangeArms
import Derived.DataReads
import Derived.WideShapes
import Derived.Deep.Slices
import Derived.Test.YtalnlphinlfenaaRows
import Derived.WalkKit
import Derived.ProofKit
import Derived.OpenShut
import Derived.ShutString
import Derived.ChangeOld
import Derived.Below
import Derived.SizedLaws
import Derived.Carry
section
namespace Go.Proofs.Ytalnlphinlfenaa.S
open Go.RowKit Go.Proofs.YtalnlphinlfenaaW.PrintWords Go.Proofs.YtalnlphinlfenaaW.PrintLast Go.Proofs.YtalnlphinlfenaaW.PrintMore
attribute [local go_sem] max2_int min2_int max_two min_two max_three min_three max_four min_four   -- for this text's walks alone
attribute [local go_sem] Go.Proofs.Ytalnlphinlfenaa.XWalk.cell2
set_option linter.unusedVariables false
set_option linter.unusedSimpArgs false

theorem eqA59 (d : Nat) (w : World) (x0 y0 : Int) (x1 y1 : Int) (x2 y2 : Int) (x3 y3 : Int) :
    (Op.equalIn (d + 2) 59 (.agg #[.int .i64 x0, .int .i64 x1, .int .i64 x2, .int .i64 x3]) (.agg #[.int .i64 y0, .int .i64 y1, .int .i64 y2, .int .i64 y3])).run Try.prog w = .ok (x0 == y0 && (x1 == y1 && (x2 == y2 && (x3 == y3)))) w := by
  refine eqA_of Try.underlying59 (by kernel_rfl) ?_
  refine eqf_cons (by rfl) (by go_simp; rfl) (by go_simp; rfl) (by go_simp) ?_
  refine eqf_cons (by rfl) (by go_simp; rfl) (by go_simp; rfl) (by go_simp) ?_
  refine eqf_cons (by rfl) (by go_simp; rfl) (by go_simp; rfl) (by go_simp) ?_
  exact eqf_last (by rfl) (by go_simp; rfl) (by go_simp; rfl) (by go_simp)
end Go.Proofs.Ytalnlphinlfenaa.S
end

section
namespace Go.Proofs.Ytalnlphinlfenaa.S
open Go.RowKit Go.Proofs.YtalnlphinlfenaaW.PrintWords Go.Proofs.YtalnlphinlfenaaW.PrintLast Go.Proofs.YtalnlphinlfenaaW.PrintMore
attribute [local go_sem] max2_int min2_int max_two min_two max_three min_three max_four min_four   -- for this text's walks alone
attribute [local go_sem] Go.Proofs.Ytalnlphinlfenaa.XWalk.cell2
set_option linter.unusedVariables false
set_option linter.unusedSimpArgs false

attribute [local go_sem high] eqA59
/-! ### lombardref11_Same: function 14 -/
def lombardref11_Same.l0 : Nat → List (S59) → List (S59) → Int → Int → Option (Bool)
  | 0, _, _, _, _ => none
  | k + 1, x0, x1, x12, x13 => if x13 < x12 then (if 0 ≤ x13 then (if x13 < (x0.length : Int) then (if x13 < (x1.length : Int) then (if (!(((rd_T59 x0 x13).f0) == ((rd_T59 x1 x13).f0)) || (!(((rd_T59 x0 x13).f1) == ((rd_T59 x1 x13).f1)) || (!(((rd_T59 x0 x13).f2) == ((rd_T59 x1 x13).f2)) || (!(((rd_T59 x0 x13).f3) == ((rd_T59 x1 x13).f3)))))) = true then (some false) else (lombardref11_Same.l0 k x0 x1 x12 (wrap64 (x13 + 1)))) else (none)) else (none)) else (none)) else (some true)
def lombardref11_Same.f (k : Nat) (l0 : List (S59)) (l1 : List (S59)) : Option (Bool) := if (l0.length : Int) = (l1.length : Int) then (lombardref11_Same.l0 k l0 l1 (l0.length : Int) 0) else (some false)
set_option maxHeartbeats 8000000 in
set_option maxRecDepth 100000 in
theorem lombardref11_Same.calls (k : Nat) (A0 : Option Addr) (c0 : Nat) (l0 : List (S59)) (A1 : Option Addr) (c1 : Nat) (l1 : List (S59)) (r : Bool) (w : World) (hr0 : Kd.C k59 w A0 l0.length l0) (hc0 : l0.length ≤ c0) (hr1 : Kd.C k59 w A1 l1.length l1) (hc1 : l1.length ≤ c1) (h : lombardref11_Same.f k l0 l1 = some r) :
    Calls Try.prog 14 #[.slice A0 l0.length c0, .slice A1 l1.length c1] w fun e w' => e = .returned (.bool r) ∧ Drawn0 w w' := by
  have hu59 := Try.underlying59
  have HR0 := Aside0.mk hr0
  have HC0 := Aside0.mk hc0
  clear hr0 hc0
  have HR1 := Aside0.mk hr1
  have HC1 := Aside0.mk hc1
  clear hr1 hc1
  have H : (if (l0.length : Int) = (l1.length : Int) then (lombardref11_Same.l0 k l0 l1 (l0.length : Int) 0) else (some false)) = some r := h
  clear h
  by_cases c3 : (l0.length : Int) = (l1.length : Int)
  · rw [if_pos c3] at H
    have c3b0 : ((l0.length : Int) == (l1.length : Int)) = true := beq_iff_eq.mpr c3
    have c3b1 : ((l0.length : Int) != (l1.length : Int)) = false := bne_eq_false_iff_eq.mpr c3
    have c3b2 : (l0.length == l1.length) = true := by first | simpa using c3 | (simp at c3 ⊢; omega)
    clear c3
    have H' := Aside0.mk H
    clear H
    go_enter Try.func14, Try.ntmps14
    go_wp2
    repeat (go_quiet (fail); try go_wp2)
    go_loopg [13] k (fun kq v13 w' => ∃ (x13_1 : Int), v13 = .int .i64 x13_1 ∧ Aside0 (lombardref11_Same.l0 kq l0 l1 (l0.length : Int) x13_1 = some r) ∧ Aside0 (kq ≤ k) ∧ Drawn0 w w')
    case atStart => exact ⟨(0), (by first | rfl | (simp; done) | (simp [*]; done)), H', ⟨Nat.le_refl _⟩, by repeat (first | exact Drawn0.refl _ | apply Drawn0.step)⟩
    case round =>
      clear H'
      try clear c1
      try clear p2
      try clear c3
      try clear c3b0
      try clear c3b1
      try clear c3b2
      obtain ⟨x13_1, rfl, HA, HK1, ⟨m1, rfl⟩⟩ := hrel
      cases gk with
      | zero => exact absurd HA.out (by simp [lombardref11_Same.l0])
      | succ k1 =>
        have H := HA.out
        clear HA
        simp only [lombardref11_Same.l0] at H
        by_cases c4 : x13_1 < (l0.length : Int)
        · rw [if_pos c4] at H
          have c4b0 : decide (x13_1 < (l0.length : Int)) = true := decide_eq_true c4
          clear c4
          by_cases c5 : 0 ≤ x13_1
          · rw [if_pos c5] at H
            have c5b0 : decide (0 ≤ x13_1) = true := decide_eq_true c5
            clear c5
            by_cases c6 : x13_1 < (l0.length : Int)
            · rw [if_pos c6] at H
              have c6b0 : decide (x13_1 < (l0.length : Int)) = true := decide_eq_true c6
              clear c6
              by_cases c7 : x13_1 < (l1.length : Int)
              · rw [if_pos c7] at H
                have c7b0 : decide (x13_1 < (l1.length : Int)) = true := decide_eq_true c7
                clear c7
                by_cases c8 : (!(((rd_T59 l0 x13_1).f0) == ((rd_T59 l1 x13_1).f0)) || (!(((rd_T59 l0 x13_1).f1) == ((rd_T59 l1 x13_1).f1)) || (!(((rd_T59 l0 x13_1).f2) == ((rd_T59 l1 x13_1).f2)) || (!(((rd_T59 l0 x13_1).f3) == ((rd_T59 l1 x13_1).f3)))))) = true
                · rw [if_pos c8] at H
                  have c8b0 : (!(((rd_T59 l0 x13_1).f0) == ((rd_T59 l1 x13_1).f0)) || (!(((rd_T59 l0 x13_1).f1) == ((rd_T59 l1 x13_1).f1)) || (!(((rd_T59 l0 x13_1).f2) == ((rd_T59 l1 x13_1).f2)) || (!(((rd_T59 l0 x13_1).f3) == ((rd_T59 l1 x13_1).f3)))))) = true := c8
                  clear c8
                  obtain rfl := Option.some.inj H
                  have p186 : 0 ≤ (x13_1 : Int) := of_decide_eq_true (by first | (with_reducible assumption) | assumption)
                  have q186 : x13_1 < (l0.length : Int) := of_decide_eq_true (by first | (with_reducible assumption) | assumption)
                  obtain ⟨ad186, e186, hx186_0, hx186_1, hx186_2, hx186_3⟩ := at_T59 HR0.out x13_1 p186 q186
                  cases e186
                  replace p186 := eq_true p186
                  replace q186 := eq_true q186
                  have p187 : 0 ≤ (x13_1 : Int) := of_decide_eq_true (by first | (with_reducible assumption) | assumption)
                  have q187 : x13_1 < (l1.length : Int) := of_decide_eq_true (by first | (with_reducible assumption) | assumption)
                  obtain ⟨ad187, e187, hx187_0, hx187_1, hx187_2, hx187_3⟩ := at_T59 HR1.out x13_1 p187 q187
                  cases e187
                  replace p187 := eq_true p187
                  replace q187 := eq_true q187
                  go_wp2
                  repeat (go_quiet (fail); try go_wp2)
                  go_ret
                  exact ⟨by first | rfl | (simp; done) | (simp [*]; done), by repeat (first | exact Drawn0.refl _ | apply Drawn0.step)⟩
                · rw [if_neg c8] at H
                  have c8b0 : (!(((rd_T59 l0 x13_1).f0) == ((rd_T59 l1 x13_1).f0)) || (!(((rd_T59 l0 x13_1).f1) == ((rd_T59 l1 x13_1).f1)) || (!(((rd_T59 l0 x13_1).f2) == ((rd_T59 l1 x13_1).f2)) || (!(((rd_T59 l0 x13_1).f3) == ((rd_T59 l1 x13_1).f3)))))) = false := by simpa using c8
                  clear c8
                  have H' := Aside0.mk H
                  clear H
                  have p186 : 0 ≤ (x13_1 : Int) := of_decide_eq_true (by first | (with_reducible assumption) | assumption)
                  have q186 : x13_1 < (l0.length : Int) := of_decide_eq_true (by first | (with_reducible assumption) | assumption)
                  obtain ⟨ad186, e186, hx186_0, hx186_1, hx186_2, hx186_3⟩ := at_T59 HR0.out x13_1 p186 q186
                  cases e186
                  replace p186 := eq_true p186
                  replace q186 := eq_true q186
                  have p187 : 0 ≤ (x13_1 : Int) := of_decide_eq_true (by first | (with_reducible assumption) | assumption)
                  have q187 : x13_1 < (l1.length : Int) := of_decide_eq_true (by first | (with_reducible assumption) | assumption)
                  obtain ⟨ad187, e187, hx187_0, hx187_1, hx187_2, hx187_3⟩ := at_T59 HR1.out x13_1 p187 q187
                  cases e187
                  replace p187 := eq_true p187
                  replace q187 := eq_true q187
                  go_wp2
                  repeat (go_quiet (fail); try go_wp2)
                  go_roundg k1
                  case measure => have := HK1.out; omega
                  case rel => exact ⟨(wrap64 (x13_1 + 1)), (by first | rfl | (simp; done) | (simp [*]; done)), H', ⟨by have := HK1.out; omega⟩, by repeat (first | exact Drawn0.refl _ | apply Drawn0.step)⟩
              · rw [if_neg c7] at H
                exact absurd H (by simp)
            · rw [if_neg c6] at H
              exact absurd H (by simp)
          · rw [if_neg c5] at H
            exact absurd H (by simp)
        · rw [if_neg c4] at H
          have c4b0 : decide (x13_1 < (l0.length : Int)) = false := decide_eq_false c4
          clear c4
          obtain rfl := Option.some.inj H
          go_wp2
          repeat (go_quiet (fail); try go_wp2)
          go_ret
          exact ⟨by first | rfl | (simp; done) | (simp [*]; done), by repeat (first | exact Drawn0.refl _ | apply Drawn0.step)⟩
  · rw [if_neg c3] at H
    have c3b0 : ((l0.length : Int) == (l1.length : Int)) = false := beq_eq_false_iff_ne.mpr c3
    have c3b1 : ((l0.length : Int) != (l1.length : Int)) = true := bne_iff_ne.mpr c3
    have c3b2 : (l0.length == l1.length) = false := by first | simpa using c3 | (simp at c3 ⊢; omega)
    obtain rfl := Option.some.inj H
    go_enter Try.func14, Try.ntmps14
    go_wp2
    repeat (go_quiet (fail); try go_wp2)
    go_ret
    exact ⟨by first | rfl | (simp; done) | (simp [*]; done), by repeat (first | exact Drawn0.refl _ | apply Drawn0.step)⟩

end Go.Proofs.Ytalnlphinlfenaa.S
end

section
namespace Go.Proofs.Ytalnlphinlfenaa.S
open Go.RowKit Go.Proofs.YtalnlphinlfenaaW.PrintWords Go.Proofs.YtalnlphinlfenaaW.PrintLast Go.Proofs.YtalnlphinlfenaaW.PrintMore
attribute [local go_sem] max2_int min2_int max_two min_two max_three min_three max_four min_four   -- for this text's walks alone
attribute [local go_sem] Go.Proofs.Ytalnlphinlfenaa.XWalk.cell2
set_option linter.unusedVariables false
set_option linter.unusedSimpArgs false

/-! ### lombardlaw11_from: function 15 -/
def lombardlaw11_from.l0 : Nat → List (S59) → List (S37) → Int → Int → Option ((List (S59)))
  | 0, _, _, _, _ => none
  | k + 1, x3, x6, x7, x8 => if x8 < x7 then (if 0 ≤ x8 then (if x8 < (x6.length : Int) then (if x3.length < 4398046511104 then (lombardlaw11_from.l0 k (x3 ++ [(⟨(rd_T37 x6 x8).f0, (rd_T37 x6 x8).f1, (rd_T37 x6 x8).f2, (rd_T37 x6 x8).f3⟩ : S59)]) x6 x7 (wrap64 (x8 + 1))) else (none)) else (none)) else (none)) else (some x3)
def lombardlaw11_from.f (k : Nat) (l0 : List (S37)) : Option ((List (S59))) := lombardlaw11_from.l0 k ([] : List (S59)) l0 (l0.length : Int) 0
set_option maxHeartbeats 8000000 in
set_option maxRecDepth 100000 in
theorem lombardlaw11_from.calls (k : Nat) (A0 : Option Addr) (c0 : Nat) (l0 : List (S37)) (r : List (S59)) (w : World) (hr0 : Kd.C k37 w A0 l0.length l0) (hc0 : l0.length ≤ c0) (h : lombardlaw11_from.f k l0 = some r) :
    Calls Try.prog 15 #[.slice A0 l0.length c0] w fun e w' => ∃ v0_ : Value, e = .returned (v0_) ∧ Kd.R k59 59 w' w.heap.size (fun _ => True) v0_ r ∧ Below w.heap.size w w' := by
  have hu37 := Try.underlying37
  have HR0 := Aside0.mk hr0
  have HC0 := Aside0.mk hc0
  clear hr0 hc0
  have HB := Aside0.mk (Below.refl w.heap.size w)
  have H : (lombardlaw11_from.l0 k ([] : List (S59)) l0 (l0.length : Int) 0) = some r := h
  clear h
  have H' := Aside0.mk H
  clear H
  go_enter Try.func15, Try.ntmps15
  go_wp2
  go_loopg [3, 8] k (fun kq v3 v8 w' => ∃ (x3_1 : List (S59)) (x8_1 : Int), v8 = .int .i64 x8_1 ∧ Aside0 (lombardlaw11_from.l0 kq x3_1 l0 (l0.length : Int) x8_1 = some r) ∧ Aside0 (kq ≤ k) ∧ Aside0 (Kd.R k59 59 w' w.heap.size (fun _ => True) v3 x3_1) ∧ Aside0 (Below w.heap.size w w'))
  case atStart => exact ⟨(([] : List (S59))), (0), (by first | rfl | (simp; done) | (simp [*]; done)), H', ⟨Nat.le_refl _⟩, ⟨by first | exact Kd.R_nil _ _ _ _ _ | exact Kd.N_nil _ _ _ _ _ | exact Kd.V_nil _ _ _ _ _ | exact Kd.Q_nil _ _ _ _ _ | exact Kd.S_nil _ _ _ _ _⟩, ⟨by repeat (first | (with_reducible first | exact HB.out | apply below_alloc | apply pw_below_drewN | apply below_drew1) | exact HB.out)⟩⟩
  case round =>
    clear H'
    try clear c1
    obtain ⟨x3_1, x8_1, rfl, HA, HK1, HO_3, HB⟩ := hrel
    cases gk with
    | zero => exact absurd HA.out (by simp [lombardlaw11_from.l0])
    | succ k1 =>
      have H := HA.out
      clear HA
      simp only [lombardlaw11_from.l0] at H
      by_cases c2 : x8_1 < (l0.length : Int)
      · rw [if_pos c2] at H
        have c2b0 : decide (x8_1 < (l0.length : Int)) = true := decide_eq_true c2
        clear c2
        by_cases c3 : 0 ≤ x8_1
        · rw [if_pos c3] at H
          have c3b0 : decide (0 ≤ x8_1) = true := decide_eq_true c3
          clear c3
          by_cases c4 : x8_1 < (l0.length : Int)
          · rw [if_pos c4] at H
            have c4b0 : decide (x8_1 < (l0.length : Int)) = true := decide_eq_true c4
            clear c4
            by_cases c5 : x3_1.length < 4398046511104
            · rw [if_pos c5] at H
              have LMc5 := Aside0.mk c5
              clear c5
              obtain ⟨y190, hy190⟩ : ∃ y_ : List (S59), y_ = (x3_1 ++ [(⟨(rd_T37 l0 x8_1).f0, (rd_T37 l0 x8_1).f1, (rd_T37 l0 x8_1).f2, (rd_T37 l0 x8_1).f3⟩ : S59)]) := ⟨_, rfl⟩
              replace H : (lombardlaw11_from.l0 k1 y190 l0 (l0.length : Int) (wrap64 (x8_1 + 1))) = some r := by first | (rw [hy190]; with_reducible exact H) | (have H2_ := (Option.bind_some _ _).symm.trans H; rw [hy190]; with_reducible exact H2_) | (have H2_ := (Option.bind_some _ _).symm.trans H; with_reducible exact H2_) | with_reducible exact H | (rw [hy190]; exact H) | exact H
              have Ny190 := Aside0.mk hy190
              clear hy190
              have H' := Aside0.mk H
              clear H
              have p188 : 0 ≤ (x8_1 : Int) := of_decide_eq_true (by first | (with_reducible assumption) | assumption)
              have q188 : x8_1 < (l0.length : Int) := of_decide_eq_true (by first | (with_reducible assumption) | assumption)
              obtain ⟨ad188, e188, hx188_0, hx188_1, hx188_2, hx188_3⟩ := at_T37 HR0.out x8_1 p188 q188
              cases e188
              try replace hx188_0 := (HB.out.cell (World.block_lt_of_cell? w _ hx188_0)).trans hx188_0
              try replace hx188_1 := (HB.out.cell (World.block_lt_of_cell? w _ hx188_1)).trans hx188_1
              try replace hx188_2 := (HB.out.cell (World.block_lt_of_cell? w _ hx188_2)).trans hx188_2
              try replace hx188_3 := (HB.out.cell (World.block_lt_of_cell? w _ hx188_3)).trans hx188_3
              replace p188 := eq_true p188
              replace q188 := eq_true q188
              go_wp2_with (first | ((with_reducible refine gate_dst (N := 5) rfl ?_); refine box_event ?hg (N := 5) ?hd (cs := #[.int .i64 0, .int .i64 0, .int .i64 0, .int .i64 0]) (t := 37) ?hr ?_; (case hd => rfl); (case hg => rfl); (case hr => first | (go_simp; done) | (go_simp; rfl)); intro gb189 hg w6 hbox hb; have n0_ := Aside0.mk (Kd.R_below (by (with_reducible repeat (first | apply Kd.R_alloc | apply Kd.R_drewN | apply Kd.R_drew)); exact HO_3.out) hb); have n1_ := Aside0.mk (below_step (by repeat (first | (with_reducible first | exact HB.out | apply below_alloc | apply pw_below_drewN | apply below_drew1) | exact HB.out)) hb); have n2_ := Aside0.mk (hbox); have n3_ := Aside0.mk ((by rw [hg]; exact (below_size (by repeat (first | (with_reducible first | exact HB.out | apply below_alloc | apply pw_below_drewN | apply below_drew1) | exact HB.out))) : w.heap.size ≤ gb189)); have n4_ := Aside0.mk ((by rw [hg]; exact (below_size (by repeat (first | (with_reducible first | exact HB.out | apply below_alloc | apply pw_below_drewN | apply below_drew1) | exact HB.out))) : w.heap.size ≤ gb189)); clear HO_3; clear HB; have HO_3 := n0_; have HB := n1_; have BK189 := n2_; have GW189 := n3_; have GE189 := n4_; clear n0_ n1_ n2_ n3_ n4_; clear hb hbox hg; have hcz7_0 : w6.cell? ⟨gb189, 0, none⟩ = some (.int .i64 0) := (blk_cell BK189.out 0).trans rfl; have hcz7_1 : w6.cell? ⟨gb189, 1, none⟩ = some (.int .i64 0) := (blk_cell BK189.out 1).trans rfl; have hcz7_2 : w6.cell? ⟨gb189, 2, none⟩ = some (.int .i64 0) := (blk_cell BK189.out 2).trans rfl; have hcz7_3 : w6.cell? ⟨gb189, 3, none⟩ = some (.int .i64 0) := (blk_cell BK189.out 3).trans rfl; have hfz7_0 := blk_frozen BK189.out 0; have hfz7_1 := blk_frozen BK189.out 1; have hfz7_2 := blk_frozen BK189.out 2; have hfz7_3 := blk_frozen BK189.out 3) | ((with_reducible refine gate_builtin (b := .append) (xs := #[.tmp 12, .tmp 14]) rfl ?_); at_builtin; refine Kd.R_append k59 (w0 := w) w.heap.size rfl (.tmp 12) (.tmp 14) 28 59 (.agg #[(.int .i64 0), (.int .i64 0), (.int .i64 0), (.int .i64 0)]) 32 rfl Try.underlying28 info59 rfl (by decide) (by omega) u3 x3_1 (⟨(rd_T37 l0 x8_1).f0, (rd_T37 l0 x8_1).f1, (rd_T37 l0 x8_1).f2, (rd_T37 l0 x8_1).f3⟩ : S59) [.int .i64 ((rd_T37 l0 x8_1).f0), .int .i64 ((rd_T37 l0 x8_1).f1), .int .i64 ((rd_T37 l0 x8_1).f2), .int .i64 ((rd_T37 l0 x8_1).f3)] (fun _ => True) (fun _ => False) rfl (by first | (go_simp; done) | (go_simp; rfl)) ?aP (fun _ hk => hk.elim) ?aF ?aO ?aB ?aS ?aL ?_; (case aP => exact k59_mkM _ _ _ (⟨(rd_T37 l0 x8_1).f0, (rd_T37 l0 x8_1).f1, (rd_T37 l0 x8_1).f2, (rd_T37 l0 x8_1).f3⟩ : S59)); (case aB => exact (by repeat (first | (with_reducible first | exact HB.out | apply below_alloc | apply pw_below_drewN | apply below_drew1 | refine below_set ?_ GE189.out) | exact HB.out))); (case aF => exact (fun _ _ => trivial)); (case aO => exact (by (with_reducible repeat (first | apply Kd.R_alloc | apply Kd.R_drewN | apply Kd.R_drew)); exact Kd.R_mono (Kd.R_far (p := ⟨gb189, 3, none⟩) (Kd.R_far (p := ⟨gb189, 2, none⟩) (Kd.R_far (p := ⟨gb189, 1, none⟩) (Kd.R_far (p := ⟨gb189, 0, none⟩) (Kd.R_types HO_3.out BK189.out (by decide)) (fun _ hk => hk.2) (.int .i64 ((rd_T37 l0 x8_1).f0))) (fun _ hk => hk.2) (.int .i64 ((rd_T37 l0 x8_1).f1))) (fun _ hk => hk.2) (.int .i64 ((rd_T37 l0 x8_1).f2))) (fun _ hk => hk.2) (.int .i64 ((rd_T37 l0 x8_1).f3))) (fun _ hk => trivial))); (case aS => exact (below_size (by repeat (first | (with_reducible first | exact HB.out | apply below_alloc | apply pw_below_drewN | apply below_drew1 | refine below_set ?_ GE189.out) | exact HB.out)))); (case aL => have := LMc5.out; omega); intro v191 w8 ho hb hg hat; rw [← Ny190.out] at ho; have n0_ := Aside0.mk (blk_grown (g := gb189) (o := .cells #[.int .i64 ((rd_T37 l0 x8_1).f0), .int .i64 ((rd_T37 l0 x8_1).f1), .int .i64 ((rd_T37 l0 x8_1).f2), .int .i64 ((rd_T37 l0 x8_1).f3)] 37 (0, 0)) (by (with_reducible repeat (first | refine blk_drewN ?_ _ | refine blk_drew ?_ | refine blk_alloc ?_ _)); refine blk_put (cs := #[.int .i64 ((rd_T37 l0 x8_1).f0), .int .i64 ((rd_T37 l0 x8_1).f1), .int .i64 ((rd_T37 l0 x8_1).f2), .int .i64 0]) ?_ 3 _ rfl; (with_reducible repeat (first | refine blk_drewN ?_ _ | refine blk_drew ?_ | refine blk_alloc ?_ _)); refine blk_put (cs := #[.int .i64 ((rd_T37 l0 x8_1).f0), .int .i64 ((rd_T37 l0 x8_1).f1), .int .i64 0, .int .i64 0]) ?_ 2 _ rfl; (with_reducible repeat (first | refine blk_drewN ?_ _ | refine blk_drew ?_ | refine blk_alloc ?_ _)); refine blk_put (cs := #[.int .i64 ((rd_T37 l0 x8_1).f0), .int .i64 0, .int .i64 0, .int .i64 0]) ?_ 1 _ rfl; (with_reducible repeat (first | refine blk_drewN ?_ _ | refine blk_drew ?_ | refine blk_alloc ?_ _)); refine blk_put (cs := #[.int .i64 0, .int .i64 0, .int .i64 0, .int .i64 0]) ?_ 0 _ rfl; (with_reducible repeat (first | refine blk_drewN ?_ _ | refine blk_drew ?_ | refine blk_alloc ?_ _)); exact BK189.out) hg (Kd.R_ne HO_3.out BK189.out (by decide))); have n1_ := Aside0.mk (hb); have n2_ := Aside0.mk (ho); clear BK189; clear HB; clear HO_3; have BK189 := n0_; have HB := n1_; have HO192 := n2_; clear n0_ n1_ n2_; clear ho hb hg hat))
              go_roundg k1
              case measure => have := HK1.out; omega
              case rel => exact ⟨(y190), (wrap64 (x8_1 + 1)), (by first | rfl | (simp; done) | (simp [*]; done)), H', ⟨by have := HK1.out; omega⟩, ⟨by (with_reducible repeat (first | apply Kd.R_alloc | apply Kd.R_drewN | apply Kd.R_drew)); exact HO192.out⟩, ⟨by repeat (first | (with_reducible first | exact HB.out | apply below_alloc | apply pw_below_drewN | apply below_drew1 | refine below_set ?_ GE189.out) | exact HB.out)⟩⟩
            · rw [if_neg c5] at H
              exact absurd H (by simp)
          · rw [if_neg c4] at H
            exact absurd H (by simp)
        · rw [if_neg c3] at H
          exact absurd H (by simp)
      · rw [if_neg c2] at H
        have c2b0 : decide (x8_1 < (l0.length : Int)) = false := decide_eq_false c2
        clear c2
        obtain rfl := Option.some.inj H
        go_wp2
        go_ret
        exact ⟨_, by first | rfl | (simp [errW_none, errW_some] <;> rfl) | (simp [*, errW_none, errW_some] <;> rfl), by (with_reducible repeat (first | apply Kd.R_alloc | apply Kd.R_drewN | apply Kd.R_drew)); exact HO_3.out, by repeat (first | (with_reducible first | exact HB.out | apply below_alloc | apply pw_below_drewN | apply below_drew1) | exact HB.out)⟩

end Go.Proofs.Ytalnlphinlfenaa.S
end

section
namespace Go.Proofs.Ytalnlphinlfenaa.S
open Go.RowKit Go.Proofs.YtalnlphinlfenaaW.PrintWords Go.Proofs.YtalnlphinlfenaaW.PrintLast Go.Proofs.YtalnlphinlfenaaW.PrintMore
attribute [local go_sem] max2_int min2_int max_two min_two max_three min_three max_four min_four   -- for this text's walks alone
attribute [local go_sem] Go.Proofs.Ytalnlphinlfenaa.XWalk.cell2
set_option linter.unusedVariables false
set_option linter.unusedSimpArgs false

/-! ### lombardlaw11_alive: function 11 -/
def lombardlaw11_alive.f (k : Nat)  : Option (Bool) := (table_Roll.f k 1000 (([500, 605] : List Int)) 100000000000).bind fun bt203 => ((table_Plug.f k bt203.1 100000000000).bind fun bt207 => (if bt203.2 = 0 then ((lombardlaw11_from.f k bt203.1).bind fun t209 => ((lombardref11_Same.f k t209 (([(⟨1000, 100, 500, 600⟩ : S59), (⟨600, 5, 605, 0⟩ : S59)] : List (S59)))).bind fun t215 => (if t215 = true then (if bt207.1 = (-55) then (some (bt207.2 == 0)) else (some false)) else (some false)))) else (some false)))
set_option maxHeartbeats 8000000 in
set_option maxRecDepth 100000 in
theorem lombardlaw11_alive.calls (k : Nat)  (r : Bool) (w : World) (h : lombardlaw11_alive.f k  = some r) :
    Calls Try.prog 11 #[] w fun e w' => e = .returned (.bool r) ∧ Below w.heap.size w w' := by
  have hu59 := Try.underlying59
  have HB := Aside0.mk (Below.refl w.heap.size w)
  have H : ((table_Roll.f k 1000 (([500, 605] : List Int)) 100000000000).bind fun bt203 => ((table_Plug.f k bt203.1 100000000000).bind fun bt207 => (if bt203.2 = 0 then ((lombardlaw11_from.f k bt203.1).bind fun t209 => ((lombardref11_Same.f k t209 (([(⟨1000, 100, 500, 600⟩ : S59), (⟨600, 5, 605, 0⟩ : S59)] : List (S59)))).bind fun t215 => (if t215 = true then (if bt207.1 = (-55) then (some (bt207.2 == 0)) else (some false)) else (some false)))) else (some false)))) = some r := h
  clear h
  obtain ⟨y200, hy200⟩ : ∃ y_ : List Int, y_ = (([500, 605] : List Int)) := ⟨_, rfl⟩
  replace H : ((table_Roll.f k 1000 y200 100000000000).bind fun bt203 => ((table_Plug.f k bt203.1 100000000000).bind fun bt207 => (if bt203.2 = 0 then ((lombardlaw11_from.f k bt203.1).bind fun t209 => ((lombardref11_Same.f k t209 (([(⟨1000, 100, 500, 600⟩ : S59), (⟨600, 5, 605, 0⟩ : S59)] : List (S59)))).bind fun t215 => (if t215 = true then (if bt207.1 = (-55) then (some (bt207.2 == 0)) else (some false)) else (some false)))) else (some false)))) = some r := by first | (rw [hy200]; with_reducible exact H) | (have H2_ := (Option.bind_some _ _).symm.trans H; rw [hy200]; with_reducible exact H2_) | (have H2_ := (Option.bind_some _ _).symm.trans H; with_reducible exact H2_) | with_reducible exact H | (rw [hy200]; exact H) | exact H
  have Ny200 := Aside0.mk hy200
  clear hy200
  replace H := Option.bind_eq_some_iff.mp H
  obtain ⟨⟨t203, t204⟩, A10, H⟩ := H
  replace H : ((table_Plug.f k t203 100000000000).bind fun bt207 => (if t204 = 0 then ((lombardlaw11_from.f k t203).bind fun t209 => ((lombardref11_Same.f k t209 (([(⟨1000, 100, 500, 600⟩ : S59), (⟨600, 5, 605, 0⟩ : S59)] : List (S59)))).bind fun t215 => (if t215 = true then (if bt207.1 = (-55) then (some (bt207.2 == 0)) else (some false)) else (some false)))) else (some false))) = some r := H
  have A1 := Aside0.mk A10
  clear A10
  replace H := Option.bind_eq_some_iff.mp H
  obtain ⟨⟨t207, t208⟩, A20, H⟩ := H
  replace H : (if t204 = 0 then ((lombardlaw11_from.f k t203).bind fun t209 => ((lombardref11_Same.f k t209 (([(⟨1000, 100, 500, 600⟩ : S59), (⟨600, 5, 605, 0⟩ : S59)] : List (S59)))).bind fun t215 => (if t215 = true then (if t207 = (-55) then (some (t208 == 0)) else (some false)) else (some false)))) else (some false)) = some r := H
  have A2 := Aside0.mk A20
  clear A20
  have HC3 := Aside0.mk H
  clear H
  go_enter Try.func11, Try.ntmps11
  go_upto_region 3 with (first | ((with_reducible refine gate_dst (N := 6) rfl ?_); (try (refine gate_guard (by rfl) ?_; dsimp only)); refine Kd.R_lit (Kd.int .i64) _ 2 ?hg (N := 6) ?hd (xs := ([500, 605] : List Int)) (inner := [.int .i64 500, .int .i64 605]) (ok := fun _ => True) (okp := fun _ => True) ?hr ?hp (fun _ hk => hk) trivial (Below.refl _ _) (Nat.le_refl _) (by simp) ?_; (case hd => rfl); (case hg => rfl); (case hr => first | (go_simp; done) | (go_simp; rfl)); (case hp => exact (Reps.one (show Kd.M (Kd.int .i64) _ _ _ 500 [.int .i64 500] from rfl) (Reps.one (show Kd.M (Kd.int .i64) _ _ _ 605 [.int .i64 605] from rfl) (Reps.none _ _)))); intro v201 w4 ho5 hb hg_ hnew_; clear hg_ hnew_; (first | rw [← Ny200.out] at ho5 | (simp only [Int.reduceToNat] at ho5; rw [← Ny200.out] at ho5)); have n0_ := Aside0.mk (Kd.R_lower ho5 (below_size (by repeat (first | (with_reducible first | exact HB.out | apply below_alloc | apply pw_below_drewN | apply below_drew1) | exact HB.out)))); have n1_ := Aside0.mk (below_step (by repeat (first | (with_reducible first | exact HB.out | apply below_alloc | apply pw_below_drewN | apply below_drew1) | exact HB.out)) hb); clear HB; have HO202 := n0_; have HB := n1_; clear n0_ n1_; clear hb ho5; obtain ⟨Ao6, co6, eo6⟩ := Kd.R_slice HO202.out; subst eo6) | ((with_reducible refine gate_callee (f := 12) rfl ?_); refine goesL_ (some 7) rfl rfl Try.func12 (by kernel_rfl) rfl #[.int .i64 1000, .slice Ao6 y200.length co6, .int .i64 100000000000] rfl (by (try simp only [List.map_toArray, List.map_cons, List.map_nil]); first | done | rfl | (simp only [List.length_drop, List.length_take]; rfl)) ?_; (with_reducible refine (table_Roll.calls k 1000 _ _ y200 100000000000 t203 t204 _ ?side1 ?side2 A1.out).mono ?_); (case side1 => repeat (first | exact (Kd.R_reads' HO202.out).2.2 | (with_reducible refine Kd.C_alloc ?_ _) | (with_reducible refine Kd.C_drewN ?_ _) | (with_reducible refine Kd.C_drew ?_))); (case side2 => exact (Kd.R_reads' HO202.out).2.1); rintro e w7 ⟨v205, rfl, ho0, hb⟩; refine ⟨_, rfl, ?_⟩; have n0_ := Aside0.mk (Kd.R_below (by (with_reducible repeat (first | apply Kd.R_alloc | apply Kd.R_drewN | apply Kd.R_drew)); exact HO202.out) hb); have n1_ := Aside0.mk (Kd.R_lower ho0 (below_size (by repeat (first | (with_reducible first | exact HB.out | apply below_alloc | apply pw_below_drewN | apply below_drew1) | exact HB.out)))); have n2_ := Aside0.mk (below_step (by repeat (first | (with_reducible first | exact HB.out | apply below_alloc | apply pw_below_drewN | apply below_drew1) | exact HB.out)) hb); clear HO202; clear HB; have HO202 := n0_; have HO206 := n1_; have HB := n2_; clear n0_ n1_ n2_; (try clear hb); (try clear hb2); (try clear hk); (try clear hi); (try clear ho0); obtain ⟨Ao8, co8, eo8⟩ := Kd.R_slice HO206.out; subst eo8) | ((with_reducible refine gate_callee (f := 25) rfl ?_); refine goesL_ (some 12) rfl rfl Try.func25 (by kernel_rfl) rfl #[.slice Ao8 t203.length co8, .int .i64 100000000000] rfl (by (try simp only [List.map_toArray, List.map_cons, List.map_nil]); first | done | rfl | (simp only [List.length_drop, List.length_take]; rfl)) ?_; (with_reducible refine (table_Plug.calls k _ _ t203 100000000000 t207 t208 _ ?side1 ?side2 A2.out).mono ?_); (case side1 => repeat (first | exact (Kd.R_reads' HO206.out).2.2 | (with_reducible refine Kd.C_alloc ?_ _) | (with_reducible refine Kd.C_drewN ?_ _) | (with_reducible refine Kd.C_drew ?_))); (case side2 => exact (Kd.R_reads' HO206.out).2.1); rintro e w9 ⟨rfl, hb⟩; refine ⟨_, rfl, ?_⟩; have n0_ := Aside0.mk (Kd.R_below (by (with_reducible repeat (first | apply Kd.R_alloc | apply Kd.R_drewN | apply Kd.R_drew)); exact HO202.out) hb); have n1_ := Aside0.mk (Kd.R_below (by (with_reducible repeat (first | apply Kd.R_alloc | apply Kd.R_drewN | apply Kd.R_drew)); exact HO206.out) hb); have n2_ := Aside0.mk (below_step (by repeat (first | (with_reducible first | exact HB.out | apply below_alloc | apply pw_below_drewN | apply below_drew1) | exact HB.out)) hb); clear HO202; clear HO206; clear HB; have HO202 := n0_; have HO206 := n1_; have HB := n2_; clear n0_ n1_ n2_; (try clear hb); (try clear hb2); (try clear hk); (try clear hi)))
  have H := HC3.out
  clear HC3
  by_cases c10 : t204 = 0
  · rw [if_pos c10] at H
    have c10b0 : (t204 == 0) = true := beq_iff_eq.mpr c10
    have c10b1 : (t204 != 0) = false := bne_eq_false_iff_eq.mpr c10
    clear c10
    replace H := Option.bind_eq_some_iff.mp H
    obtain ⟨t209, A110, H⟩ := H
    replace H : ((lombardref11_Same.f k t209 (([(⟨1000, 100, 500, 600⟩ : S59), (⟨600, 5, 605, 0⟩ : S59)] : List (S59)))).bind fun t215 => (if t215 = true then (if t207 = (-55) then (some (t208 == 0)) else (some false)) else (some false))) = some r := H
    have A11 := Aside0.mk A110
    clear A110
    obtain ⟨y212, hy212⟩ : ∃ y_ : List (S59), y_ = (([(⟨1000, 100, 500, 600⟩ : S59), (⟨600, 5, 605, 0⟩ : S59)] : List (S59))) := ⟨_, rfl⟩
    replace H : ((lombardref11_Same.f k t209 y212).bind fun t215 => (if t215 = true then (if t207 = (-55) then (some (t208 == 0)) else (some false)) else (some false))) = some r := by first | (rw [hy212]; with_reducible exact H) | (have H2_ := (Option.bind_some _ _).symm.trans H; rw [hy212]; with_reducible exact H2_) | (have H2_ := (Option.bind_some _ _).symm.trans H; with_reducible exact H2_) | with_reducible exact H | (rw [hy212]; exact H) | exact H
    have Ny212 := Aside0.mk hy212
    clear hy212
    replace H := Option.bind_eq_some_iff.mp H
    obtain ⟨t215, A120, H⟩ := H
    replace H : (if t215 = true then (if t207 = (-55) then (some (t208 == 0)) else (some false)) else (some false)) = some r := H
    have A12 := Aside0.mk A120
    clear A120
    by_cases c13 : t215 = true
    · subst c13
      have H1 : (if t207 = (-55) then (some (t208 == 0)) else (some false)) = some r := by rw [if_pos rfl] at H; exact H
      clear H
      have H := H1
      clear H1
      by_cases c14 : t207 = (-55)
      · rw [if_pos c14] at H
        have c14b0 : (t207 == (-55)) = true := beq_iff_eq.mpr c14
        have c14b1 : (t207 != (-55)) = false := bne_eq_false_iff_eq.mpr c14
        clear c14
        obtain rfl := Option.some.inj H
        go_wp2_with (first | (go_at_call 15; (with_reducible refine (lombardlaw11_from.calls k _ _ t203 t209 _ ?side1 ?side2 A11.out).mono ?_); (case side1 => repeat (first | exact (Kd.R_reads' HO206.out).2.2 | (with_reducible refine Kd.C_alloc ?_ _) | (with_reducible refine Kd.C_drewN ?_ _) | (with_reducible refine Kd.C_drew ?_))); (case side2 => exact (Kd.R_reads' HO206.out).2.1); rintro e w15 ⟨v210, rfl, ho0, hb⟩; have n0_ := Aside0.mk (Kd.R_below (by (with_reducible repeat (first | apply Kd.R_alloc | apply Kd.R_drewN | apply Kd.R_drew)); exact HO202.out) hb); have n1_ := Aside0.mk (Kd.R_below (by (with_reducible repeat (first | apply Kd.R_alloc | apply Kd.R_drewN | apply Kd.R_drew)); exact HO206.out) hb); have n2_ := Aside0.mk (Kd.R_lower ho0 (below_size (by repeat (first | (with_reducible first | exact HB.out | apply below_alloc | apply pw_below_drewN | apply below_drew1) | exact HB.out)))); have n3_ := Aside0.mk (below_step (by repeat (first | (with_reducible first | exact HB.out | apply below_alloc | apply pw_below_drewN | apply below_drew1) | exact HB.out)) hb); clear HO202; clear HO206; clear HB; have HO202 := n0_; have HO206 := n1_; have HO211 := n2_; have HB := n3_; clear n0_ n1_ n2_ n3_; (try clear hb); (try clear hb2); (try clear hk); (try clear hi); (try clear ho0)) | ((with_reducible refine gate_dst (N := 22) rfl ?_); (try (refine gate_guard (by rfl) ?_; dsimp only)); refine Kd.R_lit k59 _ 59 ?hg (N := 22) ?hd (xs := ([(⟨1000, 100, 500, 600⟩ : S59), (⟨600, 5, 605, 0⟩ : S59)] : List (S59))) (inner := [.int .i64 1000, .int .i64 100, .int .i64 500, .int .i64 600, .int .i64 600, .int .i64 5, .int .i64 605, .int .i64 0]) (ok := fun _ => True) (okp := fun _ => True) ?hr ?hp (fun _ hk => hk) trivial (Below.refl _ _) (Nat.le_refl _) (by simp) ?_; (case hd => rfl); (case hg => rfl); (case hr => first | (go_simp; done) | (go_simp; rfl)); (case hp => exact (Reps.c4 (show Kd.M k59 _ _ _ (⟨1000, 100, 500, 600⟩ : S59) [.int .i64 1000, .int .i64 100, .int .i64 500, .int .i64 600] from (k59_mkM _ _ _ (⟨1000, 100, 500, 600⟩ : S59) )) (Reps.c4 (show Kd.M k59 _ _ _ (⟨600, 5, 605, 0⟩ : S59) [.int .i64 600, .int .i64 5, .int .i64 605, .int .i64 0] from (k59_mkM _ _ _ (⟨600, 5, 605, 0⟩ : S59) )) (Reps.none _ _)))); intro v213 w16 ho17 hb hg_ hnew_; clear hg_ hnew_; (first | rw [← Ny212.out] at ho17 | (simp only [Int.reduceToNat] at ho17; rw [← Ny212.out] at ho17)); have n0_ := Aside0.mk (Kd.R_below (by (with_reducible repeat (first | apply Kd.R_alloc | apply Kd.R_drewN | apply Kd.R_drew)); exact HO202.out) hb); have n1_ := Aside0.mk (Kd.R_below (by (with_reducible repeat (first | apply Kd.R_alloc | apply Kd.R_drewN | apply Kd.R_drew)); exact HO206.out) hb); have n2_ := Aside0.mk (Kd.R_elder' (by (with_reducible repeat (first | apply Kd.R_alloc | apply Kd.R_drewN | apply Kd.R_drew)); exact HO211.out) (Kd.R_base ho17) hb); have n3_ := Aside0.mk (Kd.R_lower (Kd.R_new' ho17 (Kd.R_lt (by (with_reducible repeat (first | apply Kd.R_alloc | apply Kd.R_drewN | apply Kd.R_drew)); exact HO211.out))) (below_size (by repeat (first | (with_reducible first | exact HB.out | apply below_alloc | apply pw_below_drewN | apply below_drew1) | exact HB.out)))); have n4_ := Aside0.mk (below_step (by repeat (first | (with_reducible first | exact HB.out | apply below_alloc | apply pw_below_drewN | apply below_drew1) | exact HB.out)) hb); clear HO202; clear HO206; clear HO211; clear HB; have HO202 := n0_; have HO206 := n1_; have HO211 := n2_; have HO214 := n3_; have HB := n4_; clear n0_ n1_ n2_ n3_ n4_; clear hb ho17; obtain ⟨Ao18, co18, eo18⟩ := Kd.R_slice HO211.out; subst eo18; obtain ⟨Ao19, co19, eo19⟩ := Kd.R_slice HO214.out; subst eo19) | (go_at_call 14; (with_reducible refine (lombardref11_Same.calls k _ _ t209 _ _ y212 true _ ?side1 ?side2 ?side3 ?side4 A12.out).mono ?_); (case side1 => repeat (first | exact (Kd.R_reads' HO211.out).2.2 | (with_reducible refine Kd.C_alloc ?_ _) | (with_reducible refine Kd.C_drewN ?_ _) | (with_reducible refine Kd.C_drew ?_))); (case side2 => exact (Kd.R_reads' HO211.out).2.1); (case side3 => repeat (first | exact (Kd.R_reads' HO214.out).2.2 | (with_reducible refine Kd.C_alloc ?_ _) | (with_reducible refine Kd.C_drewN ?_ _) | (with_reducible refine Kd.C_drew ?_))); (case side4 => exact (Kd.R_reads' HO214.out).2.1); rintro e w' ⟨rfl, ⟨nd, rfl⟩⟩))
        go_ret
        exact ⟨by first | rfl | (simp [errW_none, errW_some] <;> rfl) | (simp [*, errW_none, errW_some] <;> rfl), by repeat (first | (with_reducible first | exact HB.out | apply below_alloc | apply pw_below_drewN | apply below_drew1) | exact HB.out)⟩
      · rw [if_neg c14] at H
        have c14b0 : (t207 == (-55)) = false := beq_eq_false_iff_ne.mpr c14
        have c14b1 : (t207 != (-55)) = true := bne_iff_ne.mpr c14
        obtain rfl := Option.some.inj H
        go_wp2_with (first | (go_at_call 15; (with_reducible refine (lombardlaw11_from.calls k _ _ t203 t209 _ ?side1 ?side2 A11.out).mono ?_); (case side1 => repeat (first | exact (Kd.R_reads' HO206.out).2.2 | (with_reducible refine Kd.C_alloc ?_ _) | (with_reducible refine Kd.C_drewN ?_ _) | (with_reducible refine Kd.C_drew ?_))); (case side2 => exact (Kd.R_reads' HO206.out).2.1); rintro e w20 ⟨v210, rfl, ho0, hb⟩; have n0_ := Aside0.mk (Kd.R_below (by (with_reducible repeat (first | apply Kd.R_alloc | apply Kd.R_drewN | apply Kd.R_drew)); exact HO202.out) hb); have n1_ := Aside0.mk (Kd.R_below (by (with_reducible repeat (first | apply Kd.R_alloc | apply Kd.R_drewN | apply Kd.R_drew)); exact HO206.out) hb); have n2_ := Aside0.mk (Kd.R_lower ho0 (below_size (by repeat (first | (with_reducible first | exact HB.out | apply below_alloc | apply pw_below_drewN | apply below_drew1) | exact HB.out)))); have n3_ := Aside0.mk (below_step (by repeat (first | (with_reducible first | exact HB.out | apply below_alloc | apply pw_below_drewN | apply below_drew1) | exact HB.out)) hb); clear HO202; clear HO206; clear HB; have HO202 := n0_; have HO206 := n1_; have HO211 := n2_; have HB := n3_; clear n0_ n1_ n2_ n3_; (try clear hb); (try clear hb2); (try clear hk); (try clear hi); (try clear ho0)) | ((with_reducible refine gate_dst (N := 22) rfl ?_); (try (refine gate_guard (by rfl) ?_; dsimp only)); refine Kd.R_lit k59 _ 59 ?hg (N := 22) ?hd (xs := ([(⟨1000, 100, 500, 600⟩ : S59), (⟨600, 5, 605, 0⟩ : S59)] : List (S59))) (inner := [.int .i64 1000, .int .i64 100, .int .i64 500, .int .i64 600, .int .i64 600, .int .i64 5, .int .i64 605, .int .i64 0]) (ok := fun _ => True) (okp := fun _ => True) ?hr ?hp (fun _ hk => hk) trivial (Below.refl _ _) (Nat.le_refl _) (by simp) ?_; (case hd => rfl); (case hg => rfl); (case hr => first | (go_simp; done) | (go_simp; rfl)); (case hp => exact (Reps.c4 (show Kd.M k59 _ _ _ (⟨1000, 100, 500, 600⟩ : S59) [.int .i64 1000, .int .i64 100, .int .i64 500, .int .i64 600] from (k59_mkM _ _ _ (⟨1000, 100, 500, 600⟩ : S59) )) (Reps.c4 (show Kd.M k59 _ _ _ (⟨600, 5, 605, 0⟩ : S59) [.int .i64 600, .int .i64 5, .int .i64 605, .int .i64 0] from (k59_mkM _ _ _ (⟨600, 5, 605, 0⟩ : S59) )) (Reps.none _ _)))); intro v213 w21 ho22 hb hg_ hnew_; clear hg_ hnew_; (first | rw [← Ny212.out] at ho22 | (simp only [Int.reduceToNat] at ho22; rw [← Ny212.out] at ho22)); have n0_ := Aside0.mk (Kd.R_below (by (with_reducible repeat (first | apply Kd.R_alloc | apply Kd.R_drewN | apply Kd.R_drew)); exact HO202.out) hb); have n1_ := Aside0.mk (Kd.R_below (by (with_reducible repeat (first | apply Kd.R_alloc | apply Kd.R_drewN | apply Kd.R_drew)); exact HO206.out) hb); have n2_ := Aside0.mk (Kd.R_elder' (by (with_reducible repeat (first | apply Kd.R_alloc | apply Kd.R_drewN | apply Kd.R_drew)); exact HO211.out) (Kd.R_base ho22) hb); have n3_ := Aside0.mk (Kd.R_lower (Kd.R_new' ho22 (Kd.R_lt (by (with_reducible repeat (first | apply Kd.R_alloc | apply Kd.R_drewN | apply Kd.R_drew)); exact HO211.out))) (below_size (by repeat (first | (with_reducible first | exact HB.out | apply below_alloc | apply pw_below_drewN | apply below_drew1) | exact HB.out)))); have n4_ := Aside0.mk (below_step (by repeat (first | (with_reducible first | exact HB.out | apply below_alloc | apply pw_below_drewN | apply below_drew1) | exact HB.out)) hb); clear HO202; clear HO206; clear HO211; clear HB; have HO202 := n0_; have HO206 := n1_; have HO211 := n2_; have HO214 := n3_; have HB := n4_; clear n0_ n1_ n2_ n3_ n4_; clear hb ho22; obtain ⟨Ao23, co23, eo23⟩ := Kd.R_slice HO211.out; subst eo23; obtain ⟨Ao24, co24, eo24⟩ := Kd.R_slice HO214.out; subst eo24) | (go_at_call 14; (with_reducible refine (lombardref11_Same.calls k _ _ t209 _ _ y212 true _ ?side1 ?side2 ?side3 ?side4 A12.out).mono ?_); (case side1 => repeat (first | exact (Kd.R_reads' HO211.out).2.2 | (with_reducible refine Kd.C_alloc ?_ _) | (with_reducible refine Kd.C_drewN ?_ _) | (with_reducible refine Kd.C_drew ?_))); (case side2 => exact (Kd.R_reads' HO211.out).2.1); (case side3 => repeat (first | exact (Kd.R_reads' HO214.out).2.2 | (with_reducible refine Kd.C_alloc ?_ _) | (with_reducible refine Kd.C_drewN ?_ _) | (with_reducible refine Kd.C_drew ?_))); (case side4 => exact (Kd.R_reads' HO214.out).2.1); rintro e w' ⟨rfl, ⟨nd, rfl⟩⟩))
        go_ret
        exact ⟨by first | rfl | (simp [errW_none, errW_some] <;> rfl) | (simp [*, errW_none, errW_some] <;> rfl), by repeat (first | (with_reducible first | exact HB.out | apply below_alloc | apply pw_below_drewN | apply below_drew1) | exact HB.out)⟩
    · replace c13 := Bool.eq_false_iff.mpr c13
      subst c13
      have H1 : (some false) = some r := by rw [if_neg (show ¬ (false = true) by decide)] at H; exact H
      clear H
      have H := H1
      clear H1
      obtain rfl := Option.some.inj H
      go_wp2_with (first | (go_at_call 15; (with_reducible refine (lombardlaw11_from.calls k _ _ t203 t209 _ ?side1 ?side2 A11.out).mono ?_); (case side1 => repeat (first | exact (Kd.R_reads' HO206.out).2.2 | (with_reducible refine Kd.C_alloc ?_ _) | (with_reducible refine Kd.C_drewN ?_ _) | (with_reducible refine Kd.C_drew ?_))); (case side2 => exact (Kd.R_reads' HO206.out).2.1); rintro e w25 ⟨v210, rfl, ho0, hb⟩; have n0_ := Aside0.mk (Kd.R_below (by (with_reducible repeat (first | apply Kd.R_alloc | apply Kd.R_drewN | apply Kd.R_drew)); exact HO202.out) hb); have n1_ := Aside0.mk (Kd.R_below (by (with_reducible repeat (first | apply Kd.R_alloc | apply Kd.R_drewN | apply Kd.R_drew)); exact HO206.out) hb); have n2_ := Aside0.mk (Kd.R_lower ho0 (below_size (by repeat (first | (with_reducible first | exact HB.out | apply below_alloc | apply pw_below_drewN | apply below_drew1) | exact HB.out)))); have n3_ := Aside0.mk (below_step (by repeat (first | (with_reducible first | exact HB.out | apply below_alloc | apply pw_below_drewN | apply below_drew1) | exact HB.out)) hb); clear HO202; clear HO206; clear HB; have HO202 := n0_; have HO206 := n1_; have HO211 := n2_; have HB := n3_; clear n0_ n1_ n2_ n3_; (try clear hb); (try clear hb2); (try clear hk); (try clear hi); (try clear ho0)) | ((with_reducible refine gate_dst (N := 22) rfl ?_); (try (refine gate_guard (by rfl) ?_; dsimp only)); refine Kd.R_lit k59 _ 59 ?hg (N := 22) ?hd (xs := ([(⟨1000, 100, 500, 600⟩ : S59), (⟨600, 5, 605, 0⟩ : S59)] : List (S59))) (inner := [.int .i64 1000, .int .i64 100, .int .i64 500, .int .i64 600, .int .i64 600, .int .i64 5, .int .i64 605, .int .i64 0]) (ok := fun _ => True) (okp := fun _ => True) ?hr ?hp (fun _ hk => hk) trivial (Below.refl _ _) (Nat.le_refl _) (by simp) ?_; (case hd => rfl); (case hg => rfl); (case hr => first | (go_simp; done) | (go_simp; rfl)); (case hp => exact (Reps.c4 (show Kd.M k59 _ _ _ (⟨1000, 100, 500, 600⟩ : S59) [.int .i64 1000, .int .i64 100, .int .i64 500, .int .i64 600] from (k59_mkM _ _ _ (⟨1000, 100, 500, 600⟩ : S59) )) (Reps.c4 (show Kd.M k59 _ _ _ (⟨600, 5, 605, 0⟩ : S59) [.int .i64 600, .int .i64 5, .int .i64 605, .int .i64 0] from (k59_mkM _ _ _ (⟨600, 5, 605, 0⟩ : S59) )) (Reps.none _ _)))); intro v213 w26 ho27 hb hg_ hnew_; clear hg_ hnew_; (first | rw [← Ny212.out] at ho27 | (simp only [Int.reduceToNat] at ho27; rw [← Ny212.out] at ho27)); have n0_ := Aside0.mk (Kd.R_below (by (with_reducible repeat (first | apply Kd.R_alloc | apply Kd.R_drewN | apply Kd.R_drew)); exact HO202.out) hb); have n1_ := Aside0.mk (Kd.R_below (by (with_reducible repeat (first | apply Kd.R_alloc | apply Kd.R_drewN | apply Kd.R_drew)); exact HO206.out) hb); have n2_ := Aside0.mk (Kd.R_elder' (by (with_reducible repeat (first | apply Kd.R_alloc | apply Kd.R_drewN | apply Kd.R_drew)); exact HO211.out) (Kd.R_base ho27) hb); have n3_ := Aside0.mk (Kd.R_lower (Kd.R_new' ho27 (Kd.R_lt (by (with_reducible repeat (first | apply Kd.R_alloc | apply Kd.R_drewN | apply Kd.R_drew)); exact HO211.out))) (below_size (by repeat (first | (with_reducible first | exact HB.out | apply below_alloc | apply pw_below_drewN | apply below_drew1) | exact HB.out)))); have n4_ := Aside0.mk (below_step (by repeat (first | (with_reducible first | exact HB.out | apply below_alloc | apply pw_below_drewN | apply below_drew1) | exact HB.out)) hb); clear HO202; clear HO206; clear HO211; clear HB; have HO202 := n0_; have HO206 := n1_; have HO211 := n2_; have HO214 := n3_; have HB := n4_; clear n0_ n1_ n2_ n3_ n4_; clear hb ho27; obtain ⟨Ao28, co28, eo28⟩ := Kd.R_slice HO211.out; subst eo28; obtain ⟨Ao29, co29, eo29⟩ := Kd.R_slice HO214.out; subst eo29) | (go_at_call 14; (with_reducible refine (lombardref11_Same.calls k _ _ t209 _ _ y212 false _ ?side1 ?side2 ?side3 ?side4 A12.out).mono ?_); (case side1 => repeat (first | exact (Kd.R_reads' HO211.out).2.2 | (with_reducible refine Kd.C_alloc ?_ _) | (with_reducible refine Kd.C_drewN ?_ _) | (with_reducible refine Kd.C_drew ?_))); (case side2 => exact (Kd.R_reads' HO211.out).2.1); (case side3 => repeat (first | exact (Kd.R_reads' HO214.out).2.2 | (with_reducible refine Kd.C_alloc ?_ _) | (with_reducible refine Kd.C_drewN ?_ _) | (with_reducible refine Kd.C_drew ?_))); (case side4 => exact (Kd.R_reads' HO214.out).2.1); rintro e w' ⟨rfl, ⟨nd, rfl⟩⟩))
      go_ret
      exact ⟨by first | rfl | (simp [errW_none, errW_some] <;> rfl) | (simp [*, errW_none, errW_some] <;> rfl), by repeat (first | (with_reducible first | exact HB.out | apply below_alloc | apply pw_below_drewN | apply below_drew1) | exact HB.out)⟩
  · rw [if_neg c10] at H
    have c10b0 : (t204 == 0) = false := beq_eq_false_iff_ne.mpr c10
    have c10b1 : (t204 != 0) = true := bne_iff_ne.mpr c10
    obtain rfl := Option.some.inj H
    go_wp2
    go_ret
    exact ⟨by first | rfl | (simp [errW_none, errW_some] <;> rfl) | (simp [*, errW_none, errW_some] <;> rfl), by repeat (first | (with_reducible first | exact HB.out | apply below_alloc | apply pw_below_drewN | apply below_drew1) | exact HB.out)⟩

end Go.Proofs.Ytalnlphinlfenaa.S
end

section
namespace Go.Proofs.Ytalnlphinlfenaa.S
open Go.RowKit Go.Proofs.YtalnlphinlfenaaW.PrintWords Go.Proofs.YtalnlphinlfenaaW.PrintLast Go.Proofs.YtalnlphinlfenaaW.PrintMore
attribute [local go_sem] max2_int min2_int max_two min_two max_three min_three max_four min_four   -- for this text's walks alone
attribute [local go_sem] Go.Proofs.Ytalnlphinlfenaa.XWalk.cell2
set_option linter.unusedVariables false
set_option linter.unusedSimpArgs false

/-! ### money_Sum: function 20 -/
def money_Sum.l0 : Nat → Int → Int → List Int → Int → Int → Option (Int × Int)
  | 0, _, _, _, _, _ => none
  | k + 1, x4, x5, x10, x11, x12 => if x12 < x11 then (if 0 ≤ x12 then (if x12 < (x10.length : Int) then (if 0 ≤ x4 then (if 0 ≤ (IntKind.u64.wrap (rd x10 x12)) then (money_Sum.l0 k (Go.Proofs.Ytalnlphinlfenaa.XWalk.s64 x4 (IntKind.u64.wrap (rd x10 x12)) 0) (wrap64 ((wrap64 (x5 + ((rd x10 x12) / 9223372036854775808))) + (wrap64 (Go.Proofs.Ytalnlphinlfenaa.XWalk.c64 x4 (IntKind.u64.wrap (rd x10 x12)) 0)))) x10 x11 (wrap64 (x12 + 1))) else (none)) else (none)) else (none)) else (none)) else ((money_told.f (wrap64 (x4)) (x5 == ((wrap64 (x4)) / 9223372036854775808))).bind fun bt398 => (some (bt398.1, bt398.2)))
def money_Sum.f (k : Nat) (l0 : List Int) : Option (Int × Int) := money_Sum.l0 k 0 0 l0 (l0.length : Int) 0
set_option maxHeartbeats 8000000 in
set_option maxRecDepth 100000 in
theorem money_Sum.calls (k : Nat) (A0 : Option Addr) (c0 : Nat) (l0 : List Int) (r1 : Int) (r2 : Int) (w : World) (hr0 : Kd.C (Kd.int .i64) w A0 l0.length l0) (hc0 : l0.length ≤ c0) (h : money_Sum.f k l0 = some (r1, r2)) :
    Calls Try.prog 20 #[.slice A0 l0.length c0] w fun e w' => e = .returned (.tuple #[.int .i64 r1, .int .i64 r2]) ∧ Drawn0 w w' := by
  have HR0 := Aside0.mk hr0
  have HC0 := Aside0.mk hc0
  clear hr0 hc0
  have H : (money_Sum.l0 k 0 0 l0 (l0.length : Int) 0) = some (r1, r2) := h
  clear h
  have H' := Aside0.mk H
  clear H
  go_enter Try.func20, Try.ntmps20
  go_wp2
  go_loopg [4, 5, 12] k (fun kq v4 v5 v12 w' => ∃ (x4_1 : Int) (x5_1 : Int) (x12_1 : Int), v4 = .int .u64 x4_1 ∧ v5 = .int .i64 x5_1 ∧ v12 = .int .i64 x12_1 ∧ Aside0 (money_Sum.l0 kq x4_1 x5_1 l0 (l0.length : Int) x12_1 = some (r1, r2)) ∧ Aside0 (kq ≤ k) ∧ Drawn0 w w')
  case atStart => exact ⟨(0), (0), (0), (by first | rfl | (simp; done) | (simp [*]; done)), (by first | rfl | (simp; done) | (simp [*]; done)), (by first | rfl | (simp; done) | (simp [*]; done)), H', ⟨Nat.le_refl _⟩, by repeat (first | exact Drawn0.refl _ | apply Drawn0.step)⟩
  case round =>
    clear H'
    obtain ⟨x4_1, x5_1, x12_1, rfl, rfl, rfl, HA, HK1, ⟨m1, rfl⟩⟩ := hrel
    cases gk with
    | zero => exact absurd HA.out (by simp [money_Sum.l0])
    | succ k1 =>
      have H := HA.out
      clear HA
      simp only [money_Sum.l0] at H
      by_cases c2 : x12_1 < (l0.length : Int)
      · rw [if_pos c2] at H
        have c2b0 : decide (x12_1 < (l0.length : Int)) = true := decide_eq_true c2
        clear c2
        by_cases c3 : 0 ≤ x12_1
        · rw [if_pos c3] at H
          have c3b0 : decide (0 ≤ x12_1) = true := decide_eq_true c3
          clear c3
          by_cases c4 : x12_1 < (l0.length : Int)
          · rw [if_pos c4] at H
            have c4b0 : decide (x12_1 < (l0.length : Int)) = true := decide_eq_true c4
            clear c4
            by_cases c5 : 0 ≤ x4_1
            · rw [if_pos c5] at H
              have c5b0 := eq_true c5
              have c5b1 : decide (0 ≤ x4_1) = true := decide_eq_true c5
              clear c5
              obtain ⟨ji6, hji6⟩ : ∃ j_ : Int, (IntKind.u64.wrap (rd l0 x12_1)) = j_ := ⟨_, rfl⟩
              replace H : (if 0 ≤ (ji6) then (money_Sum.l0 k1 (Go.Proofs.Ytalnlphinlfenaa.XWalk.s64 x4_1 (ji6) 0) (wrap64 ((wrap64 (x5_1 + ((rd l0 x12_1) / 9223372036854775808))) + (wrap64 (Go.Proofs.Ytalnlphinlfenaa.XWalk.c64 x4_1 (ji6) 0)))) l0 (l0.length : Int) (wrap64 (x12_1 + 1))) else (none)) = some (r1, r2) := by first | (rw [hji6] at H; exact H) | (simp only [hji6] at H ⊢; exact H)
              by_cases c7 : 0 ≤ (ji6)
              · rw [if_pos c7] at H
                have c7b0 := eq_true c7
                have c7b1 : decide (0 ≤ (ji6)) = true := decide_eq_true c7
                clear c7
                have H' := Aside0.mk H
                clear H
                have p397 : 0 ≤ (x12_1 : Int) := of_decide_eq_true (by first | (with_reducible assumption) | assumption)
                have q397 : x12_1 < (l0.length : Int) := of_decide_eq_true (by first | (with_reducible assumption) | assumption)
                obtain ⟨ad397, e397, hx397_0⟩ := Kd.at_int HR0.out x12_1 p397 q397
                cases e397
                replace p397 := eq_true p397
                replace q397 := eq_true q397
                have hx8 := fun W => math_bits_Add64.run x4_1 ji6 0 W (by first | omega | exact of_decide_eq_true (by first | (with_reducible assumption) | assumption) | exact of_eq_true (by assumption)) (by first | omega | exact of_decide_eq_true (by first | (with_reducible assumption) | assumption) | exact of_eq_true (by assumption)) (by first | omega | exact of_decide_eq_true (by first | (with_reducible assumption) | assumption) | exact of_eq_true (by assumption)) (by first | omega | exact of_decide_eq_true (by first | (with_reducible assumption) | assumption) | exact of_eq_true (by assumption))
                go_wp2
                go_roundg k1
                case measure => have := HK1.out; omega
                case rel => exact ⟨(Go.Proofs.Ytalnlphinlfenaa.XWalk.s64 x4_1 (ji6) 0), (wrap64 ((wrap64 (x5_1 + ((rd l0 x12_1) / 9223372036854775808))) + (wrap64 (Go.Proofs.Ytalnlphinlfenaa.XWalk.c64 x4_1 (ji6) 0)))), (wrap64 (x12_1 + 1)), (by first | rfl | (simp; done) | (simp only [← hji6] <;> (first | rfl | simp)) | (simp [*]; done)), (by first | rfl | (simp; done) | (simp only [← hji6] <;> (first | rfl | simp)) | (simp [*]; done)), (by first | rfl | (simp; done) | (simp [*]; done)), H', ⟨by have := HK1.out; omega⟩, by repeat (first | exact Drawn0.refl _ | apply Drawn0.step)⟩
              · rw [if_neg c7] at H
                exact absurd H (by simp)
            · rw [if_neg c5] at H
              exact absurd H (by simp)
          · rw [if_neg c4] at H
            exact absurd H (by simp)
        · rw [if_neg c3] at H
          exact absurd H (by simp)
      · rw [if_neg c2] at H
        have c2b0 : decide (x12_1 < (l0.length : Int)) = false := decide_eq_false c2
        clear c2
        replace H := Option.bind_eq_some_iff.mp H
        obtain ⟨⟨t398, t399⟩, A90, H⟩ := H
        replace H : (some (t398, t399)) = some (r1, r2) := H
        have A9 := Aside0.mk A90
        clear A90
        simp only [Option.some.injEq, Prod.mk.injEq] at H
        obtain ⟨rfl, rfl⟩ := H
        go_wp2_with (first | ((with_reducible refine gate_callee (f := 42) rfl ?_); refine goesL_ (some 39) rfl rfl Try.func42 (by kernel_rfl) rfl #[.int .i64 (wrap64 (x4_1)), .bool (x5_1 == ((wrap64 (x4_1)) / 9223372036854775808))] rfl (by (try simp only [List.map_toArray, List.map_cons, List.map_nil]); first | done | rfl | (simp only [List.length_drop, List.length_take]; rfl)) ?_; (with_reducible refine (money_told.calls (wrap64 (x4_1)) (x5_1 == ((wrap64 (x4_1)) / 9223372036854775808)) t398 t399 _ A9.out).mono ?_); rintro e w' ⟨rfl, ⟨nd, rfl⟩⟩; refine ⟨_, rfl, ?_⟩))
        go_ret2
        exact ⟨by first | rfl | (simp; done) | (simp [*]; done), by repeat (first | exact Drawn0.refl _ | apply Drawn0.step)⟩

end Go.Proofs.Ytalnlphinlfenaa.S
end

section
namespace Go.Proofs.Ytalnlphinlfenaa.S
open Go.RowKit Go.Proofs.YtalnlphinlfenaaW.PrintWords Go.Proofs.YtalnlphinlfenaaW.PrintLast Go.Proofs.YtalnlphinlfenaaW.PrintMore
attribute [local go_sem] max2_int min2_int max_two min_two max_three min_three max_four min_four   -- for this text's walks alone
attribute [local go_sem] Go.Proofs.Ytalnlphinlfenaa.XWalk.cell2
set_option linter.unusedVariables false
set_option linter.unusedSimpArgs false

/-! ### table_Sums_1: function 45 -/
def table_Sums_1.f (a0_0 : Int) (a0_1 : Int) (a0_2 : Int) (a0_3 : Int) : Option (Int) := some a0_1
set_option maxHeartbeats 8000000 in
set_option maxRecDepth 100000 in
theorem table_Sums_1.calls (a0_0 : Int) (a0_1 : Int) (a0_2 : Int) (a0_3 : Int) (r : Int) (w : World) (h : table_Sums_1.f a0_0 a0_1 a0_2 a0_3 = some r) :
    Calls Try.prog 45 #[.agg #[.int .i64 a0_0, .int .i64 a0_1, .int .i64 a0_2, .int .i64 a0_3]] w fun e w' => e = .returned (.int .i64 r) ∧ Below w.heap.size w w' := by
  have hu37 := Try.underlying37
  have HB := Aside0.mk (Below.refl w.heap.size w)
  have H : (some a0_1) = some r := h
  clear h
  obtain rfl := Option.some.inj H
  go_enter Try.func45, Try.ntmps45
  go_wp2_with (first | ((with_reducible refine gate_dst (N := 1) rfl ?_); refine box_event ?hg (N := 1) ?hd (cs := #[.int .i64 a0_0, .int .i64 a0_1, .int .i64 a0_2, .int .i64 a0_3]) (t := 37) ?hr ?_; (case hd => rfl); (case hg => rfl); (case hr => first | (go_simp; done) | (go_simp; rfl)); intro gb421 hg w2 hbox hb; have n0_ := Aside0.mk (below_step (by repeat (first | (with_reducible first | exact HB.out | apply below_alloc | apply pw_below_drewN | apply below_drew1) | exact HB.out)) hb); have n1_ := Aside0.mk (hbox); have n2_ := Aside0.mk ((by rw [hg]; exact (below_size (by repeat (first | (with_reducible first | exact HB.out | apply below_alloc | apply pw_below_drewN | apply below_drew1) | exact HB.out))) : w.heap.size ≤ gb421)); have n3_ := Aside0.mk ((by rw [hg]; exact (below_size (by repeat (first | (with_reducible first | exact HB.out | apply below_alloc | apply pw_below_drewN | apply below_drew1) | exact HB.out))) : w.heap.size ≤ gb421)); clear HB; have HB := n0_; have BK421 := n1_; have GW421 := n2_; have GE421 := n3_; clear n0_ n1_ n2_ n3_; clear hb hbox hg; have hcz3_0 : w2.cell? ⟨gb421, 0, none⟩ = some (.int .i64 a0_0) := (blk_cell BK421.out 0).trans rfl; have hcz3_1 : w2.cell? ⟨gb421, 1, none⟩ = some (.int .i64 a0_1) := (blk_cell BK421.out 1).trans rfl; have hcz3_2 : w2.cell? ⟨gb421, 2, none⟩ = some (.int .i64 a0_2) := (blk_cell BK421.out 2).trans rfl; have hcz3_3 : w2.cell? ⟨gb421, 3, none⟩ = some (.int .i64 a0_3) := (blk_cell BK421.out 3).trans rfl; have hfz3_0 := blk_frozen BK421.out 0; have hfz3_1 := blk_frozen BK421.out 1; have hfz3_2 := blk_frozen BK421.out 2; have hfz3_3 := blk_frozen BK421.out 3))
  go_ret
  exact ⟨by first | rfl | (simp [errW_none, errW_some] <;> rfl) | (simp [*, errW_none, errW_some] <;> rfl), by repeat (first | (with_reducible first | exact HB.out | apply below_alloc | apply pw_below_drewN | apply below_drew1 | refine below_set ?_ GE421.out) | exact HB.out)⟩

end Go.Proofs.Ytalnlphinlfenaa.S
end

section
namespace Go.Proofs.Ytalnlphinlfenaa.S
open Go.RowKit Go.Proofs.YtalnlphinlfenaaW.PrintWords Go.Proofs.YtalnlphinlfenaaW.PrintLast Go.Proofs.YtalnlphinlfenaaW.PrintMore
attribute [local go_sem] max2_int min2_int max_two min_two max_three min_three max_four min_four   -- for this text's walks alone
attribute [local go_sem] Go.Proofs.Ytalnlphinlfenaa.XWalk.cell2
set_option linter.unusedVariables false
set_option linter.unusedSimpArgs false

/-! ### table_column__table_Sums_1: function 44 -/
def table_column__table_Sums_1.l0 : Nat → List Int → List (S37) → Int → Int → Option (Int × Int)
  | 0, _, _, _, _ => none
  | k + 1, x6, x9, x10, x11 => if x11 < x10 then (if 0 ≤ x11 then (if x11 < (x9.length : Int) then ((table_Sums_1.f ((rd_T37 x9 x11).f0) ((rd_T37 x9 x11).f1) ((rd_T37 x9 x11).f2) ((rd_T37 x9 x11).f3)).bind fun t425 => (if x6.length < 17592186044416 then (table_column__table_Sums_1.l0 k (x6 ++ [t425]) x9 x10 (wrap64 (x11 + 1))) else (none))) else (none)) else (none)) else ((money_Sum.f k x6).bind fun bt429 => (some (bt429.1, bt429.2)))
def table_column__table_Sums_1.f (k : Nat) (l0 : List (S37))  : Option (Int × Int) := table_column__table_Sums_1.l0 k ([] : List Int) l0 (l0.length : Int) 0
set_option maxHeartbeats 8000000 in
set_option maxRecDepth 100000 in
theorem table_column__table_Sums_1.calls (k : Nat) (A0 : Option Addr) (c0 : Nat) (l0 : List (S37))  (r1 : Int) (r2 : Int) (w : World) (hr0 : Kd.C k37 w A0 l0.length l0) (hc0 : l0.length ≤ c0) (h : table_column__table_Sums_1.f k l0 = some (r1, r2)) :
    Calls Try.prog 44 #[.slice A0 l0.length c0, .func (.func 45) #[] #[]] w fun e w' => e = .returned (.tuple #[.int .i64 r1, .int .i64 r2]) ∧ Below w.heap.size w w' := by
  have hu37 := Try.underlying37
  have HR0 := Aside0.mk hr0
  have HC0 := Aside0.mk hc0
  clear hr0 hc0
  have HB := Aside0.mk (Below.refl w.heap.size w)
  have H : (table_column__table_Sums_1.l0 k ([] : List Int) l0 (l0.length : Int) 0) = some (r1, r2) := h
  clear h
  have H' := Aside0.mk H
  clear H
  go_enter Try.func44, Try.ntmps44
  go_wp2
  go_loopg [6, 11] k (fun kq v6 v11 w' => ∃ (x6_1 : List Int) (x11_1 : Int), v11 = .int .i64 x11_1 ∧ Aside0 (table_column__table_Sums_1.l0 kq x6_1 l0 (l0.length : Int) x11_1 = some (r1, r2)) ∧ Aside0 (kq ≤ k) ∧ Aside0 (Kd.R (Kd.int .i64) 2 w' w.heap.size (fun _ => True) v6 x6_1) ∧ Aside0 (Below w.heap.size w w'))
  case atStart => exact ⟨(([] : List Int)), (0), (by first | rfl | (simp; done) | (simp [*]; done)), H', ⟨Nat.le_refl _⟩, ⟨by first | exact Kd.R_nil _ _ _ _ _ | exact Kd.N_nil _ _ _ _ _ | exact Kd.V_nil _ _ _ _ _ | exact Kd.Q_nil _ _ _ _ _ | exact Kd.S_nil _ _ _ _ _⟩, ⟨by repeat (first | (with_reducible first | exact HB.out | apply below_alloc | apply pw_below_drewN | apply below_drew1) | exact HB.out)⟩⟩
  case round =>
    clear H'
    try clear p2
    obtain ⟨x6_1, x11_1, rfl, HA, HK1, HO_6, HB⟩ := hrel
    cases gk with
    | zero => exact absurd HA.out (by simp [table_column__table_Sums_1.l0])
    | succ k1 =>
      have H := HA.out
      clear HA
      simp only [table_column__table_Sums_1.l0] at H
      by_cases c3 : x11_1 < (l0.length : Int)
      · rw [if_pos c3] at H
        have c3b0 : decide (x11_1 < (l0.length : Int)) = true := decide_eq_true c3
        clear c3
        by_cases c4 : 0 ≤ x11_1
        · rw [if_pos c4] at H
          have c4b0 : decide (0 ≤ x11_1) = true := decide_eq_true c4
          clear c4
          by_cases c5 : x11_1 < (l0.length : Int)
          · rw [if_pos c5] at H
            have c5b0 : decide (x11_1 < (l0.length : Int)) = true := decide_eq_true c5
            clear c5
            replace H := Option.bind_eq_some_iff.mp H
            obtain ⟨t425, A60, H⟩ := H
            replace H : (if x6_1.length < 17592186044416 then (table_column__table_Sums_1.l0 k1 (x6_1 ++ [t425]) l0 (l0.length : Int) (wrap64 (x11_1 + 1))) else (none)) = some (r1, r2) := H
            have A6 := Aside0.mk A60
            clear A60
            by_cases c7 : x6_1.length < 17592186044416
            · rw [if_pos c7] at H
              have LMc7 := Aside0.mk c7
              clear c7
              obtain ⟨y426, hy426⟩ : ∃ y_ : List Int, y_ = (x6_1 ++ [t425]) := ⟨_, rfl⟩
              replace H : (table_column__table_Sums_1.l0 k1 y426 l0 (l0.length : Int) (wrap64 (x11_1 + 1))) = some (r1, r2) := by first | (rw [hy426]; with_reducible exact H) | (have H2_ := (Option.bind_some _ _).symm.trans H; rw [hy426]; with_reducible exact H2_) | (have H2_ := (Option.bind_some _ _).symm.trans H; with_reducible exact H2_) | with_reducible exact H | (rw [hy426]; exact H) | exact H
              have Ny426 := Aside0.mk hy426
              clear hy426
              have H' := Aside0.mk H
              clear H
              have p423 : 0 ≤ (x11_1 : Int) := of_decide_eq_true (by first | (with_reducible assumption) | assumption)
              have q423 : x11_1 < (l0.length : Int) := of_decide_eq_true (by first | (with_reducible assumption) | assumption)
              obtain ⟨ad423, e423, hx423_0, hx423_1, hx423_2, hx423_3⟩ := at_T37 HR0.out x11_1 p423 q423
              cases e423
              try replace hx423_0 := (HB.out.cell (World.block_lt_of_cell? w _ hx423_0)).trans hx423_0
              try replace hx423_1 := (HB.out.cell (World.block_lt_of_cell? w _ hx423_1)).trans hx423_1
              try replace hx423_2 := (HB.out.cell (World.block_lt_of_cell? w _ hx423_2)).trans hx423_2
              try replace hx423_3 := (HB.out.cell (World.block_lt_of_cell? w _ hx423_3)).trans hx423_3
              replace p423 := eq_true p423
              replace q423 := eq_true q423
              go_wp2_with (first | ((with_reducible refine gate_dst (N := 8) rfl ?_); refine box_event ?hg (N := 8) ?hd (cs := #[.int .i64 0, .int .i64 0, .int .i64 0, .int .i64 0]) (t := 37) ?hr ?_; (case hd => rfl); (case hg => rfl); (case hr => first | (go_simp; done) | (go_simp; rfl)); intro gb424 hg w8 hbox hb; have n0_ := Aside0.mk (Kd.R_below (by (with_reducible repeat (first | apply Kd.R_alloc | apply Kd.R_drewN | apply Kd.R_drew)); exact HO_6.out) hb); have n1_ := Aside0.mk (below_step (by repeat (first | (with_reducible first | exact HB.out | apply below_alloc | apply pw_below_drewN | apply below_drew1) | exact HB.out)) hb); have n2_ := Aside0.mk (hbox); have n3_ := Aside0.mk ((by rw [hg]; exact (below_size (by repeat (first | (with_reducible first | exact HB.out | apply below_alloc | apply pw_below_drewN | apply below_drew1) | exact HB.out))) : w.heap.size ≤ gb424)); have n4_ := Aside0.mk ((by rw [hg]; exact (below_size (by repeat (first | (with_reducible first | exact HB.out | apply below_alloc | apply pw_below_drewN | apply below_drew1) | exact HB.out))) : w.heap.size ≤ gb424)); clear HO_6; clear HB; have HO_6 := n0_; have HB := n1_; have BK424 := n2_; have GW424 := n3_; have GE424 := n4_; clear n0_ n1_ n2_ n3_ n4_; clear hb hbox hg; have hcz9_0 : w8.cell? ⟨gb424, 0, none⟩ = some (.int .i64 0) := (blk_cell BK424.out 0).trans rfl; have hcz9_1 : w8.cell? ⟨gb424, 1, none⟩ = some (.int .i64 0) := (blk_cell BK424.out 1).trans rfl; have hcz9_2 : w8.cell? ⟨gb424, 2, none⟩ = some (.int .i64 0) := (blk_cell BK424.out 2).trans rfl; have hcz9_3 : w8.cell? ⟨gb424, 3, none⟩ = some (.int .i64 0) := (blk_cell BK424.out 3).trans rfl; have hfz9_0 := blk_frozen BK424.out 0; have hfz9_1 := blk_frozen BK424.out 1; have hfz9_2 := blk_frozen BK424.out 2; have hfz9_3 := blk_frozen BK424.out 3) | (go_at_call 45; (with_reducible refine (table_Sums_1.calls ((rd_T37 l0 x11_1).f0) ((rd_T37 l0 x11_1).f1) ((rd_T37 l0 x11_1).f2) ((rd_T37 l0 x11_1).f3) t425 _ A6.out).mono ?_); rintro e w10 ⟨rfl, hb⟩; have n0_ := Aside0.mk (Kd.R_below (by (with_reducible repeat (first | apply Kd.R_alloc | apply Kd.R_drewN | apply Kd.R_drew)); exact (Kd.R_mono (Kd.R_far (p := ⟨gb424, 3, none⟩) (Kd.R_far (p := ⟨gb424, 2, none⟩) (Kd.R_far (p := ⟨gb424, 1, none⟩) (Kd.R_far (p := ⟨gb424, 0, none⟩) (Kd.R_types HO_6.out BK424.out (by decide)) (fun _ hk => hk.2) (.int .i64 ((rd_T37 l0 x11_1).f0))) (fun _ hk => hk.2) (.int .i64 ((rd_T37 l0 x11_1).f1))) (fun _ hk => hk.2) (.int .i64 ((rd_T37 l0 x11_1).f2))) (fun _ hk => hk.2) (.int .i64 ((rd_T37 l0 x11_1).f3))) (fun _ h_ => h_.1))) hb); have n1_ := Aside0.mk (blk_below (g := gb424) (o := .cells #[.int .i64 ((rd_T37 l0 x11_1).f0), .int .i64 ((rd_T37 l0 x11_1).f1), .int .i64 ((rd_T37 l0 x11_1).f2), .int .i64 ((rd_T37 l0 x11_1).f3)] 37 (0, 0)) (by (with_reducible repeat (first | refine blk_drewN ?_ _ | refine blk_drew ?_ | refine blk_alloc ?_ _)); refine blk_put (cs := #[.int .i64 ((rd_T37 l0 x11_1).f0), .int .i64 ((rd_T37 l0 x11_1).f1), .int .i64 ((rd_T37 l0 x11_1).f2), .int .i64 0]) ?_ 3 _ rfl; (with_reducible repeat (first | refine blk_drewN ?_ _ | refine blk_drew ?_ | refine blk_alloc ?_ _)); refine blk_put (cs := #[.int .i64 ((rd_T37 l0 x11_1).f0), .int .i64 ((rd_T37 l0 x11_1).f1), .int .i64 0, .int .i64 0]) ?_ 2 _ rfl; (with_reducible repeat (first | refine blk_drewN ?_ _ | refine blk_drew ?_ | refine blk_alloc ?_ _)); refine blk_put (cs := #[.int .i64 ((rd_T37 l0 x11_1).f0), .int .i64 0, .int .i64 0, .int .i64 0]) ?_ 1 _ rfl; (with_reducible repeat (first | refine blk_drewN ?_ _ | refine blk_drew ?_ | refine blk_alloc ?_ _)); refine blk_put (cs := #[.int .i64 0, .int .i64 0, .int .i64 0, .int .i64 0]) ?_ 0 _ rfl; (with_reducible repeat (first | refine blk_drewN ?_ _ | refine blk_drew ?_ | refine blk_alloc ?_ _)); exact BK424.out) hb); have n2_ := Aside0.mk (below_step (by repeat (first | (with_reducible first | exact HB.out | apply below_alloc | apply pw_below_drewN | apply below_drew1 | refine below_set ?_ GE424.out) | exact HB.out)) hb); clear HO_6; clear BK424; clear HB; have HO_6 := n0_; have BK424 := n1_; have HB := n2_; clear n0_ n1_ n2_; (try clear hb); (try clear hb2); (try clear hk); (try clear hi)) | ((with_reducible refine gate_builtin (b := .append) (xs := #[.tmp 15, .tmp 19]) rfl ?_); at_builtin; refine Kd.R_append (Kd.int .i64) (w0 := w) w.heap.size rfl (.tmp 15) (.tmp 19) 22 2 (.int .i64 0) 8 rfl Try.underlying22 info2 rfl (by decide) (by omega) u6 x6_1 t425 [.int .i64 t425] (fun _ => True) (fun _ => False) rfl rfl ?aP (fun _ hk => hk.elim) ?aF ?aO ?aB ?aS ?aL ?_; (case aP => exact rfl); (case aB => exact (by repeat (first | (with_reducible first | exact HB.out | apply below_alloc | apply pw_below_drewN | apply below_drew1 | refine below_set ?_ GE424.out) | exact HB.out))); (case aF => exact (fun _ _ => trivial)); (case aO => exact (by (with_reducible repeat (first | apply Kd.R_alloc | apply Kd.R_drewN | apply Kd.R_drew)); exact HO_6.out)); (case aS => exact (below_size (by repeat (first | (with_reducible first | exact HB.out | apply below_alloc | apply pw_below_drewN | apply below_drew1 | refine below_set ?_ GE424.out) | exact HB.out)))); (case aL => have := LMc7.out; omega); intro v427 w11 ho hb hg hat; rw [← Ny426.out] at ho; have n0_ := Aside0.mk (blk_grown (g := gb424) (o := .cells #[.int .i64 ((rd_T37 l0 x11_1).f0), .int .i64 ((rd_T37 l0 x11_1).f1), .int .i64 ((rd_T37 l0 x11_1).f2), .int .i64 ((rd_T37 l0 x11_1).f3)] 37 (0, 0)) (by (with_reducible repeat (first | refine blk_drewN ?_ _ | refine blk_drew ?_ | refine blk_alloc ?_ _)); exact BK424.out) hg (Kd.R_ne HO_6.out BK424.out (by decide))); have n1_ := Aside0.mk (hb); have n2_ := Aside0.mk (ho); clear BK424; clear HB; clear HO_6; have BK424 := n0_; have HB := n1_; have HO428 := n2_; clear n0_ n1_ n2_; clear ho hb hg hat))
              go_roundg k1
              case measure => have := HK1.out; omega
              case rel => exact ⟨(y426), (wrap64 (x11_1 + 1)), (by first | rfl | (simp; done) | (simp [*]; done)), H', ⟨by have := HK1.out; omega⟩, ⟨by (with_reducible repeat (first | apply Kd.R_alloc | apply Kd.R_drewN | apply Kd.R_drew)); exact HO428.out⟩, ⟨by repeat (first | (with_reducible first | exact HB.out | apply below_alloc | apply pw_below_drewN | apply below_drew1 | refine below_set ?_ GE424.out) | exact HB.out)⟩⟩
            · rw [if_neg c7] at H
              exact absurd H (by simp)
          · rw [if_neg c5] at H
            exact absurd H (by simp)
        · rw [if_neg c4] at H
          exact absurd H (by simp)
      · rw [if_neg c3] at H
        have c3b0 : decide (x11_1 < (l0.length : Int)) = false := decide_eq_false c3
        clear c3
        replace H := Option.bind_eq_some_iff.mp H
        obtain ⟨⟨t429, t430⟩, A120, H⟩ := H
        replace H : (some (t429, t430)) = some (r1, r2) := H
        have A12 := Aside0.mk A120
        clear A120
        simp only [Option.some.injEq, Prod.mk.injEq] at H
        obtain ⟨rfl, rfl⟩ := H
        obtain ⟨Ao13, co13, eo13⟩ := Kd.R_slice HO_6.out
        subst eo13
        go_wp2_with (first | ((with_reducible refine gate_callee (f := 20) rfl ?_); refine goesL_ (some 23) rfl rfl Try.func20 (by kernel_rfl) rfl #[.slice Ao13 x6_1.length co13] rfl (by (try simp only [List.map_toArray, List.map_cons, List.map_nil]); first | done | rfl | (simp only [List.length_drop, List.length_take]; rfl)) ?_; (with_reducible refine (money_Sum.calls k1 _ _ x6_1 t429 t430 _ ?side1 ?side2 A12.out).mono ?_); (case side1 => repeat (first | exact (Kd.R_reads' HO_6.out).2.2 | (with_reducible refine Kd.C_alloc ?_ _) | (with_reducible refine Kd.C_drewN ?_ _) | (with_reducible refine Kd.C_drew ?_))); (case side2 => exact (Kd.R_reads' HO_6.out).2.1); rintro e w' ⟨rfl, ⟨nd, rfl⟩⟩; refine ⟨_, rfl, ?_⟩))
        go_ret2
        exact ⟨by first | rfl | (simp [errW_none, errW_some] <;> rfl) | (simp [*, errW_none, errW_some] <;> rfl), by repeat (first | (with_reducible first | exact HB.out | apply below_alloc | apply pw_below_drewN | apply below_drew1) | exact HB.out)⟩

end Go.Proofs.Ytalnlphinlfenaa.S
end

section
namespace Go.Proofs.Ytalnlphinlfenaa.S
open Go.RowKit Go.Proofs.YtalnlphinlfenaaW.PrintWords Go.Proofs.YtalnlphinlfenaaW.PrintLast Go.Proofs.YtalnlphinlfenaaW.PrintMore
attribute [local go_sem] max2_int min2_int max_two min_two max_three min_three max_four min_four   -- for this text's walks alone
attribute [local go_sem] Go.Proofs.Ytalnlphinlfenaa.XWalk.cell2
set_option linter.unusedVariables false
set_option linter.unusedSimpArgs false

/-! ### table_Sums_2: function 46 -/
def table_Sums_2.f (a0_0 : Int) (a0_1 : Int) (a0_2 : Int) (a0_3 : Int) : Option (Int) := some a0_2
set_option maxHeartbeats 8000000 in
set_option maxRecDepth 100000 in
theorem table_Sums_2.calls (a0_0 : Int) (a0_1 : Int) (a0_2 : Int) (a0_3 : Int) (r : Int) (w : World) (h : table_Sums_2.f a0_0 a0_1 a0_2 a0_3 = some r) :
    Calls Try.prog 46 #[.agg #[.int .i64 a0_0, .int .i64 a0_1, .int .i64 a0_2, .int .i64 a0_3]] w fun e w' => e = .returned (.int .i64 r) ∧ Below w.heap.size w w' := by
  have hu37 := Try.underlying37
  have HB := Aside0.mk (Below.refl w.heap.size w)
  have H : (some a0_2) = some r := h
  clear h
  obtain rfl := Option.some.inj H
  go_enter Try.func46, Try.ntmps46
  go_wp2_with (first | ((with_reducible refine gate_dst (N := 1) rfl ?_); refine box_event ?hg (N := 1) ?hd (cs := #[.int .i64 a0_0, .int .i64 a0_1, .int .i64 a0_2, .int .i64 a0_3]) (t := 37) ?hr ?_; (case hd => rfl); (case hg => rfl); (case hr => first | (go_simp; done) | (go_simp; rfl)); intro gb422 hg w2 hbox hb; have n0_ := Aside0.mk (below_step (by repeat (first | (with_reducible first | exact HB.out | apply below_alloc | apply pw_below_drewN | apply below_drew1) | exact HB.out)) hb); have n1_ := Aside0.mk (hbox); have n2_ := Aside0.mk ((by rw [hg]; exact (below_size (by repeat (first | (with_reducible first | exact HB.out | apply below_alloc | apply pw_below_drewN | apply below_drew1) | exact HB.out))) : w.heap.size ≤ gb422)); have n3_ := Aside0.mk ((by rw [hg]; exact (below_size (by repeat (first | (with_reducible first | exact HB.out | apply below_alloc | apply pw_below_drewN | apply below_drew1) | exact HB.out))) : w.heap.size ≤ gb422)); clear HB; have HB := n0_; have BK422 := n1_; have GW422 := n2_; have GE422 := n3_; clear n0_ n1_ n2_ n3_; clear hb hbox hg; have hcz3_0 : w2.cell? ⟨gb422, 0, none⟩ = some (.int .i64 a0_0) := (blk_cell BK422.out 0).trans rfl; have hcz3_1 : w2.cell? ⟨gb422, 1, none⟩ = some (.int .i64 a0_1) := (blk_cell BK422.out 1).trans rfl; have hcz3_2 : w2.cell? ⟨gb422, 2, none⟩ = some (.int .i64 a0_2) := (blk_cell BK422.out 2).trans rfl; have hcz3_3 : w2.cell? ⟨gb422, 3, none⟩ = some (.int .i64 a0_3) := (blk_cell BK422.out 3).trans rfl; have hfz3_0 := blk_frozen BK422.out 0; have hfz3_1 := blk_frozen BK422.out 1; have hfz3_2 := blk_frozen BK422.out 2; have hfz3_3 := blk_frozen BK422.out 3))
  go_ret
  exact ⟨by first | rfl | (simp [errW_none, errW_some] <;> rfl) | (simp [*, errW_none, errW_some] <;> rfl), by repeat (first | (with_reducible first | exact HB.out | apply below_alloc | apply pw_below_drewN | apply below_drew1 | refine below_set ?_ GE422.out) | exact HB.out)⟩

end Go.Proofs.Ytalnlphinlfenaa.S
end

section
namespace Go.Proofs.Ytalnlphinlfenaa.S
open Go.RowKit Go.Proofs.YtalnlphinlfenaaW.PrintWords Go.Proofs.YtalnlphinlfenaaW.PrintLast Go.Proofs.YtalnlphinlfenaaW.PrintMore
attribute [local go_sem] max2_int min2_int max_two min_two max_three min_three max_four min_four   -- for this text's walks alone
attribute [local go_sem] Go.Proofs.Ytalnlphinlfenaa.XWalk.cell2
set_option linter.unusedVariables false
set_option linter.unusedSimpArgs false

/-! ### table_column__table_Sums_2: function 44 -/
def table_column__table_Sums_2.l0 : Nat → List Int → List (S37) → Int → Int → Option (Int × Int)
  | 0, _, _, _, _ => none
  | k + 1, x6, x9, x10, x11 => if x11 < x10 then (if 0 ≤ x11 then (if x11 < (x9.length : Int) then ((table_Sums_2.f ((rd_T37 x9 x11).f0) ((rd_T37 x9 x11).f1) ((rd_T37 x9 x11).f2) ((rd_T37 x9 x11).f3)).bind fun t435 => (if x6.length < 17592186044416 then (table_column__table_Sums_2.l0 k (x6 ++ [t435]) x9 x10 (wrap64 (x11 + 1))) else (none))) else (none)) else (none)) else ((money_Sum.f k x6).bind fun bt439 => (some (bt439.1, bt439.2)))
def table_column__table_Sums_2.f (k : Nat) (l0 : List (S37))  : Option (Int × Int) := table_column__table_Sums_2.l0 k ([] : List Int) l0 (l0.length : Int) 0
set_option maxHeartbeats 8000000 in
set_option maxRecDepth 100000 in
theorem table_column__table_Sums_2.calls (k : Nat) (A0 : Option Addr) (c0 : Nat) (l0 : List (S37))  (r1 : Int) (r2 : Int) (w : World) (hr0 : Kd.C k37 w A0 l0.length l0) (hc0 : l0.length ≤ c0) (h : table_column__table_Sums_2.f k l0 = some (r1, r2)) :
    Calls Try.prog 44 #[.slice A0 l0.length c0, .func (.func 46) #[] #[]] w fun e w' => e = .returned (.tuple #[.int .i64 r1, .int .i64 r2]) ∧ Below w.heap.size w w' := by
  have hu37 := Try.underlying37
  have HR0 := Aside0.mk hr0
  have HC0 := Aside0.mk hc0
  clear hr0 hc0
  have HB := Aside0.mk (Below.refl w.heap.size w)
  have H : (table_column__table_Sums_2.l0 k ([] : List Int) l0 (l0.length : Int) 0) = some (r1, r2) := h
  clear h
  have H' := Aside0.mk H
  clear H
  go_enter Try.func44, Try.ntmps44
  go_wp2
  go_loopg [6, 11] k (fun kq v6 v11 w' => ∃ (x6_1 : List Int) (x11_1 : Int), v11 = .int .i64 x11_1 ∧ Aside0 (table_column__table_Sums_2.l0 kq x6_1 l0 (l0.length : Int) x11_1 = some (r1, r2)) ∧ Aside0 (kq ≤ k) ∧ Aside0 (Kd.R (Kd.int .i64) 2 w' w.heap.size (fun _ => True) v6 x6_1) ∧ Aside0 (Below w.heap.size w w'))
  case atStart => exact ⟨(([] : List Int)), (0), (by first | rfl | (simp; done) | (simp [*]; done)), H', ⟨Nat.le_refl _⟩, ⟨by first | exact Kd.R_nil _ _ _ _ _ | exact Kd.N_nil _ _ _ _ _ | exact Kd.V_nil _ _ _ _ _ | exact Kd.Q_nil _ _ _ _ _ | exact Kd.S_nil _ _ _ _ _⟩, ⟨by repeat (first | (with_reducible first | exact HB.out | apply below_alloc | apply pw_below_drewN | apply below_drew1) | exact HB.out)⟩⟩
  case round =>
    clear H'
    try clear p2
    obtain ⟨x6_1, x11_1, rfl, HA, HK1, HO_6, HB⟩ := hrel
    cases gk with
    | zero => exact absurd HA.out (by simp [table_column__table_Sums_2.l0])
    | succ k1 =>
      have H := HA.out
      clear HA
      simp only [table_column__table_Sums_2.l0] at H
      by_cases c3 : x11_1 < (l0.length : Int)
      · rw [if_pos c3] at H
        have c3b0 : decide (x11_1 < (l0.length : Int)) = true := decide_eq_true c3
        clear c3
        by_cases c4 : 0 ≤ x11_1
        · rw [if_pos c4] at H
          have c4b0 : decide (0 ≤ x11_1) = true := decide_eq_true c4
          clear c4
          by_cases c5 : x11_1 < (l0.length : Int)
          · rw [if_pos c5] at H
            have c5b0 : decide (x11_1 < (l0.length : Int)) = true := decide_eq_true c5
            clear c5
            replace H := Option.bind_eq_some_iff.mp H
            obtain ⟨t435, A60, H⟩ := H
            replace H : (if x6_1.length < 17592186044416 then (table_column__table_Sums_2.l0 k1 (x6_1 ++ [t435]) l0 (l0.length : Int) (wrap64 (x11_1 + 1))) else (none)) = some (r1, r2) := H
            have A6 := Aside0.mk A60
            clear A60
            by_cases c7 : x6_1.length < 17592186044416
            · rw [if_pos c7] at H
              have LMc7 := Aside0.mk c7
              clear c7
              obtain ⟨y436, hy436⟩ : ∃ y_ : List Int, y_ = (x6_1 ++ [t435]) := ⟨_, rfl⟩
              replace H : (table_column__table_Sums_2.l0 k1 y436 l0 (l0.length : Int) (wrap64 (x11_1 + 1))) = some (r1, r2) := by first | (rw [hy436]; with_reducible exact H) | (have H2_ := (Option.bind_some _ _).symm.trans H; rw [hy436]; with_reducible exact H2_) | (have H2_ := (Option.bind_some _ _).symm.trans H; with_reducible exact H2_) | with_reducible exact H | (rw [hy436]; exact H) | exact H
              have Ny436 := Aside0.mk hy436
              clear hy436
              have H' := Aside0.mk H
              clear H
              have p433 : 0 ≤ (x11_1 : Int) := of_decide_eq_true (by first | (with_reducible assumption) | assumption)
              have q433 : x11_1 < (l0.length : Int) := of_decide_eq_true (by first | (with_reducible assumption) | assumption)
              obtain ⟨ad433, e433, hx433_0, hx433_1, hx433_2, hx433_3⟩ := at_T37 HR0.out x11_1 p433 q433
              cases e433
              try replace hx433_0 := (HB.out.cell (World.block_lt_of_cell? w _ hx433_0)).trans hx433_0
              try replace hx433_1 := (HB.out.cell (World.block_lt_of_cell? w _ hx433_1)).trans hx433_1
              try replace hx433_2 := (HB.out.cell (World.block_lt_of_cell? w _ hx433_2)).trans hx433_2
              try replace hx433_3 := (HB.out.cell (World.block_lt_of_cell? w _ hx433_3)).trans hx433_3
              replace p433 := eq_true p433
              replace q433 := eq_true q433
              go_wp2_with (first | ((with_reducible refine gate_dst (N := 8) rfl ?_); refine box_event ?hg (N := 8) ?hd (cs := #[.int .i64 0, .int .i64 0, .int .i64 0, .int .i64 0]) (t := 37) ?hr ?_; (case hd => rfl); (case hg => rfl); (case hr => first | (go_simp; done) | (go_simp; rfl)); intro gb434 hg w8 hbox hb; have n0_ := Aside0.mk (Kd.R_below (by (with_reducible repeat (first | apply Kd.R_alloc | apply Kd.R_drewN | apply Kd.R_drew)); exact HO_6.out) hb); have n1_ := Aside0.mk (below_step (by repeat (first | (with_reducible first | exact HB.out | apply below_alloc | apply pw_below_drewN | apply below_drew1) | exact HB.out)) hb); have n2_ := Aside0.mk (hbox); have n3_ := Aside0.mk ((by rw [hg]; exact (below_size (by repeat (first | (with_reducible first | exact HB.out | apply below_alloc | apply pw_below_drewN | apply below_drew1) | exact HB.out))) : w.heap.size ≤ gb434)); have n4_ := Aside0.mk ((by rw [hg]; exact (below_size (by repeat (first | (with_reducible first | exact HB.out | apply below_alloc | apply pw_below_drewN | apply below_drew1) | exact HB.out))) : w.heap.size ≤ gb434)); clear HO_6; clear HB; have HO_6 := n0_; have HB := n1_; have BK434 := n2_; have GW434 := n3_; have GE434 := n4_; clear n0_ n1_ n2_ n3_ n4_; clear hb hbox hg; have hcz9_0 : w8.cell? ⟨gb434, 0, none⟩ = some (.int .i64 0) := (blk_cell BK434.out 0).trans rfl; have hcz9_1 : w8.cell? ⟨gb434, 1, none⟩ = some (.int .i64 0) := (blk_cell BK434.out 1).trans rfl; have hcz9_2 : w8.cell? ⟨gb434, 2, none⟩ = some (.int .i64 0) := (blk_cell BK434.out 2).trans rfl; have hcz9_3 : w8.cell? ⟨gb434, 3, none⟩ = some (.int .i64 0) := (blk_cell BK434.out 3).trans rfl; have hfz9_0 := blk_frozen BK434.out 0; have hfz9_1 := blk_frozen BK434.out 1; have hfz9_2 := blk_frozen BK434.out 2; have hfz9_3 := blk_frozen BK434.out 3) | (go_at_call 46; (with_reducible refine (table_Sums_2.calls ((rd_T37 l0 x11_1).f0) ((rd_T37 l0 x11_1).f1) ((rd_T37 l0 x11_1).f2) ((rd_T37 l0 x11_1).f3) t435 _ A6.out).mono ?_); rintro e w10 ⟨rfl, hb⟩; have n0_ := Aside0.mk (Kd.R_below (by (with_reducible repeat (first | apply Kd.R_alloc | apply Kd.R_drewN | apply Kd.R_drew)); exact (Kd.R_mono (Kd.R_far (p := ⟨gb434, 3, none⟩) (Kd.R_far (p := ⟨gb434, 2, none⟩) (Kd.R_far (p := ⟨gb434, 1, none⟩) (Kd.R_far (p := ⟨gb434, 0, none⟩) (Kd.R_types HO_6.out BK434.out (by decide)) (fun _ hk => hk.2) (.int .i64 ((rd_T37 l0 x11_1).f0))) (fun _ hk => hk.2) (.int .i64 ((rd_T37 l0 x11_1).f1))) (fun _ hk => hk.2) (.int .i64 ((rd_T37 l0 x11_1).f2))) (fun _ hk => hk.2) (.int .i64 ((rd_T37 l0 x11_1).f3))) (fun _ h_ => h_.1))) hb); have n1_ := Aside0.mk (blk_below (g := gb434) (o := .cells #[.int .i64 ((rd_T37 l0 x11_1).f0), .int .i64 ((rd_T37 l0 x11_1).f1), .int .i64 ((rd_T37 l0 x11_1).f2), .int .i64 ((rd_T37 l0 x11_1).f3)] 37 (0, 0)) (by (with_reducible repeat (first | refine blk_drewN ?_ _ | refine blk_drew ?_ | refine blk_alloc ?_ _)); refine blk_put (cs := #[.int .i64 ((rd_T37 l0 x11_1).f0), .int .i64 ((rd_T37 l0 x11_1).f1), .int .i64 ((rd_T37 l0 x11_1).f2), .int .i64 0]) ?_ 3 _ rfl; (with_reducible repeat (first | refine blk_drewN ?_ _ | refine blk_drew ?_ | refine blk_alloc ?_ _)); refine blk_put (cs := #[.int .i64 ((rd_T37 l0 x11_1).f0), .int .i64 ((rd_T37 l0 x11_1).f1), .int .i64 0, .int .i64 0]) ?_ 2 _ rfl; (with_reducible repeat (first | refine blk_drewN ?_ _ | refine blk_drew ?_ | refine blk_alloc ?_ _)); refine blk_put (cs := #[.int .i64 ((rd_T37 l0 x11_1).f0), .int .i64 0, .int .i64 0, .int .i64 0]) ?_ 1 _ rfl; (with_reducible repeat (first | refine blk_drewN ?_ _ | refine blk_drew ?_ | refine blk_alloc ?_ _)); refine blk_put (cs := #[.int .i64 0, .int .i64 0, .int .i64 0, .int .i64 0]) ?_ 0 _ rfl; (with_reducible repeat (first | refine blk_drewN ?_ _ | refine blk_drew ?_ | refine blk_alloc ?_ _)); exact BK434.out) hb); have n2_ := Aside0.mk (below_step (by repeat (first | (with_reducible first | exact HB.out | apply below_alloc | apply pw_below_drewN | apply below_drew1 | refine below_set ?_ GE434.out) | exact HB.out)) hb); clear HO_6; clear BK434; clear HB; have HO_6 := n0_; have BK434 := n1_; have HB := n2_; clear n0_ n1_ n2_; (try clear hb); (try clear hb2); (try clear hk); (try clear hi)) | ((with_reducible refine gate_builtin (b := .append) (xs := #[.tmp 15, .tmp 19]) rfl ?_); at_builtin; refine Kd.R_append (Kd.int .i64) (w0 := w) w.heap.size rfl (.tmp 15) (.tmp 19) 22 2 (.int .i64 0) 8 rfl Try.underlying22 info2 rfl (by decide) (by omega) u6 x6_1 t435 [.int .i64 t435] (fun _ => True) (fun _ => False) rfl rfl ?aP (fun _ hk => hk.elim) ?aF ?aO ?aB ?aS ?aL ?_; (case aP => exact rfl); (case aB => exact (by repeat (first | (with_reducible first | exact HB.out | apply below_alloc | apply pw_below_drewN | apply below_drew1 | refine below_set ?_ GE434.out) | exact HB.out))); (case aF => exact (fun _ _ => trivial)); (case aO => exact (by (with_reducible repeat (first | apply Kd.R_alloc | apply Kd.R_drewN | apply Kd.R_drew)); exact HO_6.out)); (case aS => exact (below_size (by repeat (first | (with_reducible first | exact HB.out | apply below_alloc | apply pw_below_drewN | apply below_drew1 | refine below_set ?_ GE434.out) | exact HB.out)))); (case aL => have := LMc7.out; omega); intro v437 w11 ho hb hg hat; rw [← Ny436.out] at ho; have n0_ := Aside0.mk (blk_grown (g := gb434) (o := .cells #[.int .i64 ((rd_T37 l0 x11_1).f0), .int .i64 ((rd_T37 l0 x11_1).f1), .int .i64 ((rd_T37 l0 x11_1).f2), .int .i64 ((rd_T37 l0 x11_1).f3)] 37 (0, 0)) (by (with_reducible repeat (first | refine blk_drewN ?_ _ | refine blk_drew ?_ | refine blk_alloc ?_ _)); exact BK434.out) hg (Kd.R_ne HO_6.out BK434.out (by decide))); have n1_ := Aside0.mk (hb); have n2_ := Aside0.mk (ho); clear BK434; clear HB; clear HO_6; have BK434 := n0_; have HB := n1_; have HO438 := n2_; clear n0_ n1_ n2_; clear ho hb hg hat))
              go_roundg k1
              case measure => have := HK1.out; omega
              case rel => exact ⟨(y436), (wrap64 (x11_1 + 1)), (by first | rfl | (simp; done) | (simp [*]; done)), H', ⟨by have := HK1.out; omega⟩, ⟨by (with_reducible repeat (first | apply Kd.R_alloc | apply Kd.R_drewN | apply Kd.R_drew)); exact HO438.out⟩, ⟨by repeat (first | (with_reducible first | exact HB.out | apply below_alloc | apply pw_below_drewN | apply below_drew1 | refine below_set ?_ GE434.out) | exact HB.out)⟩⟩
            · rw [if_neg c7] at H
              exact absurd H (by simp)
          · rw [if_neg c5] at H
            exact absurd H (by simp)
        · rw [if_neg c4] at H
          exact absurd H (by simp)
      · rw [if_neg c3] at H
        have c3b0 : decide (x11_1 < (l0.length : Int)) = false := decide_eq_false c3
        clear c3
        replace H := Option.bind_eq_some_iff.mp H
        obtain ⟨⟨t439, t440⟩, A120, H⟩ := H
        replace H : (some (t439, t440)) = some (r1, r2) := H
        have A12 := Aside0.mk A120
        clear A120
        simp only [Option.some.injEq, Prod.mk.injEq] at H
        obtain ⟨rfl, rfl⟩ := H
        obtain ⟨Ao13, co13, eo13⟩ := Kd.R_slice HO_6.out
        subst eo13
        go_wp2_with (first | ((with_reducible refine gate_callee (f := 20) rfl ?_); refine goesL_ (some 23) rfl rfl Try.func20 (by kernel_rfl) rfl #[.slice Ao13 x6_1.length co13] rfl (by (try simp only [List.map_toArray, List.map_cons, List.map_nil]); first | done | rfl | (simp only [List.length_drop, List.length_take]; rfl)) ?_; (with_reducible refine (money_Sum.calls k1 _ _ x6_1 t439 t440 _ ?side1 ?side2 A12.out).mono ?_); (case side1 => repeat (first | exact (Kd.R_reads' HO_6.out).2.2 | (with_reducible refine Kd.C_alloc ?_ _) | (with_reducible refine Kd.C_drewN ?_ _) | (with_reducible refine Kd.C_drew ?_))); (case side2 => exact (Kd.R_reads' HO_6.out).2.1); rintro e w' ⟨rfl, ⟨nd, rfl⟩⟩; refine ⟨_, rfl, ?_⟩))
        go_ret2
        exact ⟨by first | rfl | (simp [errW_none, errW_some] <;> rfl) | (simp [*, errW_none, errW_some] <;> rfl), by repeat (first | (with_reducible first | exact HB.out | apply below_alloc | apply pw_below_drewN | apply below_drew1) | exact HB.out)⟩

end Go.Proofs.Ytalnlphinlfenaa.S
end

section
namespace Go.Proofs.Ytalnlphinlfenaa.S
open Go.RowKit Go.Proofs.YtalnlphinlfenaaW.PrintWords Go.Proofs.YtalnlphinlfenaaW.PrintLast Go.Proofs.YtalnlphinlfenaaW.PrintMore
attribute [local go_sem] max2_int min2_int max_two min_two max_three min_three max_four min_four   -- for this text's walks alone
attribute [local go_sem] Go.Proofs.Ytalnlphinlfenaa.XWalk.cell2
set_option linter.unusedVariables false
set_option linter.unusedSimpArgs false

/-! ### table_Sums: function 22 -/
def table_Sums.f (k : Nat) (l0 : List (S37)) : Option (Int × Int × Int) := (table_column__table_Sums_1.f k l0).bind fun bt441 => (if bt441.2 = 0 then ((table_column__table_Sums_2.f k l0).bind fun bt443 => (if bt443.2 = 0 then (some (bt441.1, bt443.1, 0)) else (some (0, 0, bt443.2)))) else (some (0, 0, bt441.2)))
set_option maxHeartbeats 8000000 in
set_option maxRecDepth 100000 in
theorem table_Sums.calls (k : Nat) (A0 : Option Addr) (c0 : Nat) (l0 : List (S37)) (r1 : Int) (r2 : Int) (r3 : Int) (w : World) (hr0 : Kd.C k37 w A0 l0.length l0) (hc0 : l0.length ≤ c0) (h : table_Sums.f k l0 = some (r1, r2, r3)) :
    Calls Try.prog 22 #[.slice A0 l0.length c0] w fun e w' => e = .returned (.tuple #[.int .i64 r1, .int .i64 r2, .int .i64 r3]) ∧ Below w.heap.size w w' := by
  have HR0 := Aside0.mk hr0
  have HC0 := Aside0.mk hc0
  clear hr0 hc0
  have HB := Aside0.mk (Below.refl w.heap.size w)
  have H : ((table_column__table_Sums_1.f k l0).bind fun bt441 => (if bt441.2 = 0 then ((table_column__table_Sums_2.f k l0).bind fun bt443 => (if bt443.2 = 0 then (some (bt441.1, bt443.1, 0)) else (some (0, 0, bt443.2)))) else (some (0, 0, bt441.2)))) = some (r1, r2, r3) := h
  clear h
  replace H := Option.bind_eq_some_iff.mp H
  obtain ⟨⟨t441, t442⟩, A20, H⟩ := H
  replace H : (if t442 = 0 then ((table_column__table_Sums_2.f k l0).bind fun bt443 => (if bt443.2 = 0 then (some (t441, bt443.1, 0)) else (some (0, 0, bt443.2)))) else (some (0, 0, t442))) = some (r1, r2, r3) := H
  have A2 := Aside0.mk A20
  clear A20
  by_cases c3 : t442 = 0
  · rw [if_pos c3] at H
    have c3b0 : (t442 == 0) = true := beq_iff_eq.mpr c3
    have c3b1 : (t442 != 0) = false := bne_eq_false_iff_eq.mpr c3
    clear c3
    replace H := Option.bind_eq_some_iff.mp H
    obtain ⟨⟨t443, t444⟩, A40, H⟩ := H
    replace H : (if t444 = 0 then (some (t441, t443, 0)) else (some (0, 0, t444))) = some (r1, r2, r3) := H
    have A4 := Aside0.mk A40
    clear A40
    by_cases c5 : t444 = 0
    · rw [if_pos c5] at H
      have c5b0 : (t444 == 0) = true := beq_iff_eq.mpr c5
      have c5b1 : (t444 != 0) = false := bne_eq_false_iff_eq.mpr c5
      clear c5
      simp only [Option.some.injEq, Prod.mk.injEq] at H
      obtain ⟨rfl, rfl, rfl⟩ := H
      go_enter Try.func22, Try.ntmps22
      go_wp2_with (first | ((with_reducible refine gate_callee (f := 44) rfl ?_); refine goesL_ (some 9) rfl rfl Try.func44 (by kernel_rfl) rfl #[.slice A0 l0.length c0, .func (.func 45) #[] #[]] rfl (by (try simp only [List.map_toArray, List.map_cons, List.map_nil]); first | done | rfl | (simp only [List.length_drop, List.length_take]; rfl)) ?_; (with_reducible refine (table_column__table_Sums_1.calls k _ _ l0  t441 t442 _ ?side1 ?side2 A2.out).mono ?_); (case side1 => repeat (first | exact HR0.out | (with_reducible refine Kd.C_alloc ?_ _) | (with_reducible refine Kd.C_drewN ?_ _) | (with_reducible refine Kd.C_drew ?_))); (case side2 => exact HC0.out); rintro e w6 ⟨rfl, hb⟩; refine ⟨_, rfl, ?_⟩; have n0_ := Aside0.mk (below_step (by repeat (first | (with_reducible first | exact HB.out | apply below_alloc | apply pw_below_drewN | apply below_drew1) | exact HB.out)) hb); clear HB; have HB := n0_; clear n0_; (try clear hb); (try clear hb2); (try clear hk); (try clear hi)) | ((with_reducible refine gate_callee (f := 44) rfl ?_); refine goesL_ (some 17) rfl rfl Try.func44 (by kernel_rfl) rfl #[.slice A0 l0.length c0, .func (.func 46) #[] #[]] rfl (by (try simp only [List.map_toArray, List.map_cons, List.map_nil]); first | done | rfl | (simp only [List.length_drop, List.length_take]; rfl)) ?_; (with_reducible refine (table_column__table_Sums_2.calls k _ _ l0  t443 t444 _ ?side1 ?side2 A4.out).mono ?_); (case side1 => repeat (first | exact (Kd.C_below HR0.out HB.out) | (with_reducible refine Kd.C_alloc ?_ _) | (with_reducible refine Kd.C_drewN ?_ _) | (with_reducible refine Kd.C_drew ?_))); (case side2 => exact HC0.out); rintro e w7 ⟨rfl, hb⟩; refine ⟨_, rfl, ?_⟩; have n0_ := Aside0.mk (below_step (by repeat (first | (with_reducible first | exact HB.out | apply below_alloc | apply pw_below_drewN | apply below_drew1) | exact HB.out)) hb); clear HB; have HB := n0_; clear n0_; (try clear hb); (try clear hb2); (try clear hk); (try clear hi)))
      go_ret3
      exact ⟨by first | rfl | (simp [errW_none, errW_some] <;> rfl) | (simp [*, errW_none, errW_some] <;> rfl), by repeat (first | (with_reducible first | exact HB.out | apply below_alloc | apply pw_below_drewN | apply below_drew1) | exact HB.out)⟩
    · rw [if_neg c5] at H
      have c5b0 : (t444 == 0) = false := beq_eq_false_iff_ne.mpr c5
      have c5b1 : (t444 != 0) = true := bne_iff_ne.mpr c5
      simp only [Option.some.injEq, Prod.mk.injEq] at H
      obtain ⟨rfl, rfl, rfl⟩ := H
      go_enter Try.func22, Try.ntmps22
      go_wp2_with (first | ((with_reducible refine gate_callee (f := 44) rfl ?_); refine goesL_ (some 9) rfl rfl Try.func44 (by kernel_rfl) rfl #[.slice A0 l0.length c0, .func (.func 45) #[] #[]] rfl (by (try simp only [List.map_toArray, List.map_cons, List.map_nil]); first | done | rfl | (simp only [List.length_drop, List.length_take]; rfl)) ?_; (with_reducible refine (table_column__table_Sums_1.calls k _ _ l0  t441 t442 _ ?side1 ?side2 A2.out).mono ?_); (case side1 => repeat (first | exact HR0.out | (with_reducible refine Kd.C_alloc ?_ _) | (with_reducible refine Kd.C_drewN ?_ _) | (with_reducible refine Kd.C_drew ?_))); (case side2 => exact HC0.out); rintro e w8 ⟨rfl, hb⟩; refine ⟨_, rfl, ?_⟩; have n0_ := Aside0.mk (below_step (by repeat (first | (with_reducible first | exact HB.out | apply below_alloc | apply pw_below_drewN | apply below_drew1) | exact HB.out)) hb); clear HB; have HB := n0_; clear n0_; (try clear hb); (try clear hb2); (try clear hk); (try clear hi)) | ((with_reducible refine gate_callee (f := 44) rfl ?_); refine goesL_ (some 17) rfl rfl Try.func44 (by kernel_rfl) rfl #[.slice A0 l0.length c0, .func (.func 46) #[] #[]] rfl (by (try simp only [List.map_toArray, List.map_cons, List.map_nil]); first | done | rfl | (simp only [List.length_drop, List.length_take]; rfl)) ?_; (with_reducible refine (table_column__table_Sums_2.calls k _ _ l0  t443 t444 _ ?side1 ?side2 A4.out).mono ?_); (case side1 => repeat (first | exact (Kd.C_below HR0.out HB.out) | (with_reducible refine Kd.C_alloc ?_ _) | (with_reducible refine Kd.C_drewN ?_ _) | (with_reducible refine Kd.C_drew ?_))); (case side2 => exact HC0.out); rintro e w9 ⟨rfl, hb⟩; refine ⟨_, rfl, ?_⟩; have n0_ := Aside0.mk (below_step (by repeat (first | (with_reducible first | exact HB.out | apply below_alloc | apply pw_below_drewN | apply below_drew1) | exact HB.out)) hb); clear HB; have HB := n0_; clear n0_; (try clear hb); (try clear hb2); (try clear hk); (try clear hi)))
      go_ret3
      exact ⟨by first | rfl | (simp [errW_none, errW_some] <;> rfl) | (simp [*, errW_none, errW_some] <;> rfl), by repeat (first | (with_reducible first | exact HB.out | apply below_alloc | apply pw_below_drewN | apply below_drew1) | exact HB.out)⟩
  · rw [if_neg c3] at H
    have c3b0 : (t442 == 0) = false := beq_eq_false_iff_ne.mpr c3
    have c3b1 : (t442 != 0) = true := bne_iff_ne.mpr c3
    simp only [Option.some.injEq, Prod.mk.injEq] at H
    obtain ⟨rfl, rfl, rfl⟩ := H
    go_enter Try.func22, Try.ntmps22
    go_wp2_with (first | ((with_reducible refine gate_callee (f := 44) rfl ?_); refine goesL_ (some 9) rfl rfl Try.func44 (by kernel_rfl) rfl #[.slice A0 l0.length c0, .func (.func 45) #[] #[]] rfl (by (try simp only [List.map_toArray, List.map_cons, List.map_nil]); first | done | rfl | (simp only [List.length_drop, List.length_take]; rfl)) ?_; (with_reducible refine (table_column__table_Sums_1.calls k _ _ l0  t441 t442 _ ?side1 ?side2 A2.out).mono ?_); (case side1 => repeat (first | exact HR0.out | (with_reducible refine Kd.C_alloc ?_ _) | (with_reducible refine Kd.C_drewN ?_ _) | (with_reducible refine Kd.C_drew ?_))); (case side2 => exact HC0.out); rintro e w10 ⟨rfl, hb⟩; refine ⟨_, rfl, ?_⟩; have n0_ := Aside0.mk (below_step (by repeat (first | (with_reducible first | exact HB.out | apply below_alloc | apply pw_below_drewN | apply below_drew1) | exact HB.out)) hb); clear HB; have HB := n0_; clear n0_; (try clear hb); (try clear hb2); (try clear hk); (try clear hi)))
    go_ret3
    exact ⟨by first | rfl | (simp [errW_none, errW_some] <;> rfl) | (simp [*, errW_none, errW_some] <;> rfl), by repeat (first | (with_reducible first | exact HB.out | apply below_alloc | apply pw_below_drewN | apply below_drew1) | exact HB.out)⟩

end Go.Proofs.Ytalnlphinlfenaa.S
end

section
namespace Go.Proofs.Ytalnlphinlfenaa.S
open Go.RowKit Go.Proofs.YtalnlphinlfenaaW.PrintWords Go.Proofs.YtalnlphinlfenaaW.PrintLast Go.Proofs.YtalnlphinlfenaaW.PrintMore
attribute [local go_sem] max2_int min2_int max_two min_two max_three min_three max_four min_four   -- for this text's walks alone
attribute [local go_sem] Go.Proofs.Ytalnlphinlfenaa.XWalk.cell2
set_option linter.unusedVariables false
set_option linter.unusedSimpArgs false

/-! ### lombardlaw11_to: function 23 -/
def lombardlaw11_to.l0 : Nat → List (S37) → List (S59) → Int → Int → Option ((List (S37)))
  | 0, _, _, _, _ => none
  | k + 1, x3, x6, x7, x8 => if x8 < x7 then (if 0 ≤ x8 then (if x8 < (x6.length : Int) then (if x3.length < 4398046511104 then (lombardlaw11_to.l0 k (x3 ++ [(⟨(rd_T59 x6 x8).f0, (rd_T59 x6 x8).f1, (rd_T59 x6 x8).f2, (rd_T59 x6 x8).f3⟩ : S37)]) x6 x7 (wrap64 (x8 + 1))) else (none)) else (none)) else (none)) else (some x3)
def lombardlaw11_to.f (k : Nat) (l0 : List (S59)) : Option ((List (S37))) := lombardlaw11_to.l0 k ([] : List (S37)) l0 (l0.length : Int) 0
set_option maxHeartbeats 8000000 in
set_option maxRecDepth 100000 in
theorem lombardlaw11_to.calls (k : Nat) (A0 : Option Addr) (c0 : Nat) (l0 : List (S59)) (r : List (S37)) (w : World) (hr0 : Kd.C k59 w A0 l0.length l0) (hc0 : l0.length ≤ c0) (h : lombardlaw11_to.f k l0 = some r) :
    Calls Try.prog 23 #[.slice A0 l0.length c0] w fun e w' => ∃ v0_ : Value, e = .returned (v0_) ∧ Kd.R k37 37 w' w.heap.size (fun _ => True) v0_ r ∧ Below w.heap.size w w' := by
  have hu59 := Try.underlying59
  have HR0 := Aside0.mk hr0
  have HC0 := Aside0.mk hc0
  clear hr0 hc0
  have HB := Aside0.mk (Below.refl w.heap.size w)
  have H : (lombardlaw11_to.l0 k ([] : List (S37)) l0 (l0.length : Int) 0) = some r := h
  clear h
  have H' := Aside0.mk H
  clear H
  go_enter Try.func23, Try.ntmps23
  go_wp2
  go_loopg [3, 8] k (fun kq v3 v8 w' => ∃ (x3_1 : List (S37)) (x8_1 : Int), v8 = .int .i64 x8_1 ∧ Aside0 (lombardlaw11_to.l0 kq x3_1 l0 (l0.length : Int) x8_1 = some r) ∧ Aside0 (kq ≤ k) ∧ Aside0 (Kd.R k37 37 w' w.heap.size (fun _ => True) v3 x3_1) ∧ Aside0 (Below w.heap.size w w'))
  case atStart => exact ⟨(([] : List (S37))), (0), (by first | rfl | (simp; done) | (simp [*]; done)), H', ⟨Nat.le_refl _⟩, ⟨by first | exact Kd.R_nil _ _ _ _ _ | exact Kd.N_nil _ _ _ _ _ | exact Kd.V_nil _ _ _ _ _ | exact Kd.Q_nil _ _ _ _ _ | exact Kd.S_nil _ _ _ _ _⟩, ⟨by repeat (first | (with_reducible first | exact HB.out | apply below_alloc | apply pw_below_drewN | apply below_drew1) | exact HB.out)⟩⟩
  case round =>
    clear H'
    obtain ⟨x3_1, x8_1, rfl, HA, HK1, HO_3, HB⟩ := hrel
    cases gk with
    | zero => exact absurd HA.out (by simp [lombardlaw11_to.l0])
    | succ k1 =>
      have H := HA.out
      clear HA
      simp only [lombardlaw11_to.l0] at H
      by_cases c2 : x8_1 < (l0.length : Int)
      · rw [if_pos c2] at H
        have c2b0 : decide (x8_1 < (l0.length : Int)) = true := decide_eq_true c2
        clear c2
        by_cases c3 : 0 ≤ x8_1
        · rw [if_pos c3] at H
          have c3b0 : decide (0 ≤ x8_1) = true := decide_eq_true c3
          clear c3
          by_cases c4 : x8_1 < (l0.length : Int)
          · rw [if_pos c4] at H
            have c4b0 : decide (x8_1 < (l0.length : Int)) = true := decide_eq_true c4
            clear c4
            by_cases c5 : x3_1.length < 4398046511104
            · rw [if_pos c5] at H
              have LMc5 := Aside0.mk c5
              clear c5
              obtain ⟨y447, hy447⟩ : ∃ y_ : List (S37), y_ = (x3_1 ++ [(⟨(rd_T59 l0 x8_1).f0, (rd_T59 l0 x8_1).f1, (rd_T59 l0 x8_1).f2, (rd_T59 l0 x8_1).f3⟩ : S37)]) := ⟨_, rfl⟩
              replace H : (lombardlaw11_to.l0 k1 y447 l0 (l0.length : Int) (wrap64 (x8_1 + 1))) = some r := by first | (rw [hy447]; with_reducible exact H) | (have H2_ := (Option.bind_some _ _).symm.trans H; rw [hy447]; with_reducible exact H2_) | (have H2_ := (Option.bind_some _ _).symm.trans H; with_reducible exact H2_) | with_reducible exact H | (rw [hy447]; exact H) | exact H
              have Ny447 := Aside0.mk hy447
              clear hy447
              have H' := Aside0.mk H
              clear H
              have p445 : 0 ≤ (x8_1 : Int) := of_decide_eq_true (by first | (with_reducible assumption) | assumption)
              have q445 : x8_1 < (l0.length : Int) := of_decide_eq_true (by first | (with_reducible assumption) | assumption)
              obtain ⟨ad445, e445, hx445_0, hx445_1, hx445_2, hx445_3⟩ := at_T59 HR0.out x8_1 p445 q445
              cases e445
              try replace hx445_0 := (HB.out.cell (World.block_lt_of_cell? w _ hx445_0)).trans hx445_0
              try replace hx445_1 := (HB.out.cell (World.block_lt_of_cell? w _ hx445_1)).trans hx445_1
              try replace hx445_2 := (HB.out.cell (World.block_lt_of_cell? w _ hx445_2)).trans hx445_2
              try replace hx445_3 := (HB.out.cell (World.block_lt_of_cell? w _ hx445_3)).trans hx445_3
              replace p445 := eq_true p445
              replace q445 := eq_true q445
              go_wp2_with (first | ((with_reducible refine gate_dst (N := 5) rfl ?_); refine box_event ?hg (N := 5) ?hd (cs := #[.int .i64 0, .int .i64 0, .int .i64 0, .int .i64 0]) (t := 59) ?hr ?_; (case hd => rfl); (case hg => rfl); (case hr => first | (go_simp; done) | (go_simp; rfl)); intro gb446 hg w6 hbox hb; have n0_ := Aside0.mk (Kd.R_below (by (with_reducible repeat (first | apply Kd.R_alloc | apply Kd.R_drewN | apply Kd.R_drew)); exact HO_3.out) hb); have n1_ := Aside0.mk (below_step (by repeat (first | (with_reducible first | exact HB.out | apply below_alloc | apply pw_below_drewN | apply below_drew1) | exact HB.out)) hb); have n2_ := Aside0.mk (hbox); have n3_ := Aside0.mk ((by rw [hg]; exact (below_size (by repeat (first | (with_reducible first | exact HB.out | apply below_alloc | apply pw_below_drewN | apply below_drew1) | exact HB.out))) : w.heap.size ≤ gb446)); have n4_ := Aside0.mk ((by rw [hg]; exact (below_size (by repeat (first | (with_reducible first | exact HB.out | apply below_alloc | apply pw_below_drewN | apply below_drew1) | exact HB.out))) : w.heap.size ≤ gb446)); clear HO_3; clear HB; have HO_3 := n0_; have HB := n1_; have BK446 := n2_; have GW446 := n3_; have GE446 := n4_; clear n0_ n1_ n2_ n3_ n4_; clear hb hbox hg; have hcz7_0 : w6.cell? ⟨gb446, 0, none⟩ = some (.int .i64 0) := (blk_cell BK446.out 0).trans rfl; have hcz7_1 : w6.cell? ⟨gb446, 1, none⟩ = some (.int .i64 0) := (blk_cell BK446.out 1).trans rfl; have hcz7_2 : w6.cell? ⟨gb446, 2, none⟩ = some (.int .i64 0) := (blk_cell BK446.out 2).trans rfl; have hcz7_3 : w6.cell? ⟨gb446, 3, none⟩ = some (.int .i64 0) := (blk_cell BK446.out 3).trans rfl; have hfz7_0 := blk_frozen BK446.out 0; have hfz7_1 := blk_frozen BK446.out 1; have hfz7_2 := blk_frozen BK446.out 2; have hfz7_3 := blk_frozen BK446.out 3) | ((with_reducible refine gate_builtin (b := .append) (xs := #[.tmp 12, .tmp 14]) rfl ?_); at_builtin; refine Kd.R_append k37 (w0 := w) w.heap.size rfl (.tmp 12) (.tmp 14) 24 37 (.agg #[(.int .i64 0), (.int .i64 0), (.int .i64 0), (.int .i64 0)]) 32 rfl Try.underlying24 info37 rfl (by decide) (by omega) u3 x3_1 (⟨(rd_T59 l0 x8_1).f0, (rd_T59 l0 x8_1).f1, (rd_T59 l0 x8_1).f2, (rd_T59 l0 x8_1).f3⟩ : S37) [.int .i64 ((rd_T59 l0 x8_1).f0), .int .i64 ((rd_T59 l0 x8_1).f1), .int .i64 ((rd_T59 l0 x8_1).f2), .int .i64 ((rd_T59 l0 x8_1).f3)] (fun _ => True) (fun _ => False) rfl (by first | (go_simp; done) | (go_simp; rfl)) ?aP (fun _ hk => hk.elim) ?aF ?aO ?aB ?aS ?aL ?_; (case aP => exact k37_mkM _ _ _ (⟨(rd_T59 l0 x8_1).f0, (rd_T59 l0 x8_1).f1, (rd_T59 l0 x8_1).f2, (rd_T59 l0 x8_1).f3⟩ : S37)); (case aB => exact (by repeat (first | (with_reducible first | exact HB.out | apply below_alloc | apply pw_below_drewN | apply below_drew1 | refine below_set ?_ GE446.out) | exact HB.out))); (case aF => exact (fun _ _ => trivial)); (case aO => exact (by (with_reducible repeat (first | apply Kd.R_alloc | apply Kd.R_drewN | apply Kd.R_drew)); exact Kd.R_mono (Kd.R_far (p := ⟨gb446, 3, none⟩) (Kd.R_far (p := ⟨gb446, 2, none⟩) (Kd.R_far (p := ⟨gb446, 1, none⟩) (Kd.R_far (p := ⟨gb446, 0, none⟩) (Kd.R_types HO_3.out BK446.out (by decide)) (fun _ hk => hk.2) (.int .i64 ((rd_T59 l0 x8_1).f0))) (fun _ hk => hk.2) (.int .i64 ((rd_T59 l0 x8_1).f1))) (fun _ hk => hk.2) (.int .i64 ((rd_T59 l0 x8_1).f2))) (fun _ hk => hk.2) (.int .i64 ((rd_T59 l0 x8_1).f3))) (fun _ hk => trivial))); (case aS => exact (below_size (by repeat (first | (with_reducible first | exact HB.out | apply below_alloc | apply pw_below_drewN | apply below_drew1 | refine below_set ?_ GE446.out) | exact HB.out)))); (case aL => have := LMc5.out; omega); intro v448 w8 ho hb hg hat; rw [← Ny447.out] at ho; have n0_ := Aside0.mk (blk_grown (g := gb446) (o := .cells #[.int .i64 ((rd_T59 l0 x8_1).f0), .int .i64 ((rd_T59 l0 x8_1).f1), .int .i64 ((rd_T59 l0 x8_1).f2), .int .i64 ((rd_T59 l0 x8_1).f3)] 59 (0, 0)) (by (with_reducible repeat (first | refine blk_drewN ?_ _ | refine blk_drew ?_ | refine blk_alloc ?_ _)); refine blk_put (cs := #[.int .i64 ((rd_T59 l0 x8_1).f0), .int .i64 ((rd_T59 l0 x8_1).f1), .int .i64 ((rd_T59 l0 x8_1).f2), .int .i64 0]) ?_ 3 _ rfl; (with_reducible repeat (first | refine blk_drewN ?_ _ | refine blk_drew ?_ | refine blk_alloc ?_ _)); refine blk_put (cs := #[.int .i64 ((rd_T59 l0 x8_1).f0), .int .i64 ((rd_T59 l0 x8_1).f1), .int .i64 0, .int .i64 0]) ?_ 2 _ rfl; (with_reducible repeat (first | refine blk_drewN ?_ _ | refine blk_drew ?_ | refine blk_alloc ?_ _)); refine blk_put (cs := #[.int .i64 ((rd_T59 l0 x8_1).f0), .int .i64 0, .int .i64 0, .int .i64 0]) ?_ 1 _ rfl; (with_reducible repeat (first | refine blk_drewN ?_ _ | refine blk_drew ?_ | refine blk_alloc ?_ _)); refine blk_put (cs := #[.int .i64 0, .int .i64 0, .int .i64 0, .int .i64 0]) ?_ 0 _ rfl; (with_reducible repeat (first | refine blk_drewN ?_ _ | refine blk_drew ?_ | refine blk_alloc ?_ _)); exact BK446.out) hg (Kd.R_ne HO_3.out BK446.out (by decide))); have n1_ := Aside0.mk (hb); have n2_ := Aside0.mk (ho); clear BK446; clear HB; clear HO_3; have BK446 := n0_; have HB := n1_; have HO449 := n2_; clear n0_ n1_ n2_; clear ho hb hg hat))
              go_roundg k1
              case measure => have := HK1.out; omega
              case rel => exact ⟨(y447), (wrap64 (x8_1 + 1)), (by first | rfl | (simp; done) | (simp [*]; done)), H', ⟨by have := HK1.out; omega⟩, ⟨by (with_reducible repeat (first | apply Kd.R_alloc | apply Kd.R_drewN | apply Kd.R_drew)); exact HO449.out⟩, ⟨by repeat (first | (with_reducible first | exact HB.out | apply below_alloc | apply pw_below_drewN | apply below_drew1 | refine below_set ?_ GE446.out) | exact HB.out)⟩⟩
            · rw [if_neg c5] at H
              exact absurd H (by simp)
          · rw [if_neg c4] at H
            exact absurd H (by simp)
        · rw [if_neg c3] at H
          exact absurd H (by simp)
      · rw [if_neg c2] at H
        have c2b0 : decide (x8_1 < (l0.length : Int)) = false := decide_eq_false c2
        clear c2
        obtain rfl := Option.some.inj H
        go_wp2
        go_ret
        exact ⟨_, by first | rfl | (simp [errW_none, errW_some] <;> rfl) | (simp [*, errW_none, errW_some] <;> rfl), by (with_reducible repeat (first | apply Kd.R_alloc | apply Kd.R_drewN | apply Kd.R_drew)); exact HO_3.out, by repeat (first | (with_reducible first | exact HB.out | apply below_alloc | apply pw_below_drewN | apply below_drew1) | exact HB.out)⟩

end Go.Proofs.Ytalnlphinlfenaa.S
end

section
namespace Go.Proofs.Ytalnlphinlfenaa.S
open Go.RowKit Go.Proofs.YtalnlphinlfenaaW.PrintWords Go.Proofs.YtalnlphinlfenaaW.PrintLast Go.Proofs.YtalnlphinlfenaaW.PrintMore
attribute [local go_sem] max2_int min2_int max_two min_two max_three min_three max_four min_four   -- for this text's walks alone
attribute [local go_sem] Go.Proofs.Ytalnlphinlfenaa.XWalk.cell2
set_option linter.unusedVariables false
set_option linter.unusedSimpArgs false

/-! ### lombardref11_Plug: function 26 -/
def lombardref11_Plug.f (l0 : List (S59)) (a1 : Int) : Option (Int × Int) := if (l0.length : Int) = 0 then (some (0, 8)) else ((lombardref03_May.f a1).bind fun t489 => (if t489 = true then (if 0 ≤ (wrap64 ((l0.length : Int) - 1)) then (if (wrap64 ((l0.length : Int) - 1)) < (l0.length : Int) then ((lombardref03_Interest.f ((rd_T59 l0 (wrap64 ((l0.length : Int) - 1))).f0) a1).bind fun bt491 => (if bt491.2 = 0 then ((lombardref01_Sub.f ((rd_T59 l0 (wrap64 ((l0.length : Int) - 1))).f1) bt491.1).bind fun bt494 => (some (bt494.1, bt494.2))) else (some (0, bt491.2)))) else (none)) else (none)) else (some (0, 2))))
set_option maxHeartbeats 8000000 in
set_option maxRecDepth 100000 in
theorem lombardref11_Plug.calls (A0 : Option Addr) (c0 : Nat) (l0 : List (S59)) (a1 : Int) (r1 : Int) (r2 : Int) (w : World) (hr0 : Kd.C k59 w A0 l0.length l0) (hc0 : l0.length ≤ c0) (h : lombardref11_Plug.f l0 a1 = some (r1, r2)) :
    Calls Try.prog 26 #[.slice A0 l0.length c0, .int .i64 a1] w fun e w' => e = .returned (.tuple #[.int .i64 r1, .int .i64 r2]) ∧ Below w.heap.size w w' := by
  have HR0 := Aside0.mk hr0
  have HC0 := Aside0.mk hc0
  clear hr0 hc0
  have HB := Aside0.mk (Below.refl w.heap.size w)
  have H : (if (l0.length : Int) = 0 then (some (0, 8)) else ((lombardref03_May.f a1).bind fun t489 => (if t489 = true then (if 0 ≤ (wrap64 ((l0.length : Int) - 1)) then (if (wrap64 ((l0.length : Int) - 1)) < (l0.length : Int) then ((lombardref03_Interest.f ((rd_T59 l0 (wrap64 ((l0.length : Int) - 1))).f0) a1).bind fun bt491 => (if bt491.2 = 0 then ((lombardref01_Sub.f ((rd_T59 l0 (wrap64 ((l0.length : Int) - 1))).f1) bt491.1).bind fun bt494 => (some (bt494.1, bt494.2))) else (some (0, bt491.2)))) else (none)) else (none)) else (some (0, 2))))) = some (r1, r2) := h
  clear h
  by_cases c3 : (l0.length : Int) = 0
  · rw [if_pos c3] at H
    have c3b0 : ((l0.length : Int) == 0) = true := beq_iff_eq.mpr c3
    have c3b1 : ((l0.length : Int) != 0) = false := bne_eq_false_iff_eq.mpr c3
    clear c3
    simp only [Option.some.injEq, Prod.mk.injEq] at H
    obtain ⟨rfl, rfl⟩ := H
    go_enter Try.func26, Try.ntmps26
    go_wp2
    go_ret2
    exact ⟨by first | rfl | (simp [errW_none, errW_some] <;> rfl) | (simp [*, errW_none, errW_some] <;> rfl), by repeat (first | (with_reducible first | exact HB.out | apply below_alloc | apply pw_below_drewN | apply below_drew1) | exact HB.out)⟩
  · rw [if_neg c3] at H
    have c3b0 : ((l0.length : Int) == 0) = false := beq_eq_false_iff_ne.mpr c3
    have c3b1 : ((l0.length : Int) != 0) = true := bne_iff_ne.mpr c3
    have c3b2 : ¬ (l0 = []) := fun h_ => c3 (by rw [h_]; rfl)
    replace H := Option.bind_eq_some_iff.mp H
    obtain ⟨t489, A40, H⟩ := H
    replace H : (if t489 = true then (if 0 ≤ (wrap64 ((l0.length : Int) - 1)) then (if (wrap64 ((l0.length : Int) - 1)) < (l0.length : Int) then ((lombardref03_Interest.f ((rd_T59 l0 (wrap64 ((l0.length : Int) - 1))).f0) a1).bind fun bt491 => (if bt491.2 = 0 then ((lombardref01_Sub.f ((rd_T59 l0 (wrap64 ((l0.length : Int) - 1))).f1) bt491.1).bind fun bt494 => (some (bt494.1, bt494.2))) else (some (0, bt491.2)))) else (none)) else (none)) else (some (0, 2))) = some (r1, r2) := H
    have A4 := Aside0.mk A40
    clear A40
    by_cases c5 : t489 = true
    · subst c5
      have H1 : (if 0 ≤ (wrap64 ((l0.length : Int) - 1)) then (if (wrap64 ((l0.length : Int) - 1)) < (l0.length : Int) then ((lombardref03_Interest.f ((rd_T59 l0 (wrap64 ((l0.length : Int) - 1))).f0) a1).bind fun bt491 => (if bt491.2 = 0 then ((lombardref01_Sub.f ((rd_T59 l0 (wrap64 ((l0.length : Int) - 1))).f1) bt491.1).bind fun bt494 => (some (bt494.1, bt494.2))) else (some (0, bt491.2)))) else (none)) else (none)) = some (r1, r2) := by rw [if_pos rfl] at H; exact H
      clear H
      have H := H1
      clear H1
      obtain ⟨ji6, hji6⟩ : ∃ j_ : Int, (wrap64 ((l0.length : Int) - 1)) = j_ := ⟨_, rfl⟩
      replace H : (if 0 ≤ (ji6) then (if (ji6) < (l0.length : Int) then ((lombardref03_Interest.f ((rd_T59 l0 (ji6)).f0) a1).bind fun bt491 => (if bt491.2 = 0 then ((lombardref01_Sub.f ((rd_T59 l0 (ji6)).f1) bt491.1).bind fun bt494 => (some (bt494.1, bt494.2))) else (some (0, bt491.2)))) else (none)) else (none)) = some (r1, r2) := by first | (rw [hji6] at H; exact H) | (simp only [hji6] at H ⊢; exact H)
      (try rw [hji6] at A4)
      have hji6w : (IntKind.i64.wrap ((l0.length : Int) - 1)) = ji6 := (i64_w _).trans hji6
      by_cases c7 : 0 ≤ (ji6)
      · rw [if_pos c7] at H
        have c7b0 : decide (0 ≤ (ji6)) = true := decide_eq_true c7
        clear c7
        by_cases c8 : (ji6) < (l0.length : Int)
        · rw [if_pos c8] at H
          have c8b0 : decide ((ji6) < (l0.length : Int)) = true := decide_eq_true c8
          clear c8
          replace H := Option.bind_eq_some_iff.mp H
          obtain ⟨⟨t491, t492⟩, A90, H⟩ := H
          replace H : (if t492 = 0 then ((lombardref01_Sub.f ((rd_T59 l0 (ji6)).f1) t491).bind fun bt494 => (some (bt494.1, bt494.2))) else (some (0, t492))) = some (r1, r2) := H
          have A9 := Aside0.mk A90
          clear A90
          by_cases c10 : t492 = 0
          · rw [if_pos c10] at H
            have c10b0 : (t492 == 0) = true := beq_iff_eq.mpr c10
            have c10b1 : (t492 != 0) = false := bne_eq_false_iff_eq.mpr c10
            clear c10
            replace H := Option.bind_eq_some_iff.mp H
            obtain ⟨⟨t494, t495⟩, A110, H⟩ := H
            replace H : (some (t494, t495)) = some (r1, r2) := H
            have A11 := Aside0.mk A110
            clear A110
            simp only [Option.some.injEq, Prod.mk.injEq] at H
            obtain ⟨rfl, rfl⟩ := H
            go_enter Try.func26, Try.ntmps26
            go_wp2_with (first | ((with_reducible refine gate_callee (f := 34) rfl ?_); refine goesL_ (some 12) rfl rfl Try.func34 (by kernel_rfl) rfl #[.int .i64 a1] rfl (by (try simp only [List.map_toArray, List.map_cons, List.map_nil]); first | done | rfl | (simp only [List.length_drop, List.length_take]; rfl)) ?_; (with_reducible refine (lombardref03_May.calls a1 true _ A4.out).mono ?_); rintro e w' ⟨rfl, ⟨nd, rfl⟩⟩; refine ⟨_, rfl, ?_⟩; have p490 : 0 ≤ ((ji6) : Int) := of_decide_eq_true (by first | (with_reducible assumption) | assumption); have q490 : (ji6) < (l0.length : Int) := of_decide_eq_true (by first | (with_reducible assumption) | assumption); obtain ⟨ad490, e490, hx490_0, hx490_1, hx490_2, hx490_3⟩ := at_T59 HR0.out (ji6) p490 q490; cases e490; replace p490 := eq_true p490; replace q490 := eq_true q490) | ((with_reducible refine gate_callee (f := 35) rfl ?_); refine goesL_ (some 23) rfl rfl Try.func35 (by kernel_rfl) rfl #[.int .i64 ((rd_T59 l0 (ji6)).f0), .int .i64 a1] rfl (by (try simp only [List.map_toArray, List.map_cons, List.map_nil]); first | done | (simp only [hji6]; rfl) | rfl | (simp only [List.length_drop, List.length_take]; rfl)) ?_; (with_reducible refine (lombardref03_Interest.calls ((rd_T59 l0 (ji6)).f0) a1 t491 t492 _ A9.out).mono ?_); rintro e w12 ⟨rfl, hb⟩; refine ⟨_, rfl, ?_⟩; have n0_ := Aside0.mk (below_step (by repeat (first | (with_reducible first | exact HB.out | apply below_alloc | apply pw_below_drewN | apply below_drew1) | exact HB.out)) hb); clear HB; have HB := n0_; clear n0_; (try clear hb); (try clear hb2); (try clear hk); (try clear hi); have p493 : 0 ≤ ((ji6) : Int) := of_decide_eq_true (by first | (with_reducible assumption) | assumption); have q493 : (ji6) < (l0.length : Int) := of_decide_eq_true (by first | (with_reducible assumption) | assumption); obtain ⟨ad493, e493, hx493_0, hx493_1, hx493_2, hx493_3⟩ := at_T59 HR0.out (ji6) p493 q493; obtain rfl : ad490 = ad493 := (by injection e493); try replace hx493_0 := (HB.out.cell (World.block_lt_of_cell? w _ hx493_0)).trans hx493_0; try replace hx493_1 := (HB.out.cell (World.block_lt_of_cell? w _ hx493_1)).trans hx493_1; try replace hx493_2 := (HB.out.cell (World.block_lt_of_cell? w _ hx493_2)).trans hx493_2; try replace hx493_3 := (HB.out.cell (World.block_lt_of_cell? w _ hx493_3)).trans hx493_3; replace p493 := eq_true p493; replace q493 := eq_true q493) | ((with_reducible refine gate_callee (f := 48) rfl ?_); refine goesL_ (some 37) rfl rfl Try.func48 (by kernel_rfl) rfl #[.int .i64 ((rd_T59 l0 (ji6)).f1), .int .i64 t491] rfl (by (try simp only [List.map_toArray, List.map_cons, List.map_nil]); first | done | (simp only [hji6]; rfl) | rfl | (simp only [List.length_drop, List.length_take]; rfl)) ?_; (with_reducible refine (lombardref01_Sub.calls ((rd_T59 l0 (ji6)).f1) t491 t494 t495 _ A11.out).mono ?_); rintro e w' ⟨rfl, ⟨nd, rfl⟩⟩; refine ⟨_, rfl, ?_⟩))
            go_ret2
            exact ⟨by first | rfl | (simp [errW_none, errW_some] <;> rfl) | (simp only [← hji6]; first | rfl | (simp [errW_none, errW_some] <;> rfl)) | (simp [*, errW_none, errW_some] <;> rfl), by repeat (first | (with_reducible first | exact HB.out | apply below_alloc | apply pw_below_drewN | apply below_drew1) | exact HB.out)⟩
          · rw [if_neg c10] at H
            have c10b0 : (t492 == 0) = false := beq_eq_false_iff_ne.mpr c10
            have c10b1 : (t492 != 0) = true := bne_iff_ne.mpr c10
            simp only [Option.some.injEq, Prod.mk.injEq] at H
            obtain ⟨rfl, rfl⟩ := H
            go_enter Try.func26, Try.ntmps26
            go_wp2_with (first | ((with_reducible refine gate_callee (f := 34) rfl ?_); refine goesL_ (some 12) rfl rfl Try.func34 (by kernel_rfl) rfl #[.int .i64 a1] rfl (by (try simp only [List.map_toArray, List.map_cons, List.map_nil]); first | done | rfl | (simp only [List.length_drop, List.length_take]; rfl)) ?_; (with_reducible refine (lombardref03_May.calls a1 true _ A4.out).mono ?_); rintro e w' ⟨rfl, ⟨nd, rfl⟩⟩; refine ⟨_, rfl, ?_⟩; have p490 : 0 ≤ ((ji6) : Int) := of_decide_eq_true (by first | (with_reducible assumption) | assumption); have q490 : (ji6) < (l0.length : Int) := of_decide_eq_true (by first | (with_reducible assumption) | assumption); obtain ⟨ad490, e490, hx490_0, hx490_1, hx490_2, hx490_3⟩ := at_T59 HR0.out (ji6) p490 q490; cases e490; replace p490 := eq_true p490; replace q490 := eq_true q490) | ((with_reducible refine gate_callee (f := 35) rfl ?_); refine goesL_ (some 23) rfl rfl Try.func35 (by kernel_rfl) rfl #[.int .i64 ((rd_T59 l0 (ji6)).f0), .int .i64 a1] rfl (by (try simp only [List.map_toArray, List.map_cons, List.map_nil]); first | done | (simp only [hji6]; rfl) | rfl | (simp only [List.length_drop, List.length_take]; rfl)) ?_; (with_reducible refine (lombardref03_Interest.calls ((rd_T59 l0 (ji6)).f0) a1 t491 t492 _ A9.out).mono ?_); rintro e w13 ⟨rfl, hb⟩; refine ⟨_, rfl, ?_⟩; have n0_ := Aside0.mk (below_step (by repeat (first | (with_reducible first | exact HB.out | apply below_alloc | apply pw_below_drewN | apply below_drew1) | exact HB.out)) hb); clear HB; have HB := n0_; clear n0_; (try clear hb); (try clear hb2); (try clear hk); (try clear hi)))
            go_ret2
            exact ⟨by first | rfl | (simp [errW_none, errW_some] <;> rfl) | (simp only [← hji6]; first | rfl | (simp [errW_none, errW_some] <;> rfl)) | (simp [*, errW_none, errW_some] <;> rfl), by repeat (first | (with_reducible first | exact HB.out | apply below_alloc | apply pw_below_drewN | apply below_drew1) | exact HB.out)⟩
        · rw [if_neg c8] at H
          exact absurd H (by simp)
      · rw [if_neg c7] at H
        exact absurd H (by simp)
    · replace c5 := Bool.eq_false_iff.mpr c5
      subst c5
      have H1 : (some (0, 2)) = some (r1, r2) := by rw [if_neg (show ¬ (false = true) by decide)] at H; exact H
      clear H
      have H := H1
      clear H1
      simp only [Option.some.injEq, Prod.mk.injEq] at H
      obtain ⟨rfl, rfl⟩ := H
      go_enter Try.func26, Try.ntmps26
      go_wp2_with (first | ((with_reducible refine gate_callee (f := 34) rfl ?_); refine goesL_ (some 12) rfl rfl Try.func34 (by kernel_rfl) rfl #[.int .i64 a1] rfl (by (try simp only [List.map_toArray, List.map_cons, List.map_nil]); first | done | rfl | (simp only [List.length_drop, List.length_take]; rfl)) ?_; (with_reducible refine (lombardref03_May.calls a1 false _ A4.out).mono ?_); rintro e w' ⟨rfl, ⟨nd, rfl⟩⟩; refine ⟨_, rfl, ?_⟩))
      go_ret2
      exact ⟨by first | rfl | (simp [errW_none, errW_some] <;> rfl) | (simp [*, errW_none, errW_some] <;> rfl), by repeat (first | (with_reducible first | exact HB.out | apply below_alloc | apply pw_below_drewN | apply below_drew1) | exact HB.out)⟩

end Go.Proofs.Ytalnlphinlfenaa.S
end

section
namespace Go.Proofs.Ytalnlphinlfenaa.S
open Go.RowKit Go.Proofs.YtalnlphinlfenaaW.PrintWords Go.Proofs.YtalnlphinlfenaaW.PrintLast Go.Proofs.YtalnlphinlfenaaW.PrintMore
attribute [local go_sem] max2_int min2_int max_two min_two max_three min_three max_four min_four   -- for this text's walks alone
attribute [local go_sem] Go.Proofs.Ytalnlphinlfenaa.XWalk.cell2
set_option linter.unusedVariables false
set_option linter.unusedSimpArgs false

/-! ### lombardlaw11_TableSums: function 9 -/
def lombardlaw11_TableSums.f (k : Nat) (l0 : List (S59)) (a1 : Int) : Option (Bool) := (lombardlaw11_alive.f k).bind fun t496 => (if t496 = true then (if (l0.length : Int) > 200 then (some true) else ((lombardlaw11_to.f k l0).bind fun t497 => ((table_Sums.f k t497).bind fun bt500 => ((lombardref11_Sums.f k l0).bind fun bt503 => ((lombardlaw11_to.f k l0).bind fun t506 => ((table_Plug.f k t506 a1).bind fun bt509 => ((lombardref11_Plug.f l0 a1).bind fun bt511 => (if bt500.1 = bt503.1 then (if bt500.2.1 = bt503.2.1 then (if bt500.2.2 = bt503.2.2 then (if bt509.1 = bt511.1 then (some (bt509.2 == bt511.2)) else (some false)) else (some false)) else (some false)) else (some false))))))))) else (some false))
set_option maxHeartbeats 8000000 in
set_option maxRecDepth 100000 in
theorem lombardlaw11_TableSums.calls (k : Nat) (A0 : Option Addr) (c0 : Nat) (l0 : List (S59)) (a1 : Int) (r : Bool) (w : World) (hr0 : Kd.C k59 w A0 l0.length l0) (hc0 : l0.length ≤ c0) (h : lombardlaw11_TableSums.f k l0 a1 = some r) :
    Calls Try.prog 9 #[.slice A0 l0.length c0, .int .i64 a1] w fun e w' => e = .returned (.bool r) ∧ Below w.heap.size w w' := by
  have HR0 := Aside0.mk hr0
  have HC0 := Aside0.mk hc0
  clear hr0 hc0
  have HB := Aside0.mk (Below.refl w.heap.size w)
  have H : ((lombardlaw11_alive.f k).bind fun t496 => (if t496 = true then (if (l0.length : Int) > 200 then (some true) else ((lombardlaw11_to.f k l0).bind fun t497 => ((table_Sums.f k t497).bind fun bt500 => ((lombardref11_Sums.f k l0).bind fun bt503 => ((lombardlaw11_to.f k l0).bind fun t506 => ((table_Plug.f k t506 a1).bind fun bt509 => ((lombardref11_Plug.f l0 a1).bind fun bt511 => (if bt500.1 = bt503.1 then (if bt500.2.1 = bt503.2.1 then (if bt500.2.2 = bt503.2.2 then (if bt509.1 = bt511.1 then (some (bt509.2 == bt511.2)) else (some false)) else (some false)) else (some false)) else (some false))))))))) else (some false))) = some r := h
  clear h
  replace H := Option.bind_eq_some_iff.mp H
  obtain ⟨t496, A30, H⟩ := H
  replace H : (if t496 = true then (if (l0.length : Int) > 200 then (some true) else ((lombardlaw11_to.f k l0).bind fun t497 => ((table_Sums.f k t497).bind fun bt500 => ((lombardref11_Sums.f k l0).bind fun bt503 => ((lombardlaw11_to.f k l0).bind fun t506 => ((table_Plug.f k t506 a1).bind fun bt509 => ((lombardref11_Plug.f l0 a1).bind fun bt511 => (if bt500.1 = bt503.1 then (if bt500.2.1 = bt503.2.1 then (if bt500.2.2 = bt503.2.2 then (if bt509.1 = bt511.1 then (some (bt509.2 == bt511.2)) else (some false)) else (some false)) else (some false)) else (some false))))))))) else (some false)) = some r := H
  have A3 := Aside0.mk A30
  clear A30
  by_cases c4 : t496 = true
  · subst c4
    have H1 : (if (l0.length : Int) > 200 then (some true) else ((lombardlaw11_to.f k l0).bind fun t497 => ((table_Sums.f k t497).bind fun bt500 => ((lombardref11_Sums.f k l0).bind fun bt503 => ((lombardlaw11_to.f k l0).bind fun t506 => ((table_Plug.f k t506 a1).bind fun bt509 => ((lombardref11_Plug.f l0 a1).bind fun bt511 => (if bt500.1 = bt503.1 then (if bt500.2.1 = bt503.2.1 then (if bt500.2.2 = bt503.2.2 then (if bt509.1 = bt511.1 then (some (bt509.2 == bt511.2)) else (some false)) else (some false)) else (some false)) else (some false))))))))) = some r := by rw [if_pos rfl] at H; exact H
    clear H
    have H := H1
    clear H1
    by_cases c5 : (l0.length : Int) > 200
    · rw [if_pos c5] at H
      have c5b0 : decide (200 < (l0.length : Int)) = true := decide_eq_true c5
      have c5b1 : decide (200 < l0.length) = true := decide_eq_true (by omega)
      clear c5
      obtain rfl := Option.some.inj H
      go_enter Try.func9, Try.ntmps9
      go_wp2_with (first | ((with_reducible refine gate_callee (f := 11) rfl ?_); refine goesL_ (some 15) rfl rfl Try.func11 (by kernel_rfl) rfl #[] rfl (by (try simp only [List.map_toArray, List.map_cons, List.map_nil]); first | done | rfl | (simp only [List.length_drop, List.length_take]; rfl)) ?_; (with_reducible refine (lombardlaw11_alive.calls k  true _ A3.out).mono ?_); rintro e w6 ⟨rfl, hb⟩; refine ⟨_, rfl, ?_⟩; have n0_ := Aside0.mk (below_step (by repeat (first | (with_reducible first | exact HB.out | apply below_alloc | apply pw_below_drewN | apply below_drew1) | exact HB.out)) hb); clear HB; have HB := n0_; clear n0_; (try clear hb); (try clear hb2); (try clear hk); (try clear hi)))
      go_ret
      exact ⟨by first | rfl | (simp [errW_none, errW_some] <;> rfl) | (simp [*, errW_none, errW_some] <;> rfl), by repeat (first | (with_reducible first | exact HB.out | apply below_alloc | apply pw_below_drewN | apply below_drew1) | exact HB.out)⟩
    · rw [if_neg c5] at H
      have c5b0 : decide (200 < (l0.length : Int)) = false := decide_eq_false c5
      have c5b1 : decide (200 < l0.length) = false := decide_eq_false (by omega)
      clear c5
      replace H := Option.bind_eq_some_iff.mp H
      obtain ⟨t497, A70, H⟩ := H
      replace H : ((table_Sums.f k t497).bind fun bt500 => ((lombardref11_Sums.f k l0).bind fun bt503 => ((lombardlaw11_to.f k l0).bind fun t506 => ((table_Plug.f k t506 a1).bind fun bt509 => ((lombardref11_Plug.f l0 a1).bind fun bt511 => (if bt500.1 = bt503.1 then (if bt500.2.1 = bt503.2.1 then (if bt500.2.2 = bt503.2.2 then (if bt509.1 = bt511.1 then (some (bt509.2 == bt511.2)) else (some false)) else (some false)) else (some false)) else (some false))))))) = some r := H
      have A7 := Aside0.mk A70
      clear A70
      replace H := Option.bind_eq_some_iff.mp H
      obtain ⟨⟨t500, t501, t502⟩, A80, H⟩ := H
      replace H : ((lombardref11_Sums.f k l0).bind fun bt503 => ((lombardlaw11_to.f k l0).bind fun t506 => ((table_Plug.f k t506 a1).bind fun bt509 => ((lombardref11_Plug.f l0 a1).bind fun bt511 => (if t500 = bt503.1 then (if t501 = bt503.2.1 then (if t502 = bt503.2.2 then (if bt509.1 = bt511.1 then (some (bt509.2 == bt511.2)) else (some false)) else (some false)) else (some false)) else (some false)))))) = some r := H
      have A8 := Aside0.mk A80
      clear A80
      replace H := Option.bind_eq_some_iff.mp H
      obtain ⟨⟨t503, t504, t505⟩, A90, H⟩ := H
      replace H : ((lombardlaw11_to.f k l0).bind fun t506 => ((table_Plug.f k t506 a1).bind fun bt509 => ((lombardref11_Plug.f l0 a1).bind fun bt511 => (if t500 = t503 then (if t501 = t504 then (if t502 = t505 then (if bt509.1 = bt511.1 then (some (bt509.2 == bt511.2)) else (some false)) else (some false)) else (some false)) else (some false))))) = some r := H
      have A9 := Aside0.mk A90
      clear A90
      replace H := Option.bind_eq_some_iff.mp H
      obtain ⟨t506, A100, H⟩ := H
      replace H : ((table_Plug.f k t506 a1).bind fun bt509 => ((lombardref11_Plug.f l0 a1).bind fun bt511 => (if t500 = t503 then (if t501 = t504 then (if t502 = t505 then (if bt509.1 = bt511.1 then (some (bt509.2 == bt511.2)) else (some false)) else (some false)) else (some false)) else (some false)))) = some r := H
      have A10 := Aside0.mk A100
      clear A100
      replace H := Option.bind_eq_some_iff.mp H
      obtain ⟨⟨t509, t510⟩, A110, H⟩ := H
      replace H : ((lombardref11_Plug.f l0 a1).bind fun bt511 => (if t500 = t503 then (if t501 = t504 then (if t502 = t505 then (if t509 = bt511.1 then (some (t510 == bt511.2)) else (some false)) else (some false)) else (some false)) else (some false))) = some r := H
      have A11 := Aside0.mk A110
      clear A110
      replace H := Option.bind_eq_some_iff.mp H
      obtain ⟨⟨t511, t512⟩, A120, H⟩ := H
      replace H : (if t500 = t503 then (if t501 = t504 then (if t502 = t505 then (if t509 = t511 then (some (t510 == t512)) else (some false)) else (some false)) else (some false)) else (some false)) = some r := H
      have A12 := Aside0.mk A120
      clear A120
      have HC13 := Aside0.mk H
      clear H
      go_enter Try.func9, Try.ntmps9
      go_upto_region 9 with (first | ((with_reducible refine gate_callee (f := 11) rfl ?_); refine goesL_ (some 15) rfl rfl Try.func11 (by kernel_rfl) rfl #[] rfl (by (try simp only [List.map_toArray, List.map_cons, List.map_nil]); first | done | rfl | (simp only [List.length_drop, List.length_take]; rfl)) ?_; (with_reducible refine (lombardlaw11_alive.calls k  true _ A3.out).mono ?_); rintro e w14 ⟨rfl, hb⟩; refine ⟨_, rfl, ?_⟩; have n0_ := Aside0.mk (below_step (by repeat (first | (with_reducible first | exact HB.out | apply below_alloc | apply pw_below_drewN | apply below_drew1) | exact HB.out)) hb); clear HB; have HB := n0_; clear n0_; (try clear hb); (try clear hb2); (try clear hk); (try clear hi)) | ((with_reducible refine gate_callee (f := 23) rfl ?_); refine goesL_ (some 22) rfl rfl Try.func23 (by kernel_rfl) rfl #[.slice A0 l0.length c0] rfl (by (try simp only [List.map_toArray, List.map_cons, List.map_nil]); first | done | rfl | (simp only [List.length_drop, List.length_take]; rfl)) ?_; (with_reducible refine (lombardlaw11_to.calls k _ _ l0 t497 _ ?side1 ?side2 A7.out).mono ?_); (case side1 => repeat (first | exact (Kd.C_below HR0.out HB.out) | (with_reducible refine Kd.C_alloc ?_ _) | (with_reducible refine Kd.C_drewN ?_ _) | (with_reducible refine Kd.C_drew ?_))); (case side2 => exact HC0.out); rintro e w15 ⟨v498, rfl, ho0, hb⟩; refine ⟨_, rfl, ?_⟩; have n0_ := Aside0.mk (Kd.R_lower ho0 (below_size (by repeat (first | (with_reducible first | exact HB.out | apply below_alloc | apply pw_below_drewN | apply below_drew1) | exact HB.out)))); have n1_ := Aside0.mk (below_step (by repeat (first | (with_reducible first | exact HB.out | apply below_alloc | apply pw_below_drewN | apply below_drew1) | exact HB.out)) hb); clear HB; have HO499 := n0_; have HB := n1_; clear n0_ n1_; (try clear hb); (try clear hb2); (try clear hk); (try clear hi); (try clear ho0); obtain ⟨Ao16, co16, eo16⟩ := Kd.R_slice HO499.out; subst eo16) | ((with_reducible refine gate_callee (f := 22) rfl ?_); refine goesL_ (some 23) rfl rfl Try.func22 (by kernel_rfl) rfl #[.slice Ao16 t497.length co16] rfl (by (try simp only [List.map_toArray, List.map_cons, List.map_nil]); first | done | rfl | (simp only [List.length_drop, List.length_take]; rfl)) ?_; (with_reducible refine (table_Sums.calls k _ _ t497 t500 t501 t502 _ ?side1 ?side2 A8.out).mono ?_); (case side1 => repeat (first | exact (Kd.R_reads' HO499.out).2.2 | (with_reducible refine Kd.C_alloc ?_ _) | (with_reducible refine Kd.C_drewN ?_ _) | (with_reducible refine Kd.C_drew ?_))); (case side2 => exact (Kd.R_reads' HO499.out).2.1); rintro e w17 ⟨rfl, hb⟩; refine ⟨_, rfl, ?_⟩; have n0_ := Aside0.mk (Kd.R_below (by (with_reducible repeat (first | apply Kd.R_alloc | apply Kd.R_drewN | apply Kd.R_drew)); exact HO499.out) hb); have n1_ := Aside0.mk (below_step (by repeat (first | (with_reducible first | exact HB.out | apply below_alloc | apply pw_below_drewN | apply below_drew1) | exact HB.out)) hb); clear HO499; clear HB; have HO499 := n0_; have HB := n1_; clear n0_ n1_; (try clear hb); (try clear hb2); (try clear hk); (try clear hi)) | ((with_reducible refine gate_callee (f := 24) rfl ?_); refine goesL_ (some 29) rfl rfl Try.func24 (by kernel_rfl) rfl #[.slice A0 l0.length c0] rfl (by (try simp only [List.map_toArray, List.map_cons, List.map_nil]); first | done | rfl | (simp only [List.length_drop, List.length_take]; rfl)) ?_; (with_reducible refine (lombardref11_Sums.calls k _ _ l0 t503 t504 t505 _ ?side1 ?side2 A9.out).mono ?_); (case side1 => repeat (first | exact (Kd.C_below HR0.out HB.out) | (with_reducible refine Kd.C_alloc ?_ _) | (with_reducible refine Kd.C_drewN ?_ _) | (with_reducible refine Kd.C_drew ?_))); (case side2 => exact HC0.out); rintro e w18 ⟨rfl, hb⟩; refine ⟨_, rfl, ?_⟩; have n0_ := Aside0.mk (Kd.R_below (by (with_reducible repeat (first | apply Kd.R_alloc | apply Kd.R_drewN | apply Kd.R_drew)); exact HO499.out) hb); have n1_ := Aside0.mk (below_step (by repeat (first | (with_reducible first | exact HB.out | apply below_alloc | apply pw_below_drewN | apply below_drew1) | exact HB.out)) hb); clear HO499; clear HB; have HO499 := n0_; have HB := n1_; clear n0_ n1_; (try clear hb); (try clear hb2); (try clear hk); (try clear hi)) | ((with_reducible refine gate_callee (f := 23) rfl ?_); refine goesL_ (some 35) rfl rfl Try.func23 (by kernel_rfl) rfl #[.slice A0 l0.length c0] rfl (by (try simp only [List.map_toArray, List.map_cons, List.map_nil]); first | done | rfl | (simp only [List.length_drop, List.length_take]; rfl)) ?_; (with_reducible refine (lombardlaw11_to.calls k _ _ l0 t506 _ ?side1 ?side2 A10.out).mono ?_); (case side1 => repeat (first | exact (Kd.C_below HR0.out HB.out) | (with_reducible refine Kd.C_alloc ?_ _) | (with_reducible refine Kd.C_drewN ?_ _) | (with_reducible refine Kd.C_drew ?_))); (case side2 => exact HC0.out); rintro e w19 ⟨v507, rfl, ho0, hb⟩; refine ⟨_, rfl, ?_⟩; have n0_ := Aside0.mk (Kd.R_elder' (by (with_reducible repeat (first | apply Kd.R_alloc | apply Kd.R_drewN | apply Kd.R_drew)); exact HO499.out) (Kd.R_base ho0) hb); have n1_ := Aside0.mk (Kd.R_lower (Kd.R_new' ho0 (Kd.R_lt (by (with_reducible repeat (first | apply Kd.R_alloc | apply Kd.R_drewN | apply Kd.R_drew)); exact HO499.out))) (below_size (by repeat (first | (with_reducible first | exact HB.out | apply below_alloc | apply pw_below_drewN | apply below_drew1) | exact HB.out)))); have n2_ := Aside0.mk (below_step (by repeat (first | (with_reducible first | exact HB.out | apply below_alloc | apply pw_below_drewN | apply below_drew1) | exact HB.out)) hb); clear HO499; clear HB; have HO499 := n0_; have HO508 := n1_; have HB := n2_; clear n0_ n1_ n2_; (try clear hb); (try clear hb2); (try clear hk); (try clear hi); (try clear ho0); obtain ⟨Ao20, co20, eo20⟩ := Kd.R_slice HO508.out; subst eo20) | ((with_reducible refine gate_callee (f := 25) rfl ?_); refine goesL_ (some 37) rfl rfl Try.func25 (by kernel_rfl) rfl #[.slice Ao20 t506.length co20, .int .i64 a1] rfl (by (try simp only [List.map_toArray, List.map_cons, List.map_nil]); first | done | rfl | (simp only [List.length_drop, List.length_take]; rfl)) ?_; (with_reducible refine (table_Plug.calls k _ _ t506 a1 t509 t510 _ ?side1 ?side2 A11.out).mono ?_); (case side1 => repeat (first | exact (Kd.R_reads' HO508.out).2.2 | (with_reducible refine Kd.C_alloc ?_ _) | (with_reducible refine Kd.C_drewN ?_ _) | (with_reducible refine Kd.C_drew ?_))); (case side2 => exact (Kd.R_reads' HO508.out).2.1); rintro e w21 ⟨rfl, hb⟩; refine ⟨_, rfl, ?_⟩; have n0_ := Aside0.mk (Kd.R_below (by (with_reducible repeat (first | apply Kd.R_alloc | apply Kd.R_drewN | apply Kd.R_drew)); exact HO499.out) hb); have n1_ := Aside0.mk (Kd.R_below (by (with_reducible repeat (first | apply Kd.R_alloc | apply Kd.R_drewN | apply Kd.R_drew)); exact HO508.out) hb); have n2_ := Aside0.mk (below_step (by repeat (first | (with_reducible first | exact HB.out | apply below_alloc | apply pw_below_drewN | apply below_drew1) | exact HB.out)) hb); clear HO499; clear HO508; clear HB; have HO499 := n0_; have HO508 := n1_; have HB := n2_; clear n0_ n1_ n2_; (try clear hb); (try clear hb2); (try clear hk); (try clear hi)) | ((with_reducible refine gate_callee (f := 26) rfl ?_); refine goesL_ (some 43) rfl rfl Try.func26 (by kernel_rfl) rfl #[.slice A0 l0.length c0, .int .i64 a1] rfl (by (try simp only [List.map_toArray, List.map_cons, List.map_nil]); first | done | rfl | (simp only [List.length_drop, List.length_take]; rfl)) ?_; (with_reducible refine (lombardref11_Plug.calls _ _ l0 a1 t511 t512 _ ?side1 ?side2 A12.out).mono ?_); (case side1 => repeat (first | exact (Kd.C_below HR0.out HB.out) | (with_reducible refine Kd.C_alloc ?_ _) | (with_reducible refine Kd.C_drewN ?_ _) | (with_reducible refine Kd.C_drew ?_))); (case side2 => exact HC0.out); rintro e w22 ⟨rfl, hb⟩; refine ⟨_, rfl, ?_⟩; have n0_ := Aside0.mk (Kd.R_below (by (with_reducible repeat (first | apply Kd.R_alloc | apply Kd.R_drewN | apply Kd.R_drew)); exact HO499.out) hb); have n1_ := Aside0.mk (Kd.R_below (by (with_reducible repeat (first | apply Kd.R_alloc | apply Kd.R_drewN | apply Kd.R_drew)); exact HO508.out) hb); have n2_ := Aside0.mk (below_step (by repeat (first | (with_reducible first | exact HB.out | apply below_alloc | apply pw_below_drewN | apply below_drew1) | exact HB.out)) hb); clear HO499; clear HO508; clear HB; have HO499 := n0_; have HO508 := n1_; have HB := n2_; clear n0_ n1_ n2_; (try clear hb); (try clear hb2); (try clear hk); (try clear hi)))
      have H := HC13.out
      clear HC13
      by_cases c23 : t500 = t503
      · rw [if_pos c23] at H
        have c23b0 : (t500 == t503) = true := beq_iff_eq.mpr c23
        have c23b1 : (t500 != t503) = false := bne_eq_false_iff_eq.mpr c23
        clear c23
        by_cases c24 : t501 = t504
        · rw [if_pos c24] at H
          have c24b0 : (t501 == t504) = true := beq_iff_eq.mpr c24
          have c24b1 : (t501 != t504) = false := bne_eq_false_iff_eq.mpr c24
          clear c24
          by_cases c25 : t502 = t505
          · rw [if_pos c25] at H
            have c25b0 : (t502 == t505) = true := beq_iff_eq.mpr c25
            have c25b1 : (t502 != t505) = false := bne_eq_false_iff_eq.mpr c25
            clear c25
            by_cases c26 : t509 = t511
            · rw [if_pos c26] at H
              have c26b0 : (t509 == t511) = true := beq_iff_eq.mpr c26
              have c26b1 : (t509 != t511) = false := bne_eq_false_iff_eq.mpr c26
              clear c26
              obtain rfl := Option.some.inj H
              go_wp2
              go_ret
              exact ⟨by first | rfl | (simp [errW_none, errW_some] <;> rfl) | (simp [*, errW_none, errW_some] <;> rfl), by repeat (first | (with_reducible first | exact HB.out | apply below_alloc | apply pw_below_drewN | apply below_drew1) | exact HB.out)⟩
            · rw [if_neg c26] at H
              have c26b0 : (t509 == t511) = false := beq_eq_false_iff_ne.mpr c26
              have c26b1 : (t509 != t511) = true := bne_iff_ne.mpr c26
              obtain rfl := Option.some.inj H
              go_wp2
              go_ret
              exact ⟨by first | rfl | (simp [errW_none, errW_some] <;> rfl) | (simp [*, errW_none, errW_some] <;> rfl), by repeat (first | (with_reducible first | exact HB.out | apply below_alloc | apply pw_below_drewN | apply below_drew1) | exact HB.out)⟩
          · rw [if_neg c25] at H
            have c25b0 : (t502 == t505) = false := beq_eq_false_iff_ne.mpr c25
            have c25b1 : (t502 != t505) = true := bne_iff_ne.mpr c25
            obtain rfl := Option.some.inj H
            go_wp2
            go_ret
            exact ⟨by first | rfl | (simp [errW_none, errW_some] <;> rfl) | (simp [*, errW_none, errW_some] <;> rfl), by repeat (first | (with_reducible first | exact HB.out | apply below_alloc | apply pw_below_drewN | apply below_drew1) | exact HB.out)⟩
        · rw [if_neg c24] at H
          have c24b0 : (t501 == t504) = false := beq_eq_false_iff_ne.mpr c24
          have c24b1 : (t501 != t504) = true := bne_iff_ne.mpr c24
          obtain rfl := Option.some.inj H
          go_wp2
          go_ret
          exact ⟨by first | rfl | (simp [errW_none, errW_some] <;> rfl) | (simp [*, errW_none, errW_some] <;> rfl), by repeat (first | (with_reducible first | exact HB.out | apply below_alloc | apply pw_below_drewN | apply below_drew1) | exact HB.out)⟩
      · rw [if_neg c23] at H
        have c23b0 : (t500 == t503) = false := beq_eq_false_iff_ne.mpr c23
        have c23b1 : (t500 != t503) = true := bne_iff_ne.mpr c23
        obtain rfl := Option.some.inj H
        go_wp2
        go_ret
        exact ⟨by first | rfl | (simp [errW_none, errW_some] <;> rfl) | (simp [*, errW_none, errW_some] <;> rfl), by repeat (first | (with_reducible first | exact HB.out | apply below_alloc | apply pw_below_drewN | apply below_drew1) | exact HB.out)⟩
  · replace c4 := Bool.eq_false_iff.mpr c4
    subst c4
    have H1 : (some false) = some r := by rw [if_neg (show ¬ (false = true) by decide)] at H; exact H
    clear H
    have H := H1
    clear H1
    obtain rfl := Option.some.inj H
    go_enter Try.func9, Try.ntmps9
    go_wp2_with (first | ((with_reducible refine gate_callee (f := 11) rfl ?_); refine goesL_ (some 15) rfl rfl Try.func11 (by kernel_rfl) rfl #[] rfl (by (try simp only [List.map_toArray, List.map_cons, List.map_nil]); first | done | rfl | (simp only [List.length_drop, List.length_take]; rfl)) ?_; (with_reducible refine (lombardlaw11_alive.calls k  false _ A3.out).mono ?_); rintro e w27 ⟨rfl, hb⟩; refine ⟨_, rfl, ?_⟩; have n0_ := Aside0.mk (below_step (by repeat (first | (with_reducible first | exact HB.out | apply below_alloc | apply pw_below_drewN | apply below_drew1) | exact HB.out)) hb); clear HB; have HB := n0_; clear n0_; (try clear hb); (try clear hb2); (try clear hk); (try clear hi)))
    go_ret
    exact ⟨by first | rfl | (simp [errW_none, errW_some] <;> rfl) | (simp [*, errW_none, errW_some] <;> rfl), by repeat (first | (with_reducible first | exact HB.out | apply below_alloc | apply pw_below_drewN | apply below_drew1) | exact HB.out)⟩

/-- THE PURE STATEMENT of lombardlaw11_TableSums. -/
def lombardlaw11_TableSums.Pure : Prop := ∀ (l0 : List (S59)) (a1 : Int), (l0.length ≤ maxLen ∧ ∀ y_ ∈ l0, ((Lit.int .i64 y_.f0).wf = true ∧ (Lit.int .i64 y_.f1).wf = true ∧ (Lit.int .i64 y_.f2).wf = true ∧ (Lit.int .i64 y_.f3).wf = true)) → (Lit.int .i64 a1).wf = true → ∃ k, lombardlaw11_TableSums.f k l0 a1 = some true
theorem lombardlaw11_TableSums.walk (P : lombardlaw11_TableSums.Pure) (A0 : Option Addr) (c0 : Nat) (l0 : List (S59)) (a1 : Int) (w : World) (hr0 : Kd.C k59 w A0 l0.length l0) (hc0 : l0.length ≤ c0) (hg0 : (l0.length ≤ maxLen ∧ ∀ y_ ∈ l0, ((Lit.int .i64 y_.f0).wf = true ∧ (Lit.int .i64 y_.f1).wf = true ∧ (Lit.int .i64 y_.f2).wf = true ∧ (Lit.int .i64 y_.f3).wf = true))) (hg1 : (Lit.int .i64 a1).wf = true) :
    Calls Try.prog 9 #[.slice A0 l0.length c0, .int .i64 a1] w fun e w' => e = .returned (.bool true) ∧ Below w.heap.size w w' := by
  obtain ⟨k, h⟩ := P l0 a1 hg0 hg1
  refine (lombardlaw11_TableSums.calls k A0 c0 l0 a1 true w hr0 hc0 h).mono ?_
  rintro e w' ⟨rfl, hd⟩
  exact ⟨rfl, hd⟩

end Go.Proofs.Ytalnlphinlfenaa.S
end

section
namespace Go.Proofs.Ytalnlphinlfenaa.Rnd
set_option linter.unusedVariables false
set_option linter.unusedSimpArgs false

/-- A over b rounded to the nearer whole number, to the even one of two; b above 0. -/
def near (A b : Int) : Int := if 2 * (A % b) > b ∨ 2 * (A % b) = b ∧ (A / b) % 2 = 1 then A / b + 1 else A / b

theorem div_split (A b : Int) (hb : 0 < b) : A = b * (A / b) + A % b ∧ 0 ≤ A % b ∧ A % b < b :=
  ⟨(Int.mul_ediv_add_emod A b).symm, Int.emod_nonneg A (by omega), Int.emod_lt_of_pos A hb⟩

theorem near_spec {A b : Int} (hb : 0 < b) : 2 * (b * near A b) ≤ 2 * A + b ∧ 2 * A ≤ 2 * (b * near A b) + b ∧
    (2 * (b * near A b) = 2 * A + b ∨ 2 * A = 2 * (b * near A b) + b → near A b % 2 = 0) := by
  obtain ⟨h, h0, h1⟩ := div_split A b hb
  unfold near
  generalize A % b = r at *
  generalize A / b = q at *
  split
  · rw [Int.mul_add, Int.mul_one]
    generalize b * q = m at *
    refine ⟨by omega, by omega, by omega⟩
  · generalize b * q = m at *
    refine ⟨by omega, by omega, by omega⟩

theorem mul_step {b N M : Int} (hb : 0 < b) (h : N < M) : b * N + b ≤ b * M := by
  have : b * (N + 1) ≤ b * M := Int.mul_le_mul_of_nonneg_left (by omega) (by omega)
  rw [Int.mul_add, Int.mul_one] at this
  exact this

theorem near_uniq {A b N : Int} (hb : 0 < b) (h1 : 2 * (b * N) ≤ 2 * A + b) (h2 : 2 * A ≤ 2 * (b * N) + b)
    (h3 : 2 * (b * N) = 2 * A + b ∨ 2 * A = 2 * (b * N) + b → N % 2 = 0) : near A b = N := by
  obtain ⟨a1, a2, a3⟩ := near_spec (A := A) hb
  generalize near A b = M at *
  rcases Int.lt_trichotomy M N with c | c | c
  · have s := mul_step hb c
    by_cases d : M + 2 ≤ N
    · have := mul_step hb (show M < M + 1 by omega)
      have := mul_step hb (show M + 1 < N by omega)
      omega
    have e : N = M + 1 := by omega
    subst e
    rw [Int.mul_add, Int.mul_one] at *
    omega
  · exact c
  · have s := mul_step hb c
    by_cases d : N + 2 ≤ M
    · have := mul_step hb (show N < N + 1 by omega)
      have := mul_step hb (show N + 1 < M by omega)
      omega
    have e : M = N + 1 := by omega
    subst e
    rw [Int.mul_add, Int.mul_one] at *
    omega

theorem near_neg {A b : Int} (hb : 0 < b) : near (-A) b = -near A b := by
  obtain ⟨a1, a2, a3⟩ := near_spec (A := A) hb
  have e : b * -near A b = -(b * near A b) := Int.mul_neg _ _
  refine near_uniq hb ?_ ?_ ?_ <;> rw [e] <;> omega

/-- the quotient: way 0 downwards, way 1 to the nearer one -/
def rnd (A b way : Int) : Int := if way = 0 then (if b < 0 then (-A) / (-b) else A / b) else (if b < 0 then near (-A) (-b) else near A b)

theorem floor_neg {X b : Int} (hb : 0 < b) : (-X) / b = -(X / b + if X % b > 0 then 1 else 0) := by
  obtain ⟨h, h0, h1⟩ := div_split X b hb
  obtain ⟨g, g0, g1⟩ := div_split (-X) b hb
  generalize X % b = r at *
  generalize X / b = q at *
  generalize (-X) % b = r' at *
  generalize (-X) / b = q' at *
  -- b q' + r' = -(b q + r)
  split
  · rcases Int.lt_trichotomy q' (-(q + 1)) with c | c | c
    · have := mul_step hb c
      rw [Int.mul_neg, Int.mul_add, Int.mul_one] at this
      omega
    · omega
    · have := mul_step hb c
      rw [Int.mul_neg, Int.mul_add, Int.mul_one] at this
      omega
  · rcases Int.lt_trichotomy q' (-q) with c | c | c
    · have := mul_step hb c
      rw [Int.mul_neg] at this
      omega
    · omega
    · have := mul_step hb c
      rw [Int.mul_neg] at this
      omega

/-- whether the size of a quotient is rounded up -/
def upf (way X y : Int) (less : Bool) : Bool := if way = 0 then less && decide (X % y > 0) else decide (2 * (X % y) > y ∨ 2 * (X % y) = y ∧ (X / y) % 2 = 1)
/-- by sizes and signs, as the code does it -/
theorem rnd_sizes {A b way X y : Int} (hw : way = 0 ∨ way = 1) (hb : b ≠ 0) (hX : X = if A < 0 then -A else A) (hy : y = if b < 0 then -b else b) :
    rnd A b way = if (decide (A < 0) != decide (b < 0)) = true then -(X / y + (if upf way X y (decide (A < 0) != decide (b < 0)) = true then 1 else 0)) else X / y + (if upf way X y (decide (A < 0) != decide (b < 0)) = true then 1 else 0) := by
  unfold upf
  have hy0 : 0 < y := by subst hy; split <;> omega
  have hX0 : 0 ≤ X := by subst hX; split <;> omega
  rcases hw with rfl | rfl
  · unfold rnd
    rw [if_pos rfl]
    simp only [if_true]
    by_cases c : A < 0
    · rw [if_pos c] at hX
      by_cases d : b < 0
      · rw [if_pos d] at hy ⊢
        rw [decide_eq_true c, decide_eq_true d, ← hX, ← hy]
        simp
      · rw [if_neg d] at hy ⊢
        rw [decide_eq_true c, decide_eq_false d, ← hy]
        have : A = -X := by omega
        rw [this, floor_neg hy0]
        simp
    · rw [if_neg c] at hX
      by_cases d : b < 0
      · rw [if_pos d] at hy ⊢
        rw [decide_eq_false c, decide_eq_true d, ← hX, ← hy, floor_neg hy0]
        simp
      · rw [if_neg d] at hy ⊢
        rw [decide_eq_false c, decide_eq_false d, ← hX, ← hy]
        simp
  · unfold rnd
    rw [if_neg (by omega)]
    simp only [show ((1 : Int) = 0) = False by simp, if_false]
    have hn : (X / y + if decide (2 * (X % y) > y ∨ 2 * (X % y) = y ∧ X / y % 2 = 1) = true then 1 else 0) = near X y := by
      unfold near
      simp only [decide_eq_true_eq]
      split <;> omega
    rw [hn]
    by_cases c : A < 0
    · rw [if_pos c] at hX
      by_cases d : b < 0
      · rw [if_pos d] at hy ⊢
        rw [decide_eq_true c, decide_eq_true d, ← hX, ← hy]
        simp
      · rw [if_neg d] at hy ⊢
        rw [decide_eq_true c, decide_eq_false d, ← hy]
        have : A = -X := by omega
        rw [this, near_neg hy0]
        simp
    · rw [if_neg c] at hX
      by_cases d : b < 0
      · rw [if_pos d] at hy ⊢
        rw [decide_eq_false c, decide_eq_true d, ← hX, ← hy, near_neg hy0]
        simp
      · rw [if_neg d] at hy ⊢
        rw [decide_eq_false c, decide_eq_false d, ← hX, ← hy]
        simp
end Go.Proofs.Ytalnlphinlfenaa.Rnd
end

section
namespace Go.Proofs.Ytalnlphinlfenaa.XWide
set_option linter.unusedVariables false
set_option linter.unusedSimpArgs false
open Go.RowKit Go.Proofs.Ytalnlphinlfenaa.S Go.Proofs.Ytalnlphinlfenaa.XNum Go.Proofs.Ytalnlphinlfenaa.XBits Go.Proofs.Ytalnlphinlfenaa.Rnd Go.Proofs.YtalnlphinlfenaaW.PrintWords

abbrev I64 (n : Int) : Prop := -9223372036854775808 ≤ n ∧ n ≤ 9223372036854775807
abbrev U64 (n : Int) : Prop := 0 ≤ n ∧ n < 18446744073709551616

theorem and_ones {b : Int} (hb : I64 b) : Go.bits .and .i64 (-1) b = b := by
  show IntKind.i64.wrap (((BitVec.ofInt 64 (-1) &&& BitVec.ofInt 64 b).toNat : Nat) : Int) = b
  have e : BitVec.ofInt 64 (-1) = BitVec.allOnes 64 := by decide
  rw [e, BitVec.allOnes_and, BitVec.toNat_ofInt]
  simp only [IntKind.wrap, IntKind.bits, IntKind.signed, if_true]
  have := hb.1
  have := hb.2
  simp
  omega
theorem and_none (b : Int) : Go.bits .and .i64 0 b = 0 := by
  show IntKind.i64.wrap (((BitVec.ofInt 64 0 &&& BitVec.ofInt 64 b).toNat : Nat) : Int) = 0
  have e : BitVec.ofInt 64 0 = 0#64 := by decide
  rw [e, BitVec.zero_and]
  decide
theorem and1 {x : Int} (h0 : 0 ≤ x) (h1 : x < 18446744073709551616) : Go.bits .and .u64 x 1 = x % 2 := bits_mask .u64 64 (by decide) wraps_u64 1 (by decide) x h0 h1

theorem mul_bd {a b C D : Int} (ha : -C ≤ a) (ha' : a ≤ C) (hb : -D ≤ b) (hb' : b ≤ D) : -(C * D) ≤ a * b ∧ a * b ≤ C * D := by
  have e : (a * b).natAbs ≤ C.natAbs * D.natAbs := by
    rw [Int.natAbs_mul]
    exact Nat.mul_le_mul (by omega) (by omega)
  have f : C * D = ((C.natAbs * D.natAbs : Nat) : Int) := by
    rw [Int.natCast_mul, Int.natAbs_of_nonneg (by omega), Int.natAbs_of_nonneg (by omega)]
  rw [f]
  omega
theorem mul_i64 {a b : Int} (ha : I64 a) (hb : I64 b) : -85070591730234615865843651857942052864 ≤ a * b ∧ a * b ≤ 85070591730234615865843651857942052864 := by
  have := mul_bd (C := 9223372036854775808) (D := 9223372036854775808) (a := a) (b := b) (by have := ha.1; omega) (by have := ha.2; omega) (by have := hb.1; omega) (by have := hb.2; omega)
  omega

theorem mul {a b : Int} (ha : I64 a) (hb : I64 b) : wide_Mul.f a b = some (a * b / 18446744073709551616, a * b % 18446744073709551616) := by
  have hm := mul_i64 ha hb
  obtain ⟨a0, a1⟩ := ha
  obtain ⟨b0, b1⟩ := hb
  unfold wide_Mul.f
  rw [wu a, wu b, mul64 (by omega) (by omega) (by omega) (by omega)]
  simp only [Option.bind_some]
  by_cases ca : a < 0
  · rw [show a / 9223372036854775808 = -1 by omega, and_ones ⟨b0, b1⟩, show a % 18446744073709551616 = a + 18446744073709551616 by omega]
    by_cases cb : b < 0
    · rw [show b / 9223372036854775808 = -1 by omega, and_ones ⟨a0, a1⟩, show b % 18446744073709551616 = b + 18446744073709551616 by omega]
      have e : (a + 18446744073709551616) * (b + 18446744073709551616) = a * b + a * 18446744073709551616 + b * 18446744073709551616 + 18446744073709551616 * 18446744073709551616 := by grind
      rw [e]
      unfold wrap64
      generalize a * b = m at *
      congr 2 <;> omega
    · rw [show b / 9223372036854775808 = 0 by omega, and_none, show b % 18446744073709551616 = b by omega]
      have e : (a + 18446744073709551616) * b = a * b + b * 18446744073709551616 := by grind
      rw [e]
      unfold wrap64
      generalize a * b = m at *
      congr 2 <;> omega
  · rw [show a / 9223372036854775808 = 0 by omega, and_none, show a % 18446744073709551616 = a by omega]
    by_cases cb : b < 0
    · rw [show b / 9223372036854775808 = -1 by omega, and_ones ⟨a0, a1⟩, show b % 18446744073709551616 = b + 18446744073709551616 by omega]
      have e : a * (b + 18446744073709551616) = a * b + a * 18446744073709551616 := by grind
      rw [e]
      unfold wrap64
      generalize a * b = m at *
      congr 2 <;> omega
    · rw [show b / 9223372036854775808 = 0 by omega, and_none, show b % 18446744073709551616 = b by omega]
      unfold wrap64
      generalize a * b = m at *
      congr 2 <;> omega

theorem turned {hi lo : Int} (h : I64 hi) (l : U64 lo) : ∃ h' l', wide_turned.f hi lo = some (h', l') ∧ I64 h' ∧ U64 l' ∧
    (h' % 18446744073709551616) * 18446744073709551616 + l' = (-(hi * 18446744073709551616 + lo)) % 340282366920938463463374607431768211456 := by
  obtain ⟨h0, h1⟩ := h
  obtain ⟨l0, l1⟩ := l
  unfold wide_turned.f
  rw [if_pos l0, if_pos l1]
  refine ⟨_, _, rfl, ?_, ?_, ?_⟩
  · unfold wrap64
    omega
  · unfold XWalk.d64
    omega
  · unfold wrap64 XWalk.b64 XWalk.d64
    split <;> omega

/-- A quotient, or the error. -/
def mdiv (A b way : Int) : Int × Int :=
  if way < 0 ∨ way ≥ 2 then (0, 2) else if b = 0 then (0, 4) else if -9223372036854775808 ≤ rnd A b way ∧ rnd A b way ≤ 9223372036854775807 then (rnd A b way, 0) else (0, 3)

/-- what is told of a quotient without its sign -/
def toldQ (Q : Int) (less : Bool) : Int × Int := if less = true then (if Q ≤ 9223372036854775808 then (-Q, 0) else (0, 3)) else (if Q < 9223372036854775808 then (Q, 0) else (0, 3))

theorem j3_told {h l rest by_ : Int} {less : Bool} (h0 : 0 ≤ h) (l0 : 0 ≤ l) (l1 : l < 18446744073709551616) (k : Nat) : wide_Div.j3 (k + 2) h l rest by_ less = some (toldQ (h * 18446744073709551616 + l) less) := by
  simp only [wide_Div.j3]
  unfold toldQ
  by_cases c : h > 0
  · rw [if_pos c, if_neg (c := h * 18446744073709551616 + l ≤ _) (by omega), if_neg (c := h * 18446744073709551616 + l < _) (by omega)]
    simp
  · rw [if_neg c, show h * 18446744073709551616 + l = l by omega]
    cases less
    · simp only [wide_Div.j4, Bool.false_eq_true, if_false]
      split
      · rw [w64 (by omega) (by omega)]
      · rfl
    · simp only [wide_Div.j4, if_true]
      by_cases d : l ≤ 9223372036854775808
      · rw [decide_eq_true d, if_pos d]
        simp only [if_true]
        congr 2
        rw [wu]
        unfold wrap64
        omega
      · rw [decide_eq_false d, if_neg d]
        simp

theorem j5_told {h l rest by_ : Int} {less : Bool} (h0 : 0 ≤ h) (l0 : 0 ≤ l) (l1 : l < 18446744073709551616) (k : Nat) : wide_Div.j5 (k + 2) h l rest by_ less = some (toldQ (h * 18446744073709551616 + l) less) := by
  simp only [wide_Div.j5]
  unfold toldQ
  by_cases c : h > 0
  · rw [if_pos c, if_neg (c := h * 18446744073709551616 + l ≤ _) (by omega), if_neg (c := h * 18446744073709551616 + l < _) (by omega)]
    simp
  · rw [if_neg c, show h * 18446744073709551616 + l = l by omega]
    cases less
    · simp only [wide_Div.j6, Bool.false_eq_true, if_false]
      split
      · rw [w64 (by omega) (by omega)]
      · rfl
    · simp only [wide_Div.j6, if_true]
      by_cases d : l ≤ 9223372036854775808
      · rw [decide_eq_true d, if_pos d]
        simp only [if_true]
        congr 2
        rw [wu]
        unfold wrap64
        omega
      · rw [decide_eq_false d, if_neg d]
        simp

theorem near_told {q0 lo rest y : Int} {less : Bool} (r0 : 0 ≤ rest) (r1 : rest < y) (y1 : y < 18446744073709551616) (l0 : 0 ≤ lo) (l1 : lo < 18446744073709551616) :
    wide_quotient_near.f q0 lo rest y less = some (decide (2 * rest > y ∨ 2 * rest = y ∧ lo % 2 = 1)) := by
  unfold wide_quotient_near.f
  by_cases c : rest / 9223372036854775808 = 1
  · rw [if_pos c, decide_eq_true (by omega)]
  · rw [if_neg c, wu_id (n := rest * 2) (by omega) (by omega), and1 l0 l1]
    by_cases d : rest * 2 > y
    · rw [if_pos d, decide_eq_true (by omega)]
    · rw [if_neg d]
      by_cases e : rest * 2 = y
      · rw [if_pos e]
        congr 1
        rw [Bool.eq_iff_iff, beq_iff_eq, decide_eq_true_iff]
        omega
      · rw [if_neg e, decide_eq_false (by omega)]

/-- what is told of the sizes, by the law of sizes and signs -/
theorem told_rnd {A b way X y : Int} (hw : way = 0 ∨ way = 1) (hb : b ≠ 0) (hX : X = if A < 0 then -A else A) (hy : y = if b < 0 then -b else b) :
    toldQ (X / y + if upf way X y (decide (A < 0) != decide (b < 0)) = true then 1 else 0) (decide (A < 0) != decide (b < 0)) = mdiv A b way := by
  have this := rnd_sizes hw hb hX hy
  have hy0 : 0 < y := by subst hy; split <;> omega
  have hX0 : 0 ≤ X := by subst hX; split <;> omega
  have q0 : 0 ≤ X / y := Int.ediv_nonneg hX0 (by omega)
  unfold mdiv
  rw [if_neg (c := way < 0 ∨ way ≥ 2) (by omega), if_neg hb, this]
  generalize upf way X y (decide (A < 0) != decide (b < 0)) = up
  generalize (decide (A < 0) != decide (b < 0)) = less
  have p0 : 0 ≤ X / y + if up = true then (1 : Int) else 0 := by
    split <;> omega
  generalize (X / y + if up = true then (1 : Int) else 0) = Q at *
  unfold toldQ
  cases less
  · simp only [Bool.false_eq_true, if_false]
    by_cases c : Q < 9223372036854775808
    · rw [if_pos c, if_pos (by omega)]
    · rw [if_neg c, if_neg (by omega)]
  · simp only [if_true]
    by_cases c : Q ≤ 9223372036854775808
    · rw [if_pos c, if_pos (by omega)]
    · rw [if_neg c, if_neg (by omega)]

/-- the sum of a word and 1, with what goes over -/
theorem up_one {qh ql : Int} (h0 : 0 ≤ qh) (h1 : qh ≤ 9223372036854775808) (l0 : 0 ≤ ql) (l1 : ql < 18446744073709551616) :
    IntKind.u64.wrap (qh + XWalk.c64 ql 1 0) * 18446744073709551616 + XWalk.s64 ql 1 0 = qh * 18446744073709551616 + ql + 1 ∧ 0 ≤ IntKind.u64.wrap (qh + XWalk.c64 ql 1 0) ∧ 0 ≤ XWalk.s64 ql 1 0 ∧ XWalk.s64 ql 1 0 < 18446744073709551616 := by
  rw [wu]
  unfold XWalk.c64 XWalk.s64
  refine ⟨by omega, by omega, by omega, by omega⟩

theorem div {hi lo b way : Int} (h : I64 hi) (l : U64 lo) (hb : I64 b) {k : Nat} (hk : 30 ≤ k) : wide_Div.f k hi lo b way = some (mdiv (hi * 18446744073709551616 + lo) b way) := by
  obtain ⟨k, rfl⟩ : ∃ m, k = m + 30 := ⟨k - 30, by omega⟩
  unfold wide_Div.f
  by_cases c : way < 0 ∨ way ≥ 2
  · have e : mdiv (hi * 18446744073709551616 + lo) b way = (0, 2) := by unfold mdiv; rw [if_pos c]
    rw [e]
    by_cases c1 : way < 0
    · rw [if_pos c1]
      simp only [wide_Div.j0, if_true]
    · rw [if_neg c1, decide_eq_true (by omega)]
      simp only [wide_Div.j0, if_true]
  rw [if_neg (by omega), decide_eq_false (by omega)]
  simp only [wide_Div.j0, Bool.false_eq_true, if_false]
  by_cases cb : b = 0
  · rw [if_pos cb]
    unfold mdiv
    rw [if_neg c, if_pos cb]
  rw [if_neg cb]
  have hw : way = 0 ∨ way = 1 := by omega
  obtain ⟨h0, h1⟩ := h
  obtain ⟨l0, l1⟩ := l
  obtain ⟨b0, b1⟩ := hb
  have main : ∀ xh xl : Int, U64 xl → I64 xh → (xh % 18446744073709551616) * 18446744073709551616 + xl = (if hi * 18446744073709551616 + lo < 0 then -(hi * 18446744073709551616 + lo) else hi * 18446744073709551616 + lo) →
      wide_Div.j1 (k + 29) b way (IntKind.u64.wrap b) hi lo xh xl = some (mdiv (hi * 18446744073709551616 + lo) b way) := by
    intro xh xl ⟨xl0, xl1⟩ ⟨xh0, xh1⟩ hX
    have j2 : ∀ y : Int, y = (if b < 0 then -b else b) → wide_Div.j2 (k + 28) b way y hi lo xh xl = some (mdiv (hi * 18446744073709551616 + lo) b way) := by
      intro y hy
      have hy0 : 0 < y := by subst hy; split <;> omega
      have hy1 : y ≤ 9223372036854775808 := by subst hy; split <;> omega
      simp only [wide_Div.j2]
      rw [if_neg (by omega), wu xh, td_nn (by omega), tm_nn (by omega)]
      have x0 : 0 ≤ xh % 18446744073709551616 := by omega
      have x1 : xh % 18446744073709551616 ≤ 9223372036854775808 := by
        split at hX <;> omega
      generalize xh % 18446744073709551616 = X1 at *
      have a := Int.mul_ediv_add_emod X1 y
      have a0 := Int.emod_nonneg X1 (show y ≠ 0 by omega)
      have a1 := Int.emod_lt_of_pos X1 hy0
      have q0 : 0 ≤ X1 / y := Int.ediv_nonneg x0 (by omega)
      have q1 : X1 / y ≤ X1 := Int.ediv_le_self _ x0
      rw [div64 a0 a1 xl0 xl1 (by omega) (by omega)]
      simp only [Option.bind_some]
      generalize X1 / y = qh at *
      generalize X1 % y = rest at *
      have m := Int.mul_ediv_add_emod (rest * 18446744073709551616 + xl) y
      have m0 := Int.emod_nonneg (rest * 18446744073709551616 + xl) (show y ≠ 0 by omega)
      have m1 := Int.emod_lt_of_pos (rest * 18446744073709551616 + xl) hy0
      have p0 : 0 ≤ (rest * 18446744073709551616 + xl) / y := Int.ediv_nonneg (by omega) (by omega)
      have p1 : (rest * 18446744073709551616 + xl) / y < 18446744073709551616 := by
        rw [Int.ediv_lt_iff_lt_mul hy0, Int.mul_comm]
        omega
      generalize (rest * 18446744073709551616 + xl) / y = ql at *
      generalize (rest * 18446744073709551616 + xl) % y = rr at *
      have whole := Knuth.quot_uniq (A := X1 * 18446744073709551616 + xl) (b := y) (q := qh * 18446744073709551616 + ql) (r := rr) hy0 (by
        rw [Int.mul_add, ← Int.mul_assoc]
        generalize y * qh = u at *
        generalize y * ql = v at *
        omega) m0 m1
      have T := told_rnd (A := hi * 18446744073709551616 + lo) (b := b) (way := way) (X := X1 * 18446744073709551616 + xl) (y := y) hw cb hX hy
      unfold upf at T
      rw [whole.1, whole.2] at T
      have s : (!(decide (hi < 0) == decide (b < 0))) = (decide (hi * 18446744073709551616 + lo < 0) != decide (b < 0)) := by
        rw [show decide (hi < 0) = decide (hi * 18446744073709551616 + lo < 0) from decide_eq_decide.2 (by omega)]
        rfl
      rw [s, ← T]
      generalize (decide (hi * 18446744073709551616 + lo < 0) != decide (b < 0)) = less
      obtain ⟨u1, u2, u3, u4⟩ := up_one (qh := qh) (ql := ql) q0 (by omega) p0 p1
      rcases hw with rfl | rfl
      · simp only [if_true]
        have F : wide_quotient_floor.f (IntKind.u64.wrap qh) ql rr y less = some (less && decide (rr > 0)) := by
          unfold wide_quotient_floor.f
          cases less <;> simp
        rw [F]
        simp only [Option.bind_some]
        rw [wu_id (n := qh) q0 (by omega)]
        by_cases d : (less && decide (rr > 0)) = true
        · rw [if_pos d, if_pos d, if_pos p0]
          rw [j3_told u2 u3 u4, u1]
          first | done | rfl
        · rw [if_neg d, if_neg d]
          rw [j3_told q0 p0 p1]
          simp
      · simp only [show ((1 : Int) = 0) = False by simp, if_false, if_true]
        rw [near_told m0 m1 (by omega) p0 p1]
        simp only [Option.bind_some]
        rw [wu_id (n := qh) q0 (by omega)]
        have par : (qh * 18446744073709551616 + ql) % 2 = ql % 2 := by omega
        rw [par]
        by_cases d : (decide (2 * rr > y ∨ 2 * rr = y ∧ ql % 2 = 1)) = true
        · rw [if_pos d, if_pos d, if_pos p0]
          rw [j5_told u2 u3 u4, u1]
          first | done | rfl
        · rw [if_neg d, if_neg d]
          rw [j5_told q0 p0 p1]
          simp
    simp only [wide_Div.j1]
    by_cases d : b < 0
    · rw [if_pos d]
      refine j2 _ ?_
      rw [wu, wu, if_pos d]
      omega
    · rw [if_neg d]
      refine j2 _ ?_
      rw [wu, if_neg d]
      omega
  by_cases d : hi < 0
  · rw [if_pos d]
    obtain ⟨h', l', e, i1, i2, i3⟩ := turned ⟨h0, h1⟩ ⟨l0, l1⟩
    rw [e]
    simp only [Option.bind_some]
    refine main h' l' i2 i1 ?_
    rw [i3, if_pos (by omega)]
    omega
  · rw [if_neg d]
    refine main hi lo ⟨l0, l1⟩ ⟨h0, h1⟩ ?_
    rw [if_neg (by omega)]
    omega

theorem mulDiv {a b c way : Int} (ha : I64 a) (hb : I64 b) (hc : I64 c) {k : Nat} (hk : 30 ≤ k) : wide_MulDiv.f k a b c way = some (mdiv (a * b) c way) := by
  unfold wide_MulDiv.f
  rw [mul ha hb]
  have hm := mul_i64 ha hb
  simp only [Option.bind_some]
  rw [div ⟨by omega, by omega⟩ ⟨by omega, by omega⟩ hc hk]
  simp only [Option.bind_some]
  rw [show a * b / 18446744073709551616 * 18446744073709551616 + a * b % 18446744073709551616 = a * b by omega]
end Go.Proofs.Ytalnlphinlfenaa.XWide
end

section
namespace Go.Proofs.Ytalnlphinlfenaa.S
open Go.RowKit Go.Proofs.YtalnlphinlfenaaW.PrintWords Go.Proofs.YtalnlphinlfenaaW.PrintLast Go.Proofs.YtalnlphinlfenaaW.PrintMore
attribute [local go_sem] max2_int min2_int max_two min_two max_three min_three max_four min_four   -- for this text's walks alone
attribute [local go_sem] Go.Proofs.Ytalnlphinlfenaa.XWalk.cell2
set_option linter.unusedVariables false
set_option linter.unusedSimpArgs false

/-! ### money_May: function 54 -/
def money_May.f (a0 : Int) : Option (Bool) := if a0 ≥ (-10000000000000) then (some (decide (a0 ≤ 10000000000000))) else (some false)
end Go.Proofs.Ytalnlphinlfenaa.S
end

section
namespace Go.Proofs.Ytalnlphinlfenaa.XMoney
set_option linter.unusedVariables false
set_option linter.unusedSimpArgs false
open Go.RowKit Go.Proofs.Ytalnlphinlfenaa.S Go.Proofs.Ytalnlphinlfenaa.XNum Go.Proofs.Ytalnlphinlfenaa.XBits Go.Proofs.Ytalnlphinlfenaa.XWide Go.Proofs.YtalnlphinlfenaaW.PrintWords

/-- A number, or that it is too great. -/
def told (n : Int) : Int × Int := if -9223372036854775808 ≤ n ∧ n ≤ 9223372036854775807 then (n, 0) else (0, 3)
theorem told_in {n : Int} (h0 : -9223372036854775808 ≤ n) (h1 : n ≤ 9223372036854775807) : told n = (n, 0) := by unfold told; rw [if_pos ⟨h0, h1⟩]
theorem told_out {n : Int} (h : n < -9223372036854775808 ∨ 9223372036854775807 < n) : told n = (0, 3) := by unfold told; rw [if_neg (by omega)]
theorem told_f (n : Int) (b : Bool) : money_told.f n b = some (if b = true then (n, 0) else (0, 3)) := by
  unfold money_told.f
  cases b <;> simp

theorem add {a b : Int} (ha : I64 a) (hb : I64 b) : money_Add.f a b = some (told (a + b)) := by
  obtain ⟨a0, a1⟩ := ha
  obtain ⟨b0, b1⟩ := hb
  unfold money_Add.f money_sum_int64.f
  by_cases ca : a < 0
  · by_cases cb : b < 0
    · rw [decide_eq_true ca, decide_eq_true cb]
      simp only [beq_self_eq_true, Bool.not_true, Bool.false_eq_true, if_false, Option.bind_some, told_f]
      by_cases c : a + b < -9223372036854775808
      · rw [told_out (.inl c), decide_eq_false (by unfold wrap64; omega)]
        simp
      · rw [told_in (by omega) (by omega), w64 (by omega) (by omega), decide_eq_true (by omega)]
        simp
    · rw [decide_eq_true ca, decide_eq_false cb, told_in (by omega) (by omega), w64 (by omega) (by omega)]
      simp [told_f]
  · by_cases cb : b < 0
    · rw [decide_eq_false ca, decide_eq_true cb, told_in (by omega) (by omega), w64 (by omega) (by omega)]
      simp [told_f]
    · rw [decide_eq_false ca, decide_eq_false cb]
      simp only [beq_self_eq_true, Bool.not_true, Bool.false_eq_true, if_false, Option.bind_some, told_f]
      by_cases c : a + b > 9223372036854775807
      · rw [told_out (.inr c), decide_eq_true (by unfold wrap64; omega)]
        simp
      · rw [told_in (by omega) (by omega), w64 (by omega) (by omega), decide_eq_false (by omega)]
        simp

theorem sub {a b : Int} (ha : I64 a) (hb : I64 b) : money_Sub.f a b = some (told (a - b)) := by
  obtain ⟨a0, a1⟩ := ha
  obtain ⟨b0, b1⟩ := hb
  unfold money_Sub.f
  by_cases ca : a < 0
  · by_cases cb : b < 0
    · rw [decide_eq_true ca, decide_eq_true cb, told_in (by omega) (by omega), w64 (by omega) (by omega)]
      simp [told_f]
    · rw [decide_eq_true ca, decide_eq_false cb]
      simp only [beq_false, Bool.not_true, Bool.false_eq_true, if_false, Option.bind_some, told_f]
      by_cases c : a - b < -9223372036854775808
      · rw [told_out (.inl c), decide_eq_false (by unfold wrap64; omega)]
        simp
      · rw [told_in (by omega) (by omega), w64 (by omega) (by omega), decide_eq_true (by omega)]
        simp
  · by_cases cb : b < 0
    · rw [decide_eq_false ca, decide_eq_true cb]
      simp only [beq_true, Bool.false_eq_true, if_false, Option.bind_some, told_f]
      by_cases c : a - b > 9223372036854775807
      · rw [told_out (.inr c), decide_eq_true (by unfold wrap64; omega)]
        simp
      · rw [told_in (by omega) (by omega), w64 (by omega) (by omega), decide_eq_false (by omega)]
        simp
    · rw [decide_eq_false ca, decide_eq_false cb, told_in (by omega) (by omega), w64 (by omega) (by omega)]
      simp [told_f]

theorem ref_add {a b : Int} (ha : I64 a) (hb : I64 b) : lombardref01_Add.f a b = some (told (a + b)) := by
  obtain ⟨a0, a1⟩ := ha
  obtain ⟨b0, b1⟩ := hb
  unfold lombardref01_Add.f
  by_cases c : b > 0
  · rw [if_pos c, w64 (n := 9223372036854775807 - b) (by omega) (by omega)]
    by_cases d : a > 9223372036854775807 - b
    · rw [if_pos d, told_out (by omega)]
    · rw [if_neg d, if_neg (by omega), told_in (by omega) (by omega), w64 (by omega) (by omega)]
  · rw [if_neg c]
    by_cases d : b < 0
    · rw [if_pos d, w64 (n := -9223372036854775808 - b) (by omega) (by omega)]
      by_cases e : a < -9223372036854775808 - b
      · rw [if_pos e, told_out (by omega)]
      · rw [if_neg e, told_in (by omega) (by omega), w64 (by omega) (by omega)]
    · rw [if_neg d, told_in (by omega) (by omega), w64 (by omega) (by omega)]

theorem ref_sub {a b : Int} (ha : I64 a) (hb : I64 b) : lombardref01_Sub.f a b = some (told (a - b)) := by
  obtain ⟨a0, a1⟩ := ha
  obtain ⟨b0, b1⟩ := hb
  unfold lombardref01_Sub.f
  by_cases c : b < 0
  · rw [if_pos c, w64 (n := 9223372036854775807 + b) (by omega) (by omega)]
    by_cases d : a > 9223372036854775807 + b
    · rw [if_pos d, told_out (by omega)]
    · rw [if_neg d, if_neg (by omega), told_in (by omega) (by omega), w64 (by omega) (by omega)]
  · rw [if_neg c]
    by_cases d : b > 0
    · rw [if_pos d, w64 (n := -9223372036854775808 + b) (by omega) (by omega)]
      by_cases e : a < -9223372036854775808 + b
      · rw [if_pos e, told_out (by omega)]
      · rw [if_neg e, told_in (by omega) (by omega), w64 (by omega) (by omega)]
    · rw [if_neg d, told_in (by omega) (by omega), w64 (by omega) (by omega)]

theorem may (n : Int) : money_May.f n = some (decide (-10000000000000 ≤ n ∧ n ≤ 10000000000000)) := by
  unfold money_May.f
  split
  · congr 1
    rw [decide_eq_decide]
    omega
  · rw [decide_eq_false (by omega)]
end Go.Proofs.Ytalnlphinlfenaa.XMoney
end

section
namespace Go.Proofs.Ytalnlphinlfenaa.XMdiv
set_option linter.unusedVariables false
set_option linter.unusedSimpArgs false
open Go.RowKit Go.Proofs.Ytalnlphinlfenaa.S Go.Proofs.Ytalnlphinlfenaa.XNum Go.Proofs.Ytalnlphinlfenaa.XBits Go.Proofs.Ytalnlphinlfenaa.XWide Go.Proofs.Ytalnlphinlfenaa.Rnd Go.Proofs.YtalnlphinlfenaaW.PrintWords

theorem mdiv_i64 (A b way : Int) : I64 (mdiv A b way).1 := by
  unfold mdiv
  split
  · exact ⟨by decide, by decide⟩
  · split
    · exact ⟨by decide, by decide⟩
    · split
      · assumption
      · exact ⟨by decide, by decide⟩
end Go.Proofs.Ytalnlphinlfenaa.XMdiv
end

section
namespace Go.Proofs.Ytalnlphinlfenaa.S
open Go.RowKit Go.Proofs.YtalnlphinlfenaaW.PrintWords Go.Proofs.YtalnlphinlfenaaW.PrintLast Go.Proofs.YtalnlphinlfenaaW.PrintMore
attribute [local go_sem] max2_int min2_int max_two min_two max_three min_three max_four min_four   -- for this text's walks alone
attribute [local go_sem] Go.Proofs.Ytalnlphinlfenaa.XWalk.cell2
set_option linter.unusedVariables false
set_option linter.unusedSimpArgs false

/-! ### rate_back_terms: function 99 -/
def rate_back_terms.f (a0 : Int) : Option (Int × Int) := some (1000000000000, wrap64 (1000000000000 + a0))
end Go.Proofs.Ytalnlphinlfenaa.S
end

section
namespace Go.Proofs.Ytalnlphinlfenaa.S
open Go.RowKit Go.Proofs.YtalnlphinlfenaaW.PrintWords Go.Proofs.YtalnlphinlfenaaW.PrintLast Go.Proofs.YtalnlphinlfenaaW.PrintMore
attribute [local go_sem] max2_int min2_int max_two min_two max_three min_three max_four min_four   -- for this text's walks alone
attribute [local go_sem] Go.Proofs.Ytalnlphinlfenaa.XWalk.cell2
set_option linter.unusedVariables false
set_option linter.unusedSimpArgs false

/-! ### rate_over_rate_back: function 40 -/
def rate_over_rate_back.f (k : Nat) (a0 : Int) (a1 : Int) : Option (Int × Int) := (rate_May.f a1).bind fun t290 => (if t290 = true then ((rate_back_terms.f a1).bind fun bt291 => ((wide_MulDiv.f k a0 bt291.1 bt291.2 1).bind fun bt293 => (some (bt293.1, bt293.2)))) else (some (0, 2)))
end Go.Proofs.Ytalnlphinlfenaa.S
end

section
namespace Go.Proofs.Ytalnlphinlfenaa.S
open Go.RowKit Go.Proofs.YtalnlphinlfenaaW.PrintWords Go.Proofs.YtalnlphinlfenaaW.PrintLast Go.Proofs.YtalnlphinlfenaaW.PrintMore
attribute [local go_sem] max2_int min2_int max_two min_two max_three min_three max_four min_four   -- for this text's walks alone
attribute [local go_sem] Go.Proofs.Ytalnlphinlfenaa.XWalk.cell2
set_option linter.unusedVariables false
set_option linter.unusedSimpArgs false

/-! ### rate_Discount: function 19 -/
def rate_Discount.f (k : Nat) (a0 : Int) (a1 : Int) : Option (Int × Int) := (rate_over_rate_back.f k a0 a1).bind fun bt295 => (some (bt295.1, bt295.2))
end Go.Proofs.Ytalnlphinlfenaa.S
end

section
namespace Go.Proofs.Ytalnlphinlfenaa.XRate
set_option linter.unusedVariables false
set_option linter.unusedSimpArgs false
open Go.RowKit Go.Proofs.Ytalnlphinlfenaa.S Go.Proofs.Ytalnlphinlfenaa.XNum Go.Proofs.Ytalnlphinlfenaa.XBits Go.Proofs.Ytalnlphinlfenaa.XWide Go.Proofs.Ytalnlphinlfenaa.Rnd Go.Proofs.Ytalnlphinlfenaa.XMdiv Go.Proofs.YtalnlphinlfenaaW.PrintWords

/-- may a rate be? -/
def mayR (r : Int) : Prop := -990000000000 ≤ r ∧ r ≤ 10000000000000
instance (r : Int) : Decidable (mayR r) := inferInstanceAs (Decidable (_ ∧ _))
theorem may (r : Int) : rate_May.f r = some (decide (mayR r)) := by
  unfold rate_May.f
  by_cases c : mayR r
  · rw [decide_eq_true c]
    unfold mayR at c
    rw [if_pos (by omega), decide_eq_true (by omega)]
  · rw [decide_eq_false c]
    unfold mayR at c
    by_cases d : r ≥ -990000000000
    · rw [if_pos d, decide_eq_false (by omega)]
    · rw [if_neg d]

def interest (x r : Int) : Int × Int := if mayR r then mdiv (x * r) 1000000000000 1 else (0, 2)
def grow (x r : Int) : Int × Int := if mayR r then mdiv (x * (1000000000000 + r)) 1000000000000 1 else (0, 2)
def discount (x r : Int) : Int × Int := if mayR r then mdiv (x * 1000000000000) (1000000000000 + r) 1 else (0, 2)

theorem interest_f {x r : Int} (hx : I64 x) {k : Nat} (hk : 30 ≤ k) : rate_Interest.f k x r = some (interest x r) := by
  unfold rate_Interest.f rate_over_rate_yield.f rate_yield_terms.f
  rw [may]
  simp only [Option.bind_some]
  unfold interest
  by_cases c : mayR r
  · rw [decide_eq_true c, if_pos c]
    simp only [if_true]
    unfold mayR at c
    rw [mulDiv hx ⟨by omega, by omega⟩ ⟨by omega, by omega⟩ hk]
    simp only [Option.bind_some]
  · rw [decide_eq_false c, if_neg c]
    simp
theorem interest_i64 (x r : Int) : I64 (interest x r).1 := by
  unfold interest
  split
  · exact mdiv_i64 _ _ _
  · exact ⟨by omega, by omega⟩

/-- a part of a rate -/
def part (r o all : Int) : Int × Int := if o < 0 ∨ all ≤ 0 then (0, 2) else mdiv (r * o) all 1
/-- what an amount grows to in n periods, or the first error -/
def powers (r : Int) : Nat → Int × Int
  | 0 => (1000000000000, 0)
  | n + 1 => if (powers r n).2 = 0 then grow (powers r n).1 r else powers r n
def power (r n : Int) : Int × Int := if mayR r ∧ 0 ≤ n ∧ n ≤ 600 then powers r n.toNat else (0, 2)
end Go.Proofs.Ytalnlphinlfenaa.XRate
end

section
namespace Go.Proofs.Ytalnlphinlfenaa.XRef02
set_option linter.unusedVariables false
set_option linter.unusedSimpArgs false
open Go.RowKit Go.Proofs.Ytalnlphinlfenaa.S Go.Proofs.Ytalnlphinlfenaa.XNum Go.Proofs.Ytalnlphinlfenaa.XWide Go.Proofs.Ytalnlphinlfenaa.Rnd Go.Proofs.YtalnlphinlfenaaW.PrintWords

theorem up_eq (way : Int) (L : Bool) (N D : Nat) : lombardref02_div.up way L N D = upf way N D L := by
  have e1 : ((N % D : Nat) : Int) = (N : Int) % D := Int.natCast_emod N D
  have e2 : ((N / D : Nat) : Int) = (N : Int) / D := Int.natCast_ediv N D
  unfold lombardref02_div.up upf
  rw [← e1, ← e2]
  by_cases c : way = 0
  · rw [if_pos c, if_pos c]
    congr 1
    exact decide_eq_decide.2 (by omega)
  · rw [if_neg c, if_neg c, Bool.eq_iff_iff]
    simp only [Bool.or_eq_true, Bool.and_eq_true, decide_eq_true_iff]
    omega
theorem Q_eq (way : Int) (L : Bool) (N D : Nat) : ((lombardref02_div.Q way L N D : Nat) : Int) = (N : Int) / D + if upf way N D L = true then 1 else 0 := by
  have e2 : ((N / D : Nat) : Int) = (N : Int) / D := Int.natCast_ediv N D
  unfold lombardref02_div.Q
  rw [up_eq, ← e2]
  split <;> omega
theorem told (way : Int) (L : Bool) (N D : Nat) : (lombardref02_div.r way L N D, lombardref02_div.e way L N D) = toldQ ((lombardref02_div.Q way L N D : Nat) : Int) L := by
  have e : (2 : Nat) ^ 63 = 9223372036854775808 := by decide
  unfold lombardref02_div.r lombardref02_div.e lombardref02_small.v lombardref02_small.ok toldQ
  rw [e]
  generalize lombardref02_div.Q way L N D = Q
  cases L
  · by_cases c : Q < 9223372036854775808
    · have z : ¬(9223372036854775808 < Q ∨ Q = 9223372036854775808 ∧ false = false) := by
        intro h
        rcases h with h | h <;> omega
      rw [if_neg z, if_neg z, if_pos rfl, if_pos rfl, if_neg (by simp), if_neg (by simp), if_pos (by omega)]
    · have z : 9223372036854775808 < Q ∨ Q = 9223372036854775808 ∧ false = false := by
        by_cases d : Q = 9223372036854775808
        · exact .inr ⟨d, rfl⟩
        · exact .inl (by omega)
      rw [if_pos z, if_neg (by simp), if_neg (by simp), if_neg (by simp), if_neg (by omega)]
  · by_cases c : Q ≤ 9223372036854775808
    · have z : ¬(9223372036854775808 < Q ∨ Q = 9223372036854775808 ∧ true = false) := by
        intro h
        rcases h with h | h
        · omega
        · exact absurd h.2 (by simp)
      rw [if_neg z, if_neg z, if_pos rfl, if_pos rfl, if_pos rfl, if_pos rfl, if_pos (by omega)]
    · have z : 9223372036854775808 < Q ∨ Q = 9223372036854775808 ∧ true = false := .inl (by omega)
      rw [if_pos z, if_neg (by simp), if_neg (by simp), if_pos rfl, if_neg (by omega)]
theorem zero {way y : Int} (hy : 0 < y) (L : Bool) : toldQ (0 / y + if upf way 0 y L = true then 1 else 0) L = (0, 0) := by
  have u : upf way 0 y L = false := by
    unfold upf
    rw [Int.zero_emod, Int.zero_ediv]
    split
    · simp
    · exact decide_eq_false (by omega)
  rw [u, Int.zero_ediv]
  unfold toldQ
  cases L <;> simp
theorem v_eq {less : Bool} {N : Nat} {b way : Int} : lombardref02_div.v less N b way = mdiv (if less = true then -(N : Int) else N) b way := by
  unfold lombardref02_div.v
  by_cases c : way ≠ 0 ∧ way ≠ 1
  · rw [if_pos c]
    unfold mdiv
    rw [if_pos (by omega)]
  · rw [if_neg c]
    by_cases z : b = 0
    · rw [if_pos z]
      unfold mdiv
      rw [if_neg (by omega), if_pos z]
    · rw [if_neg z, told, Q_eq]
      have hw : way = 0 ∨ way = 1 := by omega
      have hy : ((b.natAbs : Nat) : Int) = if b < 0 then -b else b := by split <;> omega
      have y0 : (0 : Int) < (b.natAbs : Nat) := by omega
      by_cases n0 : N = 0
      · subst n0
        have t := told_rnd (A := 0) (b := b) (way := way) (X := 0) (y := (b.natAbs : Nat)) hw z (by simp) hy
        rw [zero y0] at t
        have w : (if less = true then -((0 : Nat) : Int) else ((0 : Nat) : Int)) = 0 := by split <;> rfl
        rw [w, ← t]
        exact zero y0 _
      · have A0 : decide ((if less = true then -(N : Int) else (N : Int)) < 0) = less := by
          cases less
          · rw [if_neg (by simp)]
            exact decide_eq_false (by omega)
          · rw [if_pos rfl]
            exact decide_eq_true (by omega)
        have t := told_rnd (A := if less = true then -(N : Int) else (N : Int)) (b := b) (way := way) (X := N) (y := (b.natAbs : Nat)) hw z (by
          cases less
          · rw [if_neg (c := false = true) (by simp), if_neg (by omega)]
          · rw [if_pos (c := true = true) rfl, if_pos (by omega), Int.neg_neg]) hy
        rw [A0] at t
        exact t
theorem mulDiv {a b c way : Int} (ha : I64 a) (hb : I64 b) (hc : I64 c) : lombardref02_MulDiv.f a b c way = some (mdiv (a * b) c way) := by
  unfold lombardref02_MulDiv.f
  rw [if_pos ⟨ha.1, ha.2, hb.1, hb.2, hc.1, hc.2⟩, v_eq]
  congr 2
  have h1 : ((a.natAbs : Nat) : Int) = if a < 0 then -a else a := by split <;> omega
  have h2 : ((b.natAbs : Nat) : Int) = if b < 0 then -b else b := by split <;> omega
  rw [Int.natCast_mul, h1, h2]
  by_cases x : a < 0 <;> by_cases y : b < 0 <;> simp [x, y, Int.neg_mul, Int.mul_neg]
end Go.Proofs.Ytalnlphinlfenaa.XRef02
end

section
namespace Go.Proofs.Ytalnlphinlfenaa.XRefRate
set_option linter.unusedVariables false
set_option linter.unusedSimpArgs false
open Go.RowKit Go.Proofs.Ytalnlphinlfenaa.S Go.Proofs.Ytalnlphinlfenaa.XNum Go.Proofs.Ytalnlphinlfenaa.XBits Go.Proofs.Ytalnlphinlfenaa.XWide Go.Proofs.Ytalnlphinlfenaa.Rnd Go.Proofs.Ytalnlphinlfenaa.XMdiv Go.Proofs.Ytalnlphinlfenaa.XRate Go.Proofs.YtalnlphinlfenaaW.PrintWords

theorem rmay (r : Int) : lombardref03_May.f r = some (decide (mayR r)) := by
  have h := may r
  unfold rate_May.f at h
  unfold lombardref03_May.f
  exact h
theorem near_f {r a b c : Int} (ha : I64 a) (hb : mayR r → I64 b) (hc : mayR r → I64 c) : lombardref03_near.f r a b c = some (if mayR r then mdiv (a * b) c 1 else (0, 2)) := by
  unfold lombardref03_near.f
  rw [rmay]
  simp only [Option.bind_some]
  by_cases d : mayR r
  · rw [decide_eq_true d, if_pos rfl, if_pos d, XRef02.mulDiv ha (hb d) (hc d)]
    rfl
  · rw [decide_eq_false d, if_neg (by simp), if_neg d]
theorem rinterest {x r : Int} (hx : I64 x) : lombardref03_Interest.f x r = some (interest x r) := by
  unfold lombardref03_Interest.f
  rw [near_f hx (fun h => ⟨by unfold mayR at h; omega, by unfold mayR at h; omega⟩) (fun _ => ⟨by omega, by omega⟩)]
  rfl
end Go.Proofs.Ytalnlphinlfenaa.XRefRate
end

section
namespace Go.Proofs.Ytalnlphinlfenaa.XTable
set_option linter.unusedVariables false
set_option linter.unusedSimpArgs false
open Go.RowKit Go.Proofs.Ytalnlphinlfenaa.S Go.Proofs.Ytalnlphinlfenaa.XNum Go.Proofs.Ytalnlphinlfenaa.XWide Go.Proofs.Ytalnlphinlfenaa.Rnd Go.Proofs.Ytalnlphinlfenaa.XMdiv Go.Proofs.Ytalnlphinlfenaa.XRate Go.Proofs.Ytalnlphinlfenaa.XMoney Go.Proofs.YtalnlphinlfenaaW.PrintWords Go.Proofs.YtalnlphinlfenaaW.PrintLast Go.Proofs.YtalnlphinlfenaaW.PrintMore

abbrev Big (n : Int) : Prop := -4611686018427387904 ≤ n ∧ n ≤ 4611686018427387904
abbrev okc (o i p : Int) : Prop := I64 (o + i) ∧ Big (o + i - p)
theorem within64 (n lo hi : Int) : table_within_int64.f n lo hi = some (decide (lo ≤ n ∧ n ≤ hi)) := by
  unfold table_within_int64.f
  by_cases c : n ≥ lo
  · rw [if_pos c]
    simp [show lo ≤ n from c]
  · rw [if_neg c]
    simp [show ¬ lo ≤ n from c]
theorem withinI (n lo hi : Int) : table_within_int.f n lo hi = some (decide (lo ≤ n ∧ n ≤ hi)) := by
  unfold table_within_int.f
  by_cases c : n ≥ lo
  · rw [if_pos c]
    simp [show lo ≤ n from c]
  · rw [if_neg c]
    simp [show ¬ lo ≤ n from c]
theorem told_pos {n : Int} (h : I64 n) : told n = (n, 0) := told_in h.1 h.2
theorem told_no {n : Int} (h : ¬ I64 n) : told n = (0, 3) := by unfold told; rw [if_neg h]
/-- what a row closes with -/
theorem close_ok {o i p : Int} (ho : I64 o) (hi : I64 i) (hp : I64 p) (h : okc o i p) : table_Row_close.f o i p 0 = some (o + i - p, 0) := by
  unfold table_Row_close.f
  rw [add ho hi, told_pos h.1]
  simp only [Option.bind_some, if_true]
  rw [sub h.1 hp, told_pos (by have := h.2; constructor <;> omega)]
  simp only [Option.bind_some, if_true]
  rw [within64, decide_eq_true h.2]
  rfl
theorem close_no {o i p : Int} (ho : I64 o) (hi : I64 i) (hp : I64 p) (h : ¬ okc o i p) : ∃ v, table_Row_close.f o i p 0 = some (v, 3) := by
  unfold table_Row_close.f
  rw [add ho hi]
  by_cases c : I64 (o + i)
  · rw [told_pos c]
    simp only [Option.bind_some, if_true]
    rw [sub c hp]
    by_cases d : I64 (o + i - p)
    · rw [told_pos d]
      simp only [Option.bind_some, if_true]
      rw [within64, decide_eq_false (fun q => h ⟨c, q⟩)]
      exact ⟨_, rfl⟩
    · rw [told_no d]
      exact ⟨_, rfl⟩
  · rw [told_no c]
    exact ⟨_, rfl⟩
/-- A loan's way from what is open: its rows, or none and the error. -/
def roll (r : Int) : Int → List Int → List S37 × Int
  | _, [] => ([], 0)
  | o, x :: xs =>
    if xs = [] then ([⟨o, x - o, x, 0⟩], 0) else if (interest o r).2 = 0 then
      (if okc o (interest o r).1 x then (if (roll r (o + (interest o r).1 - x) xs).2 = 0 then (⟨o, (interest o r).1, x, o + (interest o r).1 - x⟩ :: (roll r (o + (interest o r).1 - x) xs).1, 0) else ([], (roll r (o + (interest o r).1 - x) xs).2)) else ([], 3))
    else ([], (interest o r).2)
theorem roll_err (r : Int) : ∀ (l : List Int) (o : Int), (roll r o l).2 ≠ 0 → (roll r o l).1 = [] := by
  intro l
  cases l with
  | nil => intro o h; exact absurd rfl h
  | cons x xs =>
    intro o h
    unfold roll at h ⊢
    split at h
    · exact absurd rfl h
    · rename_i c0
      rw [if_neg c0]
      split at h
      · rename_i c1
        rw [if_pos c1]
        split at h
        · rename_i c2
          rw [if_pos c2]
          split at h
          · exact absurd rfl h
          · rename_i c3
            rw [if_neg c3]
        · rename_i c2
          rw [if_neg c2]
      · rename_i c1
        rw [if_neg c1]
abbrev Amt (x : Int) : Prop := 0 ≤ x ∧ x ≤ 10000000000000
theorem rd_drop {l : List Int} {i : Nat} {x : Int} {xs : List Int} (h : l.drop i = x :: xs) : i < l.length ∧ rd l (i : Int) = x ∧ l.drop (i + 1) = xs := by
  have hi : i < l.length := by
    rcases Nat.lt_or_ge i l.length with c | c
    · exact c
    · rw [List.drop_eq_nil_of_le c] at h
      cases h
  rw [List.drop_eq_getElem_cons hi] at h
  have h1 := (List.cons.inj h).1
  have h2 := (List.cons.inj h).2
  refine ⟨hi, ?_, h2⟩
  rw [← h1]
  unfold rd
  simp [hi]

theorem scan_l0 {l : List Int} {r : Int} (hl : ∀ x ∈ l, Amt x) (hn : l.length ≤ 700) : ∀ (xs : List Int) (i : Nat) (acc : List S37) (o a b c : Int) (k : Nat), l.drop i = xs → acc.length ≤ i → Big o → xs.length + 40 ≤ k →
    table_scan_int64_table_Row__table_Roll_1.l0 k acc l l.length i l r a b c o = some (if (roll r o xs).2 = 0 then (acc ++ (roll r o xs).1, 0) else ([], (roll r o xs).2)) := by
  intro xs
  induction xs with
  | nil =>
    intro i acc o a b c k hd _ _ hk
    obtain ⟨k, rfl⟩ : ∃ m, k = m + 1 := ⟨k - 1, by omega⟩
    have hi : l.length ≤ i := List.drop_eq_nil_iff.mp hd
    simp only [table_scan_int64_table_Row__table_Roll_1.l0]
    rw [if_neg (by omega)]
    simp [roll]
  | cons x xs ih =>
    intro i acc o a b c k hd ha ho hk
    obtain ⟨k, rfl⟩ : ∃ m, k = m + 1 := ⟨k - 1, by omega⟩
    obtain ⟨hi, hx, hd'⟩ := rd_drop hd
    have hxl : x ∈ l := by
      have : x ∈ l.drop i := by rw [hd]; exact List.mem_cons_self ..
      exact List.mem_of_mem_drop this
    have hxa := hl x hxl
    have io : I64 o := by constructor <;> omega
    have ix : I64 x := by constructor <;> omega
    have ln : xs = [] ↔ i = l.length - 1 := by
      rw [← hd', List.drop_eq_nil_iff]
      omega
    simp only [table_scan_int64_table_Row__table_Roll_1.l0, table_Roll_1.f]
    rw [if_pos (by omega), if_pos (by omega), if_pos (by omega), hx, w64 (n := (l.length : Int) - 1) (by omega) (by omega), w64 (n := (i : Int) + 1) (by omega) (by omega)]
    unfold roll
    by_cases c0 : xs = []
    · have e := ln.mp c0
      rw [if_pos (by omega), if_pos c0]
      simp only [Option.bind_some, if_true]
      rw [if_pos (by omega), w64 (n := x - o) (by omega) (by omega), show (i : Int) + 1 = ((i + 1 : Nat) : Int) by omega, ih (i + 1) _ _ _ _ _ k hd' (by simp; omega) (by constructor <;> omega) (by simp at hk; omega)]
      subst c0
      simp [roll]
    · have e : ¬ i = l.length - 1 := fun h => c0 (ln.mpr h)
      rw [if_neg (by omega), if_neg c0, interest_f io (by omega)]
      simp only [Option.bind_some]
      by_cases c1 : (interest o r).2 = 0
      · rw [if_pos c1, if_pos c1]
        have ii := interest_i64 o r
        by_cases c2 : okc o (interest o r).1 x
        · rw [close_ok io ii ix c2, if_pos c2]
          simp only [Option.bind_some, if_true]
          rw [if_pos (by omega), show (i : Int) + 1 = ((i + 1 : Nat) : Int) by omega, ih (i + 1) _ _ _ _ _ k hd' (by simp; omega) c2.2 (by simp at hk; omega)]
          by_cases c3 : (roll r (o + (interest o r).1 - x) xs).2 = 0
          · rw [if_pos c3, if_pos c3]
            simp
          · rw [if_neg c3, if_neg c3, if_neg c3]
        · obtain ⟨v, hv⟩ := close_no io ii ix c2
          rw [hv, if_neg c2]
          rfl
      · rw [if_neg c1, if_neg c1]
        simp only [Option.bind_some]
        rw [if_neg c1, if_neg c1]

theorem check_l0 {o r : Int} {l : List Int} (hn : l.length ≤ 700) : ∀ (xs : List Int) (i : Nat) (k : Nat), l.drop i = xs → xs.length + 1 ≤ k →
    table_Roll.l0 k o l l.length i l r = if ∀ x ∈ xs, Amt x then (table_scan_int64_table_Row__table_Roll_1.f (k - xs.length - 1) l 0 0 0 o l r).bind fun b => some (b.1, b.2) else some ([], 2) := by
  intro xs
  induction xs with
  | nil =>
    intro i k hd hk
    obtain ⟨k, rfl⟩ : ∃ m, k = m + 1 := ⟨k - 1, by omega⟩
    have hi : l.length ≤ i := List.drop_eq_nil_iff.mp hd
    simp only [table_Roll.l0]
    rw [if_neg (by omega), if_pos (by simp)]
    rfl
  | cons x xs ih =>
    intro i k hd hk
    obtain ⟨k, rfl⟩ : ∃ m, k = m + 1 := ⟨k - 1, by omega⟩
    obtain ⟨hi, hx, hd'⟩ := rd_drop hd
    simp only [table_Roll.l0]
    rw [if_pos (by omega), if_pos (by omega), if_pos (by omega), hx, within64, Option.bind_some, w64 (n := (i : Int) + 1) (by omega) (by omega)]
    by_cases c : Amt x
    · rw [decide_eq_true c, if_pos rfl, show (i : Int) + 1 = ((i + 1 : Nat) : Int) by omega, ih (i + 1) k hd' (by simp at hk; omega)]
      by_cases d : ∀ y ∈ xs, Amt y
      · rw [if_pos d, if_pos (List.forall_mem_cons.mpr ⟨c, d⟩)]
        rw [show k + 1 - (x :: xs).length - 1 = k - xs.length - 1 by simp]
      · rw [if_neg d, if_neg (fun h => d (List.forall_mem_cons.mp h).2)]
    · rw [decide_eq_false c, if_neg (by simp), if_neg (fun h => c (h x (List.mem_cons_self ..)))]

def valid (o : Int) (l : List Int) (r : Int) : Prop := (1 ≤ l.length ∧ l.length ≤ 600) ∧ (1 ≤ o ∧ o ≤ 10000000000000) ∧ mayR r ∧ ∀ x ∈ l, Amt x
instance (o : Int) (l : List Int) (r : Int) : Decidable (valid o l r) := inferInstanceAs (Decidable (_ ∧ _ ∧ _ ∧ _))
def tab (o : Int) (l : List Int) (r : Int) : List S37 × Int := if valid o l r then roll r o l else ([], 2)
theorem roll_f {o r : Int} {l : List Int} (hn : l.length ≤ 700) {k : Nat} (hk : 2 * l.length + 100 ≤ k) : table_Roll.f k o l r = some (tab o l r) := by
  unfold table_Roll.f tab
  rw [withinI, Option.bind_some]
  obtain ⟨k, rfl⟩ : ∃ m, k = m + 1 := ⟨k - 1, by omega⟩
  by_cases c1 : 1 ≤ l.length ∧ l.length ≤ 600
  · rw [decide_eq_true (by omega), if_pos rfl, within64, Option.bind_some]
    by_cases c2 : 1 ≤ o ∧ o ≤ 10000000000000
    · rw [decide_eq_true c2, if_pos rfl, XRate.may, Option.bind_some]
      by_cases c3 : mayR r
      · rw [decide_eq_true c3]
        simp only [Bool.not_true, table_Roll.j0, Bool.false_eq_true, if_false]
        rw [show (0 : Int) = ((0 : Nat) : Int) from rfl, check_l0 hn l 0 k rfl (by omega)]
        by_cases c4 : ∀ x ∈ l, Amt x
        · rw [if_pos c4, if_pos ⟨c1, c2, c3, c4⟩]
          unfold table_scan_int64_table_Row__table_Roll_1.f
          rw [show (0 : Int) = ((0 : Nat) : Int) from rfl, scan_l0 c4 hn l 0 [] o _ _ _ _ rfl (by simp) (by constructor <;> omega) (by omega), Option.bind_some]
          by_cases c5 : (roll r o l).2 = 0
          · rw [if_pos c5, List.nil_append, ← c5]
          · rw [if_neg c5]
            show some (([] : List S37), (roll r o l).2) = _
            rw [← roll_err r l o c5]
        · rw [if_neg c4, if_neg (fun h => c4 h.2.2.2)]
      · rw [decide_eq_false c3, if_neg (fun h => c3 h.2.2.1)]
        rfl
    · rw [decide_eq_false c2, if_neg (by simp), if_neg (fun h => c2 h.2.1)]
      rfl
  · rw [decide_eq_false (by omega), if_neg (by simp), if_neg (fun h => c1 h.1)]
    rfl

-- ------------------------------------------------ the document's
def conv (x : S37) : S59 := ⟨x.f0, x.f1, x.f2, x.f3⟩
theorem ref_l0 {o r : Int} {l : List Int} (hn : l.length ≤ 700) : ∀ (xs : List Int) (i : Nat) (k : Nat), l.drop i = xs → xs.length + 1 ≤ k →
    lombardref11_Roll.l0 k o l r l l.length i = if ∀ x ∈ xs, Amt x then lombardref11_Roll.l1 (k - xs.length - 1) l r [] o l l.length 0 else some ([], 2) := by
  intro xs
  induction xs with
  | nil =>
    intro i k hd hk
    obtain ⟨k, rfl⟩ : ∃ m, k = m + 1 := ⟨k - 1, by omega⟩
    have hi : l.length ≤ i := List.drop_eq_nil_iff.mp hd
    simp only [lombardref11_Roll.l0]
    rw [if_neg (by omega), if_pos (by simp)]
    rfl
  | cons x xs ih =>
    intro i k hd hk
    obtain ⟨k, rfl⟩ : ∃ m, k = m + 1 := ⟨k - 1, by omega⟩
    obtain ⟨hi, hx, hd'⟩ := rd_drop hd
    simp only [lombardref11_Roll.l0]
    rw [if_pos (by omega), if_pos (by omega), if_pos (by omega), hx, w64 (n := (i : Int) + 1) (by omega) (by omega)]
    by_cases c0 : x < 0
    · rw [if_pos c0, if_neg (fun h => by have := (h x (List.mem_cons_self ..)).1; omega)]
    · rw [if_neg c0]
      by_cases c1 : x > 10000000000000
      · rw [if_pos c1, if_neg (fun h => by have := (h x (List.mem_cons_self ..)).2; omega)]
      · rw [if_neg c1, show (i : Int) + 1 = ((i + 1 : Nat) : Int) by omega, ih (i + 1) k hd' (by simp at hk; omega)]
        by_cases d : ∀ y ∈ xs, Amt y
        · rw [if_pos d, if_pos (List.forall_mem_cons.mpr ⟨⟨by omega, by omega⟩, d⟩)]
          rw [show k + 1 - (x :: xs).length - 1 = k - xs.length - 1 by simp]
        · rw [if_neg d, if_neg (fun h => d (List.forall_mem_cons.mp h).2)]
-- ------------------------------------------------ rows, from one to the other; the same rows
theorem rd37 {l : List S37} {i : Nat} (h : i < l.length) : rd_T37 l (i : Int) = l[i] := by
  unfold rd_T37
  simp [h]
theorem rd61 {l : List S59} {i : Nat} (h : i < l.length) : rd_T59 l (i : Int) = l[i] := by
  unfold rd_T59
  simp [h]
theorem from_l0 {l : List S37} (hn : l.length ≤ 1000) : ∀ (d i : Nat) (acc : List S59) (k : Nat), i + d = l.length → acc.length ≤ i → d + 1 ≤ k → lombardlaw11_from.l0 k acc l l.length i = some (acc ++ (l.drop i).map conv) := by
  intro d
  induction d with
  | zero =>
    intro i acc k hi _ hk
    obtain ⟨k, rfl⟩ : ∃ m, k = m + 1 := ⟨k - 1, by omega⟩
    simp only [lombardlaw11_from.l0]
    rw [if_neg (by omega), List.drop_eq_nil_of_le (by omega)]
    simp
  | succ d ih =>
    intro i acc k hi ha hk
    obtain ⟨k, rfl⟩ : ∃ m, k = m + 1 := ⟨k - 1, by omega⟩
    have hlt : i < l.length := by omega
    simp only [lombardlaw11_from.l0]
    rw [if_pos (by omega), if_pos (by omega), if_pos (by omega), if_pos (by omega), rd37 hlt, w64 (n := (i : Int) + 1) (by omega) (by omega), show (i : Int) + 1 = ((i + 1 : Nat) : Int) by omega, ih (i + 1) _ k (by omega) (by simp; omega) (by omega), List.drop_eq_getElem_cons hlt]
    simp only [List.map_cons, List.append_assoc, List.singleton_append]
    rfl
theorem from_f {l : List S37} (hn : l.length ≤ 1000) {k : Nat} (hk : 1001 ≤ k) : lombardlaw11_from.f k l = some (l.map conv) := by
  unfold lombardlaw11_from.f
  rw [show (0 : Int) = ((0 : Nat) : Int) from rfl, from_l0 hn l.length 0 [] k (by omega) (by simp) (by omega)]
  simp
theorem same_l0 {l : List S59} (hn : l.length ≤ 1000) : ∀ (d i k : Nat), i + d = l.length → d + 1 ≤ k → lombardref11_Same.l0 k l l l.length i = some true := by
  intro d
  induction d with
  | zero =>
    intro i k hi hk
    obtain ⟨k, rfl⟩ : ∃ m, k = m + 1 := ⟨k - 1, by omega⟩
    simp only [lombardref11_Same.l0]
    rw [if_neg (by omega)]
  | succ d ih =>
    intro i k hi hk
    obtain ⟨k, rfl⟩ : ∃ m, k = m + 1 := ⟨k - 1, by omega⟩
    simp only [lombardref11_Same.l0]
    rw [if_pos (by omega), if_pos (by omega), if_pos (by omega), if_pos (by omega), w64 (n := (i : Int) + 1) (by omega) (by omega), show (i : Int) + 1 = ((i + 1 : Nat) : Int) by omega]
    simp only [beq_self_eq_true, Bool.not_true, Bool.or_self, Bool.false_eq_true, if_false]
    exact ih (i + 1) k (by omega) (by omega)
theorem same_self {l : List S59} (hn : l.length ≤ 1000) {k : Nat} (hk : 1001 ≤ k) : lombardref11_Same.f k l l = some true := by
  unfold lombardref11_Same.f
  rw [if_pos rfl, show (0 : Int) = ((0 : Nat) : Int) from rfl, same_l0 hn l.length 0 k (by omega) (by omega)]
-- ------------------------------------------------ the plug
def plugV (l : List S37) (r : Int) : Int × Int :=
  if h : 0 < l.length then (if mayR r then (if (interest l[l.length - 1].f0 r).2 = 0 then told (l[l.length - 1].f1 - (interest l[l.length - 1].f0 r).1) else (0, (interest l[l.length - 1].f0 r).2)) else (0, 2)) else (0, 8)
theorem plug {l : List S37} {r : Int} (hl : ∀ x ∈ l, I64 x.f0 ∧ I64 x.f1) (hn : l.length ≤ 1000) {k : Nat} (hk : 40 ≤ k) : table_Plug.f k l r = some (plugV l r) := by
  unfold table_Plug.f plugV
  by_cases c : 0 < l.length
  · rw [if_neg (by omega), dif_pos c, XRate.may, Option.bind_some]
    by_cases c3 : mayR r
    · obtain ⟨h0, h1⟩ := hl l[l.length - 1] (List.getElem_mem _)
      rw [decide_eq_true c3, if_pos rfl, if_pos c3, w64 (n := (l.length : Int) - 1) (by omega) (by omega), if_pos (by omega), if_pos (by omega), show (l.length : Int) - 1 = ((l.length - 1 : Nat) : Int) by omega, rd37 (by omega), interest_f h0 (by omega), Option.bind_some]
      by_cases c4 : (interest l[l.length - 1].f0 r).2 = 0
      · rw [if_pos c4, if_pos c4, sub h1 (interest_i64 _ _), Option.bind_some]
      · rw [if_neg c4, if_neg c4]
    · rw [decide_eq_false c3, if_neg (by simp), if_neg c3]
  · rw [if_pos (by omega), dif_neg c]
theorem alive {k : Nat} (hk : 2000 ≤ k) : lombardlaw11_alive.f k = some true := by
  have i1 : interest 1000 100000000000 = (100, 0) := by decide +kernel
  have i2 : interest 600 100000000000 = (60, 0) := by decide +kernel
  have v : valid 1000 [500, 605] 100000000000 := ⟨by decide, by decide, by decide, by decide⟩
  have t : tab 1000 [500, 605] 100000000000 = ([⟨1000, 100, 500, 600⟩, ⟨600, 5, 605, 0⟩], 0) := by
    unfold tab
    rw [if_pos v]
    have e : roll 100000000000 (1000 + 100 - 500) [605] = ([⟨600, 5, 605, 0⟩], 0) := rfl
    unfold roll
    rw [i1, if_neg (by decide), if_pos rfl, if_pos (by decide)]
    simp only [e, if_true]
    rfl
  unfold lombardlaw11_alive.f
  rw [roll_f (by decide) (by simp; omega), t, Option.bind_some, plug (by decide) (by decide) (by omega)]
  have p : plugV [⟨1000, 100, 500, 600⟩, ⟨600, 5, 605, 0⟩] 100000000000 = (-55, 0) := by
    unfold plugV
    rw [dif_pos (by decide), if_pos (by decide)]
    simp only [List.length_cons, List.length_nil, List.getElem_cons_succ, List.getElem_cons_zero, i2]
    decide
  rw [p]
  simp only [Option.bind_some, if_true]
  rw [from_f (by decide) (by omega), Option.bind_some]
  show (lombardref11_Same.f k [⟨1000, 100, 500, 600⟩, ⟨600, 5, 605, 0⟩] [⟨1000, 100, 500, 600⟩, ⟨600, 5, 605, 0⟩]).bind _ = _
  rw [same_self (by decide) (by omega)]
  decide
end Go.Proofs.Ytalnlphinlfenaa.XTable
end

section
namespace Go.Proofs.Ytalnlphinlfenaa.XSum
set_option linter.unusedVariables false
set_option linter.unusedSimpArgs false
open Go.RowKit Go.Proofs.Ytalnlphinlfenaa.S Go.Proofs.Ytalnlphinlfenaa.XNum Go.Proofs.Ytalnlphinlfenaa.XBits Go.Proofs.Ytalnlphinlfenaa.XWide Go.Proofs.Ytalnlphinlfenaa.XMoney Go.Proofs.YtalnlphinlfenaaW.PrintWords

/-- all together -/
def tot : List Int → Int
  | [] => 0
  | x :: l => x + tot l
theorem tot_append (a b : List Int) : tot (a ++ b) = tot a + tot b := by
  induction a with
  | nil => simp [tot]
  | cons x a ih => simp only [List.cons_append, tot, ih]; omega
theorem rd_lt {l : List Int} {i : Nat} (h : i < l.length) : rd l (i : Int) = l[i] := by
  unfold rd
  simp [h]
theorem tot_take {l : List Int} {i : Nat} (h : i < l.length) : tot (l.take (i + 1)) = tot (l.take i) + l[i] := by
  rw [List.take_add_one, List.getElem?_eq_getElem h, tot_append]
  simp [tot]

theorem sum_l0 {l : List Int} (hl : ∀ x ∈ l, I64 x) (hn : l.length ≤ 1099511627776) : ∀ (d i : Nat) (lo hi : Int) (k : Nat), i + d = l.length → d + 1 ≤ k → 0 ≤ lo → lo < 18446744073709551616 → -(i : Int) ≤ hi → hi ≤ i →
    hi * 18446744073709551616 + lo = tot (l.take i) → money_Sum.l0 k lo hi l l.length i = some (told (tot l)) := by
  intro d
  induction d with
  | zero =>
    intro i lo hi k hi' hk l0 l1 h0 h1 e
    obtain ⟨k, rfl⟩ : ∃ m, k = m + 1 := ⟨k - 1, by omega⟩
    rw [List.take_of_length_le (by omega)] at e
    simp only [money_Sum.l0]
    rw [if_neg (by omega), told_f, ← e]
    simp only [Option.bind_some]
    by_cases c : -9223372036854775808 ≤ hi * 18446744073709551616 + lo ∧ hi * 18446744073709551616 + lo ≤ 9223372036854775807
    · rw [told_in c.1 c.2, if_pos (by rw [beq_iff_eq]; unfold wrap64; omega)]
      congr 2
      unfold wrap64
      omega
    · rw [told_out (by omega), if_neg (by rw [beq_iff_eq]; unfold wrap64; omega)]
  | succ d ih =>
    intro i lo hi k hi' hk l0 l1 h0 h1 e
    obtain ⟨k, rfl⟩ : ∃ m, k = m + 1 := ⟨k - 1, by omega⟩
    have hlt : i < l.length := by omega
    obtain ⟨x0, x1⟩ := hl l[i] (List.getElem_mem hlt)
    simp only [money_Sum.l0]
    rw [if_pos (by omega), if_pos (by omega), if_pos (by omega), if_pos l0, rd_lt hlt, if_pos (by rw [wu]; omega), w64 (n := (i : Int) + 1) (by omega) (by omega)]
    have c0 : 0 ≤ XWalk.c64 lo (IntKind.u64.wrap l[i]) 0 ∧ XWalk.c64 lo (IntKind.u64.wrap l[i]) 0 ≤ 1 := by
      rw [wu]; unfold XWalk.c64; omega
    have s0 : 0 ≤ XWalk.s64 lo (IntKind.u64.wrap l[i]) 0 ∧ XWalk.s64 lo (IntKind.u64.wrap l[i]) 0 < 18446744073709551616 := by
      unfold XWalk.s64; omega
    have e0 : XWalk.c64 lo (IntKind.u64.wrap l[i]) 0 * 18446744073709551616 + XWalk.s64 lo (IntKind.u64.wrap l[i]) 0 = lo + l[i] - l[i] / 9223372036854775808 * 18446744073709551616 := by
      rw [wu]; unfold XWalk.c64 XWalk.s64; omega
    generalize XWalk.c64 lo (IntKind.u64.wrap l[i]) 0 = c at *
    generalize XWalk.s64 lo (IntKind.u64.wrap l[i]) 0 = s at *
    have d0 : -1 ≤ l[i] / 9223372036854775808 ∧ l[i] / 9223372036854775808 ≤ 0 := by omega
    rw [w64 (n := c) (by omega) (by omega), w64 (n := hi + l[i] / 9223372036854775808) (by omega) (by omega), w64 (n := hi + l[i] / 9223372036854775808 + c) (by omega) (by omega)]
    refine ih (i + 1) _ _ k (by omega) (by omega) s0.1 s0.2 (by omega) (by omega) ?_
    rw [tot_take hlt, ← e]
    omega

theorem sum {l : List Int} (hl : ∀ x ∈ l, I64 x) (hn : l.length ≤ 1099511627776) {k : Nat} (hk : l.length + 1 ≤ k) : money_Sum.f k l = some (told (tot l)) := by
  unfold money_Sum.f
  exact sum_l0 hl hn l.length 0 0 0 k (by omega) hk (by omega) (by omega) (by omega) (by omega) (by simp [tot])
end Go.Proofs.Ytalnlphinlfenaa.XSum
end

section
namespace Go.Proofs.Ytalnlphinlfenaa.Pure
set_option linter.unusedVariables false
set_option linter.unusedSimpArgs false
open Go.RowKit Go.Proofs.Ytalnlphinlfenaa.S Go.Proofs.Ytalnlphinlfenaa.XNum Go.Proofs.Ytalnlphinlfenaa.XWide Go.Proofs.Ytalnlphinlfenaa.Rnd Go.Proofs.Ytalnlphinlfenaa.XMdiv Go.Proofs.Ytalnlphinlfenaa.XRate Go.Proofs.Ytalnlphinlfenaa.XTable Go.Proofs.YtalnlphinlfenaaW.PrintWords Go.Proofs.YtalnlphinlfenaaW.PrintLast Go.Proofs.YtalnlphinlfenaaW.PrintMore

open Go.Proofs.Ytalnlphinlfenaa.XSum
open Go.Proofs.Ytalnlphinlfenaa.XMoney (told)
theorem col1_l0 {l : List S37} (hl : ∀ x ∈ l, I64 x.f1) (hn : l.length ≤ 1000) : ∀ (d i : Nat) (acc : List Int) (k : Nat), i + d = l.length → acc = (l.take i).map (·.f1) → d + 1010 ≤ k → table_column__table_Sums_1.l0 k acc l l.length i = some (told (tot (l.map (·.f1)))) := by
  intro d
  induction d with
  | zero =>
    intro i acc k hi ha hk
    obtain ⟨k, rfl⟩ : ∃ m, k = m + 1 := ⟨k - 1, by omega⟩
    simp only [table_column__table_Sums_1.l0]
    rw [List.take_of_length_le (by omega)] at ha
    rw [if_neg (by omega), ha, XSum.sum (by intro y hy; obtain ⟨z, hz, rfl⟩ := List.mem_map.mp hy; exact hl z hz) (by rw [List.length_map]; omega) (by rw [List.length_map]; omega), Option.bind_some]
  | succ d ih =>
    intro i acc k hi ha hk
    obtain ⟨k, rfl⟩ : ∃ m, k = m + 1 := ⟨k - 1, by omega⟩
    have hlt : i < l.length := by omega
    have al : acc.length ≤ 1000 := by rw [ha, List.length_map, List.length_take]; omega
    simp only [table_column__table_Sums_1.l0, table_Sums_1.f, Option.bind_some]
    rw [if_pos (by omega), if_pos (by omega), if_pos (by omega), if_pos (by omega), w64 (n := (i : Int) + 1) (by omega) (by omega), show (i : Int) + 1 = ((i + 1 : Nat) : Int) by omega, rd37 hlt]
    exact ih (i + 1) _ k (by omega) (by rw [ha, List.take_add_one, List.getElem?_eq_getElem hlt, List.map_append]; rfl) (by omega)
theorem col2_l0 {l : List S37} (hl : ∀ x ∈ l, I64 x.f2) (hn : l.length ≤ 1000) : ∀ (d i : Nat) (acc : List Int) (k : Nat), i + d = l.length → acc = (l.take i).map (·.f2) → d + 1010 ≤ k → table_column__table_Sums_2.l0 k acc l l.length i = some (told (tot (l.map (·.f2)))) := by
  intro d
  induction d with
  | zero =>
    intro i acc k hi ha hk
    obtain ⟨k, rfl⟩ : ∃ m, k = m + 1 := ⟨k - 1, by omega⟩
    simp only [table_column__table_Sums_2.l0]
    rw [List.take_of_length_le (by omega)] at ha
    rw [if_neg (by omega), ha, XSum.sum (by intro y hy; obtain ⟨z, hz, rfl⟩ := List.mem_map.mp hy; exact hl z hz) (by rw [List.length_map]; omega) (by rw [List.length_map]; omega), Option.bind_some]
  | succ d ih =>
    intro i acc k hi ha hk
    obtain ⟨k, rfl⟩ : ∃ m, k = m + 1 := ⟨k - 1, by omega⟩
    have hlt : i < l.length := by omega
    have al : acc.length ≤ 1000 := by rw [ha, List.length_map, List.length_take]; omega
    simp only [table_column__table_Sums_2.l0, table_Sums_2.f, Option.bind_some]
    rw [if_pos (by omega), if_pos (by omega), if_pos (by omega), if_pos (by omega), w64 (n := (i : Int) + 1) (by omega) (by omega), show (i : Int) + 1 = ((i + 1 : Nat) : Int) by omega, rd37 hlt]
    exact ih (i + 1) _ k (by omega) (by rw [ha, List.take_add_one, List.getElem?_eq_getElem hlt, List.map_append]; rfl) (by omega)
def sumsV (l : List S37) : Int × Int × Int :=
  if (told (tot (l.map (·.f1)))).2 = 0 then (if (told (tot (l.map (·.f2)))).2 = 0 then ((told (tot (l.map (·.f1)))).1, (told (tot (l.map (·.f2)))).1, 0) else (0, 0, (told (tot (l.map (·.f2)))).2)) else (0, 0, (told (tot (l.map (·.f1)))).2)
theorem sums {l : List S37} (hl : ∀ x ∈ l, I64 x.f1 ∧ I64 x.f2) (hn : l.length ≤ 1000) {k : Nat} (hk : 2010 ≤ k) : table_Sums.f k l = some (sumsV l) := by
  unfold table_Sums.f sumsV table_column__table_Sums_1.f table_column__table_Sums_2.f
  rw [show (0 : Int) = ((0 : Nat) : Int) from rfl, col1_l0 (fun x h => (hl x h).1) hn l.length 0 [] k (by omega) rfl (by omega), col2_l0 (fun x h => (hl x h).2) hn l.length 0 [] k (by omega) rfl (by omega)]
  simp only [Option.bind_some]
  split
  · split <;> rfl
  · rfl
end Go.Proofs.Ytalnlphinlfenaa.Pure
end

section
namespace Go.Proofs.Ytalnlphinlfenaa.XRefSum
set_option linter.unusedVariables false
set_option linter.unusedSimpArgs false
open Go.RowKit Go.Proofs.Ytalnlphinlfenaa.S Go.Proofs.Ytalnlphinlfenaa.XNum Go.Proofs.Ytalnlphinlfenaa.XMoney Go.Proofs.Ytalnlphinlfenaa.XSum Go.Proofs.YtalnlphinlfenaaW.PrintWords Go.Proofs.YtalnlphinlfenaaW.PrintLast
open Go.Proofs.Ytalnlphinlfenaa.XWide (I64)

theorem rd_mid (A : List Int) (b : Int) (B : List Int) : rd (A ++ b :: B) (A.length : Int) = b := by
  unfold rd
  simp
theorem tot_erase : ∀ (l : List Int) (i : Nat) (h : i < l.length), tot (l.eraseIdx i) = tot l - l[i] := by
  intro l
  induction l with
  | nil => intro i h; simp at h
  | cons x l ih =>
    intro i h
    cases i with
    | zero => simp [tot]; omega
    | succ i =>
      rw [List.length_cons] at h
      rw [List.eraseIdx_cons_succ]
      simp only [tot, List.getElem_cons_succ]
      rw [ih i (by omega)]
      omega
def differs (n x : Int) : Bool := !((decide (x < 0)) == (decide (n < 0)))
theorem ref_pick {l : List Int} {n : Int} (hl : l.length ≤ 1000) : ∀ (W V : List Int) (a : Nat) (k : Nat), l = V ++ W → a < l.length → ((∃ x ∈ V, differs n x = true) → differs n (rd l a) = true) → ((∀ x ∈ V, differs n x = false) → a = 0) → W.length ≤ k →
    ∃ a' : Nat, a' < l.length ∧ ((∃ x ∈ l, differs n x = true) → differs n (rd l a') = true) ∧ ((∀ x ∈ l, differs n x = false) → a' = 0) ∧
      lombardref01_Sum.l1 k l n a l l.length V.length = lombardref01_Sum.l1 (k - W.length) l n a' l l.length l.length := by
  intro W
  induction W with
  | nil =>
    intro V a k e ha h1 h2 hk
    rw [List.append_nil] at e
    subst e
    exact ⟨a, ha, h1, h2, by simp⟩
  | cons x W ih =>
    intro V a k e ha h1 h2 hk
    rw [List.length_cons] at hk
    obtain ⟨k, rfl⟩ : ∃ m, k = m + 1 := ⟨k - 1, by omega⟩
    have ll : l.length = V.length + W.length + 1 := by rw [e]; simp; omega
    have rx : rd l (V.length : Int) = x := by rw [e]; exact rd_mid V x W
    have base : lombardref01_Sum.l1 (k + 1) l n a l l.length V.length = lombardref01_Sum.l1 k l n (if differs n x = true then (V.length : Int) else a) l l.length ((V ++ [x]).length : Nat) := by
      rw [lombardref01_Sum.l1, if_pos (by omega), if_pos (by omega), if_pos (by omega), rx, w64 (by omega) (by omega), show (!((decide (x < 0)) == (decide (n < 0)))) = differs n x from rfl, List.length_append, show ((V.length + [x].length : Nat) : Int) = (V.length : Int) + 1 by simp]
      split <;> rfl
    rw [base]
    by_cases c : differs n x = true
    · rw [if_pos c]
      obtain ⟨a', p, q, r, s⟩ := ih (V ++ [x]) V.length k (by rw [e]; simp) (by omega) (fun _ => by rw [rx]; exact c) (fun h => by
        have := h x (by simp)
        rw [c] at this
        cases this) (by omega)
      exact ⟨a', p, q, r, by rw [s]; simp⟩
    · rw [if_neg c]
      obtain ⟨a', p, q, r, s⟩ := ih (V ++ [x]) a k (by rw [e]; simp) ha (fun ⟨y, hy, hd⟩ => by
        rcases List.mem_append.1 hy with hy | hy
        · exact h1 ⟨y, hy, hd⟩
        · rw [List.mem_singleton.1 hy] at hd
          exact absurd hd c) (fun h => h2 fun y hy => h y (by simp [hy])) (by omega)
      exact ⟨a', p, q, r, by rw [s]; simp⟩

theorem tot_pos {l : List Int} (h : ∀ x ∈ l, 0 ≤ x) : 0 ≤ tot l := by
  induction l with
  | nil => simp [tot]
  | cons x l ih =>
    have := h x (by simp)
    have := ih fun y hy => h y (List.mem_cons_of_mem x hy)
    unfold tot
    omega
theorem tot_neg {l : List Int} (h : ∀ x ∈ l, x < 0) : tot l ≤ 0 := by
  induction l with
  | nil => simp [tot]
  | cons x l ih =>
    have := h x (by simp)
    have := ih fun y hy => h y (List.mem_cons_of_mem x hy)
    unfold tot
    omega
theorem mem_erase {l : List Int} {i : Nat} {x : Int} (h : x ∈ l.eraseIdx i) : x ∈ l := List.mem_of_mem_eraseIdx h

theorem ref_l0 : ∀ (m : Nat) (l : List Int) (n : Int) (k : Nat), l.length = m → m ≤ 1000 → (∀ x ∈ l, I64 x) → I64 n → m * (m + 5) + 1 ≤ k → lombardref01_Sum.l0 k l n = some (told (n + tot l)) := by
  intro m
  induction m with
  | zero =>
    intro l n k hm _ hl hn hk
    obtain ⟨k, rfl⟩ : ∃ m, k = m + 1 := ⟨k - 1, by omega⟩
    have : l = [] := List.eq_nil_of_length_eq_zero hm
    subst this
    rw [lombardref01_Sum.l0, if_neg (by simp), told_in (by simp [tot]; exact hn.1) (by simp [tot]; exact hn.2)]
    simp [tot]
  | succ m ih =>
    intro l n k hm hm1 hl hn hk
    have hk' : m * (m + 5) + 1 + m + 5 ≤ k := by
      have : (m + 1) * (m + 1 + 5) = m * (m + 5) + (m + (m + 1 + 5)) := by grind
      omega
    obtain ⟨k, rfl⟩ : ∃ j, k = j + 1 := ⟨k - 1, by omega⟩
    rw [lombardref01_Sum.l0, if_pos (by omega)]
    obtain ⟨a, ha, h1, h2, e⟩ := ref_pick (l := l) (n := n) (by omega) l [] 0 k rfl (by omega) (by simp) (by simp) (by omega)
    simp only [List.length_nil, Int.natCast_zero] at e
    rw [e]
    obtain ⟨j, hj⟩ : ∃ j, k - l.length = j + 1 := ⟨k - l.length - 1, by omega⟩
    rw [hj, lombardref01_Sum.l1, if_neg (by omega), if_pos (by omega), if_pos (by omega), rd_lt ha]
    rw [rd_lt ha] at h1
    have hx : I64 l[a] := hl _ (List.getElem_mem ha)
    rw [ref_add hn hx]
    simp only [Option.bind_some]
    by_cases c : -9223372036854775808 ≤ n + l[a] ∧ n + l[a] ≤ 9223372036854775807
    · rw [told_in c.1 c.2]
      simp only [if_true]
      rw [w64 (by omega) (by omega), if_pos (by omega), if_pos (by omega), if_pos (by omega)]
      have le : (l.eraseIdx (a : Int).toNat).length = m := by
        rw [List.length_eraseIdx, if_pos (by simpa using ha)]
        omega
      rw [ih _ _ j le (by omega) (fun x h => hl x (mem_erase h)) c (by omega)]
      rw [show (a : Int).toNat = a by simp, tot_erase l a ha]
      congr 2
      omega
    · rw [told_out (by omega)]
      simp only [show ((3 : Int) = 0) = False by simp, if_false]
      have same : ∀ x ∈ l, differs n x = false := by
        intro x hx'
        cases d : differs n x
        · rfl
        · have := h1 ⟨x, hx', d⟩
          unfold differs at this
          by_cases p : l[a] < 0 <;> by_cases q : n < 0 <;> simp [p, q] at this <;> omega
      have t := tot_erase l a ha
      by_cases q : n < 0
      · have : ∀ x ∈ l, x < 0 := by
          intro x hx'
          have := same x hx'
          unfold differs at this
          by_cases p : x < 0
          · exact p
          · simp [p, q] at this
        have := tot_neg (l := l.eraseIdx a) fun x hx' => this x (mem_erase hx')
        rw [told_out (by omega)]
      · have : ∀ x ∈ l, 0 ≤ x := by
          intro x hx'
          have := same x hx'
          unfold differs at this
          by_cases p : x < 0
          · simp [p, q] at this
          · omega
        have := tot_pos (l := l.eraseIdx a) fun x hx' => this x (mem_erase hx')
        rw [told_out (by omega)]

theorem ref_sum {l : List Int} (hl : ∀ x ∈ l, I64 x) (hn : l.length ≤ 1000) {k : Nat} (hk : 1010000 ≤ k) : lombardref01_Sum.f k l = some (told (tot l)) := by
  unfold lombardref01_Sum.f
  simp only [Option.bind_some, List.length_nil, List.nil_append]
  have b : l.length * (l.length + 5) ≤ 1000 * 1005 := Nat.mul_le_mul hn (by omega)
  rw [if_pos (by omega), ref_l0 l.length l 0 k rfl hn hl ⟨by omega, by omega⟩ (by omega), Int.zero_add]

end Go.Proofs.Ytalnlphinlfenaa.XRefSum
end

section
namespace Go.Proofs.Ytalnlphinlfenaa.Pure
set_option linter.unusedVariables false
set_option linter.unusedSimpArgs false
open Go.RowKit Go.Proofs.Ytalnlphinlfenaa.S Go.Proofs.Ytalnlphinlfenaa.XNum Go.Proofs.Ytalnlphinlfenaa.XWide Go.Proofs.Ytalnlphinlfenaa.Rnd Go.Proofs.Ytalnlphinlfenaa.XMdiv Go.Proofs.Ytalnlphinlfenaa.XRate Go.Proofs.Ytalnlphinlfenaa.XTable Go.Proofs.YtalnlphinlfenaaW.PrintWords Go.Proofs.YtalnlphinlfenaaW.PrintLast Go.Proofs.YtalnlphinlfenaaW.PrintMore

open Go.Proofs.Ytalnlphinlfenaa.XSum
open Go.Proofs.Ytalnlphinlfenaa.XMoney (told)
def vnoc (x : S59) : S37 := ⟨x.f0, x.f1, x.f2, x.f3⟩
theorem to_l0 {l : List S59} (hn : l.length ≤ 1000) : ∀ (d i : Nat) (acc : List S37) (k : Nat), i + d = l.length → acc.length ≤ i → d + 1 ≤ k → lombardlaw11_to.l0 k acc l l.length i = some (acc ++ (l.drop i).map vnoc) := by
  intro d
  induction d with
  | zero =>
    intro i acc k hi _ hk
    obtain ⟨k, rfl⟩ : ∃ m, k = m + 1 := ⟨k - 1, by omega⟩
    simp only [lombardlaw11_to.l0]
    rw [if_neg (by omega), List.drop_eq_nil_of_le (by omega)]
    simp
  | succ d ih =>
    intro i acc k hi ha hk
    obtain ⟨k, rfl⟩ : ∃ m, k = m + 1 := ⟨k - 1, by omega⟩
    have hlt : i < l.length := by omega
    simp only [lombardlaw11_to.l0]
    rw [if_pos (by omega), if_pos (by omega), if_pos (by omega), if_pos (by omega), rd61 hlt, w64 (n := (i : Int) + 1) (by omega) (by omega), show (i : Int) + 1 = ((i + 1 : Nat) : Int) by omega, ih (i + 1) _ k (by omega) (by simp; omega) (by omega), List.drop_eq_getElem_cons hlt]
    simp only [List.map_cons, List.append_assoc, List.singleton_append]
    rfl
theorem to_f {l : List S59} (hn : l.length ≤ 1000) {k : Nat} (hk : 1001 ≤ k) : lombardlaw11_to.f k l = some (l.map vnoc) := by
  unfold lombardlaw11_to.f
  rw [show (0 : Int) = ((0 : Nat) : Int) from rfl, to_l0 hn l.length 0 [] k (by omega) (by simp) (by omega)]
  simp
theorem rsums_l0 {l : List S59} (hl : ∀ x ∈ l, I64 x.f1 ∧ I64 x.f2) (hn : l.length ≤ 1000) : ∀ (d i : Nat) (a b : List Int) (k : Nat), i + d = l.length → a = (l.take i).map (·.f1) → b = (l.take i).map (·.f2) → d + 1010001 ≤ k →
    lombardref11_Sums.l0 k a b l l.length i = some (sumsV (l.map vnoc)) := by
  intro d
  induction d with
  | zero =>
    intro i a b k hi ha hb hk
    obtain ⟨k, rfl⟩ : ∃ m, k = m + 1 := ⟨k - 1, by omega⟩
    rw [lombardref11_Sums.l0]
    rw [List.take_of_length_le (by omega)] at ha hb
    have e1 : (l.map vnoc).map (·.f1) = l.map (·.f1) := by rw [List.map_map]; rfl
    have e2 : (l.map vnoc).map (·.f2) = l.map (·.f2) := by rw [List.map_map]; rfl
    rw [if_neg (by omega), ha, hb, XRefSum.ref_sum (by intro y hy; obtain ⟨z, hz, rfl⟩ := List.mem_map.mp hy; exact (hl z hz).1) (by rw [List.length_map]; omega) (by omega), XRefSum.ref_sum (by intro y hy; obtain ⟨z, hz, rfl⟩ := List.mem_map.mp hy; exact (hl z hz).2) (by rw [List.length_map]; omega) (by omega), Option.bind_some, Option.bind_some]
    unfold sumsV
    rw [e1, e2]
    split
    · split <;> rfl
    · rfl
  | succ d ih =>
    intro i a b k hi ha hb hk
    obtain ⟨k, rfl⟩ : ∃ m, k = m + 1 := ⟨k - 1, by omega⟩
    have hlt : i < l.length := by omega
    have al : a.length ≤ 1000 := by rw [ha, List.length_map, List.length_take]; omega
    have bl : b.length ≤ 1000 := by rw [hb, List.length_map, List.length_take]; omega
    rw [lombardref11_Sums.l0]
    rw [if_pos (by omega), if_pos (by omega), if_pos (by omega), Option.bind_some, if_pos (by simp only [List.length_cons, List.length_nil]; omega), Option.bind_some, if_pos (by simp only [List.length_cons, List.length_nil]; omega), w64 (n := (i : Int) + 1) (by omega) (by omega), show (i : Int) + 1 = ((i + 1 : Nat) : Int) by omega, rd61 hlt]
    exact ih (i + 1) _ _ k (by omega) (by rw [ha, List.take_add_one, List.getElem?_eq_getElem hlt, List.map_append]; rfl) (by rw [hb, List.take_add_one, List.getElem?_eq_getElem hlt, List.map_append]; rfl) (by omega)
theorem rsums {l : List S59} (hl : ∀ x ∈ l, I64 x.f1 ∧ I64 x.f2) (hn : l.length ≤ 1000) {k : Nat} (hk : 1012000 ≤ k) : lombardref11_Sums.f k l = some (sumsV (l.map vnoc)) := by
  unfold lombardref11_Sums.f
  rw [show (0 : Int) = ((0 : Nat) : Int) from rfl, rsums_l0 hl hn l.length 0 [] [] k (by omega) rfl rfl (by omega)]
theorem rplug {l : List S59} {r : Int} (hl : ∀ x ∈ l, I64 x.f0 ∧ I64 x.f1) (hn : l.length ≤ 1000) : lombardref11_Plug.f l r = some (plugV (l.map vnoc) r) := by
  unfold lombardref11_Plug.f plugV
  by_cases c : 0 < l.length
  · obtain ⟨h0, h1⟩ := hl l[l.length - 1] (List.getElem_mem _)
    have e : ∀ (L : List S37) (h : 0 < L.length), L = l.map vnoc → L[L.length - 1] = vnoc l[l.length - 1] := by
      rintro L h rfl
      simp
    have e' := e _ (by rw [List.length_map]; omega) rfl
    rw [if_neg (by omega), dif_pos (by rw [List.length_map]; omega), e', XRefRate.rmay, Option.bind_some]
    by_cases c3 : mayR r
    · rw [decide_eq_true c3, if_pos rfl, if_pos c3, w64 (n := (l.length : Int) - 1) (by omega) (by omega), if_pos (by omega), if_pos (by omega), show (l.length : Int) - 1 = ((l.length - 1 : Nat) : Int) by omega, rd61 (by omega), XRefRate.rinterest h0, Option.bind_some]
      show (if (interest l[l.length - 1].f0 r).2 = 0 then _ else _) = some (if (interest l[l.length - 1].f0 r).2 = 0 then told (l[l.length - 1].f1 - (interest l[l.length - 1].f0 r).1) else (0, (interest l[l.length - 1].f0 r).2))
      by_cases c4 : (interest l[l.length - 1].f0 r).2 = 0
      · rw [if_pos c4, if_pos c4, XMoney.ref_sub h1 (interest_i64 _ _), Option.bind_some]
      · rw [if_neg c4, if_neg c4]
    · rw [decide_eq_false c3, if_neg (by simp), if_neg c3]
  · rw [if_pos (by omega), dif_neg (by rw [List.length_map]; omega)]
theorem TableSums : lombardlaw11_TableSums.Pure := by
  intro l r hl _
  obtain ⟨K, hK⟩ : ∃ K : Nat, K = 1020000 := ⟨_, rfl⟩
  refine ⟨K, ?_⟩
  unfold lombardlaw11_TableSums.f
  rw [alive (by omega), Option.bind_some, if_pos rfl]
  by_cases c : (l.length : Int) > 200
  · rw [if_pos c]
  · have h : ∀ x ∈ l, I64 x.f0 ∧ I64 x.f1 ∧ I64 x.f2 := fun x hx => by
      obtain ⟨h0, h1, h2, _⟩ := hl.2 x hx
      rw [wf64] at h0 h1 h2
      exact ⟨h0, h1, h2⟩
    have hv : ∀ x ∈ l.map vnoc, I64 x.f0 ∧ I64 x.f1 ∧ I64 x.f2 := fun x hx => by
      obtain ⟨z, hz, rfl⟩ := List.mem_map.mp hx
      exact h z hz
    have ln : (l.map vnoc).length ≤ 1000 := by rw [List.length_map]; omega
    rw [if_neg c, to_f (by omega) (by omega), Option.bind_some, sums (fun x hx => (hv x hx).2) ln (by omega), Option.bind_some, rsums (fun x hx => (h x hx).2) (by omega) (by omega), Option.bind_some, Option.bind_some, plug (fun x hx => ⟨(hv x hx).1, (hv x hx).2.1⟩) ln (by omega), Option.bind_some, rplug (fun x hx => ⟨(h x hx).1, (h x hx).2.1⟩) (by omega), Option.bind_some, if_pos rfl, if_pos rfl, if_pos rfl, if_pos rfl, beq_self_eq_true]
end Go.Proofs.Ytalnlphinlfenaa.Pure
end

section
namespace Go.Proofs.Ytalnlphinlfenaa.XOpen
set_option linter.unusedVariables false
set_option linter.unusedSimpArgs false
open Go.ChangeShapes Go.WideShapes Go.RowKit Go.Proofs.YtalnlphinlfenaaW.PrintWords
section
variable {H : Type} {enc : TypeId × Value → H} {P : Program} {w : World} {base : Nat} {spare : Nat → Bool} {held : Bool}

/-- Whatever reads as data of type t holds a value of the kind d, and it is good. -/
def Opens {α : Type} (enc : TypeId × Value → H) (P : Program) (w : World) (base : Nat) (spare : Nat → Bool) (held : Bool) (t : TypeId) (d : Kd α) (g : α → Prop) : Prop :=
  ∀ fuel cs x, DataW.trod enc P w base spare held fuel t cs = some x → ∃ a, d.K w a cs ∧ g a

theorem opens_int {t : TypeId} {k : IntKind} (ht : P.underlying t = some (.int k)) : Opens enc P w base spare held t (Kd.int k) (fun a => (Lit.int k a).wf = true) := by
  intro fuel cs x h
  obtain ⟨n, rfl, _, hw⟩ := DataW.trod_int ht h
  exact ⟨n, rfl, hw⟩

theorem choose_list {α : Type} (n : Nat) (p : Nat → α → Prop) (h : ∀ i, i < n → ∃ a, p i a) : ∃ l : List α, l.length = n ∧ ∀ i a, l[i]? = some a → p i a := by
  induction n with
  | zero => exact ⟨[], rfl, fun i a hi => by simp at hi⟩
  | succ n ih =>
    obtain ⟨l, hl, hp⟩ := ih (fun i hi => h i (by omega))
    obtain ⟨a, ha⟩ := h n (by omega)
    refine ⟨l ++ [a], by simp [hl], fun i b hi => ?_⟩
    by_cases hin : i < n
    · rw [List.getElem?_append_left (by omega)] at hi
      exact hp i b hi
    · by_cases e : i = n
      · subst e
        rw [List.getElem?_append_right (by omega), hl] at hi
        simp at hi
        subst hi
        exact ha
      · rw [List.getElem?_append_right (by omega), hl, List.getElem?_eq_none (by simp; omega)] at hi
        cases hi

theorem opens_slice {α : Type} {t e : TypeId} {d : Kd α} {g : α → Prop} (ht : P.underlying t = some (.slice e)) (hc : P.cellsOf e = d.sz) (he : Opens enc P w base spare held e d g) :
    Opens enc P w base spare held t (Kd.slice e d) (fun l => l.length ≤ maxLen ∧ ∀ a ∈ l, g a) := by
  intro fuel cs x h
  rcases DataW.trod_slice ht h with ⟨rfl, _⟩ | ⟨a, len, cap, elems, rest, n, _, rfl, _, _, hl, hm, hlen, hel, _⟩
  · exact ⟨[], ⟨none, 0, rfl, Nat.le_refl _, rfl, Nat.zero_le _, fun h0 => absurd h0 (Nat.lt_irrefl 0)⟩, Nat.zero_le _, fun a ha => absurd ha List.not_mem_nil⟩
  · have hp : ∀ i, i < len → ∃ q : α, (∃ c : List Value, c.length = d.sz ∧ d.K w q c ∧ ∀ j u, c[j]? = some u → w.cell? (a.add (i * d.sz + j)) = some u) ∧ g q := by
      intro i hi
      have h1 := hel i hi
      have hi' : i < elems.length := by omega
      rw [List.getElem?_eq_getElem hi', Option.bind_eq_some_iff] at h1
      obtain ⟨c, hcs, hy⟩ := h1
      obtain ⟨q, hk, hg⟩ := he _ _ _ hy
      obtain ⟨_, hcl, hat⟩ := World.cells?_some hcs
      refine ⟨q, ⟨c, hcl.trans hc, hk, fun j u hu => ?_⟩, hg⟩
      have hj : j < P.cellsOf e := by
        have := (List.getElem?_eq_some_iff.1 hu).1
        omega
      have h2 := hat j hj
      rw [hu, hc] at h2
      have h3 : (a.add (i * d.sz)).add j = a.add (i * d.sz + j) := by
        exact Go.Deep.add_add a (i * d.sz) j
      rw [h3] at h2
      exact h2
    obtain ⟨l, hll, hall⟩ := choose_list len _ hp
    subst hll
    refine ⟨l, ⟨some a, cap, rfl, hl, ?_⟩, Nat.le_trans hl hm, fun q hq => ?_⟩
    · refine ⟨rfl, ?_, fun _ => ⟨a, rfl, fun j p hj => (hall j p hj).1⟩⟩
      have := Nat.le_trans hl hm
      unfold maxLen at this
      exact this
    · obtain ⟨i, hi⟩ := List.getElem?_of_mem hq
      exact (hall i q hi).2

/-- A field: its cells are those that stand at its place. -/
theorem field_of {α : Type} {t : TypeId} {fs : Array Field} {d : Kd α} {g : α → Prop} {fuel : Nat} {cs : List Value} {x : DataW H × List MemPlace} (ht : P.underlying t = some (.struct fs)) (h : DataW.trod enc P w base spare held fuel t cs = some x)
    (i : Nat) (f : Field) (hf : fs[i]? = some f) (ho : Opens enc P w base spare held f.type d g) (off sz : Nat) (h0 : f.offset = off) (h1 : P.cellsOf f.type = sz) : ∃ a, d.K w a ((cs.drop off).take sz) ∧ g a := by
  subst h0 h1
  obtain ⟨xs, n, _, _, _, hl, hat⟩ := DataW.trod_struct ht h
  have hi : i < xs.length := by
    rw [hl]
    exact (Array.getElem?_eq_some_iff.1 hf).1
  have h2 := hat i f hf
  rw [List.getElem?_eq_getElem hi] at h2
  exact ho _ _ _ h2

theorem cells_len {t : TypeId} {fs : Array Field} {fuel : Nat} {cs : List Value} {x : DataW H × List MemPlace} (ht : P.underlying t = some (.struct fs)) (h : DataW.trod enc P w base spare held fuel t cs = some x) : cs.length = P.cellsOf t := by
  obtain ⟨xs, n, _, _, hl, _⟩ := DataW.trod_struct ht h
  exact hl

theorem K_pair {α β : Type} {a : Kd α} {b : Kd β} {x : α} {y : β} {cs : List Value} (n : Nat) (h0 : a.K w x (cs.take n)) (h1 : b.K w y (cs.drop n)) : (Kd.pair a b).K w (x, y) cs :=
  ⟨cs.take n, cs.drop n, (List.take_append_drop n cs).symm, h0, h1⟩

theorem drop_drop' (cs : List Value) (m n : Nat) : (cs.drop m).drop n = cs.drop (m + n) := List.drop_drop

theorem K_pair' {α β : Type} {a : Kd α} {b : Kd β} {x : α} {y : β} {cs : List Value} (off n : Nat) (h0 : a.K w x ((cs.drop off).take n)) (h1 : b.K w y (cs.drop (off + n))) : (Kd.pair a b).K w (x, y) (cs.drop off) :=
  K_pair n h0 (by rw [drop_drop']; exact h1)

theorem K_last {α : Type} {a : Kd α} {x : α} {cs : List Value} (off n : Nat) (h0 : a.K w x ((cs.drop off).take n)) (hl : cs.length ≤ off + n) : a.K w x (cs.drop off) := by
  rw [List.take_of_length_le (by rw [List.length_drop]; omega)] at h0
  exact h0

theorem K_all {α : Type} {a : Kd α} {x : α} {cs : List Value} (h0 : a.K w x (cs.drop 0)) : a.K w x cs := h0

theorem slice_of {a : Option Addr} {len cap : Nat} {A : Option Addr} {n c : Nat} (h : (Value.slice a len cap).cells.toList = [.slice A n c]) : a = A ∧ len = n ∧ cap = c := by
  simpa [Value.cells] using h
end
end Go.Proofs.Ytalnlphinlfenaa.XOpen
end

section
namespace Go.Proofs.Ytalnlphinlfenaa.tableSums
open Go.ChangeShapes Go.WideShapes Go.ChangeAt Go.RowKit Go.Proofs.Ytalnlphinlfenaa.S Go.Proofs.YtalnlphinlfenaaW.PrintWords Go.Proofs.Ytalnlphinlfenaa.XOpen
open Go.ChangeMaps (open_string shut_string)
set_option linter.unusedVariables false
theorem own : ownKnob Try.prog.godebug = none := by kernel_rfl
theorem laidOut : laidOutB Try.prog = true := by kernel_rfl
theorem opens_S59 {H : Type} {enc : TypeId × Value → H} {w : World} {base : Nat} {spare : Nat → Bool} {held : Bool} : Opens enc Try.prog w base spare held 59 k59 (fun a => ((Lit.int .i64 a.f0).wf = true ∧ (Lit.int .i64 a.f1).wf = true ∧ (Lit.int .i64 a.f2).wf = true ∧ (Lit.int .i64 a.f3).wf = true)) := by
  intro fuel cs x h
  have hl : cs.length = 4 := (cells_len Try.underlying59 h).trans (by kernel_rfl)
  obtain ⟨a0, h0, g0⟩ := field_of Try.underlying59 h 0 _ rfl (opens_int Try.underlying2) 0 1 rfl (by kernel_rfl)
  obtain ⟨a1, h1, g1⟩ := field_of Try.underlying59 h 1 _ rfl (opens_int Try.underlying2) 1 1 rfl (by kernel_rfl)
  obtain ⟨a2, h2, g2⟩ := field_of Try.underlying59 h 2 _ rfl (opens_int Try.underlying2) 2 1 rfl (by kernel_rfl)
  obtain ⟨a3, h3, g3⟩ := field_of Try.underlying59 h 3 _ rfl (opens_int Try.underlying2) 3 1 rfl (by kernel_rfl)
  refine ⟨⟨a0, a1, a2, a3⟩, ?_, ⟨g0, g1, g2, g3⟩⟩
  exact K_all (K_pair' 0 1 h0 (K_pair' 1 1 h1 (K_pair' 2 1 h2 (K_last 3 1 h3 (by omega)))))
set_option maxRecDepth 100000 in
theorem lifted (os : Os) (started : os.Started) (H : Type) (enc : TypeId × Value → H) :
    ReturnsInHanded {} Try.checked os 9 .any (Rows.tableSumsSpec.pre6 enc Try.prog Try.f9 Rows.tableSumsRow.domain false) (Rows.tableSumsSpec.post enc Try.prog Try.f9 false true false false) := by
  refine returnsInHanded_of_change_sized (C := Try.checked) own started (by kernel_rfl) Try.func9
    (ChangeSpec.witness6 (enc := enc) (C := Try.checked) false ⟨#[], #[.slice none 0 0, .int .i64 0], []⟩ 8 (by kernel_rfl) (by kernel_rfl) (by kernel_rfl) (by kernel_rfl)) ?_
  intro W base args ds gs before hval0 hW hcnd hsz0 _
  have hval : ∀ (j : Nat) t v, Try.f9.params[j]? = some t → args[j]? = some v → Value.okWide Try.prog W .any base t v := hval0
  have hW' := hW
  obtain ⟨p, q, hA0, hV, rfl, hfz, hnd⟩ := hW
  have hA : DataW.TrodAll enc Try.prog W 0 (fun _ => true) true Try.f9.params.toList args.toList ds p := hA0
  rw [Try.params9] at hA hval
  obtain ⟨v0, vs0, d0, ds0, p0, q0, hargs, rfl, rfl, h0, r0⟩ := trodAll_cons hA
  obtain ⟨v1, vs1, d1, ds1, p1, q1, rfl, rfl, rfl, h1, r1⟩ := trodAll_cons r0
  obtain ⟨rfl, rfl, rfl⟩ := trodAll_nil r1
  obtain rfl : args = #[v0, v1] := by cases args; simp_all
  obtain ⟨rfl, rfl⟩ := trodVars_none hV
  clear hA0 hsz0
  have k0 := h0
  have lt0 : ∀ x ∈ p0, x.block < W.heap.size := by obtain ⟨m, hm⟩ := k0; exact DataW.trod_lt m _ _ _ hm
  obtain ⟨u0, hf0⟩ := h0
  obtain ⟨s0, hk0, hg0⟩ := (opens_slice Try.underlying28 (by kernel_rfl) opens_S59) _ _ _ hf0
  obtain ⟨A0, c0, he0, hc0, hr0⟩ := hk0
  obtain ⟨b0, len0, cap0, rfl⟩ := okWide_slice Try.underlying28 (hval 0 28 v0 rfl rfl)
  obtain ⟨rfl, rfl, rfl⟩ := slice_of he0
  obtain ⟨a1, rfl, rfl, rfl, w1⟩ := open_int Try.underlying2 (hval 1 2 v1 rfl rfl) h1
  refine (S.lombardlaw11_TableSums.walk Pure.TableSums _ _ s0 a1 W hr0 hc0 hg0 w1).mono fun e W' ⟨he, bel⟩ => ?_
  subst he
  exact ⟨_, rfl, _, _, _, [], _, [], hW', trodAll_mk1 (shut_bool Try.underlying4 _), (trodAll_cons_mk (Below.trod laidOut (by kernel_rfl) (of_decide_eq_true (by kernel_rfl)) k0 bel lt0) (trodAll_cons_mk (shut_int Try.underlying2 w1) trodAll_mk0)), rfl, bel.frame _, fun h => by cases h⟩
theorem over : Rows.tableSumsRow.holds Try.pinned (OpenSpec.ofChange Rows.tableSumsSpec) :=
  OpenClaim.holds_of_wide 9 Try.f9 rfl rfl rfl rfl rfl rfl rfl ⟨rfl, rfl, rfl, rfl, rfl⟩ rfl rfl rfl rfl rfl (by kernel_rfl) Try.func9 (by kernel_rfl)
    (of_decide_eq_true (by kernel_rfl)) (by unfold Func.isWrapper; first | (rw [if_pos (by decide +kernel)]; kernel_rfl) | (rw [if_neg (by decide +kernel)]; exact ⟨rfl, rfl⟩))
    (fun os started H enc _ => lifted os started H enc)
theorem proved : Rows.TableSumsSaid := over
#print axioms proved
end Go.Proofs.Ytalnlphinlfenaa.tableSums
namespace Go.Proofs.Ytalnlphinlfenaa
/-- The row, under a short name, for the claim. -/
theorem tableSums_holds : Rows.TableSumsSaid := tableSums.proved
end Go.Proofs.Ytalnlphinlfenaa
end
