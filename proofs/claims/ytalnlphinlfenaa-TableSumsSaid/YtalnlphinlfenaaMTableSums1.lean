/- Texts of the statement TableSumsSaid, laid together. Conditions: none beyond those that each theorem names. -/
import Derived.Test.YtalnlphinlfenaaSx0
import Derived.Test.YtalnlphinlfenaaSxRateMay
import Derived.Test.YtalnlphinlfenaaSxRateInterest
import Derived.Test.YtalnlphinlfenaaSxMoneySub
import Derived.Test.YtalnlphinlfenaaSxTableRoll1
import Derived.Test.YtalnlphinlfenaaSxTableWithinInt64
import Derived.Test.YtalnlphinlfenaaMTableSums2
import Derived.Test.YtalnlphinlfenaaWWords
import Derived.Lib.Mul64
import Derived.Lib.EndianBits
import Derived.Test.YtalnlphinlfenaaSxMathBitsMul64
import Derived.Test.YtalnlphinlfenaaSxMathBitsDiv64
section
namespace Go.Proofs.Ytalnlphinlfenaa.S
open Go.RowKit Go.Proofs.YtalnlphinlfenaaW.PrintWords Go.Proofs.YtalnlphinlfenaaW.PrintLast Go.Proofs.YtalnlphinlfenaaW.PrintMore
attribute [local go_sem] max2_int min2_int max_two min_two max_three min_three max_four min_four   -- for this text's walks alone
attribute [local go_sem] Go.Proofs.Ytalnlphinlfenaa.XWalk.cell2
set_option linter.unusedVariables false
set_option linter.unusedSimpArgs false

/-! ### table_Plug: function 25 -/
def table_Plug.f (k : Nat) (l0 : List (S37)) (a1 : Int) : Option (Int × Int) := if (l0.length : Int) = 0 then (some (0, 8)) else ((rate_May.f a1).bind fun t193 => (if t193 = true then (if 0 ≤ (wrap64 ((l0.length : Int) - 1)) then (if (wrap64 ((l0.length : Int) - 1)) < (l0.length : Int) then ((rate_Interest.f k ((rd_T37 l0 (wrap64 ((l0.length : Int) - 1))).f0) a1).bind fun bt196 => (if bt196.2 = 0 then ((money_Sub.f ((rd_T37 l0 (wrap64 ((l0.length : Int) - 1))).f1) bt196.1).bind fun bt198 => (some (bt198.1, bt198.2))) else (some (0, bt196.2)))) else (none)) else (none)) else (some (0, 2))))
set_option maxHeartbeats 8000000 in
set_option maxRecDepth 100000 in
theorem table_Plug.calls (k : Nat) (A0 : Option Addr) (c0 : Nat) (l0 : List (S37)) (a1 : Int) (r1 : Int) (r2 : Int) (w : World) (hr0 : Kd.C k37 w A0 l0.length l0) (hc0 : l0.length ≤ c0) (h : table_Plug.f k l0 a1 = some (r1, r2)) :
    Calls Try.prog 25 #[.slice A0 l0.length c0, .int .i64 a1] w fun e w' => e = .returned (.tuple #[.int .i64 r1, .int .i64 r2]) ∧ Below w.heap.size w w' := by
  have hu37 := Try.underlying37
  have HR0 := Aside0.mk hr0
  have HC0 := Aside0.mk hc0
  clear hr0 hc0
  have HB := Aside0.mk (Below.refl w.heap.size w)
  have H : (if (l0.length : Int) = 0 then (some (0, 8)) else ((rate_May.f a1).bind fun t193 => (if t193 = true then (if 0 ≤ (wrap64 ((l0.length : Int) - 1)) then (if (wrap64 ((l0.length : Int) - 1)) < (l0.length : Int) then ((rate_Interest.f k ((rd_T37 l0 (wrap64 ((l0.length : Int) - 1))).f0) a1).bind fun bt196 => (if bt196.2 = 0 then ((money_Sub.f ((rd_T37 l0 (wrap64 ((l0.length : Int) - 1))).f1) bt196.1).bind fun bt198 => (some (bt198.1, bt198.2))) else (some (0, bt196.2)))) else (none)) else (none)) else (some (0, 2))))) = some (r1, r2) := h
  clear h
  by_cases c3 : (l0.length : Int) = 0
  · rw [if_pos c3] at H
    have c3b0 : ((l0.length : Int) == 0) = true := beq_iff_eq.mpr c3
    have c3b1 : ((l0.length : Int) != 0) = false := bne_eq_false_iff_eq.mpr c3
    clear c3
    simp only [Option.some.injEq, Prod.mk.injEq] at H
    obtain ⟨rfl, rfl⟩ := H
    go_enter Try.func25, Try.ntmps25
    go_wp2
    go_ret2
    exact ⟨by first | rfl | (simp [errW_none, errW_some] <;> rfl) | (simp [*, errW_none, errW_some] <;> rfl), by repeat (first | (with_reducible first | exact HB.out | apply below_alloc | apply pw_below_drewN | apply below_drew1) | exact HB.out)⟩
  · rw [if_neg c3] at H
    have c3b0 : ((l0.length : Int) == 0) = false := beq_eq_false_iff_ne.mpr c3
    have c3b1 : ((l0.length : Int) != 0) = true := bne_iff_ne.mpr c3
    have c3b2 : ¬ (l0 = []) := fun h_ => c3 (by rw [h_]; rfl)
    replace H := Option.bind_eq_some_iff.mp H
    obtain ⟨t193, A40, H⟩ := H
    replace H : (if t193 = true then (if 0 ≤ (wrap64 ((l0.length : Int) - 1)) then (if (wrap64 ((l0.length : Int) - 1)) < (l0.length : Int) then ((rate_Interest.f k ((rd_T37 l0 (wrap64 ((l0.length : Int) - 1))).f0) a1).bind fun bt196 => (if bt196.2 = 0 then ((money_Sub.f ((rd_T37 l0 (wrap64 ((l0.length : Int) - 1))).f1) bt196.1).bind fun bt198 => (some (bt198.1, bt198.2))) else (some (0, bt196.2)))) else (none)) else (none)) else (some (0, 2))) = some (r1, r2) := H
    have A4 := Aside0.mk A40
    clear A40
    by_cases c5 : t193 = true
    · subst c5
      have H1 : (if 0 ≤ (wrap64 ((l0.length : Int) - 1)) then (if (wrap64 ((l0.length : Int) - 1)) < (l0.length : Int) then ((rate_Interest.f k ((rd_T37 l0 (wrap64 ((l0.length : Int) - 1))).f0) a1).bind fun bt196 => (if bt196.2 = 0 then ((money_Sub.f ((rd_T37 l0 (wrap64 ((l0.length : Int) - 1))).f1) bt196.1).bind fun bt198 => (some (bt198.1, bt198.2))) else (some (0, bt196.2)))) else (none)) else (none)) = some (r1, r2) := by rw [if_pos rfl] at H; exact H
      clear H
      have H := H1
      clear H1
      obtain ⟨ji6, hji6⟩ : ∃ j_ : Int, (wrap64 ((l0.length : Int) - 1)) = j_ := ⟨_, rfl⟩
      replace H : (if 0 ≤ (ji6) then (if (ji6) < (l0.length : Int) then ((rate_Interest.f k ((rd_T37 l0 (ji6)).f0) a1).bind fun bt196 => (if bt196.2 = 0 then ((money_Sub.f ((rd_T37 l0 (ji6)).f1) bt196.1).bind fun bt198 => (some (bt198.1, bt198.2))) else (some (0, bt196.2)))) else (none)) else (none)) = some (r1, r2) := by first | (rw [hji6] at H; exact H) | (simp only [hji6] at H ⊢; exact H)
      (try rw [hji6] at A4)
      have hji6w : (IntKind.i64.wrap ((l0.length : Int) - 1)) = ji6 := (i64_w _).trans hji6
      by_cases c7 : 0 ≤ (ji6)
      · rw [if_pos c7] at H
        have c7b0 : decide (0 ≤ (ji6)) = true := decide_eq_true c7
        clear c7
        by_cases c8 : (ji6) < (l0.length : Int)
        · rw [if_pos c8] at H
          have c8b0 : decide ((ji6) < (l0.length : Int)) = true := decide_eq_true c8
          clear c8
          replace H := Option.bind_eq_some_iff.mp H
          obtain ⟨⟨t196, t197⟩, A90, H⟩ := H
          replace H : (if t197 = 0 then ((money_Sub.f ((rd_T37 l0 (ji6)).f1) t196).bind fun bt198 => (some (bt198.1, bt198.2))) else (some (0, t197))) = some (r1, r2) := H
          have A9 := Aside0.mk A90
          clear A90
          by_cases c10 : t197 = 0
          · rw [if_pos c10] at H
            have c10b0 : (t197 == 0) = true := beq_iff_eq.mpr c10
            have c10b1 : (t197 != 0) = false := bne_eq_false_iff_eq.mpr c10
            clear c10
            replace H := Option.bind_eq_some_iff.mp H
            obtain ⟨⟨t198, t199⟩, A110, H⟩ := H
            replace H : (some (t198, t199)) = some (r1, r2) := H
            have A11 := Aside0.mk A110
            clear A110
            simp only [Option.some.injEq, Prod.mk.injEq] at H
            obtain ⟨rfl, rfl⟩ := H
            go_enter Try.func25, Try.ntmps25
            go_wp2_with (first | ((with_reducible refine gate_callee (f := 30) rfl ?_); refine goesL_ (some 15) rfl rfl Try.func30 (by kernel_rfl) rfl #[.int .i64 a1] rfl (by (try simp only [List.map_toArray, List.map_cons, List.map_nil]); first | done | rfl | (simp only [List.length_drop, List.length_take]; rfl)) ?_; (with_reducible refine (rate_May.calls a1 true _ A4.out).mono ?_); rintro e w' ⟨rfl, ⟨nd, rfl⟩⟩; refine ⟨_, rfl, ?_⟩; have p194 : 0 ≤ ((ji6) : Int) := of_decide_eq_true (by first | (with_reducible assumption) | assumption); have q194 : (ji6) < (l0.length : Int) := of_decide_eq_true (by first | (with_reducible assumption) | assumption); obtain ⟨ad194, e194, hx194_0, hx194_1, hx194_2, hx194_3⟩ := at_T37 HR0.out (ji6) p194 q194; cases e194; replace p194 := eq_true p194; replace q194 := eq_true q194) | ((with_reducible refine gate_dst (N := 6) rfl ?_); refine box_event ?hg (N := 6) ?hd (cs := #[.int .i64 0, .int .i64 0, .int .i64 0, .int .i64 0]) (t := 37) ?hr ?_; (case hd => rfl); (case hg => rfl); (case hr => first | (go_simp; done) | (go_simp; rfl)); intro gb195 hg w12 hbox hb; have n0_ := Aside0.mk (below_step (by repeat (first | (with_reducible first | exact HB.out | apply below_alloc | apply pw_below_drewN | apply below_drew1) | exact HB.out)) hb); have n1_ := Aside0.mk (hbox); have n2_ := Aside0.mk ((by rw [hg]; exact (below_size (by repeat (first | (with_reducible first | exact HB.out | apply below_alloc | apply pw_below_drewN | apply below_drew1) | exact HB.out))) : w.heap.size ≤ gb195)); have n3_ := Aside0.mk ((by rw [hg]; exact (below_size (by repeat (first | (with_reducible first | exact HB.out | apply below_alloc | apply pw_below_drewN | apply below_drew1) | exact HB.out))) : w.heap.size ≤ gb195)); clear HB; have HB := n0_; have BK195 := n1_; have GW195 := n2_; have GE195 := n3_; clear n0_ n1_ n2_ n3_; clear hb hbox hg; have hcz13_0 : w12.cell? ⟨gb195, 0, none⟩ = some (.int .i64 0) := (blk_cell BK195.out 0).trans rfl; have hcz13_1 : w12.cell? ⟨gb195, 1, none⟩ = some (.int .i64 0) := (blk_cell BK195.out 1).trans rfl; have hcz13_2 : w12.cell? ⟨gb195, 2, none⟩ = some (.int .i64 0) := (blk_cell BK195.out 2).trans rfl; have hcz13_3 : w12.cell? ⟨gb195, 3, none⟩ = some (.int .i64 0) := (blk_cell BK195.out 3).trans rfl; have hfz13_0 := blk_frozen BK195.out 0; have hfz13_1 := blk_frozen BK195.out 1; have hfz13_2 := blk_frozen BK195.out 2; have hfz13_3 := blk_frozen BK195.out 3) | ((with_reducible refine gate_callee (f := 27) rfl ?_); refine goesL_ (some 27) rfl rfl Try.func27 (by kernel_rfl) rfl #[.int .i64 ((rd_T37 l0 (ji6)).f0), .int .i64 a1] rfl (by (try simp only [List.map_toArray, List.map_cons, List.map_nil]); first | done | (simp only [hji6]; rfl) | rfl | (simp only [List.length_drop, List.length_take]; rfl)) ?_; (with_reducible refine (rate_Interest.calls k ((rd_T37 l0 (ji6)).f0) a1 t196 t197 _ A9.out).mono ?_); rintro e w14 ⟨rfl, hb⟩; refine ⟨_, rfl, ?_⟩; have n0_ := Aside0.mk (blk_below (g := gb195) (o := .cells #[.int .i64 ((rd_T37 l0 (ji6)).f0), .int .i64 ((rd_T37 l0 (ji6)).f1), .int .i64 ((rd_T37 l0 (ji6)).f2), .int .i64 ((rd_T37 l0 (ji6)).f3)] 37 (0, 0)) (by (with_reducible repeat (first | refine blk_drewN ?_ _ | refine blk_drew ?_ | refine blk_alloc ?_ _)); refine blk_put (cs := #[.int .i64 ((rd_T37 l0 (ji6)).f0), .int .i64 ((rd_T37 l0 (ji6)).f1), .int .i64 ((rd_T37 l0 (ji6)).f2), .int .i64 0]) ?_ 3 _ rfl; (with_reducible repeat (first | refine blk_drewN ?_ _ | refine blk_drew ?_ | refine blk_alloc ?_ _)); refine blk_put (cs := #[.int .i64 ((rd_T37 l0 (ji6)).f0), .int .i64 ((rd_T37 l0 (ji6)).f1), .int .i64 0, .int .i64 0]) ?_ 2 _ rfl; (with_reducible repeat (first | refine blk_drewN ?_ _ | refine blk_drew ?_ | refine blk_alloc ?_ _)); refine blk_put (cs := #[.int .i64 ((rd_T37 l0 (ji6)).f0), .int .i64 0, .int .i64 0, .int .i64 0]) ?_ 1 _ rfl; (with_reducible repeat (first | refine blk_drewN ?_ _ | refine blk_drew ?_ | refine blk_alloc ?_ _)); refine blk_put (cs := #[.int .i64 0, .int .i64 0, .int .i64 0, .int .i64 0]) ?_ 0 _ rfl; (with_reducible repeat (first | refine blk_drewN ?_ _ | refine blk_drew ?_ | refine blk_alloc ?_ _)); exact BK195.out) hb); have n1_ := Aside0.mk (below_step (by repeat (first | (with_reducible first | exact HB.out | apply below_alloc | apply pw_below_drewN | apply below_drew1 | refine below_set ?_ GE195.out) | exact HB.out)) hb); clear BK195; clear HB; have BK195 := n0_; have HB := n1_; clear n0_ n1_; (try clear hb); (try clear hb2); (try clear hk); (try clear hi); have hcz15_0 : w14.cell? ⟨gb195, 0, none⟩ = some (.int .i64 ((rd_T37 l0 (ji6)).f0)) := (blk_cell BK195.out 0).trans rfl; have hcz15_1 : w14.cell? ⟨gb195, 1, none⟩ = some (.int .i64 ((rd_T37 l0 (ji6)).f1)) := (blk_cell BK195.out 1).trans rfl; have hcz15_2 : w14.cell? ⟨gb195, 2, none⟩ = some (.int .i64 ((rd_T37 l0 (ji6)).f2)) := (blk_cell BK195.out 2).trans rfl; have hcz15_3 : w14.cell? ⟨gb195, 3, none⟩ = some (.int .i64 ((rd_T37 l0 (ji6)).f3)) := (blk_cell BK195.out 3).trans rfl; have hfz15_0 := blk_frozen BK195.out 0; have hfz15_1 := blk_frozen BK195.out 1; have hfz15_2 := blk_frozen BK195.out 2; have hfz15_3 := blk_frozen BK195.out 3) | ((with_reducible refine gate_callee (f := 43) rfl ?_); refine goesL_ (some 36) rfl rfl Try.func43 (by kernel_rfl) rfl #[.int .i64 ((rd_T37 l0 (ji6)).f1), .int .i64 t196] rfl (by (try simp only [List.map_toArray, List.map_cons, List.map_nil]); first | done | (simp only [hji6]; rfl) | rfl | (simp only [List.length_drop, List.length_take]; rfl)) ?_; (with_reducible refine (money_Sub.calls ((rd_T37 l0 (ji6)).f1) t196 t198 t199 _ A11.out).mono ?_); rintro e w' ⟨rfl, ⟨nd, rfl⟩⟩; refine ⟨_, rfl, ?_⟩))
            go_ret2
            exact ⟨by first | rfl | (simp [errW_none, errW_some] <;> rfl) | (simp only [← hji6]; first | rfl | (simp [errW_none, errW_some] <;> rfl)) | (simp [*, errW_none, errW_some] <;> rfl), by repeat (first | (with_reducible first | exact HB.out | apply below_alloc | apply pw_below_drewN | apply below_drew1 | refine below_set ?_ GE195.out) | exact HB.out)⟩
          · rw [if_neg c10] at H
            have c10b0 : (t197 == 0) = false := beq_eq_false_iff_ne.mpr c10
            have c10b1 : (t197 != 0) = true := bne_iff_ne.mpr c10
            simp only [Option.some.injEq, Prod.mk.injEq] at H
            obtain ⟨rfl, rfl⟩ := H
            go_enter Try.func25, Try.ntmps25
            go_wp2_with (first | ((with_reducible refine gate_callee (f := 30) rfl ?_); refine goesL_ (some 15) rfl rfl Try.func30 (by kernel_rfl) rfl #[.int .i64 a1] rfl (by (try simp only [List.map_toArray, List.map_cons, List.map_nil]); first | done | rfl | (simp only [List.length_drop, List.length_take]; rfl)) ?_; (with_reducible refine (rate_May.calls a1 true _ A4.out).mono ?_); rintro e w' ⟨rfl, ⟨nd, rfl⟩⟩; refine ⟨_, rfl, ?_⟩; have p194 : 0 ≤ ((ji6) : Int) := of_decide_eq_true (by first | (with_reducible assumption) | assumption); have q194 : (ji6) < (l0.length : Int) := of_decide_eq_true (by first | (with_reducible assumption) | assumption); obtain ⟨ad194, e194, hx194_0, hx194_1, hx194_2, hx194_3⟩ := at_T37 HR0.out (ji6) p194 q194; cases e194; replace p194 := eq_true p194; replace q194 := eq_true q194) | ((with_reducible refine gate_dst (N := 6) rfl ?_); refine box_event ?hg (N := 6) ?hd (cs := #[.int .i64 0, .int .i64 0, .int .i64 0, .int .i64 0]) (t := 37) ?hr ?_; (case hd => rfl); (case hg => rfl); (case hr => first | (go_simp; done) | (go_simp; rfl)); intro gb195 hg w16 hbox hb; have n0_ := Aside0.mk (below_step (by repeat (first | (with_reducible first | exact HB.out | apply below_alloc | apply pw_below_drewN | apply below_drew1) | exact HB.out)) hb); have n1_ := Aside0.mk (hbox); have n2_ := Aside0.mk ((by rw [hg]; exact (below_size (by repeat (first | (with_reducible first | exact HB.out | apply below_alloc | apply pw_below_drewN | apply below_drew1) | exact HB.out))) : w.heap.size ≤ gb195)); have n3_ := Aside0.mk ((by rw [hg]; exact (below_size (by repeat (first | (with_reducible first | exact HB.out | apply below_alloc | apply pw_below_drewN | apply below_drew1) | exact HB.out))) : w.heap.size ≤ gb195)); clear HB; have HB := n0_; have BK195 := n1_; have GW195 := n2_; have GE195 := n3_; clear n0_ n1_ n2_ n3_; clear hb hbox hg; have hcz17_0 : w16.cell? ⟨gb195, 0, none⟩ = some (.int .i64 0) := (blk_cell BK195.out 0).trans rfl; have hcz17_1 : w16.cell? ⟨gb195, 1, none⟩ = some (.int .i64 0) := (blk_cell BK195.out 1).trans rfl; have hcz17_2 : w16.cell? ⟨gb195, 2, none⟩ = some (.int .i64 0) := (blk_cell BK195.out 2).trans rfl; have hcz17_3 : w16.cell? ⟨gb195, 3, none⟩ = some (.int .i64 0) := (blk_cell BK195.out 3).trans rfl; have hfz17_0 := blk_frozen BK195.out 0; have hfz17_1 := blk_frozen BK195.out 1; have hfz17_2 := blk_frozen BK195.out 2; have hfz17_3 := blk_frozen BK195.out 3) | ((with_reducible refine gate_callee (f := 27) rfl ?_); refine goesL_ (some 27) rfl rfl Try.func27 (by kernel_rfl) rfl #[.int .i64 ((rd_T37 l0 (ji6)).f0), .int .i64 a1] rfl (by (try simp only [List.map_toArray, List.map_cons, List.map_nil]); first | done | (simp only [hji6]; rfl) | rfl | (simp only [List.length_drop, List.length_take]; rfl)) ?_; (with_reducible refine (rate_Interest.calls k ((rd_T37 l0 (ji6)).f0) a1 t196 t197 _ A9.out).mono ?_); rintro e w18 ⟨rfl, hb⟩; refine ⟨_, rfl, ?_⟩; have n0_ := Aside0.mk (blk_below (g := gb195) (o := .cells #[.int .i64 ((rd_T37 l0 (ji6)).f0), .int .i64 ((rd_T37 l0 (ji6)).f1), .int .i64 ((rd_T37 l0 (ji6)).f2), .int .i64 ((rd_T37 l0 (ji6)).f3)] 37 (0, 0)) (by (with_reducible repeat (first | refine blk_drewN ?_ _ | refine blk_drew ?_ | refine blk_alloc ?_ _)); refine blk_put (cs := #[.int .i64 ((rd_T37 l0 (ji6)).f0), .int .i64 ((rd_T37 l0 (ji6)).f1), .int .i64 ((rd_T37 l0 (ji6)).f2), .int .i64 0]) ?_ 3 _ rfl; (with_reducible repeat (first | refine blk_drewN ?_ _ | refine blk_drew ?_ | refine blk_alloc ?_ _)); refine blk_put (cs := #[.int .i64 ((rd_T37 l0 (ji6)).f0), .int .i64 ((rd_T37 l0 (ji6)).f1), .int .i64 0, .int .i64 0]) ?_ 2 _ rfl; (with_reducible repeat (first | refine blk_drewN ?_ _ | refine blk_drew ?_ | refine blk_alloc ?_ _)); refine blk_put (cs := #[.int .i64 ((rd_T37 l0 (ji6)).f0), .int .i64 0, .int .i64 0, .int .i64 0]) ?_ 1 _ rfl; (with_reducible repeat (first | refine blk_drewN ?_ _ | refine blk_drew ?_ | refine blk_alloc ?_ _)); refine blk_put (cs := #[.int .i64 0, .int .i64 0, .int .i64 0, .int .i64 0]) ?_ 0 _ rfl; (with_reducible repeat (first | refine blk_drewN ?_ _ | refine blk_drew ?_ | refine blk_alloc ?_ _)); exact BK195.out) hb); have n1_ := Aside0.mk (below_step (by repeat (first | (with_reducible first | exact HB.out | apply below_alloc | apply pw_below_drewN | apply below_drew1 | refine below_set ?_ GE195.out) | exact HB.out)) hb); clear BK195; clear HB; have BK195 := n0_; have HB := n1_; clear n0_ n1_; (try clear hb); (try clear hb2); (try clear hk); (try clear hi)))
            go_ret2
            exact ⟨by first | rfl | (simp [errW_none, errW_some] <;> rfl) | (simp only [← hji6]; first | rfl | (simp [errW_none, errW_some] <;> rfl)) | (simp [*, errW_none, errW_some] <;> rfl), by repeat (first | (with_reducible first | exact HB.out | apply below_alloc | apply pw_below_drewN | apply below_drew1 | refine below_set ?_ GE195.out) | exact HB.out)⟩
        · rw [if_neg c8] at H
          exact absurd H (by simp)
      · rw [if_neg c7] at H
        exact absurd H (by simp)
    · replace c5 := Bool.eq_false_iff.mpr c5
      subst c5
      have H1 : (some (0, 2)) = some (r1, r2) := by rw [if_neg (show ¬ (false = true) by decide)] at H; exact H
      clear H
      have H := H1
      clear H1
      simp only [Option.some.injEq, Prod.mk.injEq] at H
      obtain ⟨rfl, rfl⟩ := H
      go_enter Try.func25, Try.ntmps25
      go_wp2_with (first | ((with_reducible refine gate_callee (f := 30) rfl ?_); refine goesL_ (some 15) rfl rfl Try.func30 (by kernel_rfl) rfl #[.int .i64 a1] rfl (by (try simp only [List.map_toArray, List.map_cons, List.map_nil]); first | done | rfl | (simp only [List.length_drop, List.length_take]; rfl)) ?_; (with_reducible refine (rate_May.calls a1 false _ A4.out).mono ?_); rintro e w' ⟨rfl, ⟨nd, rfl⟩⟩; refine ⟨_, rfl, ?_⟩))
      go_ret2
      exact ⟨by first | rfl | (simp [errW_none, errW_some] <;> rfl) | (simp [*, errW_none, errW_some] <;> rfl), by repeat (first | (with_reducible first | exact HB.out | apply below_alloc | apply pw_below_drewN | apply below_drew1) | exact HB.out)⟩

end Go.Proofs.Ytalnlphinlfenaa.S
end

section
namespace Go.Proofs.Ytalnlphinlfenaa.S
open Go.RowKit Go.Proofs.YtalnlphinlfenaaW.PrintWords Go.Proofs.YtalnlphinlfenaaW.PrintLast Go.Proofs.YtalnlphinlfenaaW.PrintMore
attribute [local go_sem] max2_int min2_int max_two min_two max_three min_three max_four min_four   -- for this text's walks alone
attribute [local go_sem] Go.Proofs.Ytalnlphinlfenaa.XWalk.cell2
set_option linter.unusedVariables false
set_option linter.unusedSimpArgs false

/-! ### table_within_int: function 28 -/
def table_within_int.f (a0 : Int) (a1 : Int) (a2 : Int) : Option (Bool) := if a0 ≥ a1 then (some (decide (a0 ≤ a2))) else (some false)
set_option maxHeartbeats 8000000 in
set_option maxRecDepth 100000 in
theorem table_within_int.calls (a0 : Int) (a1 : Int) (a2 : Int) (r : Bool) (w : World) (h : table_within_int.f a0 a1 a2 = some r) :
    Calls Try.prog 28 #[.int .i64 a0, .int .i64 a1, .int .i64 a2] w fun e w' => e = .returned (.bool r) ∧ Drawn0 w w' := by
  have H : (if a0 ≥ a1 then (some (decide (a0 ≤ a2))) else (some false)) = some r := h
  clear h
  by_cases c4 : a0 ≥ a1
  · rw [if_pos c4] at H
    have c4b0 : decide (a1 ≤ a0) = true := decide_eq_true c4
    clear c4
    obtain rfl := Option.some.inj H
    go_enter Try.func28, Try.ntmps28
    go_wp2
    go_ret
    exact ⟨by first | rfl | (simp; done) | (simp [*]; done), by repeat (first | exact Drawn0.refl _ | apply Drawn0.step)⟩
  · rw [if_neg c4] at H
    have c4b0 : decide (a1 ≤ a0) = false := decide_eq_false c4
    clear c4
    obtain rfl := Option.some.inj H
    go_enter Try.func28, Try.ntmps28
    go_wp2
    go_ret
    exact ⟨by first | rfl | (simp; done) | (simp [*]; done), by repeat (first | exact Drawn0.refl _ | apply Drawn0.step)⟩

end Go.Proofs.Ytalnlphinlfenaa.S
end

section
namespace Go.Proofs.Ytalnlphinlfenaa.S
open Go.RowKit Go.Proofs.YtalnlphinlfenaaW.PrintWords Go.Proofs.YtalnlphinlfenaaW.PrintLast Go.Proofs.YtalnlphinlfenaaW.PrintMore
attribute [local go_sem] max2_int min2_int max_two min_two max_three min_three max_four min_four   -- for this text's walks alone
attribute [local go_sem] Go.Proofs.Ytalnlphinlfenaa.XWalk.cell2
set_option linter.unusedVariables false
set_option linter.unusedSimpArgs false

/-! ### table_scan_int64_table_Row__table_Roll_1: function 31 -/
def table_scan_int64_table_Row__table_Roll_1.l0 : Nat → List (S37) → List Int → Int → Int → List Int → Int → Int → Int → Int → Int → Option ((List (S37)) × Int)
  | 0, _, _, _, _, _, _, _, _, _, _ => none
  | k + 1, x8, x15, x16, x17, x162000, x163000, x165000, x165001, x165002, x165003 => if x17 < x16 then (if 0 ≤ x17 then (if x17 < (x15.length : Int) then ((table_Roll_1.f k x165000 x165001 x165002 x165003 x17 (rd x15 x17) x162000 x163000).bind fun bt166 => (if bt166.2.2.2.2 = 0 then (if x8.length < 4398046511104 then (table_scan_int64_table_Row__table_Roll_1.l0 k (x8 ++ [(⟨bt166.1, bt166.2.1, bt166.2.2.1, bt166.2.2.2.1⟩ : S37)]) x15 x16 (wrap64 (x17 + 1)) x162000 x163000 bt166.1 bt166.2.1 bt166.2.2.1 bt166.2.2.2.1) else (none)) else (some (([] : List (S37)), bt166.2.2.2.2)))) else (none)) else (none)) else (some (x8, 0))
def table_scan_int64_table_Row__table_Roll_1.f (k : Nat) (l0 : List Int) (a1_0 : Int) (a1_1 : Int) (a1_2 : Int) (a1_3 : Int) (l2_0_0 : List Int) (a2_1_0 : Int) : Option ((List (S37)) × Int) := table_scan_int64_table_Row__table_Roll_1.l0 k ([] : List (S37)) l0 (l0.length : Int) 0 l2_0_0 a2_1_0 a1_0 a1_1 a1_2 a1_3
set_option maxHeartbeats 8000000 in
set_option maxRecDepth 100000 in
theorem table_scan_int64_table_Row__table_Roll_1.calls (k : Nat) (A0 : Option Addr) (c0 : Nat) (l0 : List Int) (a1_0 : Int) (a1_1 : Int) (a1_2 : Int) (a1_3 : Int) (gc2_0 : Nat) (A2_0_0 : Option Addr) (c2_0_0 : Nat) (l2_0_0 : List Int) (gc2_1 : Nat) (a2_1_0 : Int) (r1 : List (S37)) (r2 : Int) (w : World) (hr0 : Kd.C (Kd.int .i64) w A0 l0.length l0) (hc0 : l0.length ≤ c0) (hgc2_0 : w.heap[gc2_0]? = some (.cells #[.slice A2_0_0 l2_0_0.length c2_0_0] 22 (0, 0))) (hr2_0_0 : Kd.C (Kd.int .i64) w A2_0_0 l2_0_0.length l2_0_0) (hc2_0_0 : l2_0_0.length ≤ c2_0_0) (hgc2_1 : w.heap[gc2_1]? = some (.cells #[.int .i64 a2_1_0] 2 (0, 0))) (h : table_scan_int64_table_Row__table_Roll_1.f k l0 a1_0 a1_1 a1_2 a1_3 l2_0_0 a2_1_0 = some (r1, r2)) :
    Calls Try.prog 31 #[.slice A0 l0.length c0, .agg #[.int .i64 a1_0, .int .i64 a1_1, .int .i64 a1_2, .int .i64 a1_3], .func (.func 32) #[] #[.pointer (some ⟨gc2_0, 0, none⟩), .pointer (some ⟨gc2_1, 0, none⟩)]] w fun e w' => ∃ v0_ : Value, e = .returned (.tuple #[v0_, .int .i64 r2]) ∧ Kd.R k37 37 w' w.heap.size (fun _ => True) v0_ r1 ∧ Below w.heap.size w w' := by
  have hu37 := Try.underlying37
  have HR0 := Aside0.mk hr0
  have HC0 := Aside0.mk hc0
  clear hr0 hc0
  have HR2_0_0 := Aside0.mk hr2_0_0
  have HC2_0_0 := Aside0.mk hc2_0_0
  clear hr2_0_0 hc2_0_0
  have BK161 := Aside0.mk hgc2_0
  clear hgc2_0
  have BK162 := Aside0.mk hgc2_1
  clear hgc2_1
  have HB := Aside0.mk (Below.refl w.heap.size w)
  have H : (table_scan_int64_table_Row__table_Roll_1.l0 k ([] : List (S37)) l0 (l0.length : Int) 0 l2_0_0 a2_1_0 a1_0 a1_1 a1_2 a1_3) = some (r1, r2) := h
  clear h
  have H' := Aside0.mk H
  clear H
  go_enter Try.func31, Try.ntmps31
  go_wp2_with (first | ((with_reducible refine gate_dst (N := 4) rfl ?_); refine box_event ?hg (N := 4) ?hd (cs := #[.int .i64 a1_0, .int .i64 a1_1, .int .i64 a1_2, .int .i64 a1_3]) (t := 37) ?hr ?_; (case hd => rfl); (case hg => rfl); (case hr => first | (go_simp; done) | (go_simp; rfl)); intro gb163 hg w4 hbox hb; have n0_ := Aside0.mk (blk_below (g := gc2_0) (o := .cells #[.slice A2_0_0 l2_0_0.length c2_0_0] 22 (0, 0)) (by (with_reducible repeat (first | refine blk_drewN ?_ _ | refine blk_drew ?_ | refine blk_alloc ?_ _)); exact BK161.out) hb); have n1_ := Aside0.mk (blk_below (g := gc2_1) (o := .cells #[.int .i64 a2_1_0] 2 (0, 0)) (by (with_reducible repeat (first | refine blk_drewN ?_ _ | refine blk_drew ?_ | refine blk_alloc ?_ _)); exact BK162.out) hb); have n2_ := Aside0.mk (below_step (by repeat (first | (with_reducible first | exact HB.out | apply below_alloc | apply pw_below_drewN | apply below_drew1 | refine below_set ?_ GE161.out | refine below_set ?_ GE162.out) | exact HB.out)) hb); have n3_ := Aside0.mk (hbox); have n4_ := Aside0.mk ((by rw [hg]; exact (below_size (by repeat (first | (with_reducible first | exact HB.out | apply below_alloc | apply pw_below_drewN | apply below_drew1 | refine below_set ?_ GE161.out | refine below_set ?_ GE162.out) | exact HB.out))) : w.heap.size ≤ gb163)); have n5_ := Aside0.mk ((by rw [hg]; exact (below_size (by repeat (first | (with_reducible first | exact HB.out | apply below_alloc | apply pw_below_drewN | apply below_drew1 | refine below_set ?_ GE161.out | refine below_set ?_ GE162.out) | exact HB.out))) : w.heap.size ≤ gb163)); have n6_ := Aside0.mk ((by rw [hg]; exact Nat.ne_of_lt (blk_lt (g := gc2_0) (o := .cells #[.slice A2_0_0 l2_0_0.length c2_0_0] 22 (0, 0)) (by (with_reducible repeat (first | refine blk_drewN ?_ _ | refine blk_drew ?_ | refine blk_alloc ?_ _)); exact BK161.out)) : gc2_0 ≠ gb163)); have n7_ := Aside0.mk ((by rw [hg]; exact Nat.ne_of_gt (blk_lt (g := gc2_0) (o := .cells #[.slice A2_0_0 l2_0_0.length c2_0_0] 22 (0, 0)) (by (with_reducible repeat (first | refine blk_drewN ?_ _ | refine blk_drew ?_ | refine blk_alloc ?_ _)); exact BK161.out)) : gb163 ≠ gc2_0)); have n8_ := Aside0.mk ((by rw [hg]; exact Nat.ne_of_lt (blk_lt (g := gc2_1) (o := .cells #[.int .i64 a2_1_0] 2 (0, 0)) (by (with_reducible repeat (first | refine blk_drewN ?_ _ | refine blk_drew ?_ | refine blk_alloc ?_ _)); exact BK162.out)) : gc2_1 ≠ gb163)); have n9_ := Aside0.mk ((by rw [hg]; exact Nat.ne_of_gt (blk_lt (g := gc2_1) (o := .cells #[.int .i64 a2_1_0] 2 (0, 0)) (by (with_reducible repeat (first | refine blk_drewN ?_ _ | refine blk_drew ?_ | refine blk_alloc ?_ _)); exact BK162.out)) : gb163 ≠ gc2_1)); clear BK161; clear BK162; clear HB; have BK161 := n0_; have BK162 := n1_; have HB := n2_; have BK163 := n3_; have GW163 := n4_; have GE163 := n5_; have NB161_163 := n6_; have NB163_161 := n7_; have NB162_163 := n8_; have NB163_162 := n9_; clear n0_ n1_ n2_ n3_ n4_ n5_ n6_ n7_ n8_ n9_; clear hb hbox hg; have hnb5 := NB163_161.out; have hnc5 := NB161_163.out; have hnb6 := NB163_162.out; have hnc6 := NB162_163.out; have hcz7_0 : w4.cell? ⟨gb163, 0, none⟩ = some (.int .i64 a1_0) := (blk_cell BK163.out 0).trans rfl; have hcz7_1 : w4.cell? ⟨gb163, 1, none⟩ = some (.int .i64 a1_1) := (blk_cell BK163.out 1).trans rfl; have hcz7_2 : w4.cell? ⟨gb163, 2, none⟩ = some (.int .i64 a1_2) := (blk_cell BK163.out 2).trans rfl; have hcz7_3 : w4.cell? ⟨gb163, 3, none⟩ = some (.int .i64 a1_3) := (blk_cell BK163.out 3).trans rfl; have hfz7_0 := blk_frozen BK163.out 0; have hfz7_1 := blk_frozen BK163.out 1; have hfz7_2 := blk_frozen BK163.out 2; have hfz7_3 := blk_frozen BK163.out 3) | ((with_reducible refine gate_dst (N := 9) rfl ?_); refine box_event ?hg (N := 9) ?hd (cs := #[.int .i64 0, .int .i64 0, .int .i64 0, .int .i64 0]) (t := 37) ?hr ?_; (case hd => rfl); (case hg => rfl); (case hr => first | (go_simp; done) | (go_simp; rfl)); intro gb164 hg w8 hbox hb; have n0_ := Aside0.mk (blk_below (g := gc2_0) (o := .cells #[.slice A2_0_0 l2_0_0.length c2_0_0] 22 (0, 0)) (by (with_reducible repeat (first | refine blk_drewN ?_ _ | refine blk_drew ?_ | refine blk_alloc ?_ _)); exact BK161.out) hb); have n1_ := Aside0.mk (blk_below (g := gc2_1) (o := .cells #[.int .i64 a2_1_0] 2 (0, 0)) (by (with_reducible repeat (first | refine blk_drewN ?_ _ | refine blk_drew ?_ | refine blk_alloc ?_ _)); exact BK162.out) hb); have n2_ := Aside0.mk (blk_below (g := gb163) (o := .cells #[.int .i64 a1_0, .int .i64 a1_1, .int .i64 a1_2, .int .i64 a1_3] 37 (0, 0)) (by (with_reducible repeat (first | refine blk_drewN ?_ _ | refine blk_drew ?_ | refine blk_alloc ?_ _)); exact BK163.out) hb); have n3_ := Aside0.mk (below_step (by repeat (first | (with_reducible first | exact HB.out | apply below_alloc | apply pw_below_drewN | apply below_drew1 | refine below_set ?_ GE161.out | refine below_set ?_ GE162.out | refine below_set ?_ GE163.out) | exact HB.out)) hb); have n4_ := Aside0.mk (hbox); have n5_ := Aside0.mk ((by rw [hg]; exact (below_size (by repeat (first | (with_reducible first | exact HB.out | apply below_alloc | apply pw_below_drewN | apply below_drew1 | refine below_set ?_ GE161.out | refine below_set ?_ GE162.out | refine below_set ?_ GE163.out) | exact HB.out))) : w.heap.size ≤ gb164)); have n6_ := Aside0.mk ((by rw [hg]; exact (below_size (by repeat (first | (with_reducible first | exact HB.out | apply below_alloc | apply pw_below_drewN | apply below_drew1 | refine below_set ?_ GE161.out | refine below_set ?_ GE162.out | refine below_set ?_ GE163.out) | exact HB.out))) : w.heap.size ≤ gb164)); have n7_ := Aside0.mk ((by rw [hg]; exact Nat.ne_of_lt (blk_lt (g := gc2_0) (o := .cells #[.slice A2_0_0 l2_0_0.length c2_0_0] 22 (0, 0)) (by (with_reducible repeat (first | refine blk_drewN ?_ _ | refine blk_drew ?_ | refine blk_alloc ?_ _)); exact BK161.out)) : gc2_0 ≠ gb164)); have n8_ := Aside0.mk ((by rw [hg]; exact Nat.ne_of_gt (blk_lt (g := gc2_0) (o := .cells #[.slice A2_0_0 l2_0_0.length c2_0_0] 22 (0, 0)) (by (with_reducible repeat (first | refine blk_drewN ?_ _ | refine blk_drew ?_ | refine blk_alloc ?_ _)); exact BK161.out)) : gb164 ≠ gc2_0)); have n9_ := Aside0.mk ((by rw [hg]; exact Nat.ne_of_lt (blk_lt (g := gc2_1) (o := .cells #[.int .i64 a2_1_0] 2 (0, 0)) (by (with_reducible repeat (first | refine blk_drewN ?_ _ | refine blk_drew ?_ | refine blk_alloc ?_ _)); exact BK162.out)) : gc2_1 ≠ gb164)); have n10_ := Aside0.mk ((by rw [hg]; exact Nat.ne_of_gt (blk_lt (g := gc2_1) (o := .cells #[.int .i64 a2_1_0] 2 (0, 0)) (by (with_reducible repeat (first | refine blk_drewN ?_ _ | refine blk_drew ?_ | refine blk_alloc ?_ _)); exact BK162.out)) : gb164 ≠ gc2_1)); have n11_ := Aside0.mk ((by rw [hg]; exact Nat.ne_of_lt (blk_lt (g := gb163) (o := .cells #[.int .i64 a1_0, .int .i64 a1_1, .int .i64 a1_2, .int .i64 a1_3] 37 (0, 0)) (by (with_reducible repeat (first | refine blk_drewN ?_ _ | refine blk_drew ?_ | refine blk_alloc ?_ _)); exact BK163.out)) : gb163 ≠ gb164)); have n12_ := Aside0.mk ((by rw [hg]; exact Nat.ne_of_gt (blk_lt (g := gb163) (o := .cells #[.int .i64 a1_0, .int .i64 a1_1, .int .i64 a1_2, .int .i64 a1_3] 37 (0, 0)) (by (with_reducible repeat (first | refine blk_drewN ?_ _ | refine blk_drew ?_ | refine blk_alloc ?_ _)); exact BK163.out)) : gb164 ≠ gb163)); clear BK161; clear BK162; clear BK163; clear HB; have BK161 := n0_; have BK162 := n1_; have BK163 := n2_; have HB := n3_; have BK164 := n4_; have GW164 := n5_; have GE164 := n6_; have NB161_164 := n7_; have NB164_161 := n8_; have NB162_164 := n9_; have NB164_162 := n10_; have NB163_164 := n11_; have NB164_163 := n12_; clear n0_ n1_ n2_ n3_ n4_ n5_ n6_ n7_ n8_ n9_ n10_ n11_ n12_; clear hb hbox hg; have hnb9 := NB164_161.out; have hnc9 := NB161_164.out; have hnb10 := NB164_162.out; have hnc10 := NB162_164.out; have hnb11 := NB164_163.out; have hnc11 := NB163_164.out; have hcz12_0 : w8.cell? ⟨gb164, 0, none⟩ = some (.int .i64 0) := (blk_cell BK164.out 0).trans rfl; have hcz12_1 : w8.cell? ⟨gb164, 1, none⟩ = some (.int .i64 0) := (blk_cell BK164.out 1).trans rfl; have hcz12_2 : w8.cell? ⟨gb164, 2, none⟩ = some (.int .i64 0) := (blk_cell BK164.out 2).trans rfl; have hcz12_3 : w8.cell? ⟨gb164, 3, none⟩ = some (.int .i64 0) := (blk_cell BK164.out 3).trans rfl; have hfz12_0 := blk_frozen BK164.out 0; have hfz12_1 := blk_frozen BK164.out 1; have hfz12_2 := blk_frozen BK164.out 2; have hfz12_3 := blk_frozen BK164.out 3))
  go_loopg [8, 17] k (fun kq v8 v17 w' => ∃ (x8_1 : List (S37)) (x17_1 : Int) (x165000_1 : Int) (x165001_1 : Int) (x165002_1 : Int) (x165003_1 : Int), v17 = .int .i64 x17_1 ∧ Aside0 (table_scan_int64_table_Row__table_Roll_1.l0 kq x8_1 l0 (l0.length : Int) x17_1 l2_0_0 a2_1_0 x165000_1 x165001_1 x165002_1 x165003_1 = some (r1, r2)) ∧ Aside0 (kq ≤ k) ∧ Aside0 (Kd.R k37 37 w' w.heap.size (fun k_ => k_ ≠ gb163 ∧ k_ ≠ gb164) v8 x8_1) ∧ Aside0 (w'.heap[gc2_0]? = some (.cells #[(.slice A2_0_0 l2_0_0.length c2_0_0)] 22 (0, 0))) ∧ Aside0 (w'.heap[gc2_1]? = some (.cells #[.int .i64 a2_1_0] 2 (0, 0))) ∧ Aside0 (w'.heap[gb163]? = some (.cells #[.int .i64 a1_0, .int .i64 a1_1, .int .i64 a1_2, .int .i64 a1_3] 37 (0, 0))) ∧ Aside0 (w'.heap[gb164]? = some (.cells #[.int .i64 x165000_1, .int .i64 x165001_1, .int .i64 x165002_1, .int .i64 x165003_1] 37 (0, 0))) ∧ Aside0 (Below w.heap.size w w'))
  case atStart => exact ⟨(([] : List (S37))), (0), (a1_0), (a1_1), (a1_2), (a1_3), (by first | rfl | (simp; done) | (simp [*]; done)), H', ⟨Nat.le_refl _⟩, ⟨by first | exact Kd.R_nil _ _ _ _ _ | exact Kd.N_nil _ _ _ _ _ | exact Kd.V_nil _ _ _ _ _ | exact Kd.Q_nil _ _ _ _ _ | exact Kd.S_nil _ _ _ _ _⟩, ⟨by (with_reducible repeat (first | refine blk_drewN ?_ _ | refine blk_drew ?_ | refine blk_alloc ?_ _)); refine blk_far ?_ NB161_164.out _; (with_reducible repeat (first | refine blk_drewN ?_ _ | refine blk_drew ?_ | refine blk_alloc ?_ _)); refine blk_far ?_ NB161_164.out _; (with_reducible repeat (first | refine blk_drewN ?_ _ | refine blk_drew ?_ | refine blk_alloc ?_ _)); refine blk_far ?_ NB161_164.out _; (with_reducible repeat (first | refine blk_drewN ?_ _ | refine blk_drew ?_ | refine blk_alloc ?_ _)); refine blk_far ?_ NB161_164.out _; (with_reducible repeat (first | refine blk_drewN ?_ _ | refine blk_drew ?_ | refine blk_alloc ?_ _)); exact BK161.out⟩, ⟨by (with_reducible repeat (first | refine blk_drewN ?_ _ | refine blk_drew ?_ | refine blk_alloc ?_ _)); refine blk_far ?_ NB162_164.out _; (with_reducible repeat (first | refine blk_drewN ?_ _ | refine blk_drew ?_ | refine blk_alloc ?_ _)); refine blk_far ?_ NB162_164.out _; (with_reducible repeat (first | refine blk_drewN ?_ _ | refine blk_drew ?_ | refine blk_alloc ?_ _)); refine blk_far ?_ NB162_164.out _; (with_reducible repeat (first | refine blk_drewN ?_ _ | refine blk_drew ?_ | refine blk_alloc ?_ _)); refine blk_far ?_ NB162_164.out _; (with_reducible repeat (first | refine blk_drewN ?_ _ | refine blk_drew ?_ | refine blk_alloc ?_ _)); exact BK162.out⟩, ⟨by (with_reducible repeat (first | refine blk_drewN ?_ _ | refine blk_drew ?_ | refine blk_alloc ?_ _)); refine blk_far ?_ NB163_164.out _; (with_reducible repeat (first | refine blk_drewN ?_ _ | refine blk_drew ?_ | refine blk_alloc ?_ _)); refine blk_far ?_ NB163_164.out _; (with_reducible repeat (first | refine blk_drewN ?_ _ | refine blk_drew ?_ | refine blk_alloc ?_ _)); refine blk_far ?_ NB163_164.out _; (with_reducible repeat (first | refine blk_drewN ?_ _ | refine blk_drew ?_ | refine blk_alloc ?_ _)); refine blk_far ?_ NB163_164.out _; (with_reducible repeat (first | refine blk_drewN ?_ _ | refine blk_drew ?_ | refine blk_alloc ?_ _)); exact BK163.out⟩, ⟨by (with_reducible repeat (first | refine blk_drewN ?_ _ | refine blk_drew ?_ | refine blk_alloc ?_ _)); refine blk_put (cs := #[.int .i64 a1_0, .int .i64 a1_1, .int .i64 a1_2, .int .i64 0]) ?_ 3 _ rfl; (with_reducible repeat (first | refine blk_drewN ?_ _ | refine blk_drew ?_ | refine blk_alloc ?_ _)); refine blk_put (cs := #[.int .i64 a1_0, .int .i64 a1_1, .int .i64 0, .int .i64 0]) ?_ 2 _ rfl; (with_reducible repeat (first | refine blk_drewN ?_ _ | refine blk_drew ?_ | refine blk_alloc ?_ _)); refine blk_put (cs := #[.int .i64 a1_0, .int .i64 0, .int .i64 0, .int .i64 0]) ?_ 1 _ rfl; (with_reducible repeat (first | refine blk_drewN ?_ _ | refine blk_drew ?_ | refine blk_alloc ?_ _)); refine blk_put (cs := #[.int .i64 0, .int .i64 0, .int .i64 0, .int .i64 0]) ?_ 0 _ rfl; (with_reducible repeat (first | refine blk_drewN ?_ _ | refine blk_drew ?_ | refine blk_alloc ?_ _)); exact BK164.out⟩, ⟨by repeat (first | (with_reducible first | exact HB.out | apply below_alloc | apply pw_below_drewN | apply below_drew1 | refine below_set ?_ GE161.out | refine below_set ?_ GE162.out | refine below_set ?_ GE163.out | refine below_set ?_ GE164.out) | exact HB.out)⟩⟩
  case round =>
    clear H'
    try clear c1
    try clear c2
    try clear p2
    try clear c5
    try clear c6
    try clear c7
    try clear c9
    try clear c10
    try clear c11
    try clear hcz12_0
    try clear hcz12_1
    try clear hcz12_2
    try clear hcz12_3
    try clear hcz7_0
    try clear hcz7_1
    try clear hcz7_2
    try clear hcz7_3
    try clear hfz12_0
    try clear hfz12_1
    try clear hfz12_2
    try clear hfz12_3
    try clear hfz7_0
    try clear hfz7_1
    try clear hfz7_2
    try clear hfz7_3
    obtain ⟨x8_1, x17_1, x165000_1, x165001_1, x165002_1, x165003_1, rfl, HA, HK1, HO_8, BK161, BK162, BK163, BK164, HB⟩ := hrel
    cases gk with
    | zero => exact absurd HA.out (by simp [table_scan_int64_table_Row__table_Roll_1.l0])
    | succ k1 =>
      have H := HA.out
      clear HA
      simp only [table_scan_int64_table_Row__table_Roll_1.l0] at H
      by_cases c13 : x17_1 < (l0.length : Int)
      · rw [if_pos c13] at H
        have c13b0 : decide (x17_1 < (l0.length : Int)) = true := decide_eq_true c13
        clear c13
        by_cases c14 : 0 ≤ x17_1
        · rw [if_pos c14] at H
          have c14b0 : decide (0 ≤ x17_1) = true := decide_eq_true c14
          clear c14
          by_cases c15 : x17_1 < (l0.length : Int)
          · rw [if_pos c15] at H
            have c15b0 : decide (x17_1 < (l0.length : Int)) = true := decide_eq_true c15
            clear c15
            replace H := Option.bind_eq_some_iff.mp H
            obtain ⟨⟨t166, t167, t168, t169, t170⟩, A160, H⟩ := H
            replace H : (if t170 = 0 then (if x8_1.length < 4398046511104 then (table_scan_int64_table_Row__table_Roll_1.l0 k1 (x8_1 ++ [(⟨t166, t167, t168, t169⟩ : S37)]) l0 (l0.length : Int) (wrap64 (x17_1 + 1)) l2_0_0 a2_1_0 t166 t167 t168 t169) else (none)) else (some (([] : List (S37)), t170))) = some (r1, r2) := H
            have A16 := Aside0.mk A160
            clear A160
            by_cases c17 : t170 = 0
            · rw [if_pos c17] at H
              have c17b0 : (t170 == 0) = true := beq_iff_eq.mpr c17
              have c17b1 : (t170 != 0) = false := bne_eq_false_iff_eq.mpr c17
              clear c17
              by_cases c18 : x8_1.length < 4398046511104
              · rw [if_pos c18] at H
                have LMc18 := Aside0.mk c18
                clear c18
                obtain ⟨y172, hy172⟩ : ∃ y_ : List (S37), y_ = (x8_1 ++ [(⟨t166, t167, t168, t169⟩ : S37)]) := ⟨_, rfl⟩
                replace H : (table_scan_int64_table_Row__table_Roll_1.l0 k1 y172 l0 (l0.length : Int) (wrap64 (x17_1 + 1)) l2_0_0 a2_1_0 t166 t167 t168 t169) = some (r1, r2) := by first | (rw [hy172]; with_reducible exact H) | (have H2_ := (Option.bind_some _ _).symm.trans H; rw [hy172]; with_reducible exact H2_) | (have H2_ := (Option.bind_some _ _).symm.trans H; with_reducible exact H2_) | with_reducible exact H | (rw [hy172]; exact H) | exact H
                have Ny172 := Aside0.mk hy172
                clear hy172
                have H' := Aside0.mk H
                clear H
                have p165 : 0 ≤ (x17_1 : Int) := of_decide_eq_true (by first | (with_reducible assumption) | assumption)
                have q165 : x17_1 < (l0.length : Int) := of_decide_eq_true (by first | (with_reducible assumption) | assumption)
                obtain ⟨ad165, e165, hx165_0⟩ := Kd.at_int HR0.out x17_1 p165 q165
                cases e165
                try replace hx165_0 := (HB.out.cell (World.block_lt_of_cell? w _ hx165_0)).trans hx165_0
                replace p165 := eq_true p165
                replace q165 := eq_true q165
                have hnb19 := NB164_161.out
                have hnc19 := NB161_164.out
                have hnb20 := NB164_162.out
                have hnc20 := NB162_164.out
                have hnb21 := NB164_163.out
                have hnc21 := NB163_164.out
                have hcz22_0 : wr.cell? ⟨gb164, 0, none⟩ = some (.int .i64 x165000_1) := (blk_cell BK164.out 0).trans rfl
                have hcz22_1 : wr.cell? ⟨gb164, 1, none⟩ = some (.int .i64 x165001_1) := (blk_cell BK164.out 1).trans rfl
                have hcz22_2 : wr.cell? ⟨gb164, 2, none⟩ = some (.int .i64 x165002_1) := (blk_cell BK164.out 2).trans rfl
                have hcz22_3 : wr.cell? ⟨gb164, 3, none⟩ = some (.int .i64 x165003_1) := (blk_cell BK164.out 3).trans rfl
                have hfz22_0 := blk_frozen BK164.out 0
                have hfz22_1 := blk_frozen BK164.out 1
                have hfz22_2 := blk_frozen BK164.out 2
                have hfz22_3 := blk_frozen BK164.out 3
                have hnb23 := NB161_163.out
                have hnc23 := NB163_161.out
                have hcz24_0 : wr.cell? ⟨gc2_0, 0, none⟩ = some (.slice A2_0_0 l2_0_0.length c2_0_0) := (blk_cell BK161.out 0).trans rfl
                have hfz24_0 := blk_frozen BK161.out 0
                have hnb25 := NB162_163.out
                have hnc25 := NB163_162.out
                have hcz26_0 : wr.cell? ⟨gc2_1, 0, none⟩ = some (.int .i64 a2_1_0) := (blk_cell BK162.out 0).trans rfl
                have hfz26_0 := blk_frozen BK162.out 0
                try go_wp2_with (first | (go_at_call 32; (with_reducible refine (table_Roll_1.calls k1 x165000_1 x165001_1 x165002_1 x165003_1 x17_1 (rd l0 x17_1) gc2_0 A2_0_0 c2_0_0 l2_0_0 gc2_1 a2_1_0 t166 t167 t168 t169 t170 _ ?side1 ?side2 ?side3 ?side4 A16.out).mono ?_); (case side1 => (with_reducible repeat (first | refine blk_drewN ?_ _ | refine blk_drew ?_ | refine blk_alloc ?_ _)); exact BK161.out); (case side2 => repeat (first | exact (Kd.C_below HR2_0_0.out HB.out) | (with_reducible refine Kd.C_alloc ?_ _) | (with_reducible refine Kd.C_drewN ?_ _) | (with_reducible refine Kd.C_drew ?_))); (case side3 => exact HC2_0_0.out); (case side4 => (with_reducible repeat (first | refine blk_drewN ?_ _ | refine blk_drew ?_ | refine blk_alloc ?_ _)); exact BK162.out); rintro e w27 ⟨rfl, hb⟩; have n0_ := Aside0.mk (Kd.R_below (by (with_reducible repeat (first | apply Kd.R_alloc | apply Kd.R_drewN | apply Kd.R_drew)); exact HO_8.out) hb); have n1_ := Aside0.mk (blk_below (g := gc2_0) (o := .cells #[.slice A2_0_0 l2_0_0.length c2_0_0] 22 (0, 0)) (by (with_reducible repeat (first | refine blk_drewN ?_ _ | refine blk_drew ?_ | refine blk_alloc ?_ _)); exact BK161.out) hb); have n2_ := Aside0.mk (blk_below (g := gc2_1) (o := .cells #[.int .i64 a2_1_0] 2 (0, 0)) (by (with_reducible repeat (first | refine blk_drewN ?_ _ | refine blk_drew ?_ | refine blk_alloc ?_ _)); exact BK162.out) hb); have n3_ := Aside0.mk (blk_below (g := gb163) (o := .cells #[.int .i64 a1_0, .int .i64 a1_1, .int .i64 a1_2, .int .i64 a1_3] 37 (0, 0)) (by (with_reducible repeat (first | refine blk_drewN ?_ _ | refine blk_drew ?_ | refine blk_alloc ?_ _)); exact BK163.out) hb); have n4_ := Aside0.mk (blk_below (g := gb164) (o := .cells #[.int .i64 x165000_1, .int .i64 x165001_1, .int .i64 x165002_1, .int .i64 x165003_1] 37 (0, 0)) (by (with_reducible repeat (first | refine blk_drewN ?_ _ | refine blk_drew ?_ | refine blk_alloc ?_ _)); exact BK164.out) hb); have n5_ := Aside0.mk (below_step (by repeat (first | (with_reducible first | exact HB.out | apply below_alloc | apply pw_below_drewN | apply below_drew1 | refine below_set ?_ GE161.out | refine below_set ?_ GE162.out | refine below_set ?_ GE163.out | refine below_set ?_ GE164.out) | exact HB.out)) hb); clear HO_8; clear BK161; clear BK162; clear BK163; clear BK164; clear HB; have HO_8 := n0_; have BK161 := n1_; have BK162 := n2_; have BK163 := n3_; have BK164 := n4_; have HB := n5_; clear n0_ n1_ n2_ n3_ n4_ n5_; (try clear hb); (try clear hb2); (try clear hk); (try clear hi)) | ((with_reducible refine gate_dst (N := 12) rfl ?_); refine box_event ?hg (N := 12) ?hd (cs := #[.int .i64 0, .int .i64 0, .int .i64 0, .int .i64 0]) (t := 37) ?hr ?_; (case hd => rfl); (case hg => rfl); (case hr => first | (go_simp; done) | (go_simp; rfl)); intro gb171 hg w28 hbox hb; have n0_ := Aside0.mk (Kd.R_below (Kd.R_elderB (by (with_reducible repeat (first | apply Kd.R_alloc | apply Kd.R_drewN | apply Kd.R_drew)); exact HO_8.out) gb171 (Nat.le_of_eq hg.symm)) hb); have n1_ := Aside0.mk (blk_below (g := gc2_0) (o := .cells #[.slice A2_0_0 l2_0_0.length c2_0_0] 22 (0, 0)) (by (with_reducible repeat (first | refine blk_drewN ?_ _ | refine blk_drew ?_ | refine blk_alloc ?_ _)); exact BK161.out) hb); have n2_ := Aside0.mk (blk_below (g := gc2_1) (o := .cells #[.int .i64 a2_1_0] 2 (0, 0)) (by (with_reducible repeat (first | refine blk_drewN ?_ _ | refine blk_drew ?_ | refine blk_alloc ?_ _)); exact BK162.out) hb); have n3_ := Aside0.mk (blk_below (g := gb163) (o := .cells #[.int .i64 a1_0, .int .i64 a1_1, .int .i64 a1_2, .int .i64 a1_3] 37 (0, 0)) (by (with_reducible repeat (first | refine blk_drewN ?_ _ | refine blk_drew ?_ | refine blk_alloc ?_ _)); exact BK163.out) hb); have n4_ := Aside0.mk (blk_below (g := gb164) (o := .cells #[.int .i64 x165000_1, .int .i64 x165001_1, .int .i64 x165002_1, .int .i64 x165003_1] 37 (0, 0)) (by (with_reducible repeat (first | refine blk_drewN ?_ _ | refine blk_drew ?_ | refine blk_alloc ?_ _)); exact BK164.out) hb); have n5_ := Aside0.mk (below_step (by repeat (first | (with_reducible first | exact HB.out | apply below_alloc | apply pw_below_drewN | apply below_drew1 | refine below_set ?_ GE161.out | refine below_set ?_ GE162.out | refine below_set ?_ GE163.out | refine below_set ?_ GE164.out) | exact HB.out)) hb); have n6_ := Aside0.mk (hbox); have n7_ := Aside0.mk ((by rw [hg]; exact (below_size (by repeat (first | (with_reducible first | exact HB.out | apply below_alloc | apply pw_below_drewN | apply below_drew1 | refine below_set ?_ GE161.out | refine below_set ?_ GE162.out | refine below_set ?_ GE163.out | refine below_set ?_ GE164.out) | exact HB.out))) : w.heap.size ≤ gb171)); have n8_ := Aside0.mk ((by rw [hg]; exact (below_size (by repeat (first | (with_reducible first | exact HB.out | apply below_alloc | apply pw_below_drewN | apply below_drew1 | refine below_set ?_ GE161.out | refine below_set ?_ GE162.out | refine below_set ?_ GE163.out | refine below_set ?_ GE164.out) | exact HB.out))) : w.heap.size ≤ gb171)); have n9_ := Aside0.mk ((by rw [hg]; exact Nat.ne_of_lt (blk_lt (g := gc2_0) (o := .cells #[.slice A2_0_0 l2_0_0.length c2_0_0] 22 (0, 0)) (by (with_reducible repeat (first | refine blk_drewN ?_ _ | refine blk_drew ?_ | refine blk_alloc ?_ _)); exact BK161.out)) : gc2_0 ≠ gb171)); have n10_ := Aside0.mk ((by rw [hg]; exact Nat.ne_of_gt (blk_lt (g := gc2_0) (o := .cells #[.slice A2_0_0 l2_0_0.length c2_0_0] 22 (0, 0)) (by (with_reducible repeat (first | refine blk_drewN ?_ _ | refine blk_drew ?_ | refine blk_alloc ?_ _)); exact BK161.out)) : gb171 ≠ gc2_0)); have n11_ := Aside0.mk ((by rw [hg]; exact Nat.ne_of_lt (blk_lt (g := gc2_1) (o := .cells #[.int .i64 a2_1_0] 2 (0, 0)) (by (with_reducible repeat (first | refine blk_drewN ?_ _ | refine blk_drew ?_ | refine blk_alloc ?_ _)); exact BK162.out)) : gc2_1 ≠ gb171)); have n12_ := Aside0.mk ((by rw [hg]; exact Nat.ne_of_gt (blk_lt (g := gc2_1) (o := .cells #[.int .i64 a2_1_0] 2 (0, 0)) (by (with_reducible repeat (first | refine blk_drewN ?_ _ | refine blk_drew ?_ | refine blk_alloc ?_ _)); exact BK162.out)) : gb171 ≠ gc2_1)); have n13_ := Aside0.mk ((by rw [hg]; exact Nat.ne_of_lt (blk_lt (g := gb163) (o := .cells #[.int .i64 a1_0, .int .i64 a1_1, .int .i64 a1_2, .int .i64 a1_3] 37 (0, 0)) (by (with_reducible repeat (first | refine blk_drewN ?_ _ | refine blk_drew ?_ | refine blk_alloc ?_ _)); exact BK163.out)) : gb163 ≠ gb171)); have n14_ := Aside0.mk ((by rw [hg]; exact Nat.ne_of_gt (blk_lt (g := gb163) (o := .cells #[.int .i64 a1_0, .int .i64 a1_1, .int .i64 a1_2, .int .i64 a1_3] 37 (0, 0)) (by (with_reducible repeat (first | refine blk_drewN ?_ _ | refine blk_drew ?_ | refine blk_alloc ?_ _)); exact BK163.out)) : gb171 ≠ gb163)); have n15_ := Aside0.mk ((by rw [hg]; exact Nat.ne_of_lt (blk_lt (g := gb164) (o := .cells #[.int .i64 x165000_1, .int .i64 x165001_1, .int .i64 x165002_1, .int .i64 x165003_1] 37 (0, 0)) (by (with_reducible repeat (first | refine blk_drewN ?_ _ | refine blk_drew ?_ | refine blk_alloc ?_ _)); exact BK164.out)) : gb164 ≠ gb171)); have n16_ := Aside0.mk ((by rw [hg]; exact Nat.ne_of_gt (blk_lt (g := gb164) (o := .cells #[.int .i64 x165000_1, .int .i64 x165001_1, .int .i64 x165002_1, .int .i64 x165003_1] 37 (0, 0)) (by (with_reducible repeat (first | refine blk_drewN ?_ _ | refine blk_drew ?_ | refine blk_alloc ?_ _)); exact BK164.out)) : gb171 ≠ gb164)); clear HO_8; clear BK161; clear BK162; clear BK163; clear BK164; clear HB; have HO_8 := n0_; have BK161 := n1_; have BK162 := n2_; have BK163 := n3_; have BK164 := n4_; have HB := n5_; have BK171 := n6_; have GW171 := n7_; have GE171 := n8_; have NB161_171 := n9_; have NB171_161 := n10_; have NB162_171 := n11_; have NB171_162 := n12_; have NB163_171 := n13_; have NB171_163 := n14_; have NB164_171 := n15_; have NB171_164 := n16_; clear n0_ n1_ n2_ n3_ n4_ n5_ n6_ n7_ n8_ n9_ n10_ n11_ n12_ n13_ n14_ n15_ n16_; clear hb hbox hg; have hnb29 := NB171_161.out; have hnc29 := NB161_171.out; have hnb30 := NB171_162.out; have hnc30 := NB162_171.out; have hnb31 := NB171_163.out; have hnc31 := NB163_171.out; have hnb32 := NB171_164.out; have hnc32 := NB164_171.out; have hcz33_0 : w28.cell? ⟨gb171, 0, none⟩ = some (.int .i64 0) := (blk_cell BK171.out 0).trans rfl; have hcz33_1 : w28.cell? ⟨gb171, 1, none⟩ = some (.int .i64 0) := (blk_cell BK171.out 1).trans rfl; have hcz33_2 : w28.cell? ⟨gb171, 2, none⟩ = some (.int .i64 0) := (blk_cell BK171.out 2).trans rfl; have hcz33_3 : w28.cell? ⟨gb171, 3, none⟩ = some (.int .i64 0) := (blk_cell BK171.out 3).trans rfl; have hfz33_0 := blk_frozen BK171.out 0; have hfz33_1 := blk_frozen BK171.out 1; have hfz33_2 := blk_frozen BK171.out 2; have hfz33_3 := blk_frozen BK171.out 3))
                have n0_ : Aside0 (Kd.R k37 37 ((((w28.setCell ⟨gb171, 0, none⟩ (.int .i64 t166)).setCell ⟨gb171, 1, none⟩ (.int .i64 t167)).setCell ⟨gb171, 2, none⟩ (.int .i64 t168)).setCell ⟨gb171, 3, none⟩ (.int .i64 t169)) w.heap.size (fun k_ => k_ ≠ gb163 ∧ k_ ≠ gb164 ∧ k_ ≠ gb171) u8 x8_1) := ⟨by (with_reducible repeat (first | apply Kd.R_alloc | apply Kd.R_drewN | apply Kd.R_drew)); exact Kd.R_mono (Kd.R_far (p := ⟨gb171, 3, none⟩) (Kd.R_far (p := ⟨gb171, 2, none⟩) (Kd.R_far (p := ⟨gb171, 1, none⟩) (Kd.R_far (p := ⟨gb171, 0, none⟩) (Kd.R_mono HO_8.out (fun k_ hk => (⟨hk, hk.2⟩ : _ ∧ k_ ≠ gb171))) (fun _ hk => hk.2) (.int .i64 t166)) (fun _ hk => hk.2) (.int .i64 t167)) (fun _ hk => hk.2) (.int .i64 t168)) (fun _ hk => hk.2) (.int .i64 t169)) (fun _ hk => ⟨hk.1.1.1, ⟨hk.1.1.2, hk.1.2⟩⟩)⟩
                have n1_ : Aside0 (((((w28.setCell ⟨gb171, 0, none⟩ (.int .i64 t166)).setCell ⟨gb171, 1, none⟩ (.int .i64 t167)).setCell ⟨gb171, 2, none⟩ (.int .i64 t168)).setCell ⟨gb171, 3, none⟩ (.int .i64 t169)).heap[gc2_0]? = some (.cells #[.slice A2_0_0 l2_0_0.length c2_0_0] 22 (0, 0))) := ⟨by (with_reducible repeat (first | refine blk_drewN ?_ _ | refine blk_drew ?_ | refine blk_alloc ?_ _)); refine blk_far ?_ NB161_171.out _; (with_reducible repeat (first | refine blk_drewN ?_ _ | refine blk_drew ?_ | refine blk_alloc ?_ _)); refine blk_far ?_ NB161_171.out _; (with_reducible repeat (first | refine blk_drewN ?_ _ | refine blk_drew ?_ | refine blk_alloc ?_ _)); refine blk_far ?_ NB161_171.out _; (with_reducible repeat (first | refine blk_drewN ?_ _ | refine blk_drew ?_ | refine blk_alloc ?_ _)); refine blk_far ?_ NB161_171.out _; (with_reducible repeat (first | refine blk_drewN ?_ _ | refine blk_drew ?_ | refine blk_alloc ?_ _)); exact BK161.out⟩
                have n2_ : Aside0 (((((w28.setCell ⟨gb171, 0, none⟩ (.int .i64 t166)).setCell ⟨gb171, 1, none⟩ (.int .i64 t167)).setCell ⟨gb171, 2, none⟩ (.int .i64 t168)).setCell ⟨gb171, 3, none⟩ (.int .i64 t169)).heap[gc2_1]? = some (.cells #[.int .i64 a2_1_0] 2 (0, 0))) := ⟨by (with_reducible repeat (first | refine blk_drewN ?_ _ | refine blk_drew ?_ | refine blk_alloc ?_ _)); refine blk_far ?_ NB162_171.out _; (with_reducible repeat (first | refine blk_drewN ?_ _ | refine blk_drew ?_ | refine blk_alloc ?_ _)); refine blk_far ?_ NB162_171.out _; (with_reducible repeat (first | refine blk_drewN ?_ _ | refine blk_drew ?_ | refine blk_alloc ?_ _)); refine blk_far ?_ NB162_171.out _; (with_reducible repeat (first | refine blk_drewN ?_ _ | refine blk_drew ?_ | refine blk_alloc ?_ _)); refine blk_far ?_ NB162_171.out _; (with_reducible repeat (first | refine blk_drewN ?_ _ | refine blk_drew ?_ | refine blk_alloc ?_ _)); exact BK162.out⟩
                have n3_ : Aside0 (((((w28.setCell ⟨gb171, 0, none⟩ (.int .i64 t166)).setCell ⟨gb171, 1, none⟩ (.int .i64 t167)).setCell ⟨gb171, 2, none⟩ (.int .i64 t168)).setCell ⟨gb171, 3, none⟩ (.int .i64 t169)).heap[gb163]? = some (.cells #[.int .i64 a1_0, .int .i64 a1_1, .int .i64 a1_2, .int .i64 a1_3] 37 (0, 0))) := ⟨by (with_reducible repeat (first | refine blk_drewN ?_ _ | refine blk_drew ?_ | refine blk_alloc ?_ _)); refine blk_far ?_ NB163_171.out _; (with_reducible repeat (first | refine blk_drewN ?_ _ | refine blk_drew ?_ | refine blk_alloc ?_ _)); refine blk_far ?_ NB163_171.out _; (with_reducible repeat (first | refine blk_drewN ?_ _ | refine blk_drew ?_ | refine blk_alloc ?_ _)); refine blk_far ?_ NB163_171.out _; (with_reducible repeat (first | refine blk_drewN ?_ _ | refine blk_drew ?_ | refine blk_alloc ?_ _)); refine blk_far ?_ NB163_171.out _; (with_reducible repeat (first | refine blk_drewN ?_ _ | refine blk_drew ?_ | refine blk_alloc ?_ _)); exact BK163.out⟩
                have n4_ : Aside0 (((((w28.setCell ⟨gb171, 0, none⟩ (.int .i64 t166)).setCell ⟨gb171, 1, none⟩ (.int .i64 t167)).setCell ⟨gb171, 2, none⟩ (.int .i64 t168)).setCell ⟨gb171, 3, none⟩ (.int .i64 t169)).heap[gb164]? = some (.cells #[.int .i64 x165000_1, .int .i64 x165001_1, .int .i64 x165002_1, .int .i64 x165003_1] 37 (0, 0))) := ⟨by (with_reducible repeat (first | refine blk_drewN ?_ _ | refine blk_drew ?_ | refine blk_alloc ?_ _)); refine blk_far ?_ NB164_171.out _; (with_reducible repeat (first | refine blk_drewN ?_ _ | refine blk_drew ?_ | refine blk_alloc ?_ _)); refine blk_far ?_ NB164_171.out _; (with_reducible repeat (first | refine blk_drewN ?_ _ | refine blk_drew ?_ | refine blk_alloc ?_ _)); refine blk_far ?_ NB164_171.out _; (with_reducible repeat (first | refine blk_drewN ?_ _ | refine blk_drew ?_ | refine blk_alloc ?_ _)); refine blk_far ?_ NB164_171.out _; (with_reducible repeat (first | refine blk_drewN ?_ _ | refine blk_drew ?_ | refine blk_alloc ?_ _)); exact BK164.out⟩
                have n5_ : Aside0 (((((w28.setCell ⟨gb171, 0, none⟩ (.int .i64 t166)).setCell ⟨gb171, 1, none⟩ (.int .i64 t167)).setCell ⟨gb171, 2, none⟩ (.int .i64 t168)).setCell ⟨gb171, 3, none⟩ (.int .i64 t169)).heap[gb171]? = some (.cells #[.int .i64 t166, .int .i64 t167, .int .i64 t168, .int .i64 t169] 37 (0, 0))) := ⟨by (with_reducible repeat (first | refine blk_drewN ?_ _ | refine blk_drew ?_ | refine blk_alloc ?_ _)); refine blk_put (cs := #[.int .i64 t166, .int .i64 t167, .int .i64 t168, .int .i64 0]) ?_ 3 _ rfl; (with_reducible repeat (first | refine blk_drewN ?_ _ | refine blk_drew ?_ | refine blk_alloc ?_ _)); refine blk_put (cs := #[.int .i64 t166, .int .i64 t167, .int .i64 0, .int .i64 0]) ?_ 2 _ rfl; (with_reducible repeat (first | refine blk_drewN ?_ _ | refine blk_drew ?_ | refine blk_alloc ?_ _)); refine blk_put (cs := #[.int .i64 t166, .int .i64 0, .int .i64 0, .int .i64 0]) ?_ 1 _ rfl; (with_reducible repeat (first | refine blk_drewN ?_ _ | refine blk_drew ?_ | refine blk_alloc ?_ _)); refine blk_put (cs := #[.int .i64 0, .int .i64 0, .int .i64 0, .int .i64 0]) ?_ 0 _ rfl; (with_reducible repeat (first | refine blk_drewN ?_ _ | refine blk_drew ?_ | refine blk_alloc ?_ _)); exact BK171.out⟩
                have n6_ : Aside0 (Below w.heap.size w ((((w28.setCell ⟨gb171, 0, none⟩ (.int .i64 t166)).setCell ⟨gb171, 1, none⟩ (.int .i64 t167)).setCell ⟨gb171, 2, none⟩ (.int .i64 t168)).setCell ⟨gb171, 3, none⟩ (.int .i64 t169))) := ⟨by repeat (first | (with_reducible first | exact HB.out | apply below_alloc | apply pw_below_drewN | apply below_drew1 | refine below_set ?_ GE161.out | refine below_set ?_ GE162.out | refine below_set ?_ GE163.out | refine below_set ?_ GE164.out | refine below_set ?_ GE171.out) | exact HB.out)⟩
                (try clear HO_8)
                (try clear BK161)
                (try clear BK162)
                (try clear BK163)
                (try clear BK164)
                (try clear BK171)
                (try clear HB)
                generalize ((((w28.setCell ⟨gb171, 0, none⟩ (.int .i64 t166)).setCell ⟨gb171, 1, none⟩ (.int .i64 t167)).setCell ⟨gb171, 2, none⟩ (.int .i64 t168)).setCell ⟨gb171, 3, none⟩ (.int .i64 t169)) = w34 at n0_ n1_ n2_ n3_ n4_ n5_ n6_ ⊢
                have HO_8 := n0_
                have BK161 := n1_
                have BK162 := n2_
                have BK163 := n3_
                have BK164 := n4_
                have BK171 := n5_
                have HB := n6_
                clear n0_ n1_ n2_ n3_ n4_ n5_ n6_
                have n0_ := Aside0.mk (Kd.R_drew HO_8.out)
                have n1_ := Aside0.mk (blk_drew BK161.out)
                have n2_ := Aside0.mk (blk_drew BK162.out)
                have n3_ := Aside0.mk (blk_drew BK163.out)
                have n4_ := Aside0.mk (blk_drew BK164.out)
                have n5_ := Aside0.mk (blk_drew BK171.out)
                have n6_ := Aside0.mk (below_drew1 HB.out)
                clear HO_8
                clear BK161
                clear BK162
                clear BK163
                clear BK164
                clear BK171
                clear HB
                have HO_8 := n0_
                have BK161 := n1_
                have BK162 := n2_
                have BK163 := n3_
                have BK164 := n4_
                have BK171 := n5_
                have HB := n6_
                clear n0_ n1_ n2_ n3_ n4_ n5_ n6_
                refine start_ (n := 7) (S := fun w' => w'.cell? ⟨gb171, 0, none⟩ = some (.int .i64 t166) ∧ w'.cell? ⟨gb171, 1, none⟩ = some (.int .i64 t167) ∧ w'.cell? ⟨gb171, 2, none⟩ = some (.int .i64 t168) ∧ w'.cell? ⟨gb171, 3, none⟩ = some (.int .i64 t169)) (ds := []) #[false, false, false, false, false, false, false] (by kernel_rfl) rfl rfl ⟨(blk_cell BK171.out 0).trans rfl, (blk_cell BK171.out 1).trans rfl, (blk_cell BK171.out 2).trans rfl, (blk_cell BK171.out 3).trans rfl⟩ (fun hHeld => ?_)
                generalize w34.drew = w35 at HO_8 BK161 BK162 BK163 BK164 BK171 HB hHeld ⊢
                refine pure_ (i := 0) (N := some 33) (v := ?_) (a' := ?_) #[true, false, false, false, false, false, false] rfl rfl (by kernel_rfl) (fun _ _ _ h => h) (Or.inl ⟨by rfl, ?_⟩) ?_ ?_
                rotate_left
                · intro w'
                  go_simp
                  with_reducible rfl
                rotate_left
                · simp only [Act.put, List.setIfInBounds_toArray, List.set_cons_zero, List.set_cons_succ, i64_w, i32_w]
                  rfl
                refine take_ (i := 1) (N := some 34) (v := ?_) (a' := ?_) #[true, true, false, false, false, false, false] rfl rfl (by kernel_rfl) (fun _ _ _ h => h) (Or.inl ⟨by rfl, ?_⟩) hHeld ?_ ?_
                rotate_left
                · rintro w' ⟨s0, s1, s2, s3⟩
                  go_simp
                  with_reducible rfl
                rotate_left
                · simp only [Act.put, List.setIfInBounds_toArray, List.set_cons_zero, List.set_cons_succ, i64_w, i32_w]
                  rfl
                refine take_ (i := 4) (N := some 37) (v := ?_) (a' := ?_) #[true, true, false, false, true, false, false] rfl rfl (by kernel_rfl) (fun _ _ _ h => h) (Or.inl ⟨by rfl, ?_⟩) hHeld ?_ ?_
                rotate_left
                · rintro w' ⟨s0, s1, s2, s3⟩
                  go_simp
                  with_reducible rfl
                rotate_left
                · simp only [Act.put, List.setIfInBounds_toArray, List.set_cons_zero, List.set_cons_succ, i64_w, i32_w]
                  rfl
                refine one_ (i := 2) (N := some 35) #[true, true, true, false, true, false, false] rfl rfl (by kernel_rfl) (by decide) (fun K hK => ?_)
                refine value_ (w1 := ?_) (v := ?_) (by rfl) rfl ?_ ?_
                rotate_left 2
                · go_simp
                  constructor
                  · rfl
                  · rfl
                refine hK.out _ _ ⟨(blk_cell (blk_alloc BK171.out _) 0).trans rfl, (blk_cell (blk_alloc BK171.out _) 1).trans rfl, (blk_cell (blk_alloc BK171.out _) 2).trans rfl, (blk_cell (blk_alloc BK171.out _) 3).trans rfl⟩ (fun hHeld => ?_)
                clear hK K
                refine norm_ (a' := ?_) ?_ ?_
                rotate_left
                · show Act.put _ (some 35) _ = _
                  simp only [Act.put, List.setIfInBounds_toArray, List.set_cons_zero, List.set_cons_succ, i64_w, i32_w]
                  rfl
                refine one_ (i := 3) (N := some 36) #[true, true, true, true, true, false, false] rfl rfl (by kernel_rfl) (by decide) (fun K hK => ?_)
                refine Kd.R_append_step k37 (w0 := w) w.heap.size (by rfl) (.tmp 33) (.tmp 35) 24 37 (.agg #[(.int .i64 0), (.int .i64 0), (.int .i64 0), (.int .i64 0)]) 32 rfl Try.underlying24 info37 rfl (by decide) (by omega) u8 x8_1 (⟨t166, t167, t168, t169⟩ : S37) [.int .i64 t166, .int .i64 t167, .int .i64 t168, .int .i64 t169] (fun k_ => k_ ≠ gb163 ∧ k_ ≠ gb164 ∧ k_ ≠ gb171) (fun _ => False) rfl rfl ?aP (fun _ hk => hk.elim) ?aF ?aO ?aB ?aS ?aL ?_
                (case aP => exact k37_mkM _ _ _ (⟨t166, t167, t168, t169⟩ : S37))
                (case aB => exact (by repeat (first | (with_reducible first | exact HB.out | apply below_alloc | apply pw_below_drewN | apply below_drew1 | refine below_set ?_ GE161.out | refine below_set ?_ GE162.out | refine below_set ?_ GE163.out | refine below_set ?_ GE164.out | refine below_set ?_ GE171.out) | exact HB.out)))
                (case aF => exact (fun k_ hk => ⟨Kd.freshB (g := gb163) (o := .cells #[.int .i64 a1_0, .int .i64 a1_1, .int .i64 a1_2, .int .i64 a1_3] 37 (0, 0)) (by (with_reducible repeat (first | refine blk_drewN ?_ _ | refine blk_drew ?_ | refine blk_alloc ?_ _)); exact BK163.out) k_ hk, Kd.freshB (g := gb164) (o := .cells #[.int .i64 x165000_1, .int .i64 x165001_1, .int .i64 x165002_1, .int .i64 x165003_1] 37 (0, 0)) (by (with_reducible repeat (first | refine blk_drewN ?_ _ | refine blk_drew ?_ | refine blk_alloc ?_ _)); exact BK164.out) k_ hk, Kd.freshB (g := gb171) (o := .cells #[.int .i64 t166, .int .i64 t167, .int .i64 t168, .int .i64 t169] 37 (0, 0)) (by (with_reducible repeat (first | refine blk_drewN ?_ _ | refine blk_drew ?_ | refine blk_alloc ?_ _)); exact BK171.out) k_ hk⟩))
                (case aO => exact (by (with_reducible repeat (first | apply Kd.R_alloc | apply Kd.R_drewN | apply Kd.R_drew)); exact HO_8.out))
                (case aS => exact (below_size (by repeat (first | (with_reducible first | exact HB.out | apply below_alloc | apply pw_below_drewN | apply below_drew1 | refine below_set ?_ GE161.out | refine below_set ?_ GE162.out | refine below_set ?_ GE163.out | refine below_set ?_ GE164.out | refine below_set ?_ GE171.out) | exact HB.out))))
                (case aL => have := LMc18.out; omega)
                intro v173 w36 ho hb hg hat
                rw [← Ny172.out] at ho
                have n0_ := Aside0.mk (blk_grown (g := gc2_0) (o := .cells #[.slice A2_0_0 l2_0_0.length c2_0_0] 22 (0, 0)) (by (with_reducible repeat (first | refine blk_drewN ?_ _ | refine blk_drew ?_ | refine blk_alloc ?_ _)); exact BK161.out) hg (Kd.R_ne HO_8.out BK161.out (by decide)))
                have n1_ := Aside0.mk (blk_grown (g := gc2_1) (o := .cells #[.int .i64 a2_1_0] 2 (0, 0)) (by (with_reducible repeat (first | refine blk_drewN ?_ _ | refine blk_drew ?_ | refine blk_alloc ?_ _)); exact BK162.out) hg (Kd.R_ne HO_8.out BK162.out (by decide)))
                have n2_ := Aside0.mk (blk_grown (g := gb163) (o := .cells #[.int .i64 a1_0, .int .i64 a1_1, .int .i64 a1_2, .int .i64 a1_3] 37 (0, 0)) (by (with_reducible repeat (first | refine blk_drewN ?_ _ | refine blk_drew ?_ | refine blk_alloc ?_ _)); exact BK163.out) hg (Kd.R_away HO_8.out (fun _ hk => hk.1)))
                have n3_ := Aside0.mk (blk_grown (g := gb164) (o := .cells #[.int .i64 x165000_1, .int .i64 x165001_1, .int .i64 x165002_1, .int .i64 x165003_1] 37 (0, 0)) (by (with_reducible repeat (first | refine blk_drewN ?_ _ | refine blk_drew ?_ | refine blk_alloc ?_ _)); exact BK164.out) hg (Kd.R_away HO_8.out (fun _ hk => hk.2.1)))
                have n4_ := Aside0.mk (blk_grown (g := gb171) (o := .cells #[.int .i64 t166, .int .i64 t167, .int .i64 t168, .int .i64 t169] 37 (0, 0)) (by (with_reducible repeat (first | refine blk_drewN ?_ _ | refine blk_drew ?_ | refine blk_alloc ?_ _)); exact BK171.out) hg (Kd.R_away HO_8.out (fun _ hk => hk.2.2)))
                have n5_ := Aside0.mk (hb)
                have n6_ := Aside0.mk (ho)
                clear BK161
                clear BK162
                clear BK163
                clear BK164
                clear BK171
                clear HB
                clear HO_8
                have BK161 := n0_
                have BK162 := n1_
                have BK163 := n2_
                have BK164 := n3_
                have BK171 := n4_
                have HB := n5_
                have HO174 := n6_
                clear n0_ n1_ n2_ n3_ n4_ n5_ n6_
                clear ho hb hg hat
                refine hK.out _ _ ⟨(blk_cell BK171.out 0).trans rfl, (blk_cell BK171.out 1).trans rfl, (blk_cell BK171.out 2).trans rfl, (blk_cell BK171.out 3).trans rfl⟩ (fun hHeld => ?_)
                clear hK K
                refine norm_ (a' := ?_) ?_ ?_
                rotate_left
                · show Act.put _ (some 36) _ = _
                  simp only [Act.put, List.setIfInBounds_toArray, List.set_cons_zero, List.set_cons_succ, i64_w, i32_w]
                  rfl
                refine pure_ (i := 5) (N := some 8) (v := ?_) (a' := ?_) #[true, true, true, true, true, true, false] rfl rfl (by kernel_rfl) (fun _ _ _ h => h) (Or.inl ⟨by rfl, ?_⟩) ?_ ?_
                rotate_left
                · intro w'
                  go_simp
                  with_reducible rfl
                rotate_left
                · simp only [Act.put, List.setIfInBounds_toArray, List.set_cons_zero, List.set_cons_succ, i64_w, i32_w]
                  rfl
                refine one_ (i := 6) (N := none) #[true, true, true, true, true, true, true] rfl rfl (by kernel_rfl) (by decide) (fun K hK => ?_)
                have hs37 : w36.cell? ⟨gb164, 0, none⟩ = some (.int .i64 x165000_1) := (blk_cell BK164.out 0).trans rfl
                have hfs37 := blk_frozen BK164.out 0
                have hns37_0 := NB161_164.out
                have hns37_1 := NB162_164.out
                have hns37_2 := NB163_164.out
                have hns37_4 := NB171_164.out
                have hms37_0 := NB164_161.out
                have hms37_1 := NB164_162.out
                have hms37_2 := NB164_163.out
                have hms37_4 := NB164_171.out
                have hs38 : w36.cell? ⟨gb164, 1, none⟩ = some (.int .i64 x165001_1) := (blk_cell BK164.out 1).trans rfl
                have hfs38 := blk_frozen BK164.out 1
                have hns38_0 := NB161_164.out
                have hns38_1 := NB162_164.out
                have hns38_2 := NB163_164.out
                have hns38_4 := NB171_164.out
                have hms38_0 := NB164_161.out
                have hms38_1 := NB164_162.out
                have hms38_2 := NB164_163.out
                have hms38_4 := NB164_171.out
                have hs39 : w36.cell? ⟨gb164, 2, none⟩ = some (.int .i64 x165002_1) := (blk_cell BK164.out 2).trans rfl
                have hfs39 := blk_frozen BK164.out 2
                have hns39_0 := NB161_164.out
                have hns39_1 := NB162_164.out
                have hns39_2 := NB163_164.out
                have hns39_4 := NB171_164.out
                have hms39_0 := NB164_161.out
                have hms39_1 := NB164_162.out
                have hms39_2 := NB164_163.out
                have hms39_4 := NB164_171.out
                have hs40 : w36.cell? ⟨gb164, 3, none⟩ = some (.int .i64 x165003_1) := (blk_cell BK164.out 3).trans rfl
                have hfs40 := blk_frozen BK164.out 3
                have hns40_0 := NB161_164.out
                have hns40_1 := NB162_164.out
                have hns40_2 := NB163_164.out
                have hns40_4 := NB171_164.out
                have hms40_0 := NB164_161.out
                have hms40_1 := NB164_162.out
                have hms40_2 := NB164_163.out
                have hms40_4 := NB164_171.out
                refine skip_ (w1 := ?_) (by rfl) rfl ?_ ?_
                rotate_left
                · go_simp
                  rfl
                refine hK.out _ _ ⟨((cell_far (p := ⟨gb164, _, none⟩) NB171_164.out _).trans (((cell_far (p := ⟨gb164, _, none⟩) NB171_164.out _).trans (((cell_far (p := ⟨gb164, _, none⟩) NB171_164.out _).trans (((cell_far (p := ⟨gb164, _, none⟩) NB171_164.out _).trans (hHeld.1)))))))), ((cell_far (p := ⟨gb164, _, none⟩) NB171_164.out _).trans (((cell_far (p := ⟨gb164, _, none⟩) NB171_164.out _).trans (((cell_far (p := ⟨gb164, _, none⟩) NB171_164.out _).trans (((cell_far (p := ⟨gb164, _, none⟩) NB171_164.out _).trans (hHeld.2.1)))))))), ((cell_far (p := ⟨gb164, _, none⟩) NB171_164.out _).trans (((cell_far (p := ⟨gb164, _, none⟩) NB171_164.out _).trans (((cell_far (p := ⟨gb164, _, none⟩) NB171_164.out _).trans (((cell_far (p := ⟨gb164, _, none⟩) NB171_164.out _).trans (hHeld.2.2.1)))))))), ((cell_far (p := ⟨gb164, _, none⟩) NB171_164.out _).trans (((cell_far (p := ⟨gb164, _, none⟩) NB171_164.out _).trans (((cell_far (p := ⟨gb164, _, none⟩) NB171_164.out _).trans (((cell_far (p := ⟨gb164, _, none⟩) NB171_164.out _).trans (hHeld.2.2.2))))))))⟩ (fun hHeld => ?_)
                clear hK K
                refine done_ (by kernel_rfl) ?_
                try go_wp2
                go_roundg k1
                case measure => have := HK1.out; omega
                case rel => exact ⟨(y172), (wrap64 (x17_1 + 1)), (t166), (t167), (t168), (t169), (by first | rfl | (simp; done) | (simp [*]; done)), H', ⟨by have := HK1.out; omega⟩, ⟨by (with_reducible repeat (first | apply Kd.R_alloc | apply Kd.R_drewN | apply Kd.R_drew)); exact Kd.R_mono (Kd.R_far (p := ⟨gb164, 3, none⟩) (Kd.R_far (p := ⟨gb164, 2, none⟩) (Kd.R_far (p := ⟨gb164, 1, none⟩) (Kd.R_far (p := ⟨gb164, 0, none⟩) (Kd.R_mono HO174.out (fun k_ hk => (⟨hk, hk.2.1⟩ : _ ∧ k_ ≠ gb164))) (fun _ hk => hk.2) (.int .i64 t166)) (fun _ hk => hk.2) (.int .i64 t167)) (fun _ hk => hk.2) (.int .i64 t168)) (fun _ hk => hk.2) (.int .i64 t169)) (fun _ hk => ⟨hk.1.1, hk.1.2.1⟩)⟩, ⟨by (with_reducible repeat (first | refine blk_drewN ?_ _ | refine blk_drew ?_ | refine blk_alloc ?_ _)); refine blk_far ?_ NB161_164.out _; (with_reducible repeat (first | refine blk_drewN ?_ _ | refine blk_drew ?_ | refine blk_alloc ?_ _)); refine blk_far ?_ NB161_164.out _; (with_reducible repeat (first | refine blk_drewN ?_ _ | refine blk_drew ?_ | refine blk_alloc ?_ _)); refine blk_far ?_ NB161_164.out _; (with_reducible repeat (first | refine blk_drewN ?_ _ | refine blk_drew ?_ | refine blk_alloc ?_ _)); refine blk_far ?_ NB161_164.out _; (with_reducible repeat (first | refine blk_drewN ?_ _ | refine blk_drew ?_ | refine blk_alloc ?_ _)); exact BK161.out⟩, ⟨by (with_reducible repeat (first | refine blk_drewN ?_ _ | refine blk_drew ?_ | refine blk_alloc ?_ _)); refine blk_far ?_ NB162_164.out _; (with_reducible repeat (first | refine blk_drewN ?_ _ | refine blk_drew ?_ | refine blk_alloc ?_ _)); refine blk_far ?_ NB162_164.out _; (with_reducible repeat (first | refine blk_drewN ?_ _ | refine blk_drew ?_ | refine blk_alloc ?_ _)); refine blk_far ?_ NB162_164.out _; (with_reducible repeat (first | refine blk_drewN ?_ _ | refine blk_drew ?_ | refine blk_alloc ?_ _)); refine blk_far ?_ NB162_164.out _; (with_reducible repeat (first | refine blk_drewN ?_ _ | refine blk_drew ?_ | refine blk_alloc ?_ _)); exact BK162.out⟩, ⟨by (with_reducible repeat (first | refine blk_drewN ?_ _ | refine blk_drew ?_ | refine blk_alloc ?_ _)); refine blk_far ?_ NB163_164.out _; (with_reducible repeat (first | refine blk_drewN ?_ _ | refine blk_drew ?_ | refine blk_alloc ?_ _)); refine blk_far ?_ NB163_164.out _; (with_reducible repeat (first | refine blk_drewN ?_ _ | refine blk_drew ?_ | refine blk_alloc ?_ _)); refine blk_far ?_ NB163_164.out _; (with_reducible repeat (first | refine blk_drewN ?_ _ | refine blk_drew ?_ | refine blk_alloc ?_ _)); refine blk_far ?_ NB163_164.out _; (with_reducible repeat (first | refine blk_drewN ?_ _ | refine blk_drew ?_ | refine blk_alloc ?_ _)); exact BK163.out⟩, ⟨by (with_reducible repeat (first | refine blk_drewN ?_ _ | refine blk_drew ?_ | refine blk_alloc ?_ _)); refine blk_put (cs := #[.int .i64 t166, .int .i64 t167, .int .i64 t168, .int .i64 x165003_1]) ?_ 3 _ rfl; (with_reducible repeat (first | refine blk_drewN ?_ _ | refine blk_drew ?_ | refine blk_alloc ?_ _)); refine blk_put (cs := #[.int .i64 t166, .int .i64 t167, .int .i64 x165002_1, .int .i64 x165003_1]) ?_ 2 _ rfl; (with_reducible repeat (first | refine blk_drewN ?_ _ | refine blk_drew ?_ | refine blk_alloc ?_ _)); refine blk_put (cs := #[.int .i64 t166, .int .i64 x165001_1, .int .i64 x165002_1, .int .i64 x165003_1]) ?_ 1 _ rfl; (with_reducible repeat (first | refine blk_drewN ?_ _ | refine blk_drew ?_ | refine blk_alloc ?_ _)); refine blk_put (cs := #[.int .i64 x165000_1, .int .i64 x165001_1, .int .i64 x165002_1, .int .i64 x165003_1]) ?_ 0 _ rfl; (with_reducible repeat (first | refine blk_drewN ?_ _ | refine blk_drew ?_ | refine blk_alloc ?_ _)); exact BK164.out⟩, ⟨by repeat (first | (with_reducible first | exact HB.out | apply below_alloc | apply pw_below_drewN | apply below_drew1 | refine below_set ?_ GE161.out | refine below_set ?_ GE162.out | refine below_set ?_ GE163.out | refine below_set ?_ GE164.out | refine below_set ?_ GE171.out) | exact HB.out)⟩⟩
              · rw [if_neg c18] at H
                exact absurd H (by simp)
            · rw [if_neg c17] at H
              have c17b0 : (t170 == 0) = false := beq_eq_false_iff_ne.mpr c17
              have c17b1 : (t170 != 0) = true := bne_iff_ne.mpr c17
              simp only [Option.some.injEq, Prod.mk.injEq] at H
              obtain ⟨rfl, rfl⟩ := H
              have p165 : 0 ≤ (x17_1 : Int) := of_decide_eq_true (by first | (with_reducible assumption) | assumption)
              have q165 : x17_1 < (l0.length : Int) := of_decide_eq_true (by first | (with_reducible assumption) | assumption)
              obtain ⟨ad165, e165, hx165_0⟩ := Kd.at_int HR0.out x17_1 p165 q165
              cases e165
              try replace hx165_0 := (HB.out.cell (World.block_lt_of_cell? w _ hx165_0)).trans hx165_0
              replace p165 := eq_true p165
              replace q165 := eq_true q165
              have hnb41 := NB164_161.out
              have hnc41 := NB161_164.out
              have hnb42 := NB164_162.out
              have hnc42 := NB162_164.out
              have hnb43 := NB164_163.out
              have hnc43 := NB163_164.out
              have hcz44_0 : wr.cell? ⟨gb164, 0, none⟩ = some (.int .i64 x165000_1) := (blk_cell BK164.out 0).trans rfl
              have hcz44_1 : wr.cell? ⟨gb164, 1, none⟩ = some (.int .i64 x165001_1) := (blk_cell BK164.out 1).trans rfl
              have hcz44_2 : wr.cell? ⟨gb164, 2, none⟩ = some (.int .i64 x165002_1) := (blk_cell BK164.out 2).trans rfl
              have hcz44_3 : wr.cell? ⟨gb164, 3, none⟩ = some (.int .i64 x165003_1) := (blk_cell BK164.out 3).trans rfl
              have hfz44_0 := blk_frozen BK164.out 0
              have hfz44_1 := blk_frozen BK164.out 1
              have hfz44_2 := blk_frozen BK164.out 2
              have hfz44_3 := blk_frozen BK164.out 3
              have hnb45 := NB161_163.out
              have hnc45 := NB163_161.out
              have hcz46_0 : wr.cell? ⟨gc2_0, 0, none⟩ = some (.slice A2_0_0 l2_0_0.length c2_0_0) := (blk_cell BK161.out 0).trans rfl
              have hfz46_0 := blk_frozen BK161.out 0
              have hnb47 := NB162_163.out
              have hnc47 := NB163_162.out
              have hcz48_0 : wr.cell? ⟨gc2_1, 0, none⟩ = some (.int .i64 a2_1_0) := (blk_cell BK162.out 0).trans rfl
              have hfz48_0 := blk_frozen BK162.out 0
              go_wp2_with (first | (go_at_call 32; (with_reducible refine (table_Roll_1.calls k1 x165000_1 x165001_1 x165002_1 x165003_1 x17_1 (rd l0 x17_1) gc2_0 A2_0_0 c2_0_0 l2_0_0 gc2_1 a2_1_0 t166 t167 t168 t169 t170 _ ?side1 ?side2 ?side3 ?side4 A16.out).mono ?_); (case side1 => (with_reducible repeat (first | refine blk_drewN ?_ _ | refine blk_drew ?_ | refine blk_alloc ?_ _)); exact BK161.out); (case side2 => repeat (first | exact (Kd.C_below HR2_0_0.out HB.out) | (with_reducible refine Kd.C_alloc ?_ _) | (with_reducible refine Kd.C_drewN ?_ _) | (with_reducible refine Kd.C_drew ?_))); (case side3 => exact HC2_0_0.out); (case side4 => (with_reducible repeat (first | refine blk_drewN ?_ _ | refine blk_drew ?_ | refine blk_alloc ?_ _)); exact BK162.out); rintro e w49 ⟨rfl, hb⟩; have n0_ := Aside0.mk (Kd.R_below (by (with_reducible repeat (first | apply Kd.R_alloc | apply Kd.R_drewN | apply Kd.R_drew)); exact HO_8.out) hb); have n1_ := Aside0.mk (blk_below (g := gc2_0) (o := .cells #[.slice A2_0_0 l2_0_0.length c2_0_0] 22 (0, 0)) (by (with_reducible repeat (first | refine blk_drewN ?_ _ | refine blk_drew ?_ | refine blk_alloc ?_ _)); exact BK161.out) hb); have n2_ := Aside0.mk (blk_below (g := gc2_1) (o := .cells #[.int .i64 a2_1_0] 2 (0, 0)) (by (with_reducible repeat (first | refine blk_drewN ?_ _ | refine blk_drew ?_ | refine blk_alloc ?_ _)); exact BK162.out) hb); have n3_ := Aside0.mk (blk_below (g := gb163) (o := .cells #[.int .i64 a1_0, .int .i64 a1_1, .int .i64 a1_2, .int .i64 a1_3] 37 (0, 0)) (by (with_reducible repeat (first | refine blk_drewN ?_ _ | refine blk_drew ?_ | refine blk_alloc ?_ _)); exact BK163.out) hb); have n4_ := Aside0.mk (blk_below (g := gb164) (o := .cells #[.int .i64 x165000_1, .int .i64 x165001_1, .int .i64 x165002_1, .int .i64 x165003_1] 37 (0, 0)) (by (with_reducible repeat (first | refine blk_drewN ?_ _ | refine blk_drew ?_ | refine blk_alloc ?_ _)); exact BK164.out) hb); have n5_ := Aside0.mk (below_step (by repeat (first | (with_reducible first | exact HB.out | apply below_alloc | apply pw_below_drewN | apply below_drew1 | refine below_set ?_ GE161.out | refine below_set ?_ GE162.out | refine below_set ?_ GE163.out | refine below_set ?_ GE164.out) | exact HB.out)) hb); clear HO_8; clear BK161; clear BK162; clear BK163; clear BK164; clear HB; have HO_8 := n0_; have BK161 := n1_; have BK162 := n2_; have BK163 := n3_; have BK164 := n4_; have HB := n5_; clear n0_ n1_ n2_ n3_ n4_ n5_; (try clear hb); (try clear hb2); (try clear hk); (try clear hi)) | ((with_reducible refine gate_dst (N := 12) rfl ?_); refine box_event ?hg (N := 12) ?hd (cs := #[.int .i64 0, .int .i64 0, .int .i64 0, .int .i64 0]) (t := 37) ?hr ?_; (case hd => rfl); (case hg => rfl); (case hr => first | (go_simp; done) | (go_simp; rfl)); intro gb171 hg w50 hbox hb; have n0_ := Aside0.mk (Kd.R_below (Kd.R_elderB (by (with_reducible repeat (first | apply Kd.R_alloc | apply Kd.R_drewN | apply Kd.R_drew)); exact HO_8.out) gb171 (Nat.le_of_eq hg.symm)) hb); have n1_ := Aside0.mk (blk_below (g := gc2_0) (o := .cells #[.slice A2_0_0 l2_0_0.length c2_0_0] 22 (0, 0)) (by (with_reducible repeat (first | refine blk_drewN ?_ _ | refine blk_drew ?_ | refine blk_alloc ?_ _)); exact BK161.out) hb); have n2_ := Aside0.mk (blk_below (g := gc2_1) (o := .cells #[.int .i64 a2_1_0] 2 (0, 0)) (by (with_reducible repeat (first | refine blk_drewN ?_ _ | refine blk_drew ?_ | refine blk_alloc ?_ _)); exact BK162.out) hb); have n3_ := Aside0.mk (blk_below (g := gb163) (o := .cells #[.int .i64 a1_0, .int .i64 a1_1, .int .i64 a1_2, .int .i64 a1_3] 37 (0, 0)) (by (with_reducible repeat (first | refine blk_drewN ?_ _ | refine blk_drew ?_ | refine blk_alloc ?_ _)); exact BK163.out) hb); have n4_ := Aside0.mk (blk_below (g := gb164) (o := .cells #[.int .i64 x165000_1, .int .i64 x165001_1, .int .i64 x165002_1, .int .i64 x165003_1] 37 (0, 0)) (by (with_reducible repeat (first | refine blk_drewN ?_ _ | refine blk_drew ?_ | refine blk_alloc ?_ _)); exact BK164.out) hb); have n5_ := Aside0.mk (below_step (by repeat (first | (with_reducible first | exact HB.out | apply below_alloc | apply pw_below_drewN | apply below_drew1 | refine below_set ?_ GE161.out | refine below_set ?_ GE162.out | refine below_set ?_ GE163.out | refine below_set ?_ GE164.out) | exact HB.out)) hb); have n6_ := Aside0.mk (hbox); have n7_ := Aside0.mk ((by rw [hg]; exact (below_size (by repeat (first | (with_reducible first | exact HB.out | apply below_alloc | apply pw_below_drewN | apply below_drew1 | refine below_set ?_ GE161.out | refine below_set ?_ GE162.out | refine below_set ?_ GE163.out | refine below_set ?_ GE164.out) | exact HB.out))) : w.heap.size ≤ gb171)); have n8_ := Aside0.mk ((by rw [hg]; exact (below_size (by repeat (first | (with_reducible first | exact HB.out | apply below_alloc | apply pw_below_drewN | apply below_drew1 | refine below_set ?_ GE161.out | refine below_set ?_ GE162.out | refine below_set ?_ GE163.out | refine below_set ?_ GE164.out) | exact HB.out))) : w.heap.size ≤ gb171)); have n9_ := Aside0.mk ((by rw [hg]; exact Nat.ne_of_lt (blk_lt (g := gc2_0) (o := .cells #[.slice A2_0_0 l2_0_0.length c2_0_0] 22 (0, 0)) (by (with_reducible repeat (first | refine blk_drewN ?_ _ | refine blk_drew ?_ | refine blk_alloc ?_ _)); exact BK161.out)) : gc2_0 ≠ gb171)); have n10_ := Aside0.mk ((by rw [hg]; exact Nat.ne_of_gt (blk_lt (g := gc2_0) (o := .cells #[.slice A2_0_0 l2_0_0.length c2_0_0] 22 (0, 0)) (by (with_reducible repeat (first | refine blk_drewN ?_ _ | refine blk_drew ?_ | refine blk_alloc ?_ _)); exact BK161.out)) : gb171 ≠ gc2_0)); have n11_ := Aside0.mk ((by rw [hg]; exact Nat.ne_of_lt (blk_lt (g := gc2_1) (o := .cells #[.int .i64 a2_1_0] 2 (0, 0)) (by (with_reducible repeat (first | refine blk_drewN ?_ _ | refine blk_drew ?_ | refine blk_alloc ?_ _)); exact BK162.out)) : gc2_1 ≠ gb171)); have n12_ := Aside0.mk ((by rw [hg]; exact Nat.ne_of_gt (blk_lt (g := gc2_1) (o := .cells #[.int .i64 a2_1_0] 2 (0, 0)) (by (with_reducible repeat (first | refine blk_drewN ?_ _ | refine blk_drew ?_ | refine blk_alloc ?_ _)); exact BK162.out)) : gb171 ≠ gc2_1)); have n13_ := Aside0.mk ((by rw [hg]; exact Nat.ne_of_lt (blk_lt (g := gb163) (o := .cells #[.int .i64 a1_0, .int .i64 a1_1, .int .i64 a1_2, .int .i64 a1_3] 37 (0, 0)) (by (with_reducible repeat (first | refine blk_drewN ?_ _ | refine blk_drew ?_ | refine blk_alloc ?_ _)); exact BK163.out)) : gb163 ≠ gb171)); have n14_ := Aside0.mk ((by rw [hg]; exact Nat.ne_of_gt (blk_lt (g := gb163) (o := .cells #[.int .i64 a1_0, .int .i64 a1_1, .int .i64 a1_2, .int .i64 a1_3] 37 (0, 0)) (by (with_reducible repeat (first | refine blk_drewN ?_ _ | refine blk_drew ?_ | refine blk_alloc ?_ _)); exact BK163.out)) : gb171 ≠ gb163)); have n15_ := Aside0.mk ((by rw [hg]; exact Nat.ne_of_lt (blk_lt (g := gb164) (o := .cells #[.int .i64 x165000_1, .int .i64 x165001_1, .int .i64 x165002_1, .int .i64 x165003_1] 37 (0, 0)) (by (with_reducible repeat (first | refine blk_drewN ?_ _ | refine blk_drew ?_ | refine blk_alloc ?_ _)); exact BK164.out)) : gb164 ≠ gb171)); have n16_ := Aside0.mk ((by rw [hg]; exact Nat.ne_of_gt (blk_lt (g := gb164) (o := .cells #[.int .i64 x165000_1, .int .i64 x165001_1, .int .i64 x165002_1, .int .i64 x165003_1] 37 (0, 0)) (by (with_reducible repeat (first | refine blk_drewN ?_ _ | refine blk_drew ?_ | refine blk_alloc ?_ _)); exact BK164.out)) : gb171 ≠ gb164)); clear HO_8; clear BK161; clear BK162; clear BK163; clear BK164; clear HB; have HO_8 := n0_; have BK161 := n1_; have BK162 := n2_; have BK163 := n3_; have BK164 := n4_; have HB := n5_; have BK171 := n6_; have GW171 := n7_; have GE171 := n8_; have NB161_171 := n9_; have NB171_161 := n10_; have NB162_171 := n11_; have NB171_162 := n12_; have NB163_171 := n13_; have NB171_163 := n14_; have NB164_171 := n15_; have NB171_164 := n16_; clear n0_ n1_ n2_ n3_ n4_ n5_ n6_ n7_ n8_ n9_ n10_ n11_ n12_ n13_ n14_ n15_ n16_; clear hb hbox hg; have hnb51 := NB171_161.out; have hnc51 := NB161_171.out; have hnb52 := NB171_162.out; have hnc52 := NB162_171.out; have hnb53 := NB171_163.out; have hnc53 := NB163_171.out; have hnb54 := NB171_164.out; have hnc54 := NB164_171.out; have hcz55_0 : w50.cell? ⟨gb171, 0, none⟩ = some (.int .i64 0) := (blk_cell BK171.out 0).trans rfl; have hcz55_1 : w50.cell? ⟨gb171, 1, none⟩ = some (.int .i64 0) := (blk_cell BK171.out 1).trans rfl; have hcz55_2 : w50.cell? ⟨gb171, 2, none⟩ = some (.int .i64 0) := (blk_cell BK171.out 2).trans rfl; have hcz55_3 : w50.cell? ⟨gb171, 3, none⟩ = some (.int .i64 0) := (blk_cell BK171.out 3).trans rfl; have hfz55_0 := blk_frozen BK171.out 0; have hfz55_1 := blk_frozen BK171.out 1; have hfz55_2 := blk_frozen BK171.out 2; have hfz55_3 := blk_frozen BK171.out 3))
              go_ret2
              exact ⟨_, by first | rfl | (simp [errW_none, errW_some] <;> rfl) | (simp [*, errW_none, errW_some] <;> rfl), by first | exact Kd.R_nil _ _ _ _ _ | exact Kd.N_nil _ _ _ _ _ | exact Kd.V_nil _ _ _ _ _ | exact Kd.Q_nil _ _ _ _ _ | exact Kd.S_nil _ _ _ _ _, by repeat (first | (with_reducible first | exact HB.out | apply below_alloc | apply pw_below_drewN | apply below_drew1 | refine below_set ?_ GE161.out | refine below_set ?_ GE162.out | refine below_set ?_ GE163.out | refine below_set ?_ GE164.out | refine below_set ?_ GE171.out) | exact HB.out)⟩
          · rw [if_neg c15] at H
            exact absurd H (by simp)
        · rw [if_neg c14] at H
          exact absurd H (by simp)
      · rw [if_neg c13] at H
        have c13b0 : decide (x17_1 < (l0.length : Int)) = false := decide_eq_false c13
        clear c13
        simp only [Option.some.injEq, Prod.mk.injEq] at H
        obtain ⟨rfl, rfl⟩ := H
        go_wp2
        go_ret2
        exact ⟨_, by first | rfl | (simp [errW_none, errW_some] <;> rfl) | (simp [*, errW_none, errW_some] <;> rfl), by (with_reducible repeat (first | apply Kd.R_alloc | apply Kd.R_drewN | apply Kd.R_drew)); exact Kd.R_mono HO_8.out (fun _ hk => trivial), by repeat (first | (with_reducible first | exact HB.out | apply below_alloc | apply pw_below_drewN | apply below_drew1 | refine below_set ?_ GE161.out | refine below_set ?_ GE162.out | refine below_set ?_ GE163.out | refine below_set ?_ GE164.out) | exact HB.out)⟩

end Go.Proofs.Ytalnlphinlfenaa.S
end

section
namespace Go.Proofs.Ytalnlphinlfenaa.S
open Go.RowKit Go.Proofs.YtalnlphinlfenaaW.PrintWords Go.Proofs.YtalnlphinlfenaaW.PrintLast Go.Proofs.YtalnlphinlfenaaW.PrintMore
attribute [local go_sem] max2_int min2_int max_two min_two max_three min_three max_four min_four   -- for this text's walks alone
attribute [local go_sem] Go.Proofs.Ytalnlphinlfenaa.XWalk.cell2
set_option linter.unusedVariables false
set_option linter.unusedSimpArgs false

/-! ### table_Roll: function 12 -/
mutual
def table_Roll.j0 : Nat → Int → Bool → List Int → Int → Option ((List (S37)) × Int)
  | 0, _, _, _, _ => none
  | k + 1, x0, x23, x176000, x177000 => if x23 = true then (some (([] : List (S37)), 2)) else (table_Roll.l0 k x0 x176000 (x176000.length : Int) 0 x176000 x177000)
def table_Roll.l0 : Nat → Int → List Int → Int → Int → List Int → Int → Option ((List (S37)) × Int)
  | 0, _, _, _, _, _, _ => none
  | k + 1, x0, x24, x25, x26, x176000, x177000 => if x26 < x25 then (if 0 ≤ x26 then (if x26 < (x24.length : Int) then ((table_within_int64.f (rd x24 x26) 0 10000000000000).bind fun t181 => (if t181 = true then (table_Roll.l0 k x0 x24 x25 (wrap64 (x26 + 1)) x176000 x177000) else (some (([] : List (S37)), 2)))) else (none)) else (none)) else ((table_scan_int64_table_Row__table_Roll_1.f k x176000 0 0 0 x0 x176000 x177000).bind fun bt182 => (some (bt182.1, bt182.2)))
end
def table_Roll.f (k : Nat) (a0 : Int) (l1 : List Int) (a2 : Int) : Option ((List (S37)) × Int) := (table_within_int.f (l1.length : Int) 1 600).bind fun t177 => (if t177 = true then ((table_within_int64.f a0 1 10000000000000).bind fun t178 => (if t178 = true then ((rate_May.f a2).bind fun t179 => (table_Roll.j0 k a0 (!t179) l1 a2)) else (table_Roll.j0 k a0 true l1 a2))) else (table_Roll.j0 k a0 true l1 a2))
set_option maxHeartbeats 8000000 in
set_option maxRecDepth 100000 in
theorem table_Roll.calls (k : Nat) (a0 : Int) (A1 : Option Addr) (c1 : Nat) (l1 : List Int) (a2 : Int) (r1 : List (S37)) (r2 : Int) (w : World) (hr1 : Kd.C (Kd.int .i64) w A1 l1.length l1) (hc1 : l1.length ≤ c1) (h : table_Roll.f k a0 l1 a2 = some (r1, r2)) :
    Calls Try.prog 12 #[.int .i64 a0, .slice A1 l1.length c1, .int .i64 a2] w fun e w' => ∃ v0_ : Value, e = .returned (.tuple #[v0_, .int .i64 r2]) ∧ Kd.R k37 37 w' w.heap.size (fun _ => True) v0_ r1 ∧ Below w.heap.size w w' := by
  have hu37 := Try.underlying37
  have HR1 := Aside0.mk hr1
  have HC1 := Aside0.mk hc1
  clear hr1 hc1
  have HB := Aside0.mk (Below.refl w.heap.size w)
  have H : ((table_within_int.f (l1.length : Int) 1 600).bind fun t177 => (if t177 = true then ((table_within_int64.f a0 1 10000000000000).bind fun t178 => (if t178 = true then ((rate_May.f a2).bind fun t179 => (table_Roll.j0 k a0 (!t179) l1 a2)) else (table_Roll.j0 k a0 true l1 a2))) else (table_Roll.j0 k a0 true l1 a2))) = some (r1, r2) := h
  clear h
  have HC4 := Aside0.mk H
  clear H
  go_enter Try.func12, Try.ntmps12
  go_upto_region 1 with (first | ((with_reducible refine gate_dst (N := 4) rfl ?_); refine box_event ?hg (N := 4) ?hd (cs := #[.slice A1 l1.length c1]) (t := 22) ?hr ?_; (case hd => rfl); (case hg => rfl); (case hr => first | (go_simp; done) | (go_simp; rfl)); intro gb175 hg w5 hbox hb; have n0_ := Aside0.mk (below_step (by repeat (first | (with_reducible first | exact HB.out | apply below_alloc | apply pw_below_drewN | apply below_drew1) | exact HB.out)) hb); have n1_ := Aside0.mk (hbox); have n2_ := Aside0.mk ((by rw [hg]; exact (below_size (by repeat (first | (with_reducible first | exact HB.out | apply below_alloc | apply pw_below_drewN | apply below_drew1) | exact HB.out))) : w.heap.size ≤ gb175)); have n3_ := Aside0.mk ((by rw [hg]; exact (below_size (by repeat (first | (with_reducible first | exact HB.out | apply below_alloc | apply pw_below_drewN | apply below_drew1) | exact HB.out))) : w.heap.size ≤ gb175)); clear HB; have HB := n0_; have BK175 := n1_; have GW175 := n2_; have GE175 := n3_; clear n0_ n1_ n2_ n3_; clear hb hbox hg) | ((with_reducible refine gate_dst (N := 5) rfl ?_); refine box_event ?hg (N := 5) ?hd (cs := #[.int .i64 a2]) (t := 2) ?hr ?_; (case hd => rfl); (case hg => rfl); (case hr => first | (go_simp; done) | (go_simp; rfl)); intro gb176 hg w6 hbox hb; have n0_ := Aside0.mk (blk_below (g := gb175) (o := .cells #[.slice A1 l1.length c1] 22 (0, 0)) (by (with_reducible repeat (first | refine blk_drewN ?_ _ | refine blk_drew ?_ | refine blk_alloc ?_ _)); exact BK175.out) hb); have n1_ := Aside0.mk (below_step (by repeat (first | (with_reducible first | exact HB.out | apply below_alloc | apply pw_below_drewN | apply below_drew1 | refine below_set ?_ GE175.out) | exact HB.out)) hb); have n2_ := Aside0.mk (hbox); have n3_ := Aside0.mk ((by rw [hg]; exact (below_size (by repeat (first | (with_reducible first | exact HB.out | apply below_alloc | apply pw_below_drewN | apply below_drew1 | refine below_set ?_ GE175.out) | exact HB.out))) : w.heap.size ≤ gb176)); have n4_ := Aside0.mk ((by rw [hg]; exact (below_size (by repeat (first | (with_reducible first | exact HB.out | apply below_alloc | apply pw_below_drewN | apply below_drew1 | refine below_set ?_ GE175.out) | exact HB.out))) : w.heap.size ≤ gb176)); have n5_ := Aside0.mk ((by rw [hg]; exact Nat.ne_of_lt (blk_lt (g := gb175) (o := .cells #[.slice A1 l1.length c1] 22 (0, 0)) (by (with_reducible repeat (first | refine blk_drewN ?_ _ | refine blk_drew ?_ | refine blk_alloc ?_ _)); exact BK175.out)) : gb175 ≠ gb176)); have n6_ := Aside0.mk ((by rw [hg]; exact Nat.ne_of_gt (blk_lt (g := gb175) (o := .cells #[.slice A1 l1.length c1] 22 (0, 0)) (by (with_reducible repeat (first | refine blk_drewN ?_ _ | refine blk_drew ?_ | refine blk_alloc ?_ _)); exact BK175.out)) : gb176 ≠ gb175)); clear BK175; clear HB; have BK175 := n0_; have HB := n1_; have BK176 := n2_; have GW176 := n3_; have GE176 := n4_; have NB175_176 := n5_; have NB176_175 := n6_; clear n0_ n1_ n2_ n3_ n4_ n5_ n6_; clear hb hbox hg))
  (try simp only [Act.put, List.setIfInBounds_toArray, List.set_cons_zero, List.set_cons_succ])
  go_cut [23] (fun v23 wc => ∃ (kq : Nat) (x23_3 : Bool), v23 = .bool x23_3 ∧ Aside0 (table_Roll.j0 kq a0 x23_3 l1 a2 = some (r1, r2)) ∧ Aside0 (kq ≤ k) ∧ Aside0 (wc.heap[gb175]? = some (.cells #[(.slice A1 l1.length c1)] 22 (0, 0))) ∧ Aside0 (wc.heap[gb176]? = some (.cells #[.int .i64 a2] 2 (0, 0))) ∧ Aside0 (Below w.heap.size w wc))
  case first =>
    have H := HC4.out
    clear HC4
    replace H := Option.bind_eq_some_iff.mp H
    obtain ⟨t177, A70, H⟩ := H
    replace H : (if t177 = true then ((table_within_int64.f a0 1 10000000000000).bind fun t178 => (if t178 = true then ((rate_May.f a2).bind fun t179 => (table_Roll.j0 k a0 (!t179) l1 a2)) else (table_Roll.j0 k a0 true l1 a2))) else (table_Roll.j0 k a0 true l1 a2)) = some (r1, r2) := H
    have A7 := Aside0.mk A70
    clear A70
    by_cases c8 : t177 = true
    · subst c8
      have H1 : ((table_within_int64.f a0 1 10000000000000).bind fun t178 => (if t178 = true then ((rate_May.f a2).bind fun t179 => (table_Roll.j0 k a0 (!t179) l1 a2)) else (table_Roll.j0 k a0 true l1 a2))) = some (r1, r2) := by rw [if_pos rfl] at H; exact H
      clear H
      have H := H1
      clear H1
      replace H := Option.bind_eq_some_iff.mp H
      obtain ⟨t178, A90, H⟩ := H
      replace H : (if t178 = true then ((rate_May.f a2).bind fun t179 => (table_Roll.j0 k a0 (!t179) l1 a2)) else (table_Roll.j0 k a0 true l1 a2)) = some (r1, r2) := H
      have A9 := Aside0.mk A90
      clear A90
      by_cases c10 : t178 = true
      · subst c10
        have H1 : ((rate_May.f a2).bind fun t179 => (table_Roll.j0 k a0 (!t179) l1 a2)) = some (r1, r2) := by rw [if_pos rfl] at H; exact H
        clear H
        have H := H1
        clear H1
        replace H := Option.bind_eq_some_iff.mp H
        obtain ⟨t179, A110, H⟩ := H
        replace H : (table_Roll.j0 k a0 (!t179) l1 a2) = some (r1, r2) := H
        have A11 := Aside0.mk A110
        clear A110
        have H' := Aside0.mk H
        clear H
        have hnb12 := NB175_176.out
        have hnc12 := NB176_175.out
        have hcz13_0 : w6.cell? ⟨gb175, 0, none⟩ = some (.slice A1 l1.length c1) := (blk_cell BK175.out 0).trans rfl
        have hfz13_0 := blk_frozen BK175.out 0
        go_wp2_with (first | ((with_reducible refine gate_callee (f := 28) rfl ?_); refine goesL_ (some 12) rfl rfl Try.func28 (by kernel_rfl) rfl #[.int .i64 (l1.length : Int), .int .i64 1, .int .i64 600] rfl (by (try simp only [List.map_toArray, List.map_cons, List.map_nil]); first | done | rfl | (simp only [List.length_drop, List.length_take]; rfl)) ?_; (with_reducible refine (table_within_int.calls (l1.length : Int) 1 600 true _ A7.out).mono ?_); rintro e w' ⟨rfl, ⟨nd, rfl⟩⟩; refine ⟨_, rfl, ?_⟩) | (go_at_call 29; (with_reducible refine (table_within_int64.calls a0 1 10000000000000 true _ A9.out).mono ?_); rintro e w' ⟨rfl, ⟨nd, rfl⟩⟩; have hcz14_0 : w6.cell? ⟨gb176, 0, none⟩ = some (.int .i64 a2) := (blk_cell BK176.out 0).trans rfl; have hfz14_0 := blk_frozen BK176.out 0) | (go_at_call 30; (with_reducible refine (rate_May.calls a2 t179 _ A11.out).mono ?_); rintro e w' ⟨rfl, ⟨nd, rfl⟩⟩))
        go_meet
        case rel => exact ⟨_, (!t179), (by first | rfl | (simp; done) | (simp [*]; done)), H', ⟨by first | omega | exact Nat.le_refl _⟩, ⟨by (with_reducible repeat (first | refine blk_drewN ?_ _ | refine blk_drew ?_ | refine blk_alloc ?_ _)); exact BK175.out⟩, ⟨by (with_reducible repeat (first | refine blk_drewN ?_ _ | refine blk_drew ?_ | refine blk_alloc ?_ _)); exact BK176.out⟩, ⟨by repeat (first | (with_reducible first | exact HB.out | apply below_alloc | apply pw_below_drewN | apply below_drew1 | refine below_set ?_ GE175.out | refine below_set ?_ GE176.out) | exact HB.out)⟩⟩
      · replace c10 := Bool.eq_false_iff.mpr c10
        subst c10
        have H1 : (table_Roll.j0 k a0 true l1 a2) = some (r1, r2) := by rw [if_neg (show ¬ (false = true) by decide)] at H; exact H
        clear H
        have H := H1
        clear H1
        have H' := Aside0.mk H
        clear H
        have hnb15 := NB175_176.out
        have hnc15 := NB176_175.out
        have hcz16_0 : w6.cell? ⟨gb175, 0, none⟩ = some (.slice A1 l1.length c1) := (blk_cell BK175.out 0).trans rfl
        have hfz16_0 := blk_frozen BK175.out 0
        go_wp2_with (first | ((with_reducible refine gate_callee (f := 28) rfl ?_); refine goesL_ (some 12) rfl rfl Try.func28 (by kernel_rfl) rfl #[.int .i64 (l1.length : Int), .int .i64 1, .int .i64 600] rfl (by (try simp only [List.map_toArray, List.map_cons, List.map_nil]); first | done | rfl | (simp only [List.length_drop, List.length_take]; rfl)) ?_; (with_reducible refine (table_within_int.calls (l1.length : Int) 1 600 true _ A7.out).mono ?_); rintro e w' ⟨rfl, ⟨nd, rfl⟩⟩; refine ⟨_, rfl, ?_⟩) | (go_at_call 29; (with_reducible refine (table_within_int64.calls a0 1 10000000000000 false _ A9.out).mono ?_); rintro e w' ⟨rfl, ⟨nd, rfl⟩⟩))
        go_meet
        case rel => exact ⟨_, (true), (by first | rfl | (simp; done) | (simp [*]; done)), H', ⟨by first | omega | exact Nat.le_refl _⟩, ⟨by (with_reducible repeat (first | refine blk_drewN ?_ _ | refine blk_drew ?_ | refine blk_alloc ?_ _)); exact BK175.out⟩, ⟨by (with_reducible repeat (first | refine blk_drewN ?_ _ | refine blk_drew ?_ | refine blk_alloc ?_ _)); exact BK176.out⟩, ⟨by repeat (first | (with_reducible first | exact HB.out | apply below_alloc | apply pw_below_drewN | apply below_drew1 | refine below_set ?_ GE175.out | refine below_set ?_ GE176.out) | exact HB.out)⟩⟩
    · replace c8 := Bool.eq_false_iff.mpr c8
      subst c8
      have H1 : (table_Roll.j0 k a0 true l1 a2) = some (r1, r2) := by rw [if_neg (show ¬ (false = true) by decide)] at H; exact H
      clear H
      have H := H1
      clear H1
      have H' := Aside0.mk H
      clear H
      have hnb17 := NB175_176.out
      have hnc17 := NB176_175.out
      have hcz18_0 : w6.cell? ⟨gb175, 0, none⟩ = some (.slice A1 l1.length c1) := (blk_cell BK175.out 0).trans rfl
      have hfz18_0 := blk_frozen BK175.out 0
      go_wp2_with (first | ((with_reducible refine gate_callee (f := 28) rfl ?_); refine goesL_ (some 12) rfl rfl Try.func28 (by kernel_rfl) rfl #[.int .i64 (l1.length : Int), .int .i64 1, .int .i64 600] rfl (by (try simp only [List.map_toArray, List.map_cons, List.map_nil]); first | done | rfl | (simp only [List.length_drop, List.length_take]; rfl)) ?_; (with_reducible refine (table_within_int.calls (l1.length : Int) 1 600 false _ A7.out).mono ?_); rintro e w' ⟨rfl, ⟨nd, rfl⟩⟩; refine ⟨_, rfl, ?_⟩))
      go_meet
      case rel => exact ⟨_, (true), (by first | rfl | (simp; done) | (simp [*]; done)), H', ⟨by first | omega | exact Nat.le_refl _⟩, ⟨by (with_reducible repeat (first | refine blk_drewN ?_ _ | refine blk_drew ?_ | refine blk_alloc ?_ _)); exact BK175.out⟩, ⟨by (with_reducible repeat (first | refine blk_drewN ?_ _ | refine blk_drew ?_ | refine blk_alloc ?_ _)); exact BK176.out⟩, ⟨by repeat (first | (with_reducible first | exact HB.out | apply below_alloc | apply pw_below_drewN | apply below_drew1 | refine below_set ?_ GE175.out | refine below_set ?_ GE176.out) | exact HB.out)⟩⟩
  case rest =>
    clear HC4
    try clear c1
    try clear c2
    try clear p2
    try clear c8
    try clear c10
    try clear c12
    try clear c15
    try clear c17
    try clear hcz13_0
    try clear hcz14_0
    try clear hcz16_0
    try clear hcz18_0
    try clear hfz13_0
    try clear hfz14_0
    try clear hfz16_0
    try clear hfz18_0
    obtain ⟨kq, x23_3, rfl, HA, HJ3, BK175, BK176, HB⟩ := hcut
    cases kq with
    | zero => exact absurd HA.out (by simp [table_Roll.j0])
    | succ kj3 =>
      have H := HA.out
      clear HA
      simp only [table_Roll.j0] at H
      by_cases c19 : x23_3 = true
      · subst c19
        have H1 : (some (([] : List (S37)), 2)) = some (r1, r2) := by rw [if_pos rfl] at H; exact H
        clear H
        have H := H1
        clear H1
        simp only [Option.some.injEq, Prod.mk.injEq] at H
        obtain ⟨rfl, rfl⟩ := H
        go_wp2
        go_ret2
        exact ⟨_, by first | rfl | (simp [errW_none, errW_some] <;> rfl) | (simp [*, errW_none, errW_some] <;> rfl), by first | exact Kd.R_nil _ _ _ _ _ | exact Kd.N_nil _ _ _ _ _ | exact Kd.V_nil _ _ _ _ _ | exact Kd.Q_nil _ _ _ _ _ | exact Kd.S_nil _ _ _ _ _, by repeat (first | (with_reducible first | exact HB.out | apply below_alloc | apply pw_below_drewN | apply below_drew1 | refine below_set ?_ GE175.out | refine below_set ?_ GE176.out) | exact HB.out)⟩
      · replace c19 := Bool.eq_false_iff.mpr c19
        subst c19
        have H1 : (table_Roll.l0 kj3 a0 l1 (l1.length : Int) 0 l1 a2) = some (r1, r2) := by rw [if_neg (show ¬ (false = true) by decide)] at H; exact H
        clear H
        have H := H1
        clear H1
        have H' := Aside0.mk H
        clear H
        have hnb20 := NB175_176.out
        have hnc20 := NB176_175.out
        have hcz21_0 : wc.cell? ⟨gb175, 0, none⟩ = some (.slice A1 l1.length c1) := (blk_cell BK175.out 0).trans rfl
        have hfz21_0 := blk_frozen BK175.out 0
        go_wp2
        go_loopg [26] kj3 (fun kq v26 w' => ∃ (x26_2 : Int), v26 = .int .i64 x26_2 ∧ Aside0 (table_Roll.l0 kq a0 l1 (l1.length : Int) x26_2 l1 a2 = some (r1, r2)) ∧ Aside0 (kq ≤ kj3) ∧ Aside0 (w'.heap[gb175]? = some (.cells #[(.slice A1 l1.length c1)] 22 (0, 0))) ∧ Aside0 (w'.heap[gb176]? = some (.cells #[.int .i64 a2] 2 (0, 0))) ∧ Aside0 (Below w.heap.size w w'))
        case atStart => exact ⟨(0), (by first | rfl | (simp; done) | (simp [*]; done)), H', ⟨Nat.le_refl _⟩, ⟨by (with_reducible repeat (first | refine blk_drewN ?_ _ | refine blk_drew ?_ | refine blk_alloc ?_ _)); exact BK175.out⟩, ⟨by (with_reducible repeat (first | refine blk_drewN ?_ _ | refine blk_drew ?_ | refine blk_alloc ?_ _)); exact BK176.out⟩, ⟨by repeat (first | (with_reducible first | exact HB.out | apply below_alloc | apply pw_below_drewN | apply below_drew1 | refine below_set ?_ GE175.out | refine below_set ?_ GE176.out) | exact HB.out)⟩⟩
        case round =>
          clear H'
          try clear c1
          try clear c2
          try clear p2
          try clear c8
          try clear c10
          try clear c12
          try clear c15
          try clear c17
          try clear c19
          try clear c20
          try clear hcz13_0
          try clear hcz14_0
          try clear hcz16_0
          try clear hcz18_0
          try clear hcz21_0
          try clear hfz13_0
          try clear hfz14_0
          try clear hfz16_0
          try clear hfz18_0
          try clear hfz21_0
          try clear p2
          obtain ⟨x26_2, rfl, HA, HK2, BK175, BK176, HB⟩ := hrel
          cases gk with
          | zero => exact absurd HA.out (by simp [table_Roll.l0])
          | succ k2 =>
            have H := HA.out
            clear HA
            simp only [table_Roll.l0] at H
            by_cases c22 : x26_2 < (l1.length : Int)
            · rw [if_pos c22] at H
              have c22b0 : decide (x26_2 < (l1.length : Int)) = true := decide_eq_true c22
              clear c22
              by_cases c23 : 0 ≤ x26_2
              · rw [if_pos c23] at H
                have c23b0 : decide (0 ≤ x26_2) = true := decide_eq_true c23
                clear c23
                by_cases c24 : x26_2 < (l1.length : Int)
                · rw [if_pos c24] at H
                  have c24b0 : decide (x26_2 < (l1.length : Int)) = true := decide_eq_true c24
                  clear c24
                  replace H := Option.bind_eq_some_iff.mp H
                  obtain ⟨t181, A250, H⟩ := H
                  replace H : (if t181 = true then (table_Roll.l0 k2 a0 l1 (l1.length : Int) (wrap64 (x26_2 + 1)) l1 a2) else (some (([] : List (S37)), 2))) = some (r1, r2) := H
                  have A25 := Aside0.mk A250
                  clear A250
                  by_cases c26 : t181 = true
                  · subst c26
                    have H1 : (table_Roll.l0 k2 a0 l1 (l1.length : Int) (wrap64 (x26_2 + 1)) l1 a2) = some (r1, r2) := by rw [if_pos rfl] at H; exact H
                    clear H
                    have H := H1
                    clear H1
                    have H' := Aside0.mk H
                    clear H
                    have p180 : 0 ≤ (x26_2 : Int) := of_decide_eq_true (by first | (with_reducible assumption) | assumption)
                    have q180 : x26_2 < (l1.length : Int) := of_decide_eq_true (by first | (with_reducible assumption) | assumption)
                    obtain ⟨ad180, e180, hx180_0⟩ := Kd.at_int HR1.out x26_2 p180 q180
                    cases e180
                    try replace hx180_0 := (HB.out.cell (World.block_lt_of_cell? w _ hx180_0)).trans hx180_0
                    replace p180 := eq_true p180
                    replace q180 := eq_true q180
                    go_wp2_with (first | ((with_reducible refine gate_callee (f := 29) rfl ?_); refine goesL_ (some 31) rfl rfl Try.func29 (by kernel_rfl) rfl #[.int .i64 (rd l1 x26_2), .int .i64 0, .int .i64 10000000000000] rfl (by (try simp only [List.map_toArray, List.map_cons, List.map_nil]); first | done | rfl | (simp only [List.length_drop, List.length_take]; rfl)) ?_; (with_reducible refine (table_within_int64.calls (rd l1 x26_2) 0 10000000000000 true _ A25.out).mono ?_); rintro e w' ⟨rfl, ⟨nd, rfl⟩⟩; refine ⟨_, rfl, ?_⟩))
                    go_roundg k2
                    case measure => have := HJ3.out; have := HK2.out; omega
                    case rel => exact ⟨(wrap64 (x26_2 + 1)), (by first | rfl | (simp; done) | (simp [*]; done)), H', ⟨by have := HJ3.out; have := HK2.out; omega⟩, ⟨by (with_reducible repeat (first | refine blk_drewN ?_ _ | refine blk_drew ?_ | refine blk_alloc ?_ _)); exact BK175.out⟩, ⟨by (with_reducible repeat (first | refine blk_drewN ?_ _ | refine blk_drew ?_ | refine blk_alloc ?_ _)); exact BK176.out⟩, ⟨by repeat (first | (with_reducible first | exact HB.out | apply below_alloc | apply pw_below_drewN | apply below_drew1 | refine below_set ?_ GE175.out | refine below_set ?_ GE176.out) | exact HB.out)⟩⟩
                  · replace c26 := Bool.eq_false_iff.mpr c26
                    subst c26
                    have H1 : (some (([] : List (S37)), 2)) = some (r1, r2) := by rw [if_neg (show ¬ (false = true) by decide)] at H; exact H
                    clear H
                    have H := H1
                    clear H1
                    simp only [Option.some.injEq, Prod.mk.injEq] at H
                    obtain ⟨rfl, rfl⟩ := H
                    have p180 : 0 ≤ (x26_2 : Int) := of_decide_eq_true (by first | (with_reducible assumption) | assumption)
                    have q180 : x26_2 < (l1.length : Int) := of_decide_eq_true (by first | (with_reducible assumption) | assumption)
                    obtain ⟨ad180, e180, hx180_0⟩ := Kd.at_int HR1.out x26_2 p180 q180
                    cases e180
                    try replace hx180_0 := (HB.out.cell (World.block_lt_of_cell? w _ hx180_0)).trans hx180_0
                    replace p180 := eq_true p180
                    replace q180 := eq_true q180
                    go_wp2_with (first | ((with_reducible refine gate_callee (f := 29) rfl ?_); refine goesL_ (some 31) rfl rfl Try.func29 (by kernel_rfl) rfl #[.int .i64 (rd l1 x26_2), .int .i64 0, .int .i64 10000000000000] rfl (by (try simp only [List.map_toArray, List.map_cons, List.map_nil]); first | done | rfl | (simp only [List.length_drop, List.length_take]; rfl)) ?_; (with_reducible refine (table_within_int64.calls (rd l1 x26_2) 0 10000000000000 false _ A25.out).mono ?_); rintro e w' ⟨rfl, ⟨nd, rfl⟩⟩; refine ⟨_, rfl, ?_⟩))
                    go_ret2
                    exact ⟨_, by first | rfl | (simp [errW_none, errW_some] <;> rfl) | (simp [*, errW_none, errW_some] <;> rfl), by first | exact Kd.R_nil _ _ _ _ _ | exact Kd.N_nil _ _ _ _ _ | exact Kd.V_nil _ _ _ _ _ | exact Kd.Q_nil _ _ _ _ _ | exact Kd.S_nil _ _ _ _ _, by repeat (first | (with_reducible first | exact HB.out | apply below_alloc | apply pw_below_drewN | apply below_drew1 | refine below_set ?_ GE175.out | refine below_set ?_ GE176.out) | exact HB.out)⟩
                · rw [if_neg c24] at H
                  exact absurd H (by simp)
              · rw [if_neg c23] at H
                exact absurd H (by simp)
            · rw [if_neg c22] at H
              have c22b0 : decide (x26_2 < (l1.length : Int)) = false := decide_eq_false c22
              clear c22
              replace H := Option.bind_eq_some_iff.mp H
              obtain ⟨⟨t182, t185⟩, A270, H⟩ := H
              replace H : (some (t182, t185)) = some (r1, r2) := H
              have A27 := Aside0.mk A270
              clear A270
              simp only [Option.some.injEq, Prod.mk.injEq] at H
              obtain ⟨rfl, rfl⟩ := H
              have hnb28 := NB175_176.out
              have hnc28 := NB176_175.out
              have hcz29_0 : wr.cell? ⟨gb175, 0, none⟩ = some (.slice A1 l1.length c1) := (blk_cell BK175.out 0).trans rfl
              have hfz29_0 := blk_frozen BK175.out 0
              have hcz30_0 : wr.cell? ⟨gb176, 0, none⟩ = some (.int .i64 a2) := (blk_cell BK176.out 0).trans rfl
              have hfz30_0 := blk_frozen BK176.out 0
              go_wp2_with (first | ((with_reducible refine gate_callee (f := 31) rfl ?_); refine goesL_ (some 38) rfl rfl Try.func31 (by kernel_rfl) rfl #[.slice A1 l1.length c1, .agg #[.int .i64 0, .int .i64 0, .int .i64 0, .int .i64 a0], .func (.func 32) #[] #[.pointer (some ⟨gb175, 0, none⟩), .pointer (some ⟨gb176, 0, none⟩)]] rfl (by (try simp only [List.map_toArray, List.map_cons, List.map_nil]); first | done | rfl | (simp only [List.length_drop, List.length_take]; rfl)) ?_; (with_reducible refine (table_scan_int64_table_Row__table_Roll_1.calls k2 _ _ l1 0 0 0 a0 gb175 A1 c1 l1 gb176 a2 t182 t185 _ ?side1 ?side2 ?side3 ?side4 ?side5 ?side6 A27.out).mono ?_); (case side1 => repeat (first | exact (Kd.C_below HR1.out HB.out) | (with_reducible refine Kd.C_alloc ?_ _) | (with_reducible refine Kd.C_drewN ?_ _) | (with_reducible refine Kd.C_drew ?_))); (case side2 => exact HC1.out); (case side3 => (with_reducible repeat (first | refine blk_drewN ?_ _ | refine blk_drew ?_ | refine blk_alloc ?_ _)); exact BK175.out); (case side4 => repeat (first | exact (Kd.C_below HR1.out HB.out) | (with_reducible refine Kd.C_alloc ?_ _) | (with_reducible refine Kd.C_drewN ?_ _) | (with_reducible refine Kd.C_drew ?_))); (case side5 => exact HC1.out); (case side6 => (with_reducible repeat (first | refine blk_drewN ?_ _ | refine blk_drew ?_ | refine blk_alloc ?_ _)); exact BK176.out); rintro e w31 ⟨v183, rfl, ho0, hb⟩; refine ⟨_, rfl, ?_⟩; have n0_ := Aside0.mk (Kd.R_lower ho0 (below_size (by repeat (first | (with_reducible first | exact HB.out | apply below_alloc | apply pw_below_drewN | apply below_drew1 | refine below_set ?_ GE175.out | refine below_set ?_ GE176.out) | exact HB.out)))); have n1_ := Aside0.mk (blk_below (g := gb175) (o := .cells #[.slice A1 l1.length c1] 22 (0, 0)) (by (with_reducible repeat (first | refine blk_drewN ?_ _ | refine blk_drew ?_ | refine blk_alloc ?_ _)); exact BK175.out) hb); have n2_ := Aside0.mk (blk_below (g := gb176) (o := .cells #[.int .i64 a2] 2 (0, 0)) (by (with_reducible repeat (first | refine blk_drewN ?_ _ | refine blk_drew ?_ | refine blk_alloc ?_ _)); exact BK176.out) hb); have n3_ := Aside0.mk (below_step (by repeat (first | (with_reducible first | exact HB.out | apply below_alloc | apply pw_below_drewN | apply below_drew1 | refine below_set ?_ GE175.out | refine below_set ?_ GE176.out) | exact HB.out)) hb); clear BK175; clear BK176; clear HB; have HO184 := n0_; have BK175 := n1_; have BK176 := n2_; have HB := n3_; clear n0_ n1_ n2_ n3_; (try clear hb); (try clear hb2); (try clear hk); (try clear hi); (try clear ho0)))
              go_ret2
              exact ⟨_, by first | rfl | (simp [errW_none, errW_some] <;> rfl) | (simp [*, errW_none, errW_some] <;> rfl), by (with_reducible repeat (first | apply Kd.R_alloc | apply Kd.R_drewN | apply Kd.R_drew)); exact HO184.out, by repeat (first | (with_reducible first | exact HB.out | apply below_alloc | apply pw_below_drewN | apply below_drew1 | refine below_set ?_ GE175.out | refine below_set ?_ GE176.out) | exact HB.out)⟩

end Go.Proofs.Ytalnlphinlfenaa.S
end

section
namespace Go.Proofs.Ytalnlphinlfenaa.S
open Go.RowKit Go.Proofs.YtalnlphinlfenaaW.PrintWords Go.Proofs.YtalnlphinlfenaaW.PrintLast Go.Proofs.YtalnlphinlfenaaW.PrintMore
attribute [local go_sem] max2_int min2_int max_two min_two max_three min_three max_four min_four   -- for this text's walks alone
attribute [local go_sem] Go.Proofs.Ytalnlphinlfenaa.XWalk.cell2
set_option linter.unusedVariables false
set_option linter.unusedSimpArgs false

/-! ### lombardref01_Sum: function 47 -/
mutual
def lombardref01_Sum.l0 : Nat → List Int → Int → Option (Int × Int)
  | 0, _, _ => none
  | k + 1, x4, x5 => if (x4.length : Int) > 0 then (lombardref01_Sum.l1 k x4 x5 0 x4 (x4.length : Int) 0) else (some (x5, 0))
def lombardref01_Sum.l1 : Nat → List Int → Int → Int → List Int → Int → Int → Option (Int × Int)
  | 0, _, _, _, _, _, _ => none
  | k + 1, x4, x5, x6, x17, x18, x19 => if x19 < x18 then (if 0 ≤ x19 then (if x19 < (x17.length : Int) then (if (!((decide ((rd x17 x19) < 0)) == (decide (x5 < 0)))) = true then (lombardref01_Sum.l1 k x4 x5 x19 x17 x18 (wrap64 (x19 + 1))) else (lombardref01_Sum.l1 k x4 x5 x6 x17 x18 (wrap64 (x19 + 1)))) else (none)) else (none)) else (if 0 ≤ x6 then (if x6 < (x4.length : Int) then ((lombardref01_Add.f x5 (rd x4 x6)).bind fun bt458 => (if bt458.2 = 0 then (if x6 ≤ (x4.length : Int) then (if 0 ≤ (wrap64 (x6 + 1)) then (if (wrap64 (x6 + 1)) ≤ (x4.length : Int) then (lombardref01_Sum.l0 k (x4.eraseIdx (x6 : Int).toNat) bt458.1) else (none)) else (none)) else (none)) else (some (0, bt458.2)))) else (none)) else (none))
end
def lombardref01_Sum.f (k : Nat) (l0 : List Int) : Option (Int × Int) := (some (([] : List Int) : List Int)).bind fun y450 => (if y450.length + l0.length < 17592186044416 then (lombardref01_Sum.l0 k (y450 ++ l0) 0) else (none))
def lombardref01_Sum.T15 : Bool × List (List Nat × List Nat) := (true, [([], []), ([], []), ([0, 1], [0, 1]), ([], []), ([], []), ([4], [4]), ([3, 5], [3, 5]), ([2, 6], [2, 6]), ([7, 7, 0, 1, 2, 3, 4, 5, 6, 7], [0, 3, 7])])
def lombardref01_Sum.B15 : List Nat := [0, 0, 3, 0, 0, 16, 56, 127, 255]
theorem lombardref01_Sum.tab15 : rtab .any (opsOf Try.f47 15) = lombardref01_Sum.T15 := by kernel_rfl
theorem lombardref01_Sum.bits15 : waitsOk lombardref01_Sum.T15.2 lombardref01_Sum.B15 = true := by kernel_rfl
set_option maxHeartbeats 8000000 in
set_option maxRecDepth 100000 in
theorem lombardref01_Sum.calls (k : Nat) (A0 : Option Addr) (c0 : Nat) (l0 : List Int) (r1 : Int) (r2 : Int) (w : World) (hr0 : Kd.C (Kd.int .i64) w A0 l0.length l0) (hc0 : l0.length ≤ c0) (h : lombardref01_Sum.f k l0 = some (r1, r2)) :
    Calls Try.prog 47 #[.slice A0 l0.length c0] w fun e w' => e = .returned (.tuple #[.int .i64 r1, .int .i64 r2]) ∧ Below w.heap.size w w' := by
  have HR0 := Aside0.mk hr0
  have HC0 := Aside0.mk hc0
  clear hr0 hc0
  have HB := Aside0.mk (Below.refl w.heap.size w)
  have H : ((some (([] : List Int) : List Int)).bind fun y450 => (if y450.length + l0.length < 17592186044416 then (lombardref01_Sum.l0 k (y450 ++ l0) 0) else (none))) = some (r1, r2) := h
  clear h
  obtain ⟨y450, hy450⟩ : ∃ y_ : List Int, y_ = (([] : List Int)) := ⟨_, rfl⟩
  replace H : (if y450.length + l0.length < 17592186044416 then (lombardref01_Sum.l0 k (y450 ++ l0) 0) else (none)) = some (r1, r2) := by first | (rw [hy450]; with_reducible exact H) | (have H2_ := (Option.bind_some _ _).symm.trans H; rw [hy450]; with_reducible exact H2_) | (have H2_ := (Option.bind_some _ _).symm.trans H; with_reducible exact H2_) | with_reducible exact H | (rw [hy450]; exact H) | exact H
  have Ny450 := Aside0.mk hy450
  clear hy450
  by_cases c2 : y450.length + l0.length < 17592186044416
  · rw [if_pos c2] at H
    have LMc2 := Aside0.mk c2
    clear c2
    obtain ⟨y453, hy453⟩ : ∃ y_ : List Int, y_ = (y450 ++ l0) := ⟨_, rfl⟩
    replace H : (lombardref01_Sum.l0 k y453 0) = some (r1, r2) := by first | (rw [hy453]; with_reducible exact H) | (have H2_ := (Option.bind_some _ _).symm.trans H; rw [hy453]; with_reducible exact H2_) | (have H2_ := (Option.bind_some _ _).symm.trans H; with_reducible exact H2_) | with_reducible exact H | (rw [hy453]; exact H) | exact H
    have Ny453 := Aside0.mk hy453
    clear hy453
    have H' := Aside0.mk H
    clear H
    go_enter Try.func47, Try.ntmps47
    go_wp2_with (first | ((with_reducible refine gate_dst (N := 11) rfl ?_); refine Kd.R_lit (Kd.int .i64) _ 2 ?hg (N := 11) ?hd (xs := ([] : List Int)) (inner := []) (ok := fun _ => True) (okp := fun _ => True) ?hr ?hp (fun _ hk => hk) trivial (Below.refl _ _) (Nat.le_refl _) (by simp) ?_; (case hd => rfl); (case hg => rfl); (case hr => first | (go_simp; done) | (go_simp; rfl)); (case hp => exact (Reps.none _ _)); intro v451 w3 ho4 hb hg_ hnew_; clear hg_ hnew_; (first | rw [← Ny450.out] at ho4 | (simp only [Int.reduceToNat] at ho4; rw [← Ny450.out] at ho4)); have n0_ := Aside0.mk (Kd.R_lower ho4 (below_size (by repeat (first | (with_reducible first | exact HB.out | apply below_alloc | apply pw_below_drewN | apply below_drew1) | exact HB.out)))); have n1_ := Aside0.mk (below_step (by repeat (first | (with_reducible first | exact HB.out | apply below_alloc | apply pw_below_drewN | apply below_drew1) | exact HB.out)) hb); clear HB; have HO452 := n0_; have HB := n1_; clear n0_ n1_; clear hb ho4) | ((with_reducible refine gate_builtin (b := .append) (xs := #[.tmp 11, .tmp 12]) rfl ?_); at_builtin; refine Kd.R_append_rows (Kd.int .i64) (w0 := w) w.heap.size rfl (.tmp 11) (.tmp 12) 22 2 (.int .i64 0) 8 rfl Try.underlying22 info2 rfl (by decide) (by omega) v451 y450 l0 _ _ _ (fun _ => True) (fun _ => False) rfl rfl ?aO ?aR (fun _ _ h => h) (fun _ h => h.elim) ?aF ?aB ?aS ?aL ?_; (case aR => repeat (first | exact (Kd.C_below HR0.out HB.out) | (with_reducible refine Kd.C_alloc ?_ _) | (with_reducible refine Kd.C_drewN ?_ _) | (with_reducible refine Kd.C_drew ?_))); (case aB => exact (by repeat (first | (with_reducible first | exact HB.out | apply below_alloc | apply pw_below_drewN | apply below_drew1) | exact HB.out))); (case aF => exact (fun _ _ => trivial)); (case aO => exact (by (with_reducible repeat (first | apply Kd.R_alloc | apply Kd.R_drewN | apply Kd.R_drew)); exact HO452.out)); (case aS => exact (below_size (by repeat (first | (with_reducible first | exact HB.out | apply below_alloc | apply pw_below_drewN | apply below_drew1) | exact HB.out)))); (case aL => have := LMc2.out; omega); intro v454 w5 ho hb hg hat; rw [← Ny453.out] at ho; have n0_ := Aside0.mk (hb); have n1_ := Aside0.mk (ho); clear HB; clear HO452; have HB := n0_; have HO455 := n1_; clear n0_ n1_; clear ho hb hg hat))
    go_loopg [4, 5] k (fun kq v4 v5 w' => ∃ (x4_1 : List Int) (x5_1 : Int), v5 = .int .i64 x5_1 ∧ Aside0 (lombardref01_Sum.l0 kq x4_1 x5_1 = some (r1, r2)) ∧ Aside0 (kq ≤ k) ∧ Aside0 (Kd.R (Kd.int .i64) 2 w' w.heap.size (fun _ => True) v4 x4_1) ∧ Aside0 (Below w.heap.size w w'))
    case atStart => exact ⟨(y453), (0), (by first | rfl | (simp; done) | (simp [*]; done)), H', ⟨Nat.le_refl _⟩, ⟨by (with_reducible repeat (first | apply Kd.R_alloc | apply Kd.R_drewN | apply Kd.R_drew)); exact HO455.out⟩, ⟨by repeat (first | (with_reducible first | exact HB.out | apply below_alloc | apply pw_below_drewN | apply below_drew1) | exact HB.out)⟩⟩
    case round =>
      clear H'
      try clear c2
      try clear p2
      try clear c4
      obtain ⟨x4_1, x5_1, rfl, HA, HK1, HO_4, HB⟩ := hrel
      cases gk with
      | zero => exact absurd HA.out (by simp [lombardref01_Sum.l0])
      | succ k1 =>
        have H := HA.out
        clear HA
        simp only [lombardref01_Sum.l0] at H
        by_cases c6 : (x4_1.length : Int) > 0
        · rw [if_pos c6] at H
          have c6b0 : decide (0 < (x4_1.length : Int)) = true := decide_eq_true c6
          have c6b1 : decide (0 < x4_1.length) = true := decide_eq_true (by omega)
          clear c6
          have H' := Aside0.mk H
          clear H
          obtain ⟨Ao7, co7, eo7⟩ := Kd.R_slice HO_4.out
          subst eo7
          go_wp2
          go_loopg [6, 19] k1 (fun kq v6 v19 w' => ∃ (x6_2 : Int) (x19_2 : Int), v6 = .int .i64 x6_2 ∧ v19 = .int .i64 x19_2 ∧ Aside0 (lombardref01_Sum.l1 kq x4_1 x5_1 x6_2 x4_1 (x4_1.length : Int) x19_2 = some (r1, r2)) ∧ Aside0 (kq ≤ k1) ∧ Aside0 (Kd.R (Kd.int .i64) 2 w' w.heap.size (fun _ => True) (.slice Ao7 x4_1.length co7) x4_1) ∧ Aside0 (Kd.R (Kd.int .i64) 2 w' w.heap.size (fun _ => True) (.slice Ao7 x4_1.length co7) x4_1) ∧ Aside0 (Below w.heap.size w w'))
          case atStart => exact ⟨(0), (0), (by first | rfl | (simp; done) | (simp [*]; done)), (by first | rfl | (simp; done) | (simp [*]; done)), H', ⟨Nat.le_refl _⟩, ⟨by (with_reducible repeat (first | apply Kd.R_alloc | apply Kd.R_drewN | apply Kd.R_drew)); exact HO_4.out⟩, ⟨by (with_reducible repeat (first | apply Kd.R_alloc | apply Kd.R_drewN | apply Kd.R_drew)); exact HO_4.out⟩, ⟨by repeat (first | (with_reducible first | exact HB.out | apply below_alloc | apply pw_below_drewN | apply below_drew1) | exact HB.out)⟩⟩
          case round =>
            clear H'
            try clear c2
            try clear p2
            try clear c4
            try clear c6
            try clear c6b0
            try clear c6b1
            try clear p2
            obtain ⟨x6_2, x19_2, rfl, rfl, HA, HK2, HO_4, HO_17, HB⟩ := hrel
            cases gk with
            | zero => exact absurd HA.out (by simp [lombardref01_Sum.l1])
            | succ k2 =>
              have H := HA.out
              clear HA
              simp only [lombardref01_Sum.l1] at H
              by_cases c8 : x19_2 < (x4_1.length : Int)
              · rw [if_pos c8] at H
                have c8b0 : decide (x19_2 < (x4_1.length : Int)) = true := decide_eq_true c8
                clear c8
                by_cases c9 : 0 ≤ x19_2
                · rw [if_pos c9] at H
                  have c9b0 : decide (0 ≤ x19_2) = true := decide_eq_true c9
                  clear c9
                  by_cases c10 : x19_2 < (x4_1.length : Int)
                  · rw [if_pos c10] at H
                    have c10b0 : decide (x19_2 < (x4_1.length : Int)) = true := decide_eq_true c10
                    clear c10
                    by_cases c11 : (!((decide ((rd x4_1 x19_2) < 0)) == (decide (x5_1 < 0)))) = true
                    · rw [if_pos c11] at H
                      have c11b0 : (!((decide ((rd x4_1 x19_2) < 0)) == (decide (x5_1 < 0)))) = true := c11
                      clear c11
                      have H' := Aside0.mk H
                      clear H
                      have p456 : 0 ≤ (x19_2 : Int) := of_decide_eq_true (by first | (with_reducible assumption) | assumption)
                      have q456 : x19_2 < (x4_1.length : Int) := of_decide_eq_true (by first | (with_reducible assumption) | assumption)
                      obtain ⟨ad456, e456, hx456_0⟩ := Kd.at_int (Kd.R_reads' HO_17.out).2.2 x19_2 p456 q456
                      cases e456
                      replace p456 := eq_true p456
                      replace q456 := eq_true q456
                      go_wp2
                      go_roundg k2
                      case measure => have := HK1.out; have := HK2.out; omega
                      case rel => exact ⟨(x19_2), (wrap64 (x19_2 + 1)), (by first | rfl | (simp; done) | (simp [*]; done)), (by first | rfl | (simp; done) | (simp [*]; done)), H', ⟨by have := HK1.out; have := HK2.out; omega⟩, ⟨by (with_reducible repeat (first | apply Kd.R_alloc | apply Kd.R_drewN | apply Kd.R_drew)); exact HO_4.out⟩, ⟨by (with_reducible repeat (first | apply Kd.R_alloc | apply Kd.R_drewN | apply Kd.R_drew)); exact HO_17.out⟩, ⟨by repeat (first | (with_reducible first | exact HB.out | apply below_alloc | apply pw_below_drewN | apply below_drew1) | exact HB.out)⟩⟩
                    · rw [if_neg c11] at H
                      have c11b0 : (!((decide ((rd x4_1 x19_2) < 0)) == (decide (x5_1 < 0)))) = false := by simpa using c11
                      clear c11
                      have H' := Aside0.mk H
                      clear H
                      have p456 : 0 ≤ (x19_2 : Int) := of_decide_eq_true (by first | (with_reducible assumption) | assumption)
                      have q456 : x19_2 < (x4_1.length : Int) := of_decide_eq_true (by first | (with_reducible assumption) | assumption)
                      obtain ⟨ad456, e456, hx456_0⟩ := Kd.at_int (Kd.R_reads' HO_17.out).2.2 x19_2 p456 q456
                      cases e456
                      replace p456 := eq_true p456
                      replace q456 := eq_true q456
                      go_wp2
                      go_roundg k2
                      case measure => have := HK1.out; have := HK2.out; omega
                      case rel => exact ⟨(x6_2), (wrap64 (x19_2 + 1)), (by first | rfl | (simp; done) | (simp [*]; done)), (by first | rfl | (simp; done) | (simp [*]; done)), H', ⟨by have := HK1.out; have := HK2.out; omega⟩, ⟨by (with_reducible repeat (first | apply Kd.R_alloc | apply Kd.R_drewN | apply Kd.R_drew)); exact HO_4.out⟩, ⟨by (with_reducible repeat (first | apply Kd.R_alloc | apply Kd.R_drewN | apply Kd.R_drew)); exact HO_17.out⟩, ⟨by repeat (first | (with_reducible first | exact HB.out | apply below_alloc | apply pw_below_drewN | apply below_drew1) | exact HB.out)⟩⟩
                  · rw [if_neg c10] at H
                    exact absurd H (by simp)
                · rw [if_neg c9] at H
                  exact absurd H (by simp)
              · rw [if_neg c8] at H
                have c8b0 : decide (x19_2 < (x4_1.length : Int)) = false := decide_eq_false c8
                clear c8
                by_cases c12 : 0 ≤ x6_2
                · rw [if_pos c12] at H
                  have c12b0 : decide (0 ≤ x6_2) = true := decide_eq_true c12
                  clear c12
                  by_cases c13 : x6_2 < (x4_1.length : Int)
                  · rw [if_pos c13] at H
                    have c13b0 : decide (x6_2 < (x4_1.length : Int)) = true := decide_eq_true c13
                    clear c13
                    replace H := Option.bind_eq_some_iff.mp H
                    obtain ⟨⟨t458, t459⟩, A140, H⟩ := H
                    replace H : (if t459 = 0 then (if x6_2 ≤ (x4_1.length : Int) then (if 0 ≤ (wrap64 (x6_2 + 1)) then (if (wrap64 (x6_2 + 1)) ≤ (x4_1.length : Int) then (lombardref01_Sum.l0 k2 (x4_1.eraseIdx (x6_2 : Int).toNat) t458) else (none)) else (none)) else (none)) else (some (0, t459))) = some (r1, r2) := H
                    have A14 := Aside0.mk A140
                    clear A140
                    by_cases c15 : t459 = 0
                    · rw [if_pos c15] at H
                      have c15b0 : (t459 == 0) = true := beq_iff_eq.mpr c15
                      have c15b1 : (t459 != 0) = false := bne_eq_false_iff_eq.mpr c15
                      clear c15
                      have c16b0 := eq_true (of_decide_eq_true (by first | (with_reducible assumption) | assumption) : 0 ≤ x6_2)
                      by_cases c17 : x6_2 ≤ (x4_1.length : Int)
                      · rw [if_pos c17] at H
                        have c17b0 := eq_true c17
                        have c17b1 : decide (x6_2 ≤ (x4_1.length : Int)) = true := decide_eq_true c17
                        clear c17
                        obtain ⟨y460, hy460⟩ : ∃ y_ : List Int, y_ = (x4_1.take (x6_2 : Int).toNat) := ⟨_, rfl⟩
                        replace H : (if 0 ≤ (wrap64 (x6_2 + 1)) then (if (wrap64 (x6_2 + 1)) ≤ (x4_1.length : Int) then (lombardref01_Sum.l0 k2 (x4_1.eraseIdx (x6_2 : Int).toNat) t458) else (none)) else (none)) = some (r1, r2) := by first | (rw [hy460]; with_reducible exact H) | (have H2_ := (Option.bind_some _ _).symm.trans H; rw [hy460]; with_reducible exact H2_) | (have H2_ := (Option.bind_some _ _).symm.trans H; with_reducible exact H2_) | with_reducible exact H | (rw [hy460]; exact H) | exact H
                        have Ny460 := Aside0.mk hy460
                        clear hy460
                        obtain ⟨ji18, hji18⟩ : ∃ j_ : Int, (wrap64 (x6_2 + 1)) = j_ := ⟨_, rfl⟩
                        replace H : (if 0 ≤ (ji18) then (if (ji18) ≤ (x4_1.length : Int) then (lombardref01_Sum.l0 k2 (x4_1.eraseIdx (x6_2 : Int).toNat) t458) else (none)) else (none)) = some (r1, r2) := by first | (rw [hji18] at H; exact H) | (simp only [hji18] at H ⊢; exact H)
                        (try rw [hji18] at A14)
                        have hji18w : (IntKind.i64.wrap (x6_2 + 1)) = ji18 := (i64_w _).trans hji18
                        by_cases c19 : 0 ≤ (ji18)
                        · rw [if_pos c19] at H
                          have c19b0 := eq_true c19
                          have c19b1 : decide (0 ≤ (ji18)) = true := decide_eq_true c19
                          clear c19
                          by_cases c20 : (ji18) ≤ (x4_1.length : Int)
                          · rw [if_pos c20] at H
                            have c20b0 := eq_true c20
                            have c20b1 : decide ((ji18) ≤ (x4_1.length : Int)) = true := decide_eq_true c20
                            clear c20
                            obtain ⟨y464, hy464⟩ : ∃ y_ : List Int, y_ = (x4_1.drop ((ji18) : Int).toNat) := ⟨_, rfl⟩
                            replace H : (lombardref01_Sum.l0 k2 (x4_1.eraseIdx (x6_2 : Int).toNat) t458) = some (r1, r2) := by first | (rw [hy464]; with_reducible exact H) | (have H2_ := (Option.bind_some _ _).symm.trans H; rw [hy464]; with_reducible exact H2_) | (have H2_ := (Option.bind_some _ _).symm.trans H; with_reducible exact H2_) | with_reducible exact H | (rw [hy464]; exact H) | exact H
                            have Ny464 := Aside0.mk hy464
                            clear hy464
                            obtain ⟨y468, hy468⟩ : ∃ y_ : List Int, y_ = (x4_1.eraseIdx (x6_2 : Int).toNat) := ⟨_, rfl⟩
                            replace H : (lombardref01_Sum.l0 k2 y468 t458) = some (r1, r2) := by first | (rw [hy468]; with_reducible exact H) | (have H2_ := (Option.bind_some _ _).symm.trans H; rw [hy468]; with_reducible exact H2_) | (have H2_ := (Option.bind_some _ _).symm.trans H; with_reducible exact H2_) | with_reducible exact H | (rw [hy468]; exact H) | exact H
                            have Ny468 := Aside0.mk hy468
                            clear hy468
                            have H' := Aside0.mk H
                            clear H
                            have p457 : 0 ≤ (x6_2 : Int) := of_decide_eq_true (by first | (with_reducible assumption) | assumption)
                            have q457 : x6_2 < (x4_1.length : Int) := of_decide_eq_true (by first | (with_reducible assumption) | assumption)
                            obtain ⟨ad457, e457, hx457_0⟩ := Kd.at_int (Kd.R_reads' HO_4.out).2.2 x6_2 p457 q457
                            cases e457
                            replace p457 := eq_true p457
                            replace q457 := eq_true q457
                            try go_wp2_with (first | ((with_reducible refine gate_callee (f := 52) rfl ?_); refine goesL_ (some 37) rfl rfl Try.func52 (by kernel_rfl) rfl #[.int .i64 x5_1, .int .i64 (rd x4_1 x6_2)] rfl (by (try simp only [List.map_toArray, List.map_cons, List.map_nil]); first | done | rfl | (simp only [List.length_drop, List.length_take]; rfl)) ?_; (with_reducible refine (lombardref01_Add.calls x5_1 (rd x4_1 x6_2) t458 t459 _ A14.out).mono ?_); rintro e w' ⟨rfl, ⟨nd, rfl⟩⟩; refine ⟨_, rfl, ?_⟩))
                            (try (rw [drewN_self wr]; generalize hq_ : World.drewN wr _ = wr; have n0_ : Aside0 (Kd.R (Kd.int .i64) 2 wr w.heap.size (fun _ => True) (.slice (some ad457) x4_1.length co7) x4_1) := ⟨by rw [← hq_]; exact (by (with_reducible repeat (first | apply Kd.R_alloc | apply Kd.R_drewN | apply Kd.R_drew)); exact HO_17.out)⟩; have n1_ : Aside0 (Kd.R (Kd.int .i64) 2 wr w.heap.size (fun _ => True) (.slice (some ad457) x4_1.length co7) x4_1) := ⟨by rw [← hq_]; exact (by (with_reducible repeat (first | apply Kd.R_alloc | apply Kd.R_drewN | apply Kd.R_drew)); exact HO_4.out)⟩; have n2_ : Aside0 (Below w.heap.size w wr) := ⟨by rw [← hq_]; exact (by repeat (first | (with_reducible first | exact HB.out | apply below_alloc | apply pw_below_drewN | apply below_drew1) | exact HB.out))⟩; clear HO_17 HO_4 HB hq_; have HO_17 := n0_; have HO_4 := n1_; have HB := n2_; clear n0_ n1_ n2_))
                            have n0_ := Aside0.mk (Kd.R_drew HO_4.out)
                            have n1_ := Aside0.mk (Kd.R_drew HO_17.out)
                            have n2_ := Aside0.mk (below_drew1 HB.out)
                            clear HO_4
                            clear HO_17
                            clear HB
                            have HO_4 := n0_
                            have HO_17 := n1_
                            have HB := n2_
                            clear n0_ n1_ n2_
                            have q22 : (x6_2 : Int) ≤ ((x4_1.length : Int) : Int) := of_decide_eq_true (by first | (with_reducible assumption) | assumption)
                            obtain ⟨i022, hi022, _, hsz22, _⟩ := info_parts info2
                            have hroom22 : x4_1.length ≤ co7 := (Kd.R_reads' HO_4.out).2.1
                            have hC22 : Kd.C (Kd.int .i64) _ (some ad457) x4_1.length x4_1 := (Kd.R_reads' HO_4.out).2.2
                            have hcut22 := cut_to (P := Try.prog) 22 2 .i64 Try.underlying22 hi022 (some ad457) x4_1.length co7 x6_2 (of_decide_eq_true (by first | (with_reducible assumption) | assumption)) q22 hroom22
                            have hr22 := Kd.C_take (m := (x6_2 : Int).toNat) hC22 (by omega)
                            have hy22 : y460.length = (x6_2 : Int).toNat := (by rw [Ny460.out, List.length_take]; omega)
                            rw [← Ny460.out] at hr22
                            rw [← hy22] at hcut22
                            have HR463 := Aside0.mk hr22
                            have HC463 := Aside0.mk (show y460.length ≤ co7 from by omega)
                            clear hr22 hC22 hroom22 hi022 hsz22
                            have KY22 := Aside0.mk hy22
                            clear hy22
                            have KL22 := Aside0.mk (show (x6_2 : Int).toNat ≤ x4_1.length from by omega)
                            replace q22 := eq_true q22
                            have q23 : ((ji18) : Int) ≤ ((x4_1.length : Int) : Int) := of_decide_eq_true (by first | (with_reducible assumption) | assumption)
                            obtain ⟨i023, hi023, _, hsz23, _⟩ := info_parts info2
                            have hroom23 : x4_1.length ≤ co7 := (Kd.R_reads' HO_4.out).2.1
                            have hC23 : Kd.C (Kd.int .i64) _ (some ad457) x4_1.length x4_1 := (Kd.R_reads' HO_4.out).2.2
                            have q023 : (0 : Int) ≤ ((ji18) : Int) := of_decide_eq_true (by first | (with_reducible assumption) | assumption)
                            have hcut23 := cut_from (P := Try.prog) 22 2 .i64 Try.underlying22 hi023 1 hsz23 (some ad457) x4_1.length co7 (ji18) q023 q23
                            have hr23 := Kd.C_drop (m := ((ji18) : Int).toNat) (c := co7) hC23 (by omega) hroom23
                            obtain ⟨A23, hA23⟩ : ∃ A1, A1 = (if co7 = ((ji18) : Int).toNat then (some ad457) else ((some ad457) : Option Addr).map (·.add (((ji18) : Int).toNat * 1))) := ⟨_, rfl⟩
                            obtain ⟨c23, hc23⟩ : ∃ c1, c1 = co7 - ((ji18) : Int).toNat := ⟨_, rfl⟩
                            have hy23 : y464.length = x4_1.length - ((ji18) : Int).toNat := (by rw [Ny464.out, List.length_drop] <;> omega)
                            rw [show (x4_1).drop ((ji18) : Int).toNat = y464 from Ny464.out.symm] at hr23
                            replace hr23 : Kd.C (Kd.int .i64) _ A23 y464.length y464 := (by rw [hA23]; exact hr23)
                            rw [← hy23, ← hA23, ← hc23] at hcut23
                            have HR467 := Aside0.mk hr23
                            have HC467 := Aside0.mk (show y464.length ≤ c23 from by rw [hy23, hc23]; exact Nat.sub_le_sub_right hroom23 _)
                            clear hr23 hC23 hroom23 hi023 hsz23 hc23
                            have KY23 := Aside0.mk hy23
                            have KA23 := Aside0.mk hA23
                            clear hy23 hA23
                            have KL23 := Aside0.mk (show ((ji18) : Int).toNat ≤ x4_1.length from by omega)
                            replace q23 := eq_true q23
                            obtain ⟨go25, co25, eo25, gb25, gl25, cl25, HG25⟩ := Kd.R_form HO_4.out (by have hj_ : 0 ≤ (x6_2 : Int) := of_decide_eq_true (by first | (with_reducible assumption) | assumption); have hl_ : (ji18 : Int) ≤ (x4_1.length : Int) := of_decide_eq_true (by first | (with_reducible assumption) | assumption); have hh_ : (x6_2 : Int) ≤ (x4_1.length : Int) := of_decide_eq_true (by first | (with_reducible assumption) | assumption); rw [← hji18] at hl_; unfold wrap64 at hl_; omega)
                            (first | cases eo25 | (injection eo25 with ea_ en_ ec_; (first | subst ea_ | (injection ea_ with ea_; subst ea_)); subst ec_; clear en_))
                            have GB25 := Aside0.mk gb25
                            have GG25 := Aside0.mk HG25
                            clear gb25 gl25 HG25
                            (first | simp only [add_plain] at hx457_0 | skip)
                            refine start_ (n := 9) (S := fun w' => True) (ds := []) #[false, false, false, false, false, false, false, false, false] (by kernel_rfl) rfl rfl trivial (fun hHeld => ?_); refine with_tabW lombardref01_Sum.tab15 lombardref01_Sum.bits15 (fun HT_ HW_ => ?_)
                            generalize wr.drew = w21 at HO_4 HO_17 HB GG25 HR463 HR467 hx457_0 hHeld ⊢
                            refine pure_ (i := 0) (N := some 44) (v := ?_) (a' := ?_) #[true, false, false, false, false, false, false, false, false] rfl rfl (any_of HT_.out (by kernel_rfl)) (fun _ _ _ h => h) (Or.inl ⟨by rfl, ?_⟩) ?_ ?_
                            rotate_left
                            · intro w'
                              go_simp
                              with_reducible rfl
                            rotate_left
                            · simp only [Act.put, List.setIfInBounds_toArray, List.set_cons_zero, List.set_cons_succ, i64_w, i32_w]
                              rfl
                            refine pure_ (i := 1) (N := some 45) (v := ?_) (a' := ?_) #[true, true, false, false, false, false, false, false, false] rfl rfl (any_of HT_.out (by kernel_rfl)) (fun _ _ _ h => h) (Or.inl ⟨by rfl, ?_⟩) ?_ ?_
                            rotate_left
                            · intro w'
                              go_simp
                              with_reducible rfl
                            rotate_left
                            · simp only [Act.put, List.setIfInBounds_toArray, List.set_cons_zero, List.set_cons_succ, i64_w, i32_w]
                              rfl
                            refine pure_ (i := 2) (N := some 46) (v := ?_) (a' := ?_) #[true, true, true, false, false, false, false, false, false] rfl rfl (any_of HT_.out (by kernel_rfl)) (fun _ _ _ h => h) (Or.inl ⟨by rfl, ?_⟩) ?_ ?_
                            rotate_left
                            · intro w'
                              go_simp
                              with_reducible rfl
                            rotate_left
                            · simp only [Act.put, List.setIfInBounds_toArray, List.set_cons_zero, List.set_cons_succ, i64_w, i32_w]
                              rfl
                            refine pure_ (i := 3) (N := some 47) (v := ?_) (a' := ?_) #[true, true, true, true, false, false, false, false, false] rfl rfl (any_of HT_.out (by kernel_rfl)) (fun _ _ _ h => h) (Or.inl ⟨by rfl, ?_⟩) ?_ ?_
                            rotate_left
                            · intro w'
                              go_simp
                              with_reducible rfl
                            rotate_left
                            · simp only [Act.put, List.setIfInBounds_toArray, List.set_cons_zero, List.set_cons_succ, i64_w, i32_w]
                              rfl
                            refine pure_ (i := 4) (N := some 48) (v := ?_) (a' := ?_) #[true, true, true, true, true, false, false, false, false] rfl rfl (any_of HT_.out (by kernel_rfl)) (fun _ _ _ h => h) (Or.inl ⟨by rfl, ?_⟩) ?_ ?_
                            rotate_left
                            · intro w'
                              go_simp
                              with_reducible rfl
                            rotate_left
                            · simp only [Act.put, List.setIfInBounds_toArray, List.set_cons_zero, List.set_cons_succ, i64_w, i32_w]
                              rfl
                            refine pure_ (i := 5) (N := some 49) (v := ?_) (a' := ?_) #[true, true, true, true, true, true, false, false, false] rfl rfl (any_of HT_.out (by kernel_rfl)) (fun _ _ _ h => h) (Or.inl ⟨by rfl, ?_⟩) ?_ ?_
                            rotate_left
                            · intro w'
                              go_simp
                              with_reducible rfl
                            rotate_left
                            · simp only [Act.put, List.setIfInBounds_toArray, List.set_cons_zero, List.set_cons_succ, i64_w, i32_w]
                              rfl
                            refine pure_ (i := 6) (N := some 50) (v := ?_) (a' := ?_) #[true, true, true, true, true, true, true, false, false] rfl rfl (any_of HT_.out (by kernel_rfl)) (fun _ _ _ h => h) (Or.inl ⟨by rfl, ?_⟩) ?_ ?_
                            rotate_left
                            · intro w'
                              go_simp
                              with_reducible rfl
                            rotate_left
                            · simp only [Act.put, List.setIfInBounds_toArray, List.set_cons_zero, List.set_cons_succ, i64_w, i32_w]
                              rfl
                            refine one_ (i := 7) (N := some 51) #[true, true, true, true, true, true, true, true, false] rfl rfl (one_of HT_.out (by kernel_rfl)) (by decide) (fun K hK => ?_)
                            have hj_ : 0 ≤ (x6_2 : Int) := of_decide_eq_true (by first | (with_reducible assumption) | assumption)
                            have hl_ : (ji18 : Int) ≤ (x4_1.length : Int) := of_decide_eq_true (by first | (with_reducible assumption) | assumption)
                            have hh_ : (x6_2 : Int) ≤ (x4_1.length : Int) := of_decide_eq_true (by first | (with_reducible assumption) | assumption)
                            have hb_ := (Kd.R_reads' HO_4.out).2.2.2.1
                            have h0_ : (0 : Int) ≤ (ji18 : Int) := of_decide_eq_true (by first | (with_reducible assumption) | assumption)
                            have hy1_ := KY22.out
                            have hk_ : (ji18 : Int).toNat = y460.length + 1 := (by have hw_ : (ji18 : Int) = x6_2 + 1 := (by have h00_ := h0_; rw [← hji18] at h00_ ⊢; unfold wrap64 at h00_ ⊢; omega); rw [hw_]; omega)
                            refine Kd.R_delete_step (Kd.int .i64) (w0 := w) w.heap.size (by rfl) (.tmp 46) (.tmp 50) 22 2 rfl Try.underlying22 (by kernel_rfl) (g := go25) (n := x4_1.length) (c := co7) (k := y460.length) rfl rfl ?hA ?hm (by (with_reducible repeat (first | apply Kd.R_alloc | apply Kd.R_drewN | apply Kd.R_drew)); exact HO_4.out) ?hk (by repeat (first | (with_reducible first | exact HB.out | apply below_alloc | apply pw_below_drewN | apply below_drew1) | exact HB.out)) (below_size (by repeat (first | (with_reducible first | exact HB.out | apply below_alloc | apply pw_below_drewN | apply below_drew1) | exact HB.out))) ?_
                            (case hA => have ha_ := KA23.out; rw [hk_] at ha_; exact ha_)
                            (case hm => have ha_ := KY23.out; omega)
                            (case hk => omega)
                            intro w24 ho hb hg
                            clear hj_ hl_ hh_ hb_ hk_ h0_
                            rw [hy1_, ← Ny468.out] at ho
                            clear hy1_
                            have hn_ : x4_1.length - 1 = y468.length := (by have := (Kd.R_reads' ho).1; omega)
                            rw [hn_] at ho ⊢
                            clear hn_
                            have n0_ := Aside0.mk (ho)
                            have n1_ := Aside0.mk (hb)
                            clear HO_4
                            clear HB
                            have HO_4 := n0_
                            have HB := n1_
                            clear n0_ n1_
                            clear ho hb hg
                            refine hK.out _ _ trivial (fun hHeld => ?_)
                            clear hK K
                            refine norm_ (a' := ?_) ?_ ?_
                            rotate_left
                            · show Act.put _ (some 51) _ = _
                              simp only [Act.put, List.setIfInBounds_toArray, List.set_cons_zero, List.set_cons_succ, i64_w, i32_w]
                              rfl
                            refine pure_ (i := 8) (N := some 4) (v := ?_) (a' := ?_) #[true, true, true, true, true, true, true, true, true] rfl rfl (any_of HT_.out (by kernel_rfl)) (fun _ _ _ h => h) (Or.inl ⟨by rfl, ?_⟩) ?_ ?_
                            rotate_left
                            · intro w'
                              go_simp
                              with_reducible rfl
                            rotate_left
                            · simp only [Act.put, List.setIfInBounds_toArray, List.set_cons_zero, List.set_cons_succ, i64_w, i32_w]
                              rfl
                            refine done_ (done_of HT_.out (by kernel_rfl)) ?_
                            try go_wp2
                            go_roundg k2
                            case measure => have := HK1.out; have := HK2.out; omega
                            case rel => exact ⟨(y468), (t458), (by first | rfl | (simp; done) | (simp [*]; done)), H', ⟨by have := HK1.out; have := HK2.out; omega⟩, ⟨by (with_reducible repeat (first | apply Kd.R_alloc | apply Kd.R_drewN | apply Kd.R_drew)); exact HO_4.out⟩, ⟨by repeat (first | (with_reducible first | exact HB.out | apply below_alloc | apply pw_below_drewN | apply below_drew1) | exact HB.out)⟩⟩
                          · rw [if_neg c20] at H
                            exact absurd H (by simp)
                        · rw [if_neg c19] at H
                          exact absurd H (by simp)
                      · rw [if_neg c17] at H
                        exact absurd H (by simp)
                    · rw [if_neg c15] at H
                      have c15b0 : (t459 == 0) = false := beq_eq_false_iff_ne.mpr c15
                      have c15b1 : (t459 != 0) = true := bne_iff_ne.mpr c15
                      simp only [Option.some.injEq, Prod.mk.injEq] at H
                      obtain ⟨rfl, rfl⟩ := H
                      have p457 : 0 ≤ (x6_2 : Int) := of_decide_eq_true (by first | (with_reducible assumption) | assumption)
                      have q457 : x6_2 < (x4_1.length : Int) := of_decide_eq_true (by first | (with_reducible assumption) | assumption)
                      obtain ⟨ad457, e457, hx457_0⟩ := Kd.at_int (Kd.R_reads' HO_4.out).2.2 x6_2 p457 q457
                      cases e457
                      replace p457 := eq_true p457
                      replace q457 := eq_true q457
                      go_wp2_with (first | ((with_reducible refine gate_callee (f := 52) rfl ?_); refine goesL_ (some 37) rfl rfl Try.func52 (by kernel_rfl) rfl #[.int .i64 x5_1, .int .i64 (rd x4_1 x6_2)] rfl (by (try simp only [List.map_toArray, List.map_cons, List.map_nil]); first | done | rfl | (simp only [List.length_drop, List.length_take]; rfl)) ?_; (with_reducible refine (lombardref01_Add.calls x5_1 (rd x4_1 x6_2) t458 t459 _ A14.out).mono ?_); rintro e w' ⟨rfl, ⟨nd, rfl⟩⟩; refine ⟨_, rfl, ?_⟩))
                      go_ret2
                      exact ⟨by first | rfl | (simp [errW_none, errW_some] <;> rfl) | (simp [*, errW_none, errW_some] <;> rfl), by repeat (first | (with_reducible first | exact HB.out | apply below_alloc | apply pw_below_drewN | apply below_drew1) | exact HB.out)⟩
                  · rw [if_neg c13] at H
                    exact absurd H (by simp)
                · rw [if_neg c12] at H
                  exact absurd H (by simp)
        · rw [if_neg c6] at H
          have c6b0 : decide (0 < (x4_1.length : Int)) = false := decide_eq_false c6
          have c6b1 : decide (0 < x4_1.length) = false := decide_eq_false (by omega)
          clear c6
          simp only [Option.some.injEq, Prod.mk.injEq] at H
          obtain ⟨rfl, rfl⟩ := H
          obtain ⟨Ao26, co26, eo26⟩ := Kd.R_slice HO_4.out
          subst eo26
          go_wp2
          go_ret2
          exact ⟨by first | rfl | (simp [errW_none, errW_some] <;> rfl) | (simp [*, errW_none, errW_some] <;> rfl), by repeat (first | (with_reducible first | exact HB.out | apply below_alloc | apply pw_below_drewN | apply below_drew1) | exact HB.out)⟩
  · rw [if_neg c2] at H
    exact absurd H (by simp)

end Go.Proofs.Ytalnlphinlfenaa.S
end

section
namespace Go.Proofs.Ytalnlphinlfenaa.S
open Go.RowKit Go.Proofs.YtalnlphinlfenaaW.PrintWords Go.Proofs.YtalnlphinlfenaaW.PrintLast Go.Proofs.YtalnlphinlfenaaW.PrintMore
attribute [local go_sem] max2_int min2_int max_two min_two max_three min_three max_four min_four   -- for this text's walks alone
attribute [local go_sem] Go.Proofs.Ytalnlphinlfenaa.XWalk.cell2
set_option linter.unusedVariables false
set_option linter.unusedSimpArgs false

/-! ### lombardref11_Sums: function 24 -/
def lombardref11_Sums.l0 : Nat → List Int → List Int → List (S59) → Int → Int → Option (Int × Int × Int)
  | 0, _, _, _, _, _ => none
  | k + 1, x5, x6, x12, x13, x14 => if x14 < x13 then (if 0 ≤ x14 then (if x14 < (x12.length : Int) then ((some (([(rd_T59 x12 x14).f1] : List Int) : List Int)).bind fun y473 => (if x5.length + y473.length < 17592186044416 then ((some (([(rd_T59 x12 x14).f2] : List Int) : List Int)).bind fun y479 => (if x6.length + y479.length < 17592186044416 then (lombardref11_Sums.l0 k (x5 ++ y473) (x6 ++ y479) x12 x13 (wrap64 (x14 + 1))) else (none))) else (none))) else (none)) else (none)) else ((lombardref01_Sum.f k x5).bind fun bt485 => (if bt485.2 = 0 then ((lombardref01_Sum.f k x6).bind fun bt487 => (if bt487.2 = 0 then (some (bt485.1, bt487.1, 0)) else (some (0, 0, bt487.2)))) else (some (0, 0, bt485.2))))
def lombardref11_Sums.f (k : Nat) (l0 : List (S59)) : Option (Int × Int × Int) := lombardref11_Sums.l0 k ([] : List Int) ([] : List Int) l0 (l0.length : Int) 0
def lombardref11_Sums.T5 : Bool × List (List Nat × List Nat) := (true, [([], []), ([], []), ([1], [1]), ([2], [2]), ([0, 3], [0, 3]), ([], []), ([], []), ([6], [6]), ([7], [7]), ([5, 8, 4], [5, 8]), ([4, 9, 0, 1, 2, 3, 4], [0, 4]), ([9, 10, 0, 1, 2, 3, 4, 5, 6, 7, 8, 9, 10], [5, 9])])
def lombardref11_Sums.B5 : List Nat := [0, 0, 2, 6, 15, 0, 0, 64, 192, 511, 1023, 2047]
theorem lombardref11_Sums.tab5 : rtab .any (opsOf Try.f24 5) = lombardref11_Sums.T5 := by kernel_rfl
theorem lombardref11_Sums.bits5 : waitsOk lombardref11_Sums.T5.2 lombardref11_Sums.B5 = true := by kernel_rfl
set_option maxHeartbeats 8000000 in
set_option maxRecDepth 100000 in
theorem lombardref11_Sums.calls (k : Nat) (A0 : Option Addr) (c0 : Nat) (l0 : List (S59)) (r1 : Int) (r2 : Int) (r3 : Int) (w : World) (hr0 : Kd.C k59 w A0 l0.length l0) (hc0 : l0.length ≤ c0) (h : lombardref11_Sums.f k l0 = some (r1, r2, r3)) :
    Calls Try.prog 24 #[.slice A0 l0.length c0] w fun e w' => e = .returned (.tuple #[.int .i64 r1, .int .i64 r2, .int .i64 r3]) ∧ Below w.heap.size w w' := by
  have hu59 := Try.underlying59
  have HR0 := Aside0.mk hr0
  have HC0 := Aside0.mk hc0
  clear hr0 hc0
  have HB := Aside0.mk (Below.refl w.heap.size w)
  have H : (lombardref11_Sums.l0 k ([] : List Int) ([] : List Int) l0 (l0.length : Int) 0) = some (r1, r2, r3) := h
  clear h
  have H' := Aside0.mk H
  clear H
  go_enter Try.func24, Try.ntmps24
  go_wp2
  go_loopg [5, 6, 14] k (fun kq v5 v6 v14 w' => ∃ (x5_1 : List Int) (x6_1 : List Int) (x14_1 : Int), v14 = .int .i64 x14_1 ∧ Aside0 (lombardref11_Sums.l0 kq x5_1 x6_1 l0 (l0.length : Int) x14_1 = some (r1, r2, r3)) ∧ Aside0 (kq ≤ k) ∧ Aside0 (Kd.R (Kd.int .i64) 2 w' w.heap.size (fun k_ => some k_ ≠ (v6 : Value).ownBlock) v5 x5_1) ∧ Aside0 (Kd.R (Kd.int .i64) 2 w' w.heap.size (fun k_ => some k_ ≠ (v5 : Value).ownBlock) v6 x6_1) ∧ Aside0 (Below w.heap.size w w'))
  case atStart => exact ⟨(([] : List Int)), (([] : List Int)), (0), (by first | rfl | (simp; done) | (simp [*]; done)), H', ⟨Nat.le_refl _⟩, ⟨by first | exact Kd.R_nil _ _ _ _ _ | exact Kd.N_nil _ _ _ _ _ | exact Kd.V_nil _ _ _ _ _ | exact Kd.Q_nil _ _ _ _ _ | exact Kd.S_nil _ _ _ _ _⟩, ⟨by first | exact Kd.R_nil _ _ _ _ _ | exact Kd.N_nil _ _ _ _ _ | exact Kd.V_nil _ _ _ _ _ | exact Kd.Q_nil _ _ _ _ _ | exact Kd.S_nil _ _ _ _ _⟩, ⟨by repeat (first | (with_reducible first | exact HB.out | apply below_alloc | apply pw_below_drewN | apply below_drew1) | exact HB.out)⟩⟩
  case round =>
    clear H'
    obtain ⟨x5_1, x6_1, x14_1, rfl, HA, HK1, HO_5, HO_6, HB⟩ := hrel
    cases gk with
    | zero => exact absurd HA.out (by simp [lombardref11_Sums.l0])
    | succ k1 =>
      have H := HA.out
      clear HA
      simp only [lombardref11_Sums.l0] at H
      by_cases c2 : x14_1 < (l0.length : Int)
      · rw [if_pos c2] at H
        have c2b0 : decide (x14_1 < (l0.length : Int)) = true := decide_eq_true c2
        clear c2
        by_cases c3 : 0 ≤ x14_1
        · rw [if_pos c3] at H
          have c3b0 : decide (0 ≤ x14_1) = true := decide_eq_true c3
          clear c3
          by_cases c4 : x14_1 < (l0.length : Int)
          · rw [if_pos c4] at H
            have c4b0 : decide (x14_1 < (l0.length : Int)) = true := decide_eq_true c4
            clear c4
            obtain ⟨y473, hy473⟩ : ∃ y_ : List Int, y_ = (([(rd_T59 l0 x14_1).f1] : List Int)) := ⟨_, rfl⟩
            replace H : (if x5_1.length + y473.length < 17592186044416 then ((some (([(rd_T59 l0 x14_1).f2] : List Int) : List Int)).bind fun y479 => (if x6_1.length + y479.length < 17592186044416 then (lombardref11_Sums.l0 k1 (x5_1 ++ y473) (x6_1 ++ y479) l0 (l0.length : Int) (wrap64 (x14_1 + 1))) else (none))) else (none)) = some (r1, r2, r3) := by first | (rw [hy473]; with_reducible exact H) | (have H2_ := (Option.bind_some _ _).symm.trans H; rw [hy473]; with_reducible exact H2_) | (have H2_ := (Option.bind_some _ _).symm.trans H; with_reducible exact H2_) | with_reducible exact H | (rw [hy473]; exact H) | exact H
            have Ny473 := Aside0.mk hy473
            clear hy473
            by_cases c5 : x5_1.length + y473.length < 17592186044416
            · rw [if_pos c5] at H
              have LMc5 := Aside0.mk c5
              clear c5
              obtain ⟨y476, hy476⟩ : ∃ y_ : List Int, y_ = (x5_1 ++ y473) := ⟨_, rfl⟩
              replace H : ((some (([(rd_T59 l0 x14_1).f2] : List Int) : List Int)).bind fun y479 => (if x6_1.length + y479.length < 17592186044416 then (lombardref11_Sums.l0 k1 y476 (x6_1 ++ y479) l0 (l0.length : Int) (wrap64 (x14_1 + 1))) else (none))) = some (r1, r2, r3) := by first | (rw [hy476]; with_reducible exact H) | (have H2_ := (Option.bind_some _ _).symm.trans H; rw [hy476]; with_reducible exact H2_) | (have H2_ := (Option.bind_some _ _).symm.trans H; with_reducible exact H2_) | with_reducible exact H | (rw [hy476]; exact H) | exact H
              have Ny476 := Aside0.mk hy476
              clear hy476
              obtain ⟨y479, hy479⟩ : ∃ y_ : List Int, y_ = (([(rd_T59 l0 x14_1).f2] : List Int)) := ⟨_, rfl⟩
              replace H : (if x6_1.length + y479.length < 17592186044416 then (lombardref11_Sums.l0 k1 y476 (x6_1 ++ y479) l0 (l0.length : Int) (wrap64 (x14_1 + 1))) else (none)) = some (r1, r2, r3) := by first | (rw [hy479]; with_reducible exact H) | (have H2_ := (Option.bind_some _ _).symm.trans H; rw [hy479]; with_reducible exact H2_) | (have H2_ := (Option.bind_some _ _).symm.trans H; with_reducible exact H2_) | with_reducible exact H | (rw [hy479]; exact H) | exact H
              have Ny479 := Aside0.mk hy479
              clear hy479
              by_cases c6 : x6_1.length + y479.length < 17592186044416
              · rw [if_pos c6] at H
                have LMc6 := Aside0.mk c6
                clear c6
                obtain ⟨y482, hy482⟩ : ∃ y_ : List Int, y_ = (x6_1 ++ y479) := ⟨_, rfl⟩
                replace H : (lombardref11_Sums.l0 k1 y476 y482 l0 (l0.length : Int) (wrap64 (x14_1 + 1))) = some (r1, r2, r3) := by first | (rw [hy482]; with_reducible exact H) | (have H2_ := (Option.bind_some _ _).symm.trans H; rw [hy482]; with_reducible exact H2_) | (have H2_ := (Option.bind_some _ _).symm.trans H; with_reducible exact H2_) | with_reducible exact H | (rw [hy482]; exact H) | exact H
                have Ny482 := Aside0.mk hy482
                clear hy482
                have H' := Aside0.mk H
                clear H
                have p471 : 0 ≤ (x14_1 : Int) := of_decide_eq_true (by first | (with_reducible assumption) | assumption)
                have q471 : x14_1 < (l0.length : Int) := of_decide_eq_true (by first | (with_reducible assumption) | assumption)
                obtain ⟨ad471, e471, hx471_0, hx471_1, hx471_2, hx471_3⟩ := at_T59 HR0.out x14_1 p471 q471
                cases e471
                try replace hx471_0 := (HB.out.cell (World.block_lt_of_cell? w _ hx471_0)).trans hx471_0
                try replace hx471_1 := (HB.out.cell (World.block_lt_of_cell? w _ hx471_1)).trans hx471_1
                try replace hx471_2 := (HB.out.cell (World.block_lt_of_cell? w _ hx471_2)).trans hx471_2
                try replace hx471_3 := (HB.out.cell (World.block_lt_of_cell? w _ hx471_3)).trans hx471_3
                replace p471 := eq_true p471
                replace q471 := eq_true q471
                try go_wp2_with (first | ((with_reducible refine gate_dst (N := 8) rfl ?_); refine box_event ?hg (N := 8) ?hd (cs := #[.int .i64 0, .int .i64 0, .int .i64 0, .int .i64 0]) (t := 59) ?hr ?_; (case hd => rfl); (case hg => rfl); (case hr => first | (go_simp; done) | (go_simp; rfl)); intro gb472 hg w7 hbox hb; have n0_ := Aside0.mk (Kd.R_below (by (with_reducible repeat (first | apply Kd.R_alloc | apply Kd.R_drewN | apply Kd.R_drew)); exact HO_5.out) hb); have n1_ := Aside0.mk (Kd.R_below (by (with_reducible repeat (first | apply Kd.R_alloc | apply Kd.R_drewN | apply Kd.R_drew)); exact HO_6.out) hb); have n2_ := Aside0.mk (below_step (by repeat (first | (with_reducible first | exact HB.out | apply below_alloc | apply pw_below_drewN | apply below_drew1) | exact HB.out)) hb); have n3_ := Aside0.mk (hbox); have n4_ := Aside0.mk ((by rw [hg]; exact (below_size (by repeat (first | (with_reducible first | exact HB.out | apply below_alloc | apply pw_below_drewN | apply below_drew1) | exact HB.out))) : w.heap.size ≤ gb472)); have n5_ := Aside0.mk ((by rw [hg]; exact (below_size (by repeat (first | (with_reducible first | exact HB.out | apply below_alloc | apply pw_below_drewN | apply below_drew1) | exact HB.out))) : w.heap.size ≤ gb472)); clear HO_5; clear HO_6; clear HB; have HO_5 := n0_; have HO_6 := n1_; have HB := n2_; have BK472 := n3_; have GW472 := n4_; have GE472 := n5_; clear n0_ n1_ n2_ n3_ n4_ n5_; clear hb hbox hg; have hcz8_0 : w7.cell? ⟨gb472, 0, none⟩ = some (.int .i64 0) := (blk_cell BK472.out 0).trans rfl; have hcz8_1 : w7.cell? ⟨gb472, 1, none⟩ = some (.int .i64 0) := (blk_cell BK472.out 1).trans rfl; have hcz8_2 : w7.cell? ⟨gb472, 2, none⟩ = some (.int .i64 0) := (blk_cell BK472.out 2).trans rfl; have hcz8_3 : w7.cell? ⟨gb472, 3, none⟩ = some (.int .i64 0) := (blk_cell BK472.out 3).trans rfl; have hfz8_0 := blk_frozen BK472.out 0; have hfz8_1 := blk_frozen BK472.out 1; have hfz8_2 := blk_frozen BK472.out 2; have hfz8_3 := blk_frozen BK472.out 3; obtain ⟨Ao9, co9, eo9⟩ := Kd.R_slice HO_5.out; subst eo9; obtain ⟨Ao10, co10, eo10⟩ := Kd.R_slice HO_6.out; subst eo10))
                have n0_ : Aside0 (Kd.R (Kd.int .i64) 2 ((((w7.setCell ⟨gb472, 0, none⟩ (.int .i64 ((rd_T59 l0 x14_1).f0))).setCell ⟨gb472, 1, none⟩ (.int .i64 ((rd_T59 l0 x14_1).f1))).setCell ⟨gb472, 2, none⟩ (.int .i64 ((rd_T59 l0 x14_1).f2))).setCell ⟨gb472, 3, none⟩ (.int .i64 ((rd_T59 l0 x14_1).f3))) w.heap.size (fun k_ => some k_ ≠ (.slice Ao10 x6_1.length co10 : Value).ownBlock) (.slice Ao9 x5_1.length co9) x5_1) := ⟨by (with_reducible repeat (first | apply Kd.R_alloc | apply Kd.R_drewN | apply Kd.R_drew)); exact Kd.R_mono (Kd.R_far (p := ⟨gb472, 3, none⟩) (Kd.R_far (p := ⟨gb472, 2, none⟩) (Kd.R_far (p := ⟨gb472, 1, none⟩) (Kd.R_far (p := ⟨gb472, 0, none⟩) (Kd.R_types HO_5.out BK472.out (by decide)) (fun _ hk => hk.2) (.int .i64 ((rd_T59 l0 x14_1).f0))) (fun _ hk => hk.2) (.int .i64 ((rd_T59 l0 x14_1).f1))) (fun _ hk => hk.2) (.int .i64 ((rd_T59 l0 x14_1).f2))) (fun _ hk => hk.2) (.int .i64 ((rd_T59 l0 x14_1).f3))) (fun _ hk => hk.1)⟩
                have n1_ : Aside0 (Kd.R (Kd.int .i64) 2 ((((w7.setCell ⟨gb472, 0, none⟩ (.int .i64 ((rd_T59 l0 x14_1).f0))).setCell ⟨gb472, 1, none⟩ (.int .i64 ((rd_T59 l0 x14_1).f1))).setCell ⟨gb472, 2, none⟩ (.int .i64 ((rd_T59 l0 x14_1).f2))).setCell ⟨gb472, 3, none⟩ (.int .i64 ((rd_T59 l0 x14_1).f3))) w.heap.size (fun k_ => some k_ ≠ (.slice Ao9 x5_1.length co9 : Value).ownBlock) (.slice Ao10 x6_1.length co10) x6_1) := ⟨by (with_reducible repeat (first | apply Kd.R_alloc | apply Kd.R_drewN | apply Kd.R_drew)); exact Kd.R_mono (Kd.R_far (p := ⟨gb472, 3, none⟩) (Kd.R_far (p := ⟨gb472, 2, none⟩) (Kd.R_far (p := ⟨gb472, 1, none⟩) (Kd.R_far (p := ⟨gb472, 0, none⟩) (Kd.R_types HO_6.out BK472.out (by decide)) (fun _ hk => hk.2) (.int .i64 ((rd_T59 l0 x14_1).f0))) (fun _ hk => hk.2) (.int .i64 ((rd_T59 l0 x14_1).f1))) (fun _ hk => hk.2) (.int .i64 ((rd_T59 l0 x14_1).f2))) (fun _ hk => hk.2) (.int .i64 ((rd_T59 l0 x14_1).f3))) (fun _ hk => hk.1)⟩
                have n2_ : Aside0 (((((w7.setCell ⟨gb472, 0, none⟩ (.int .i64 ((rd_T59 l0 x14_1).f0))).setCell ⟨gb472, 1, none⟩ (.int .i64 ((rd_T59 l0 x14_1).f1))).setCell ⟨gb472, 2, none⟩ (.int .i64 ((rd_T59 l0 x14_1).f2))).setCell ⟨gb472, 3, none⟩ (.int .i64 ((rd_T59 l0 x14_1).f3))).heap[gb472]? = some (.cells #[.int .i64 ((rd_T59 l0 x14_1).f0), .int .i64 ((rd_T59 l0 x14_1).f1), .int .i64 ((rd_T59 l0 x14_1).f2), .int .i64 ((rd_T59 l0 x14_1).f3)] 59 (0, 0))) := ⟨by (with_reducible repeat (first | refine blk_drewN ?_ _ | refine blk_drew ?_ | refine blk_alloc ?_ _)); refine blk_put (cs := #[.int .i64 ((rd_T59 l0 x14_1).f0), .int .i64 ((rd_T59 l0 x14_1).f1), .int .i64 ((rd_T59 l0 x14_1).f2), .int .i64 0]) ?_ 3 _ rfl; (with_reducible repeat (first | refine blk_drewN ?_ _ | refine blk_drew ?_ | refine blk_alloc ?_ _)); refine blk_put (cs := #[.int .i64 ((rd_T59 l0 x14_1).f0), .int .i64 ((rd_T59 l0 x14_1).f1), .int .i64 0, .int .i64 0]) ?_ 2 _ rfl; (with_reducible repeat (first | refine blk_drewN ?_ _ | refine blk_drew ?_ | refine blk_alloc ?_ _)); refine blk_put (cs := #[.int .i64 ((rd_T59 l0 x14_1).f0), .int .i64 0, .int .i64 0, .int .i64 0]) ?_ 1 _ rfl; (with_reducible repeat (first | refine blk_drewN ?_ _ | refine blk_drew ?_ | refine blk_alloc ?_ _)); refine blk_put (cs := #[.int .i64 0, .int .i64 0, .int .i64 0, .int .i64 0]) ?_ 0 _ rfl; (with_reducible repeat (first | refine blk_drewN ?_ _ | refine blk_drew ?_ | refine blk_alloc ?_ _)); exact BK472.out⟩
                have n3_ : Aside0 (Below w.heap.size w ((((w7.setCell ⟨gb472, 0, none⟩ (.int .i64 ((rd_T59 l0 x14_1).f0))).setCell ⟨gb472, 1, none⟩ (.int .i64 ((rd_T59 l0 x14_1).f1))).setCell ⟨gb472, 2, none⟩ (.int .i64 ((rd_T59 l0 x14_1).f2))).setCell ⟨gb472, 3, none⟩ (.int .i64 ((rd_T59 l0 x14_1).f3)))) := ⟨by repeat (first | (with_reducible first | exact HB.out | apply below_alloc | apply pw_below_drewN | apply below_drew1 | refine below_set ?_ GE472.out) | exact HB.out)⟩
                (try clear HO_5)
                (try clear HO_6)
                (try clear BK472)
                (try clear HB)
                generalize ((((w7.setCell ⟨gb472, 0, none⟩ (.int .i64 ((rd_T59 l0 x14_1).f0))).setCell ⟨gb472, 1, none⟩ (.int .i64 ((rd_T59 l0 x14_1).f1))).setCell ⟨gb472, 2, none⟩ (.int .i64 ((rd_T59 l0 x14_1).f2))).setCell ⟨gb472, 3, none⟩ (.int .i64 ((rd_T59 l0 x14_1).f3))) = w11 at n0_ n1_ n2_ n3_ ⊢
                have HO_5 := n0_
                have HO_6 := n1_
                have BK472 := n2_
                have HB := n3_
                clear n0_ n1_ n2_ n3_
                have n0_ := Aside0.mk (Kd.R_drew HO_5.out)
                have n1_ := Aside0.mk (Kd.R_drew HO_6.out)
                have n2_ := Aside0.mk (blk_drew BK472.out)
                have n3_ := Aside0.mk (below_drew1 HB.out)
                clear HO_5
                clear HO_6
                clear BK472
                clear HB
                have HO_5 := n0_
                have HO_6 := n1_
                have BK472 := n2_
                have HB := n3_
                clear n0_ n1_ n2_ n3_
                refine start_ (n := 12) (S := fun w' => w'.cell? ⟨gb472, 0, none⟩ = some (.int .i64 ((rd_T59 l0 x14_1).f0)) ∧ w'.cell? ⟨gb472, 1, none⟩ = some (.int .i64 ((rd_T59 l0 x14_1).f1)) ∧ w'.cell? ⟨gb472, 2, none⟩ = some (.int .i64 ((rd_T59 l0 x14_1).f2)) ∧ w'.cell? ⟨gb472, 3, none⟩ = some (.int .i64 ((rd_T59 l0 x14_1).f3))) (ds := []) #[false, false, false, false, false, false, false, false, false, false, false, false] (by kernel_rfl) rfl rfl ⟨(blk_cell BK472.out 0).trans rfl, (blk_cell BK472.out 1).trans rfl, (blk_cell BK472.out 2).trans rfl, (blk_cell BK472.out 3).trans rfl⟩ (fun hHeld => ?_); refine with_tabW lombardref11_Sums.tab5 lombardref11_Sums.bits5 (fun HT_ HW_ => ?_)
                generalize w11.drew = w12 at HO_5 HO_6 BK472 HB hHeld ⊢
                refine pure_ (i := 0) (N := some 18) (v := ?_) (a' := ?_) #[true, false, false, false, false, false, false, false, false, false, false, false] rfl rfl (any_of HT_.out (by kernel_rfl)) (fun _ _ _ h => h) (Or.inl ⟨by rfl, ?_⟩) ?_ ?_
                rotate_left
                · intro w'
                  go_simp
                  with_reducible rfl
                rotate_left
                · simp only [Act.put, List.setIfInBounds_toArray, List.set_cons_zero, List.set_cons_succ, i64_w, i32_w]
                  rfl
                refine pure_ (i := 1) (N := some 19) (v := ?_) (a' := ?_) #[true, true, false, false, false, false, false, false, false, false, false, false] rfl rfl (any_of HT_.out (by kernel_rfl)) (fun _ _ _ h => h) (Or.inl ⟨by rfl, ?_⟩) ?_ ?_
                rotate_left
                · intro w'
                  go_simp
                  with_reducible rfl
                rotate_left
                · simp only [Act.put, List.setIfInBounds_toArray, List.set_cons_zero, List.set_cons_succ, i64_w, i32_w]
                  rfl
                refine pure_ (i := 5) (N := some 23) (v := ?_) (a' := ?_) #[true, true, false, false, false, true, false, false, false, false, false, false] rfl rfl (any_of HT_.out (by kernel_rfl)) (fun _ _ _ h => h) (Or.inl ⟨by rfl, ?_⟩) ?_ ?_
                rotate_left
                · intro w'
                  go_simp
                  with_reducible rfl
                rotate_left
                · simp only [Act.put, List.setIfInBounds_toArray, List.set_cons_zero, List.set_cons_succ, i64_w, i32_w]
                  rfl
                refine pure_ (i := 6) (N := some 24) (v := ?_) (a' := ?_) #[true, true, false, false, false, true, true, false, false, false, false, false] rfl rfl (any_of HT_.out (by kernel_rfl)) (fun _ _ _ h => h) (Or.inl ⟨by rfl, ?_⟩) ?_ ?_
                rotate_left
                · intro w'
                  go_simp
                  with_reducible rfl
                rotate_left
                · simp only [Act.put, List.setIfInBounds_toArray, List.set_cons_zero, List.set_cons_succ, i64_w, i32_w]
                  rfl
                refine take_ (i := 2) (N := some 20) (v := ?_) (a' := ?_) #[true, true, true, false, false, true, true, false, false, false, false, false] rfl rfl (take_ofW HT_.out HW_.out (by kernel_rfl)) (fun _ _ _ h => h) (Or.inl ⟨by rfl, ?_⟩) hHeld ?_ ?_
                rotate_left
                · rintro w' ⟨s0, s1, s2, s3⟩
                  go_simp
                  with_reducible rfl
                rotate_left
                · simp only [Act.put, List.setIfInBounds_toArray, List.set_cons_zero, List.set_cons_succ, i64_w, i32_w]
                  rfl
                refine take_ (i := 7) (N := some 25) (v := ?_) (a' := ?_) #[true, true, true, false, false, true, true, true, false, false, false, false] rfl rfl (take_ofW HT_.out HW_.out (by kernel_rfl)) (fun _ _ _ h => h) (Or.inl ⟨by rfl, ?_⟩) hHeld ?_ ?_
                rotate_left
                · rintro w' ⟨s0, s1, s2, s3⟩
                  go_simp
                  with_reducible rfl
                rotate_left
                · simp only [Act.put, List.setIfInBounds_toArray, List.set_cons_zero, List.set_cons_succ, i64_w, i32_w]
                  rfl
                refine join_ (σ := Value × Value × Value) 3 #[true, true, true, true, true, true, true, true, true, false, false, false] (fun s_ => [(21, s_.1), (22, s_.2.1), (26, s_.2.2)]) (fun s_ w' => (w'.cell? ⟨gb472, 0, none⟩ = some (.int .i64 ((rd_T59 l0 x14_1).f0)) ∧ w'.cell? ⟨gb472, 1, none⟩ = some (.int .i64 ((rd_T59 l0 x14_1).f1)) ∧ w'.cell? ⟨gb472, 2, none⟩ = some (.int .i64 ((rd_T59 l0 x14_1).f2)) ∧ w'.cell? ⟨gb472, 3, none⟩ = some (.int .i64 ((rd_T59 l0 x14_1).f3))) ∧ (Kd.R (Kd.int .i64) 2 w' w.heap.size (fun k_ => some k_ ≠ (s_.2.1 : Value).ownBlock ∧ some k_ ≠ (s_.2.2 : Value).ownBlock ∧ some k_ ≠ (.slice Ao10 x6_1.length co10 : Value).ownBlock) s_.1 y473) ∧ (Kd.R (Kd.int .i64) 2 w' w.heap.size (fun k_ => some k_ ≠ (s_.1 : Value).ownBlock ∧ some k_ ≠ (s_.2.2 : Value).ownBlock ∧ some k_ ≠ (.slice Ao10 x6_1.length co10 : Value).ownBlock) s_.2.1 y476) ∧ (Kd.R (Kd.int .i64) 2 w' w.heap.size (fun k_ => some k_ ≠ (s_.1 : Value).ownBlock ∧ some k_ ≠ (s_.2.1 : Value).ownBlock ∧ some k_ ≠ (.slice Ao10 x6_1.length co10 : Value).ownBlock) s_.2.2 y479) ∧ (Kd.R (Kd.int .i64) 2 w' w.heap.size (fun k_ => some k_ ≠ (s_.1 : Value).ownBlock ∧ some k_ ≠ (s_.2.1 : Value).ownBlock ∧ some k_ ≠ (s_.2.2 : Value).ownBlock) (.slice Ao10 x6_1.length co10) x6_1) ∧ (w'.heap[gb472]? = some (.cells #[.int .i64 ((rd_T59 l0 x14_1).f0), .int .i64 ((rd_T59 l0 x14_1).f1), .int .i64 ((rd_T59 l0 x14_1).f2), .int .i64 ((rd_T59 l0 x14_1).f3)] 59 (0, 0))) ∧ (Below w.heap.size w w')) ?_ ?_
                rotate_left
                · intro hCont
                  refine two_ (i := 3) (j := 8) (Ni := some 21) (Nj := some 26) #[true, true, true, true, false, true, true, true, false, false, false, false] #[true, true, true, false, false, true, true, true, true, false, false, false] rfl rfl rfl rfl (two_of HT_.out (by kernel_rfl)) (by decide) (by decide) (fun K hK => ?_) (fun K hK => ?_)
                  · skip
                    refine Kd.R_lit_step (Kd.int .i64) _ 2 ?hg (N := 21) ?hd (xs := ([(rd_T59 l0 x14_1).f1] : List Int)) (inner := [.int .i64 ((rd_T59 l0 x14_1).f1)]) (ok := fun _ => True) (okp := fun _ => True) ?hr ?hp (fun _ hk => hk) trivial (Below.refl _ _) (Nat.le_refl _) (by simp) ?_; (case hd => rfl); (case hg => rfl); (case hr => first | (go_simp; done) | (go_simp; rfl)); (case hp => exact (Reps.one (show Kd.M (Kd.int .i64) _ _ _ ((rd_T59 l0 x14_1).f1) [.int .i64 ((rd_T59 l0 x14_1).f1)] from rfl) (Reps.none _ _)))
                    intro v474 w13 ho14 hb hg_ hnew_
                    clear hg_ hnew_
                    (first | rw [← Ny473.out] at ho14 | (simp only [Int.reduceToNat] at ho14; rw [← Ny473.out] at ho14))
                    have n0_ := Aside0.mk (Kd.R_elder' (by (with_reducible repeat (first | apply Kd.R_alloc | apply Kd.R_drewN | apply Kd.R_drew)); exact HO_5.out) (Kd.R_base ho14) hb)
                    have n1_ := Aside0.mk (Kd.R_elder' (by (with_reducible repeat (first | apply Kd.R_alloc | apply Kd.R_drewN | apply Kd.R_drew)); exact HO_6.out) (Kd.R_base ho14) hb)
                    have n2_ := Aside0.mk (Kd.R_lower (Kd.R_new' (Kd.R_new' ho14 (Kd.R_lt (by (with_reducible repeat (first | apply Kd.R_alloc | apply Kd.R_drewN | apply Kd.R_drew)); exact HO_5.out))) (Kd.R_lt (by (with_reducible repeat (first | apply Kd.R_alloc | apply Kd.R_drewN | apply Kd.R_drew)); exact HO_6.out))) (below_size (by repeat (first | (with_reducible first | exact HB.out | apply below_alloc | apply pw_below_drewN | apply below_drew1 | refine below_set ?_ GE472.out) | exact HB.out))))
                    have n3_ := Aside0.mk (blk_below (g := gb472) (o := .cells #[.int .i64 ((rd_T59 l0 x14_1).f0), .int .i64 ((rd_T59 l0 x14_1).f1), .int .i64 ((rd_T59 l0 x14_1).f2), .int .i64 ((rd_T59 l0 x14_1).f3)] 59 (0, 0)) (by (with_reducible repeat (first | refine blk_drewN ?_ _ | refine blk_drew ?_ | refine blk_alloc ?_ _)); exact BK472.out) hb)
                    have n4_ := Aside0.mk (below_step (by repeat (first | (with_reducible first | exact HB.out | apply below_alloc | apply pw_below_drewN | apply below_drew1 | refine below_set ?_ GE472.out) | exact HB.out)) hb)
                    clear HO_5
                    clear HO_6
                    clear BK472
                    clear HB
                    have HO_5 := n0_
                    have HO_6 := n1_
                    have HO475 := n2_
                    have BK472 := n3_
                    have HB := n4_
                    clear n0_ n1_ n2_ n3_ n4_
                    clear hb ho14
                    obtain ⟨Ao16, co16, eo16⟩ := Kd.R_slice HO475.out
                    (first | subst eo16 | (injection eo16 with f1_ f2_ f3_; have f4_ := f1_.symm; have f5_ := f3_.symm; clear f1_ f2_ f3_; subst f4_; subst f5_))
                    refine hK.out _ _ ⟨(blk_cell BK472.out 0).trans rfl, (blk_cell BK472.out 1).trans rfl, (blk_cell BK472.out 2).trans rfl, (blk_cell BK472.out 3).trans rfl⟩ (fun hHeld => ?_)
                    clear hK K
                    refine norm_ (a' := ?_) ?_ ?_
                    rotate_left
                    · show Act.put _ (some 21) _ = _
                      simp only [Act.put, List.setIfInBounds_toArray, List.set_cons_zero, List.set_cons_succ, i64_w, i32_w]
                      rfl
                    refine two_ (i := 4) (j := 8) (Ni := some 22) (Nj := some 26) #[true, true, true, true, true, true, true, true, false, false, false, false] #[true, true, true, true, false, true, true, true, true, false, false, false] rfl rfl rfl rfl (two_of HT_.out (by kernel_rfl)) (by decide) (by decide) (fun K hK => ?_) (fun K hK => ?_)
                    · skip
                      refine Kd.R_append_rows_step (Kd.int .i64) (w0 := w) w.heap.size (by rfl) (.tmp 18) (.tmp 21) 22 2 (.int .i64 0) 8 rfl Try.underlying22 info2 rfl (by decide) (by omega) (.slice Ao9 x5_1.length co9) x5_1 y473 _ _ _ (fun k_ => some k_ ≠ (.slice Ao10 x6_1.length co10 : Value).ownBlock ∧ some k_ ≠ (.slice Ao16 y473.length co16 : Value).ownBlock) (fun _ => False) rfl rfl ?aO ?aR (fun _ _ h => h) (fun _ h => h.elim) ?aF ?aB ?aS ?aL ?_
                      (case aR => repeat (first | exact (Kd.R_reads' HO475.out).2.2 | (with_reducible refine Kd.C_alloc ?_ _) | (with_reducible refine Kd.C_drewN ?_ _) | (with_reducible refine Kd.C_drew ?_)))
                      (case aB => exact (by repeat (first | (with_reducible first | exact HB.out | apply below_alloc | apply pw_below_drewN | apply below_drew1 | refine below_set ?_ GE472.out) | exact HB.out)))
                      (case aF => exact (fun k_ hk => ⟨Kd.fresh' (Kd.R_lt (by (with_reducible repeat (first | apply Kd.R_alloc | apply Kd.R_drewN | apply Kd.R_drew)); exact HO_6.out)) k_ hk, Kd.fresh' (Kd.R_lt (by (with_reducible repeat (first | apply Kd.R_alloc | apply Kd.R_drewN | apply Kd.R_drew)); exact HO475.out)) k_ hk⟩))
                      (case aO => exact (by (with_reducible repeat (first | apply Kd.R_alloc | apply Kd.R_drewN | apply Kd.R_drew)); exact HO_5.out))
                      (case aS => exact (below_size (by repeat (first | (with_reducible first | exact HB.out | apply below_alloc | apply pw_below_drewN | apply below_drew1 | refine below_set ?_ GE472.out) | exact HB.out))))
                      (case aL => have := LMc5.out; omega)
                      intro v477 w15 ho hb hg hat
                      rw [← Ny476.out] at ho
                      have n0_ := Aside0.mk (Kd.R_after (ok := (fun k_ => some k_ ≠ (.slice Ao16 y473.length co16 : Value).ownBlock)) (by (with_reducible repeat (first | apply Kd.R_alloc | apply Kd.R_drewN | apply Kd.R_drew)); exact Kd.R_mono HO_6.out (fun _ hk => ⟨hk.2, hk.1⟩)) hg hat)
                      have n1_ := Aside0.mk (blk_grown (g := gb472) (o := .cells #[.int .i64 ((rd_T59 l0 x14_1).f0), .int .i64 ((rd_T59 l0 x14_1).f1), .int .i64 ((rd_T59 l0 x14_1).f2), .int .i64 ((rd_T59 l0 x14_1).f3)] 59 (0, 0)) (by (with_reducible repeat (first | refine blk_drewN ?_ _ | refine blk_drew ?_ | refine blk_alloc ?_ _)); exact BK472.out) hg (Kd.R_ne HO_5.out BK472.out (by decide)))
                      have n2_ := Aside0.mk (Kd.R_after (ok := (fun k_ => some k_ ≠ (.slice Ao10 x6_1.length co10 : Value).ownBlock)) (by (with_reducible repeat (first | apply Kd.R_alloc | apply Kd.R_drewN | apply Kd.R_drew)); exact Kd.R_mono HO475.out (fun _ hk => ⟨hk.2, hk.1.2⟩)) hg hat)
                      have n3_ := Aside0.mk (hb)
                      have n4_ := Aside0.mk (ho)
                      clear HO_6
                      clear BK472
                      clear HO475
                      clear HB
                      clear HO_5
                      have HO_6 := n0_
                      have BK472 := n1_
                      have HO475 := n2_
                      have HB := n3_
                      have HO478 := n4_
                      clear n0_ n1_ n2_ n3_ n4_
                      clear ho hb hg hat
                      refine hK.out _ _ ⟨(blk_cell BK472.out 0).trans rfl, (blk_cell BK472.out 1).trans rfl, (blk_cell BK472.out 2).trans rfl, (blk_cell BK472.out 3).trans rfl⟩ (fun hHeld => ?_)
                      clear hK K
                      refine norm_ (a' := ?_) ?_ ?_
                      rotate_left
                      · show Act.put _ (some 22) _ = _
                        simp only [Act.put, List.setIfInBounds_toArray, List.set_cons_zero, List.set_cons_succ, i64_w, i32_w]
                        rfl
                      refine one_ (i := 8) (N := some 26) #[true, true, true, true, true, true, true, true, true, false, false, false] rfl rfl (one_of HT_.out (by kernel_rfl)) (by decide) (fun K hK => ?_)
                      refine Kd.R_lit_step (Kd.int .i64) _ 2 ?hg (N := 26) ?hd (xs := ([(rd_T59 l0 x14_1).f2] : List Int)) (inner := [.int .i64 ((rd_T59 l0 x14_1).f2)]) (ok := fun _ => True) (okp := fun _ => True) ?hr ?hp (fun _ hk => hk) trivial (Below.refl _ _) (Nat.le_refl _) (by simp) ?_; (case hd => rfl); (case hg => rfl); (case hr => first | (go_simp; done) | (go_simp; rfl)); (case hp => exact (Reps.one (show Kd.M (Kd.int .i64) _ _ _ ((rd_T59 l0 x14_1).f2) [.int .i64 ((rd_T59 l0 x14_1).f2)] from rfl) (Reps.none _ _)))
                      intro v480 w17 ho18 hb hg_ hnew_
                      clear hg_ hnew_
                      (first | rw [← Ny479.out] at ho18 | (simp only [Int.reduceToNat] at ho18; rw [← Ny479.out] at ho18))
                      have n0_ := Aside0.mk (Kd.R_elder' (by (with_reducible repeat (first | apply Kd.R_alloc | apply Kd.R_drewN | apply Kd.R_drew)); exact HO_6.out) (Kd.R_base ho18) hb)
                      have n1_ := Aside0.mk (Kd.R_elder' (by (with_reducible repeat (first | apply Kd.R_alloc | apply Kd.R_drewN | apply Kd.R_drew)); exact HO475.out) (Kd.R_base ho18) hb)
                      have n2_ := Aside0.mk (Kd.R_elder' (by (with_reducible repeat (first | apply Kd.R_alloc | apply Kd.R_drewN | apply Kd.R_drew)); exact HO478.out) (Kd.R_base ho18) hb)
                      have n3_ := Aside0.mk (Kd.R_lower (Kd.R_new' (Kd.R_new' (Kd.R_new' ho18 (Kd.R_lt (by (with_reducible repeat (first | apply Kd.R_alloc | apply Kd.R_drewN | apply Kd.R_drew)); exact HO_6.out))) (Kd.R_lt (by (with_reducible repeat (first | apply Kd.R_alloc | apply Kd.R_drewN | apply Kd.R_drew)); exact HO475.out))) (Kd.R_lt (by (with_reducible repeat (first | apply Kd.R_alloc | apply Kd.R_drewN | apply Kd.R_drew)); exact HO478.out))) (below_size (by repeat (first | (with_reducible first | exact HB.out | apply below_alloc | apply pw_below_drewN | apply below_drew1 | refine below_set ?_ GE472.out) | exact HB.out))))
                      have n4_ := Aside0.mk (blk_below (g := gb472) (o := .cells #[.int .i64 ((rd_T59 l0 x14_1).f0), .int .i64 ((rd_T59 l0 x14_1).f1), .int .i64 ((rd_T59 l0 x14_1).f2), .int .i64 ((rd_T59 l0 x14_1).f3)] 59 (0, 0)) (by (with_reducible repeat (first | refine blk_drewN ?_ _ | refine blk_drew ?_ | refine blk_alloc ?_ _)); exact BK472.out) hb)
                      have n5_ := Aside0.mk (below_step (by repeat (first | (with_reducible first | exact HB.out | apply below_alloc | apply pw_below_drewN | apply below_drew1 | refine below_set ?_ GE472.out) | exact HB.out)) hb)
                      clear HO_6
                      clear HO475
                      clear HO478
                      clear BK472
                      clear HB
                      have HO_6 := n0_
                      have HO475 := n1_
                      have HO478 := n2_
                      have HO481 := n3_
                      have BK472 := n4_
                      have HB := n5_
                      clear n0_ n1_ n2_ n3_ n4_ n5_
                      clear hb ho18
                      refine hK.out _ _ ⟨(blk_cell BK472.out 0).trans rfl, (blk_cell BK472.out 1).trans rfl, (blk_cell BK472.out 2).trans rfl, (blk_cell BK472.out 3).trans rfl⟩ (fun hHeld => ?_)
                      clear hK K
                      refine norm_ (a' := ?_) ?_ ?_
                      rotate_left
                      · show Act.put _ (some 26) _ = _
                        simp only [Act.put, List.setIfInBounds_toArray, List.set_cons_zero, List.set_cons_succ, i64_w, i32_w]
                        rfl
                      exact norm_ (by simp only [putAll, Act.put, List.setIfInBounds_toArray, List.set_cons_zero, List.set_cons_succ]) (hCont (.slice Ao16 y473.length co16, v477, v480) _ ⟨hHeld, (by (with_reducible repeat (first | apply Kd.R_alloc | apply Kd.R_drewN | apply Kd.R_drew)); exact Kd.R_mono HO475.out (fun _ hk => ⟨hk.1.2, ⟨hk.2, hk.1.1⟩⟩)), (by (with_reducible repeat (first | apply Kd.R_alloc | apply Kd.R_drewN | apply Kd.R_drew)); exact Kd.R_mono HO478.out (fun _ hk => ⟨hk.1.2, ⟨hk.2, hk.1.1⟩⟩)), (by (with_reducible repeat (first | apply Kd.R_alloc | apply Kd.R_drewN | apply Kd.R_drew)); exact Kd.R_mono HO481.out (fun _ hk => ⟨hk.1.2, ⟨hk.2, hk.1.1.2⟩⟩)), (by (with_reducible repeat (first | apply Kd.R_alloc | apply Kd.R_drewN | apply Kd.R_drew)); exact Kd.R_mono HO_6.out (fun _ hk => ⟨hk.1.1, ⟨hk.1.2, hk.2⟩⟩)), (by (with_reducible repeat (first | refine blk_drewN ?_ _ | refine blk_drew ?_ | refine blk_alloc ?_ _)); exact BK472.out), (by repeat (first | (with_reducible first | exact HB.out | apply below_alloc | apply pw_below_drewN | apply below_drew1 | refine below_set ?_ GE472.out) | exact HB.out))⟩)
                    · skip
                      refine Kd.R_lit_step (Kd.int .i64) _ 2 ?hg (N := 26) ?hd (xs := ([(rd_T59 l0 x14_1).f2] : List Int)) (inner := [.int .i64 ((rd_T59 l0 x14_1).f2)]) (ok := fun _ => True) (okp := fun _ => True) ?hr ?hp (fun _ hk => hk) trivial (Below.refl _ _) (Nat.le_refl _) (by simp) ?_; (case hd => rfl); (case hg => rfl); (case hr => first | (go_simp; done) | (go_simp; rfl)); (case hp => exact (Reps.one (show Kd.M (Kd.int .i64) _ _ _ ((rd_T59 l0 x14_1).f2) [.int .i64 ((rd_T59 l0 x14_1).f2)] from rfl) (Reps.none _ _)))
                      intro v480 w15 ho16 hb hg_ hnew_
                      clear hg_ hnew_
                      (first | rw [← Ny479.out] at ho16 | (simp only [Int.reduceToNat] at ho16; rw [← Ny479.out] at ho16))
                      have n0_ := Aside0.mk (Kd.R_elder' (by (with_reducible repeat (first | apply Kd.R_alloc | apply Kd.R_drewN | apply Kd.R_drew)); exact HO_5.out) (Kd.R_base ho16) hb)
                      have n1_ := Aside0.mk (Kd.R_elder' (by (with_reducible repeat (first | apply Kd.R_alloc | apply Kd.R_drewN | apply Kd.R_drew)); exact HO_6.out) (Kd.R_base ho16) hb)
                      have n2_ := Aside0.mk (Kd.R_elder' (by (with_reducible repeat (first | apply Kd.R_alloc | apply Kd.R_drewN | apply Kd.R_drew)); exact HO475.out) (Kd.R_base ho16) hb)
                      have n3_ := Aside0.mk (Kd.R_lower (Kd.R_new' (Kd.R_new' (Kd.R_new' ho16 (Kd.R_lt (by (with_reducible repeat (first | apply Kd.R_alloc | apply Kd.R_drewN | apply Kd.R_drew)); exact HO_5.out))) (Kd.R_lt (by (with_reducible repeat (first | apply Kd.R_alloc | apply Kd.R_drewN | apply Kd.R_drew)); exact HO_6.out))) (Kd.R_lt (by (with_reducible repeat (first | apply Kd.R_alloc | apply Kd.R_drewN | apply Kd.R_drew)); exact HO475.out))) (below_size (by repeat (first | (with_reducible first | exact HB.out | apply below_alloc | apply pw_below_drewN | apply below_drew1 | refine below_set ?_ GE472.out) | exact HB.out))))
                      have n4_ := Aside0.mk (blk_below (g := gb472) (o := .cells #[.int .i64 ((rd_T59 l0 x14_1).f0), .int .i64 ((rd_T59 l0 x14_1).f1), .int .i64 ((rd_T59 l0 x14_1).f2), .int .i64 ((rd_T59 l0 x14_1).f3)] 59 (0, 0)) (by (with_reducible repeat (first | refine blk_drewN ?_ _ | refine blk_drew ?_ | refine blk_alloc ?_ _)); exact BK472.out) hb)
                      have n5_ := Aside0.mk (below_step (by repeat (first | (with_reducible first | exact HB.out | apply below_alloc | apply pw_below_drewN | apply below_drew1 | refine below_set ?_ GE472.out) | exact HB.out)) hb)
                      clear HO_5
                      clear HO_6
                      clear HO475
                      clear BK472
                      clear HB
                      have HO_5 := n0_
                      have HO_6 := n1_
                      have HO475 := n2_
                      have HO481 := n3_
                      have BK472 := n4_
                      have HB := n5_
                      clear n0_ n1_ n2_ n3_ n4_ n5_
                      clear hb ho16
                      obtain ⟨Ao18, co18, eo18⟩ := Kd.R_slice HO475.out
                      (first | subst eo18 | (injection eo18 with f1_ f2_ f3_; have f4_ := f1_.symm; have f5_ := f3_.symm; clear f1_ f2_ f3_; subst f4_; subst f5_))
                      refine hK.out _ _ ⟨(blk_cell BK472.out 0).trans rfl, (blk_cell BK472.out 1).trans rfl, (blk_cell BK472.out 2).trans rfl, (blk_cell BK472.out 3).trans rfl⟩ (fun hHeld => ?_)
                      clear hK K
                      refine norm_ (a' := ?_) ?_ ?_
                      rotate_left
                      · show Act.put _ (some 26) _ = _
                        simp only [Act.put, List.setIfInBounds_toArray, List.set_cons_zero, List.set_cons_succ, i64_w, i32_w]
                        rfl
                      refine one_ (i := 4) (N := some 22) #[true, true, true, true, true, true, true, true, true, false, false, false] rfl rfl (one_of HT_.out (by kernel_rfl)) (by decide) (fun K hK => ?_)
                      refine Kd.R_append_rows_step (Kd.int .i64) (w0 := w) w.heap.size (by rfl) (.tmp 18) (.tmp 21) 22 2 (.int .i64 0) 8 rfl Try.underlying22 info2 rfl (by decide) (by omega) (.slice Ao9 x5_1.length co9) x5_1 y473 _ _ _ (fun k_ => some k_ ≠ (.slice Ao10 x6_1.length co10 : Value).ownBlock ∧ some k_ ≠ (.slice Ao18 y473.length co18 : Value).ownBlock ∧ some k_ ≠ (v480 : Value).ownBlock) (fun _ => False) rfl rfl ?aO ?aR (fun _ _ h => h) (fun _ h => h.elim) ?aF ?aB ?aS ?aL ?_
                      (case aR => repeat (first | exact (Kd.R_reads' HO475.out).2.2 | (with_reducible refine Kd.C_alloc ?_ _) | (with_reducible refine Kd.C_drewN ?_ _) | (with_reducible refine Kd.C_drew ?_)))
                      (case aB => exact (by repeat (first | (with_reducible first | exact HB.out | apply below_alloc | apply pw_below_drewN | apply below_drew1 | refine below_set ?_ GE472.out) | exact HB.out)))
                      (case aF => exact (fun k_ hk => ⟨Kd.fresh' (Kd.R_lt (by (with_reducible repeat (first | apply Kd.R_alloc | apply Kd.R_drewN | apply Kd.R_drew)); exact HO_6.out)) k_ hk, Kd.fresh' (Kd.R_lt (by (with_reducible repeat (first | apply Kd.R_alloc | apply Kd.R_drewN | apply Kd.R_drew)); exact HO475.out)) k_ hk, Kd.fresh' (Kd.R_lt (by (with_reducible repeat (first | apply Kd.R_alloc | apply Kd.R_drewN | apply Kd.R_drew)); exact HO481.out)) k_ hk⟩))
                      (case aO => exact (by (with_reducible repeat (first | apply Kd.R_alloc | apply Kd.R_drewN | apply Kd.R_drew)); exact Kd.R_mono HO_5.out (fun _ hk => ⟨hk.1.1, ⟨hk.1.2, hk.2⟩⟩)))
                      (case aS => exact (below_size (by repeat (first | (with_reducible first | exact HB.out | apply below_alloc | apply pw_below_drewN | apply below_drew1 | refine below_set ?_ GE472.out) | exact HB.out))))
                      (case aL => have := LMc5.out; omega)
                      intro v477 w17 ho hb hg hat
                      rw [← Ny476.out] at ho
                      have n0_ := Aside0.mk (Kd.R_after (ok := (fun k_ => some k_ ≠ (.slice Ao18 y473.length co18 : Value).ownBlock ∧ some k_ ≠ (v480 : Value).ownBlock)) (by (with_reducible repeat (first | apply Kd.R_alloc | apply Kd.R_drewN | apply Kd.R_drew)); exact Kd.R_mono HO_6.out (fun _ hk => ⟨⟨hk.1.2, hk.2⟩, hk.1.1⟩)) hg hat)
                      have n1_ := Aside0.mk (blk_grown (g := gb472) (o := .cells #[.int .i64 ((rd_T59 l0 x14_1).f0), .int .i64 ((rd_T59 l0 x14_1).f1), .int .i64 ((rd_T59 l0 x14_1).f2), .int .i64 ((rd_T59 l0 x14_1).f3)] 59 (0, 0)) (by (with_reducible repeat (first | refine blk_drewN ?_ _ | refine blk_drew ?_ | refine blk_alloc ?_ _)); exact BK472.out) hg (Kd.R_ne HO_5.out BK472.out (by decide)))
                      have n2_ := Aside0.mk (Kd.R_after (ok := (fun k_ => some k_ ≠ (.slice Ao10 x6_1.length co10 : Value).ownBlock ∧ some k_ ≠ (v480 : Value).ownBlock)) (by (with_reducible repeat (first | apply Kd.R_alloc | apply Kd.R_drewN | apply Kd.R_drew)); exact Kd.R_mono HO475.out (fun _ hk => ⟨⟨hk.1.2, hk.2⟩, hk.1.1.2⟩)) hg hat)
                      have n3_ := Aside0.mk (Kd.R_after (ok := (fun k_ => some k_ ≠ (.slice Ao10 x6_1.length co10 : Value).ownBlock ∧ some k_ ≠ (.slice Ao18 y473.length co18 : Value).ownBlock)) (by (with_reducible repeat (first | apply Kd.R_alloc | apply Kd.R_drewN | apply Kd.R_drew)); exact Kd.R_mono HO481.out (fun _ hk => ⟨⟨hk.1.2, hk.2⟩, hk.1.1.2⟩)) hg hat)
                      have n4_ := Aside0.mk (hb)
                      have n5_ := Aside0.mk (ho)
                      clear HO_6
                      clear BK472
                      clear HO475
                      clear HO481
                      clear HB
                      clear HO_5
                      have HO_6 := n0_
                      have BK472 := n1_
                      have HO475 := n2_
                      have HO481 := n3_
                      have HB := n4_
                      have HO478 := n5_
                      clear n0_ n1_ n2_ n3_ n4_ n5_
                      clear ho hb hg hat
                      refine hK.out _ _ ⟨(blk_cell BK472.out 0).trans rfl, (blk_cell BK472.out 1).trans rfl, (blk_cell BK472.out 2).trans rfl, (blk_cell BK472.out 3).trans rfl⟩ (fun hHeld => ?_)
                      clear hK K
                      refine norm_ (a' := ?_) ?_ ?_
                      rotate_left
                      · show Act.put _ (some 22) _ = _
                        simp only [Act.put, List.setIfInBounds_toArray, List.set_cons_zero, List.set_cons_succ, i64_w, i32_w]
                        rfl
                      exact norm_ (by simp only [putAll, Act.put, List.setIfInBounds_toArray, List.set_cons_zero, List.set_cons_succ]) (hCont (.slice Ao18 y473.length co18, v477, v480) _ ⟨hHeld, (by (with_reducible repeat (first | apply Kd.R_alloc | apply Kd.R_drewN | apply Kd.R_drew)); exact Kd.R_mono HO475.out (fun _ hk => ⟨hk.2, ⟨hk.1.2, hk.1.1⟩⟩)), (by (with_reducible repeat (first | apply Kd.R_alloc | apply Kd.R_drewN | apply Kd.R_drew)); exact Kd.R_mono HO478.out (fun _ hk => ⟨hk.2.1, ⟨hk.2.2, hk.1⟩⟩)), (by (with_reducible repeat (first | apply Kd.R_alloc | apply Kd.R_drewN | apply Kd.R_drew)); exact Kd.R_mono HO481.out (fun _ hk => ⟨hk.1.2, ⟨hk.2, hk.1.1⟩⟩)), (by (with_reducible repeat (first | apply Kd.R_alloc | apply Kd.R_drewN | apply Kd.R_drew)); exact Kd.R_mono HO_6.out (fun _ hk => ⟨hk.1.1, ⟨hk.2, hk.1.2⟩⟩)), (by (with_reducible repeat (first | refine blk_drewN ?_ _ | refine blk_drew ?_ | refine blk_alloc ?_ _)); exact BK472.out), (by repeat (first | (with_reducible first | exact HB.out | apply below_alloc | apply pw_below_drewN | apply below_drew1 | refine below_set ?_ GE472.out) | exact HB.out))⟩)
                  · skip
                    refine Kd.R_lit_step (Kd.int .i64) _ 2 ?hg (N := 26) ?hd (xs := ([(rd_T59 l0 x14_1).f2] : List Int)) (inner := [.int .i64 ((rd_T59 l0 x14_1).f2)]) (ok := fun _ => True) (okp := fun _ => True) ?hr ?hp (fun _ hk => hk) trivial (Below.refl _ _) (Nat.le_refl _) (by simp) ?_; (case hd => rfl); (case hg => rfl); (case hr => first | (go_simp; done) | (go_simp; rfl)); (case hp => exact (Reps.one (show Kd.M (Kd.int .i64) _ _ _ ((rd_T59 l0 x14_1).f2) [.int .i64 ((rd_T59 l0 x14_1).f2)] from rfl) (Reps.none _ _)))
                    intro v480 w13 ho14 hb hg_ hnew_
                    clear hg_ hnew_
                    (first | rw [← Ny479.out] at ho14 | (simp only [Int.reduceToNat] at ho14; rw [← Ny479.out] at ho14))
                    have n0_ := Aside0.mk (Kd.R_elder' (by (with_reducible repeat (first | apply Kd.R_alloc | apply Kd.R_drewN | apply Kd.R_drew)); exact HO_5.out) (Kd.R_base ho14) hb)
                    have n1_ := Aside0.mk (Kd.R_elder' (by (with_reducible repeat (first | apply Kd.R_alloc | apply Kd.R_drewN | apply Kd.R_drew)); exact HO_6.out) (Kd.R_base ho14) hb)
                    have n2_ := Aside0.mk (Kd.R_lower (Kd.R_new' (Kd.R_new' ho14 (Kd.R_lt (by (with_reducible repeat (first | apply Kd.R_alloc | apply Kd.R_drewN | apply Kd.R_drew)); exact HO_5.out))) (Kd.R_lt (by (with_reducible repeat (first | apply Kd.R_alloc | apply Kd.R_drewN | apply Kd.R_drew)); exact HO_6.out))) (below_size (by repeat (first | (with_reducible first | exact HB.out | apply below_alloc | apply pw_below_drewN | apply below_drew1 | refine below_set ?_ GE472.out) | exact HB.out))))
                    have n3_ := Aside0.mk (blk_below (g := gb472) (o := .cells #[.int .i64 ((rd_T59 l0 x14_1).f0), .int .i64 ((rd_T59 l0 x14_1).f1), .int .i64 ((rd_T59 l0 x14_1).f2), .int .i64 ((rd_T59 l0 x14_1).f3)] 59 (0, 0)) (by (with_reducible repeat (first | refine blk_drewN ?_ _ | refine blk_drew ?_ | refine blk_alloc ?_ _)); exact BK472.out) hb)
                    have n4_ := Aside0.mk (below_step (by repeat (first | (with_reducible first | exact HB.out | apply below_alloc | apply pw_below_drewN | apply below_drew1 | refine below_set ?_ GE472.out) | exact HB.out)) hb)
                    clear HO_5
                    clear HO_6
                    clear BK472
                    clear HB
                    have HO_5 := n0_
                    have HO_6 := n1_
                    have HO481 := n2_
                    have BK472 := n3_
                    have HB := n4_
                    clear n0_ n1_ n2_ n3_ n4_
                    clear hb ho14
                    refine hK.out _ _ ⟨(blk_cell BK472.out 0).trans rfl, (blk_cell BK472.out 1).trans rfl, (blk_cell BK472.out 2).trans rfl, (blk_cell BK472.out 3).trans rfl⟩ (fun hHeld => ?_)
                    clear hK K
                    refine norm_ (a' := ?_) ?_ ?_
                    rotate_left
                    · show Act.put _ (some 26) _ = _
                      simp only [Act.put, List.setIfInBounds_toArray, List.set_cons_zero, List.set_cons_succ, i64_w, i32_w]
                      rfl
                    refine one_ (i := 3) (N := some 21) #[true, true, true, true, false, true, true, true, true, false, false, false] rfl rfl (one_of HT_.out (by kernel_rfl)) (by decide) (fun K hK => ?_)
                    refine Kd.R_lit_step (Kd.int .i64) _ 2 ?hg (N := 21) ?hd (xs := ([(rd_T59 l0 x14_1).f1] : List Int)) (inner := [.int .i64 ((rd_T59 l0 x14_1).f1)]) (ok := fun _ => True) (okp := fun _ => True) ?hr ?hp (fun _ hk => hk) trivial (Below.refl _ _) (Nat.le_refl _) (by simp) ?_; (case hd => rfl); (case hg => rfl); (case hr => first | (go_simp; done) | (go_simp; rfl)); (case hp => exact (Reps.one (show Kd.M (Kd.int .i64) _ _ _ ((rd_T59 l0 x14_1).f1) [.int .i64 ((rd_T59 l0 x14_1).f1)] from rfl) (Reps.none _ _)))
                    intro v474 w15 ho16 hb hg_ hnew_
                    clear hg_ hnew_
                    (first | rw [← Ny473.out] at ho16 | (simp only [Int.reduceToNat] at ho16; rw [← Ny473.out] at ho16))
                    have n0_ := Aside0.mk (Kd.R_elder' (by (with_reducible repeat (first | apply Kd.R_alloc | apply Kd.R_drewN | apply Kd.R_drew)); exact HO_5.out) (Kd.R_base ho16) hb)
                    have n1_ := Aside0.mk (Kd.R_elder' (by (with_reducible repeat (first | apply Kd.R_alloc | apply Kd.R_drewN | apply Kd.R_drew)); exact HO_6.out) (Kd.R_base ho16) hb)
                    have n2_ := Aside0.mk (Kd.R_elder' (by (with_reducible repeat (first | apply Kd.R_alloc | apply Kd.R_drewN | apply Kd.R_drew)); exact HO481.out) (Kd.R_base ho16) hb)
                    have n3_ := Aside0.mk (Kd.R_lower (Kd.R_new' (Kd.R_new' (Kd.R_new' ho16 (Kd.R_lt (by (with_reducible repeat (first | apply Kd.R_alloc | apply Kd.R_drewN | apply Kd.R_drew)); exact HO_5.out))) (Kd.R_lt (by (with_reducible repeat (first | apply Kd.R_alloc | apply Kd.R_drewN | apply Kd.R_drew)); exact HO_6.out))) (Kd.R_lt (by (with_reducible repeat (first | apply Kd.R_alloc | apply Kd.R_drewN | apply Kd.R_drew)); exact HO481.out))) (below_size (by repeat (first | (with_reducible first | exact HB.out | apply below_alloc | apply pw_below_drewN | apply below_drew1 | refine below_set ?_ GE472.out) | exact HB.out))))
                    have n4_ := Aside0.mk (blk_below (g := gb472) (o := .cells #[.int .i64 ((rd_T59 l0 x14_1).f0), .int .i64 ((rd_T59 l0 x14_1).f1), .int .i64 ((rd_T59 l0 x14_1).f2), .int .i64 ((rd_T59 l0 x14_1).f3)] 59 (0, 0)) (by (with_reducible repeat (first | refine blk_drewN ?_ _ | refine blk_drew ?_ | refine blk_alloc ?_ _)); exact BK472.out) hb)
                    have n5_ := Aside0.mk (below_step (by repeat (first | (with_reducible first | exact HB.out | apply below_alloc | apply pw_below_drewN | apply below_drew1 | refine below_set ?_ GE472.out) | exact HB.out)) hb)
                    clear HO_5
                    clear HO_6
                    clear HO481
                    clear BK472
                    clear HB
                    have HO_5 := n0_
                    have HO_6 := n1_
                    have HO481 := n2_
                    have HO475 := n3_
                    have BK472 := n4_
                    have HB := n5_
                    clear n0_ n1_ n2_ n3_ n4_ n5_
                    clear hb ho16
                    obtain ⟨Ao18, co18, eo18⟩ := Kd.R_slice HO475.out
                    (first | subst eo18 | (injection eo18 with f1_ f2_ f3_; have f4_ := f1_.symm; have f5_ := f3_.symm; clear f1_ f2_ f3_; subst f4_; subst f5_))
                    refine hK.out _ _ ⟨(blk_cell BK472.out 0).trans rfl, (blk_cell BK472.out 1).trans rfl, (blk_cell BK472.out 2).trans rfl, (blk_cell BK472.out 3).trans rfl⟩ (fun hHeld => ?_)
                    clear hK K
                    refine norm_ (a' := ?_) ?_ ?_
                    rotate_left
                    · show Act.put _ (some 21) _ = _
                      simp only [Act.put, List.setIfInBounds_toArray, List.set_cons_zero, List.set_cons_succ, i64_w, i32_w]
                      rfl
                    refine one_ (i := 4) (N := some 22) #[true, true, true, true, true, true, true, true, true, false, false, false] rfl rfl (one_of HT_.out (by kernel_rfl)) (by decide) (fun K hK => ?_)
                    refine Kd.R_append_rows_step (Kd.int .i64) (w0 := w) w.heap.size (by rfl) (.tmp 18) (.tmp 21) 22 2 (.int .i64 0) 8 rfl Try.underlying22 info2 rfl (by decide) (by omega) (.slice Ao9 x5_1.length co9) x5_1 y473 _ _ _ (fun k_ => some k_ ≠ (.slice Ao10 x6_1.length co10 : Value).ownBlock ∧ some k_ ≠ (v480 : Value).ownBlock ∧ some k_ ≠ (.slice Ao18 y473.length co18 : Value).ownBlock) (fun _ => False) rfl rfl ?aO ?aR (fun _ _ h => h) (fun _ h => h.elim) ?aF ?aB ?aS ?aL ?_
                    (case aR => repeat (first | exact (Kd.R_reads' HO475.out).2.2 | (with_reducible refine Kd.C_alloc ?_ _) | (with_reducible refine Kd.C_drewN ?_ _) | (with_reducible refine Kd.C_drew ?_)))
                    (case aB => exact (by repeat (first | (with_reducible first | exact HB.out | apply below_alloc | apply pw_below_drewN | apply below_drew1 | refine below_set ?_ GE472.out) | exact HB.out)))
                    (case aF => exact (fun k_ hk => ⟨Kd.fresh' (Kd.R_lt (by (with_reducible repeat (first | apply Kd.R_alloc | apply Kd.R_drewN | apply Kd.R_drew)); exact HO_6.out)) k_ hk, Kd.fresh' (Kd.R_lt (by (with_reducible repeat (first | apply Kd.R_alloc | apply Kd.R_drewN | apply Kd.R_drew)); exact HO481.out)) k_ hk, Kd.fresh' (Kd.R_lt (by (with_reducible repeat (first | apply Kd.R_alloc | apply Kd.R_drewN | apply Kd.R_drew)); exact HO475.out)) k_ hk⟩))
                    (case aO => exact (by (with_reducible repeat (first | apply Kd.R_alloc | apply Kd.R_drewN | apply Kd.R_drew)); exact Kd.R_mono HO_5.out (fun _ hk => ⟨hk.1.1, ⟨hk.1.2, hk.2⟩⟩)))
                    (case aS => exact (below_size (by repeat (first | (with_reducible first | exact HB.out | apply below_alloc | apply pw_below_drewN | apply below_drew1 | refine below_set ?_ GE472.out) | exact HB.out))))
                    (case aL => have := LMc5.out; omega)
                    intro v477 w17 ho hb hg hat
                    rw [← Ny476.out] at ho
                    have n0_ := Aside0.mk (Kd.R_after (ok := (fun k_ => some k_ ≠ (v480 : Value).ownBlock ∧ some k_ ≠ (.slice Ao18 y473.length co18 : Value).ownBlock)) (by (with_reducible repeat (first | apply Kd.R_alloc | apply Kd.R_drewN | apply Kd.R_drew)); exact Kd.R_mono HO_6.out (fun _ hk => ⟨⟨hk.1.2, hk.2⟩, hk.1.1⟩)) hg hat)
                    have n1_ := Aside0.mk (blk_grown (g := gb472) (o := .cells #[.int .i64 ((rd_T59 l0 x14_1).f0), .int .i64 ((rd_T59 l0 x14_1).f1), .int .i64 ((rd_T59 l0 x14_1).f2), .int .i64 ((rd_T59 l0 x14_1).f3)] 59 (0, 0)) (by (with_reducible repeat (first | refine blk_drewN ?_ _ | refine blk_drew ?_ | refine blk_alloc ?_ _)); exact BK472.out) hg (Kd.R_ne HO_5.out BK472.out (by decide)))
                    have n2_ := Aside0.mk (Kd.R_after (ok := (fun k_ => some k_ ≠ (.slice Ao10 x6_1.length co10 : Value).ownBlock ∧ some k_ ≠ (.slice Ao18 y473.length co18 : Value).ownBlock)) (by (with_reducible repeat (first | apply Kd.R_alloc | apply Kd.R_drewN | apply Kd.R_drew)); exact Kd.R_mono HO481.out (fun _ hk => ⟨⟨hk.1.2, hk.2⟩, hk.1.1.2⟩)) hg hat)
                    have n3_ := Aside0.mk (Kd.R_after (ok := (fun k_ => some k_ ≠ (.slice Ao10 x6_1.length co10 : Value).ownBlock ∧ some k_ ≠ (v480 : Value).ownBlock)) (by (with_reducible repeat (first | apply Kd.R_alloc | apply Kd.R_drewN | apply Kd.R_drew)); exact Kd.R_mono HO475.out (fun _ hk => ⟨⟨hk.1.2, hk.2⟩, hk.1.1.2⟩)) hg hat)
                    have n4_ := Aside0.mk (hb)
                    have n5_ := Aside0.mk (ho)
                    clear HO_6
                    clear BK472
                    clear HO481
                    clear HO475
                    clear HB
                    clear HO_5
                    have HO_6 := n0_
                    have BK472 := n1_
                    have HO481 := n2_
                    have HO475 := n3_
                    have HB := n4_
                    have HO478 := n5_
                    clear n0_ n1_ n2_ n3_ n4_ n5_
                    clear ho hb hg hat
                    refine hK.out _ _ ⟨(blk_cell BK472.out 0).trans rfl, (blk_cell BK472.out 1).trans rfl, (blk_cell BK472.out 2).trans rfl, (blk_cell BK472.out 3).trans rfl⟩ (fun hHeld => ?_)
                    clear hK K
                    refine norm_ (a' := ?_) ?_ ?_
                    rotate_left
                    · show Act.put _ (some 22) _ = _
                      simp only [Act.put, List.setIfInBounds_toArray, List.set_cons_zero, List.set_cons_succ, i64_w, i32_w]
                      rfl
                    exact norm_ (by simp only [putAll, Act.put, List.setIfInBounds_toArray, List.set_cons_zero, List.set_cons_succ]) (hCont (.slice Ao18 y473.length co18, v477, v480) _ ⟨hHeld, (by (with_reducible repeat (first | apply Kd.R_alloc | apply Kd.R_drewN | apply Kd.R_drew)); exact Kd.R_mono HO475.out (fun _ hk => ⟨hk.2, ⟨hk.1.2, hk.1.1⟩⟩)), (by (with_reducible repeat (first | apply Kd.R_alloc | apply Kd.R_drewN | apply Kd.R_drew)); exact Kd.R_mono HO478.out (fun _ hk => ⟨hk.2.2, ⟨hk.2.1, hk.1⟩⟩)), (by (with_reducible repeat (first | apply Kd.R_alloc | apply Kd.R_drewN | apply Kd.R_drew)); exact Kd.R_mono HO481.out (fun _ hk => ⟨hk.1.2, ⟨hk.2, hk.1.1⟩⟩)), (by (with_reducible repeat (first | apply Kd.R_alloc | apply Kd.R_drewN | apply Kd.R_drew)); exact Kd.R_mono HO_6.out (fun _ hk => ⟨hk.1.2, ⟨hk.2, hk.1.1⟩⟩)), (by (with_reducible repeat (first | refine blk_drewN ?_ _ | refine blk_drew ?_ | refine blk_alloc ?_ _)); exact BK472.out), (by repeat (first | (with_reducible first | exact HB.out | apply below_alloc | apply pw_below_drewN | apply below_drew1 | refine below_set ?_ GE472.out) | exact HB.out))⟩)
                rintro ⟨v474, v477, v480⟩ w19 ⟨hS_, h0_, h1_, h2_, h3_, h4_, h5_⟩
                have n0_ : Aside0 (Kd.R (Kd.int .i64) 2 w19 w.heap.size (fun k_ => some k_ ≠ (v477 : Value).ownBlock ∧ some k_ ≠ (v480 : Value).ownBlock ∧ some k_ ≠ (.slice Ao10 x6_1.length co10 : Value).ownBlock) v474 y473) := ⟨h0_⟩
                have n1_ : Aside0 (Kd.R (Kd.int .i64) 2 w19 w.heap.size (fun k_ => some k_ ≠ (v474 : Value).ownBlock ∧ some k_ ≠ (v480 : Value).ownBlock ∧ some k_ ≠ (.slice Ao10 x6_1.length co10 : Value).ownBlock) v477 y476) := ⟨h1_⟩
                have n2_ : Aside0 (Kd.R (Kd.int .i64) 2 w19 w.heap.size (fun k_ => some k_ ≠ (v474 : Value).ownBlock ∧ some k_ ≠ (v477 : Value).ownBlock ∧ some k_ ≠ (.slice Ao10 x6_1.length co10 : Value).ownBlock) v480 y479) := ⟨h2_⟩
                have n3_ : Aside0 (Kd.R (Kd.int .i64) 2 w19 w.heap.size (fun k_ => some k_ ≠ (v474 : Value).ownBlock ∧ some k_ ≠ (v477 : Value).ownBlock ∧ some k_ ≠ (v480 : Value).ownBlock) (.slice Ao10 x6_1.length co10) x6_1) := ⟨h3_⟩
                have n4_ : Aside0 (w19.heap[gb472]? = some (.cells #[.int .i64 ((rd_T59 l0 x14_1).f0), .int .i64 ((rd_T59 l0 x14_1).f1), .int .i64 ((rd_T59 l0 x14_1).f2), .int .i64 ((rd_T59 l0 x14_1).f3)] 59 (0, 0))) := ⟨h4_⟩
                have n5_ : Aside0 (Below w.heap.size w w19) := ⟨h5_⟩
                clear HO_5
                clear HO_6
                clear BK472
                clear HB
                clear h0_ h1_ h2_ h3_ h4_ h5_
                have HO475 := n0_
                have HO478 := n1_
                have HO481 := n2_
                have HO_6 := n3_
                have BK472 := n4_
                have HB := n5_
                clear n0_ n1_ n2_ n3_ n4_ n5_
                have hHeld : w19.cell? ⟨gb472, 0, none⟩ = some (.int .i64 ((rd_T59 l0 x14_1).f0)) ∧ w19.cell? ⟨gb472, 1, none⟩ = some (.int .i64 ((rd_T59 l0 x14_1).f1)) ∧ w19.cell? ⟨gb472, 2, none⟩ = some (.int .i64 ((rd_T59 l0 x14_1).f2)) ∧ w19.cell? ⟨gb472, 3, none⟩ = some (.int .i64 ((rd_T59 l0 x14_1).f3)) := hS_
                obtain ⟨Ao21, co21, eo21⟩ := Kd.R_slice HO481.out
                (first | subst eo21 | (injection eo21 with f1_ f2_ f3_; have f4_ := f1_.symm; have f5_ := f3_.symm; clear f1_ f2_ f3_; subst f4_; subst f5_))
                refine norm_ (a' := ?_) ?_ ?_
                rotate_left
                · simp only [putAll, Act.put, List.setIfInBounds_toArray, List.set_cons_zero, List.set_cons_succ]
                  rfl
                refine one_ (i := 9) (N := some 27) #[true, true, true, true, true, true, true, true, true, true, false, false] rfl rfl (one_of HT_.out (by kernel_rfl)) (by decide) (fun K hK => ?_)
                refine Kd.R_append_rows_step (Kd.int .i64) (w0 := w) w.heap.size (by rfl) (.tmp 23) (.tmp 26) 22 2 (.int .i64 0) 8 rfl Try.underlying22 info2 rfl (by decide) (by omega) (.slice Ao10 x6_1.length co10) x6_1 y479 _ _ _ (fun k_ => some k_ ≠ (v474 : Value).ownBlock ∧ some k_ ≠ (v477 : Value).ownBlock ∧ some k_ ≠ (.slice Ao21 y479.length co21 : Value).ownBlock) (fun _ => False) rfl rfl ?aO ?aR (fun _ _ h => h) (fun _ h => h.elim) ?aF ?aB ?aS ?aL ?_
                (case aR => repeat (first | exact (Kd.R_reads' HO481.out).2.2 | (with_reducible refine Kd.C_alloc ?_ _) | (with_reducible refine Kd.C_drewN ?_ _) | (with_reducible refine Kd.C_drew ?_)))
                (case aB => exact (by repeat (first | (with_reducible first | exact HB.out | apply below_alloc | apply pw_below_drewN | apply below_drew1 | refine below_set ?_ GE472.out) | exact HB.out)))
                (case aF => exact (fun k_ hk => ⟨Kd.fresh' (Kd.R_lt (by (with_reducible repeat (first | apply Kd.R_alloc | apply Kd.R_drewN | apply Kd.R_drew)); exact HO475.out)) k_ hk, Kd.fresh' (Kd.R_lt (by (with_reducible repeat (first | apply Kd.R_alloc | apply Kd.R_drewN | apply Kd.R_drew)); exact HO478.out)) k_ hk, Kd.fresh' (Kd.R_lt (by (with_reducible repeat (first | apply Kd.R_alloc | apply Kd.R_drewN | apply Kd.R_drew)); exact HO481.out)) k_ hk⟩))
                (case aO => exact (by (with_reducible repeat (first | apply Kd.R_alloc | apply Kd.R_drewN | apply Kd.R_drew)); exact HO_6.out))
                (case aS => exact (below_size (by repeat (first | (with_reducible first | exact HB.out | apply below_alloc | apply pw_below_drewN | apply below_drew1 | refine below_set ?_ GE472.out) | exact HB.out))))
                (case aL => have := LMc6.out; omega)
                intro v483 w20 ho hb hg hat
                rw [← Ny482.out] at ho
                have n0_ := Aside0.mk (blk_grown (g := gb472) (o := .cells #[.int .i64 ((rd_T59 l0 x14_1).f0), .int .i64 ((rd_T59 l0 x14_1).f1), .int .i64 ((rd_T59 l0 x14_1).f2), .int .i64 ((rd_T59 l0 x14_1).f3)] 59 (0, 0)) (by (with_reducible repeat (first | refine blk_drewN ?_ _ | refine blk_drew ?_ | refine blk_alloc ?_ _)); exact BK472.out) hg (Kd.R_ne HO_6.out BK472.out (by decide)))
                have n1_ := Aside0.mk (Kd.R_after (ok := (fun k_ => some k_ ≠ (v477 : Value).ownBlock ∧ some k_ ≠ (.slice Ao21 y479.length co21 : Value).ownBlock)) (by (with_reducible repeat (first | apply Kd.R_alloc | apply Kd.R_drewN | apply Kd.R_drew)); exact Kd.R_mono HO475.out (fun _ hk => ⟨⟨hk.1, hk.2.1⟩, hk.2.2⟩)) hg hat)
                have n2_ := Aside0.mk (Kd.R_after (ok := (fun k_ => some k_ ≠ (v474 : Value).ownBlock ∧ some k_ ≠ (.slice Ao21 y479.length co21 : Value).ownBlock)) (by (with_reducible repeat (first | apply Kd.R_alloc | apply Kd.R_drewN | apply Kd.R_drew)); exact Kd.R_mono HO478.out (fun _ hk => ⟨⟨hk.1, hk.2.1⟩, hk.2.2⟩)) hg hat)
                have n3_ := Aside0.mk (Kd.R_after (ok := (fun k_ => some k_ ≠ (v474 : Value).ownBlock ∧ some k_ ≠ (v477 : Value).ownBlock)) (by (with_reducible repeat (first | apply Kd.R_alloc | apply Kd.R_drewN | apply Kd.R_drew)); exact Kd.R_mono HO481.out (fun _ hk => ⟨⟨hk.1, hk.2.1⟩, hk.2.2⟩)) hg hat)
                have n4_ := Aside0.mk (hb)
                have n5_ := Aside0.mk (ho)
                clear BK472
                clear HO475
                clear HO478
                clear HO481
                clear HB
                clear HO_6
                have BK472 := n0_
                have HO475 := n1_
                have HO478 := n2_
                have HO481 := n3_
                have HB := n4_
                have HO484 := n5_
                clear n0_ n1_ n2_ n3_ n4_ n5_
                clear ho hb hg hat
                refine hK.out _ _ ⟨(blk_cell BK472.out 0).trans rfl, (blk_cell BK472.out 1).trans rfl, (blk_cell BK472.out 2).trans rfl, (blk_cell BK472.out 3).trans rfl⟩ (fun hHeld => ?_)
                clear hK K
                refine norm_ (a' := ?_) ?_ ?_
                rotate_left
                · show Act.put _ (some 27) _ = _
                  simp only [Act.put, List.setIfInBounds_toArray, List.set_cons_zero, List.set_cons_succ, i64_w, i32_w]
                  rfl
                refine pure_ (i := 10) (N := some 5) (v := ?_) (a' := ?_) #[true, true, true, true, true, true, true, true, true, true, true, false] rfl rfl (any_of HT_.out (by kernel_rfl)) (fun _ _ _ h => h) (Or.inl ⟨by rfl, ?_⟩) ?_ ?_
                rotate_left
                · intro w'
                  go_simp
                  with_reducible rfl
                rotate_left
                · simp only [Act.put, List.setIfInBounds_toArray, List.set_cons_zero, List.set_cons_succ, i64_w, i32_w]
                  rfl
                refine pure_ (i := 11) (N := some 6) (v := ?_) (a' := ?_) #[true, true, true, true, true, true, true, true, true, true, true, true] rfl rfl (any_of HT_.out (by kernel_rfl)) (fun _ _ _ h => h) (Or.inl ⟨by rfl, ?_⟩) ?_ ?_
                rotate_left
                · intro w'
                  go_simp
                  with_reducible rfl
                rotate_left
                · simp only [Act.put, List.setIfInBounds_toArray, List.set_cons_zero, List.set_cons_succ, i64_w, i32_w]
                  rfl
                refine done_ (done_of HT_.out (by kernel_rfl)) ?_
                try go_wp2
                go_roundg k1
                case measure => have := HK1.out; omega
                case rel => exact ⟨(y476), (y482), (wrap64 (x14_1 + 1)), (by first | rfl | (simp; done) | (simp [*]; done)), H', ⟨by have := HK1.out; omega⟩, ⟨by (with_reducible repeat (first | apply Kd.R_alloc | apply Kd.R_drewN | apply Kd.R_drew)); exact Kd.R_mono HO478.out (fun _ hk => hk.2)⟩, ⟨by (with_reducible repeat (first | apply Kd.R_alloc | apply Kd.R_drewN | apply Kd.R_drew)); exact Kd.R_mono HO484.out (fun _ hk => hk.2.1)⟩, ⟨by repeat (first | (with_reducible first | exact HB.out | apply below_alloc | apply pw_below_drewN | apply below_drew1 | refine below_set ?_ GE472.out) | exact HB.out)⟩⟩
              · rw [if_neg c6] at H
                exact absurd H (by simp)
            · rw [if_neg c5] at H
              exact absurd H (by simp)
          · rw [if_neg c4] at H
            exact absurd H (by simp)
        · rw [if_neg c3] at H
          exact absurd H (by simp)
      · rw [if_neg c2] at H
        have c2b0 : decide (x14_1 < (l0.length : Int)) = false := decide_eq_false c2
        clear c2
        replace H := Option.bind_eq_some_iff.mp H
        obtain ⟨⟨t485, t486⟩, A220, H⟩ := H
        replace H : (if t486 = 0 then ((lombardref01_Sum.f k1 x6_1).bind fun bt487 => (if bt487.2 = 0 then (some (t485, bt487.1, 0)) else (some (0, 0, bt487.2)))) else (some (0, 0, t486))) = some (r1, r2, r3) := H
        have A22 := Aside0.mk A220
        clear A220
        by_cases c23 : t486 = 0
        · rw [if_pos c23] at H
          have c23b0 : (t486 == 0) = true := beq_iff_eq.mpr c23
          have c23b1 : (t486 != 0) = false := bne_eq_false_iff_eq.mpr c23
          clear c23
          replace H := Option.bind_eq_some_iff.mp H
          obtain ⟨⟨t487, t488⟩, A240, H⟩ := H
          replace H : (if t488 = 0 then (some (t485, t487, 0)) else (some (0, 0, t488))) = some (r1, r2, r3) := H
          have A24 := Aside0.mk A240
          clear A240
          by_cases c25 : t488 = 0
          · rw [if_pos c25] at H
            have c25b0 : (t488 == 0) = true := beq_iff_eq.mpr c25
            have c25b1 : (t488 != 0) = false := bne_eq_false_iff_eq.mpr c25
            clear c25
            simp only [Option.some.injEq, Prod.mk.injEq] at H
            obtain ⟨rfl, rfl, rfl⟩ := H
            obtain ⟨Ao26, co26, eo26⟩ := Kd.R_slice HO_5.out
            subst eo26
            go_wp2_with (first | ((with_reducible refine gate_callee (f := 47) rfl ?_); refine goesL_ (some 31) rfl rfl Try.func47 (by kernel_rfl) rfl #[.slice Ao26 x5_1.length co26] rfl (by (try simp only [List.map_toArray, List.map_cons, List.map_nil]); first | done | rfl | (simp only [List.length_drop, List.length_take]; rfl)) ?_; (with_reducible refine (lombardref01_Sum.calls k1 _ _ x5_1 t485 t486 _ ?side1 ?side2 A22.out).mono ?_); (case side1 => repeat (first | exact (Kd.R_reads' HO_5.out).2.2 | (with_reducible refine Kd.C_alloc ?_ _) | (with_reducible refine Kd.C_drewN ?_ _) | (with_reducible refine Kd.C_drew ?_))); (case side2 => exact (Kd.R_reads' HO_5.out).2.1); rintro e w27 ⟨rfl, hb⟩; refine ⟨_, rfl, ?_⟩; have n0_ := Aside0.mk (Kd.R_below (by (with_reducible repeat (first | apply Kd.R_alloc | apply Kd.R_drewN | apply Kd.R_drew)); exact HO_5.out) hb); have n1_ := Aside0.mk (Kd.R_below (by (with_reducible repeat (first | apply Kd.R_alloc | apply Kd.R_drewN | apply Kd.R_drew)); exact HO_6.out) hb); have n2_ := Aside0.mk (below_step (by repeat (first | (with_reducible first | exact HB.out | apply below_alloc | apply pw_below_drewN | apply below_drew1) | exact HB.out)) hb); clear HO_5; clear HO_6; clear HB; have HO_5 := n0_; have HO_6 := n1_; have HB := n2_; clear n0_ n1_ n2_; (try clear hb); (try clear hb2); (try clear hk); (try clear hi); obtain ⟨Ao28, co28, eo28⟩ := Kd.R_slice HO_6.out; subst eo28) | ((with_reducible refine gate_callee (f := 47) rfl ?_); refine goesL_ (some 39) rfl rfl Try.func47 (by kernel_rfl) rfl #[.slice Ao28 x6_1.length co28] rfl (by (try simp only [List.map_toArray, List.map_cons, List.map_nil]); first | done | rfl | (simp only [List.length_drop, List.length_take]; rfl)) ?_; (with_reducible refine (lombardref01_Sum.calls k1 _ _ x6_1 t487 t488 _ ?side1 ?side2 A24.out).mono ?_); (case side1 => repeat (first | exact (Kd.R_reads' HO_6.out).2.2 | (with_reducible refine Kd.C_alloc ?_ _) | (with_reducible refine Kd.C_drewN ?_ _) | (with_reducible refine Kd.C_drew ?_))); (case side2 => exact (Kd.R_reads' HO_6.out).2.1); rintro e w29 ⟨rfl, hb⟩; refine ⟨_, rfl, ?_⟩; have n0_ := Aside0.mk (Kd.R_below (by (with_reducible repeat (first | apply Kd.R_alloc | apply Kd.R_drewN | apply Kd.R_drew)); exact HO_5.out) hb); have n1_ := Aside0.mk (Kd.R_below (by (with_reducible repeat (first | apply Kd.R_alloc | apply Kd.R_drewN | apply Kd.R_drew)); exact HO_6.out) hb); have n2_ := Aside0.mk (below_step (by repeat (first | (with_reducible first | exact HB.out | apply below_alloc | apply pw_below_drewN | apply below_drew1) | exact HB.out)) hb); clear HO_5; clear HO_6; clear HB; have HO_5 := n0_; have HO_6 := n1_; have HB := n2_; clear n0_ n1_ n2_; (try clear hb); (try clear hb2); (try clear hk); (try clear hi)))
            go_ret3
            exact ⟨by first | rfl | (simp [errW_none, errW_some] <;> rfl) | (simp [*, errW_none, errW_some] <;> rfl), by repeat (first | (with_reducible first | exact HB.out | apply below_alloc | apply pw_below_drewN | apply below_drew1) | exact HB.out)⟩
          · rw [if_neg c25] at H
            have c25b0 : (t488 == 0) = false := beq_eq_false_iff_ne.mpr c25
            have c25b1 : (t488 != 0) = true := bne_iff_ne.mpr c25
            simp only [Option.some.injEq, Prod.mk.injEq] at H
            obtain ⟨rfl, rfl, rfl⟩ := H
            obtain ⟨Ao30, co30, eo30⟩ := Kd.R_slice HO_5.out
            subst eo30
            go_wp2_with (first | ((with_reducible refine gate_callee (f := 47) rfl ?_); refine goesL_ (some 31) rfl rfl Try.func47 (by kernel_rfl) rfl #[.slice Ao30 x5_1.length co30] rfl (by (try simp only [List.map_toArray, List.map_cons, List.map_nil]); first | done | rfl | (simp only [List.length_drop, List.length_take]; rfl)) ?_; (with_reducible refine (lombardref01_Sum.calls k1 _ _ x5_1 t485 t486 _ ?side1 ?side2 A22.out).mono ?_); (case side1 => repeat (first | exact (Kd.R_reads' HO_5.out).2.2 | (with_reducible refine Kd.C_alloc ?_ _) | (with_reducible refine Kd.C_drewN ?_ _) | (with_reducible refine Kd.C_drew ?_))); (case side2 => exact (Kd.R_reads' HO_5.out).2.1); rintro e w31 ⟨rfl, hb⟩; refine ⟨_, rfl, ?_⟩; have n0_ := Aside0.mk (Kd.R_below (by (with_reducible repeat (first | apply Kd.R_alloc | apply Kd.R_drewN | apply Kd.R_drew)); exact HO_5.out) hb); have n1_ := Aside0.mk (Kd.R_below (by (with_reducible repeat (first | apply Kd.R_alloc | apply Kd.R_drewN | apply Kd.R_drew)); exact HO_6.out) hb); have n2_ := Aside0.mk (below_step (by repeat (first | (with_reducible first | exact HB.out | apply below_alloc | apply pw_below_drewN | apply below_drew1) | exact HB.out)) hb); clear HO_5; clear HO_6; clear HB; have HO_5 := n0_; have HO_6 := n1_; have HB := n2_; clear n0_ n1_ n2_; (try clear hb); (try clear hb2); (try clear hk); (try clear hi); obtain ⟨Ao32, co32, eo32⟩ := Kd.R_slice HO_6.out; subst eo32) | ((with_reducible refine gate_callee (f := 47) rfl ?_); refine goesL_ (some 39) rfl rfl Try.func47 (by kernel_rfl) rfl #[.slice Ao32 x6_1.length co32] rfl (by (try simp only [List.map_toArray, List.map_cons, List.map_nil]); first | done | rfl | (simp only [List.length_drop, List.length_take]; rfl)) ?_; (with_reducible refine (lombardref01_Sum.calls k1 _ _ x6_1 t487 t488 _ ?side1 ?side2 A24.out).mono ?_); (case side1 => repeat (first | exact (Kd.R_reads' HO_6.out).2.2 | (with_reducible refine Kd.C_alloc ?_ _) | (with_reducible refine Kd.C_drewN ?_ _) | (with_reducible refine Kd.C_drew ?_))); (case side2 => exact (Kd.R_reads' HO_6.out).2.1); rintro e w33 ⟨rfl, hb⟩; refine ⟨_, rfl, ?_⟩; have n0_ := Aside0.mk (Kd.R_below (by (with_reducible repeat (first | apply Kd.R_alloc | apply Kd.R_drewN | apply Kd.R_drew)); exact HO_5.out) hb); have n1_ := Aside0.mk (Kd.R_below (by (with_reducible repeat (first | apply Kd.R_alloc | apply Kd.R_drewN | apply Kd.R_drew)); exact HO_6.out) hb); have n2_ := Aside0.mk (below_step (by repeat (first | (with_reducible first | exact HB.out | apply below_alloc | apply pw_below_drewN | apply below_drew1) | exact HB.out)) hb); clear HO_5; clear HO_6; clear HB; have HO_5 := n0_; have HO_6 := n1_; have HB := n2_; clear n0_ n1_ n2_; (try clear hb); (try clear hb2); (try clear hk); (try clear hi)))
            go_ret3
            exact ⟨by first | rfl | (simp [errW_none, errW_some] <;> rfl) | (simp [*, errW_none, errW_some] <;> rfl), by repeat (first | (with_reducible first | exact HB.out | apply below_alloc | apply pw_below_drewN | apply below_drew1) | exact HB.out)⟩
        · rw [if_neg c23] at H
          have c23b0 : (t486 == 0) = false := beq_eq_false_iff_ne.mpr c23
          have c23b1 : (t486 != 0) = true := bne_iff_ne.mpr c23
          simp only [Option.some.injEq, Prod.mk.injEq] at H
          obtain ⟨rfl, rfl, rfl⟩ := H
          obtain ⟨Ao34, co34, eo34⟩ := Kd.R_slice HO_5.out
          subst eo34
          go_wp2_with (first | ((with_reducible refine gate_callee (f := 47) rfl ?_); refine goesL_ (some 31) rfl rfl Try.func47 (by kernel_rfl) rfl #[.slice Ao34 x5_1.length co34] rfl (by (try simp only [List.map_toArray, List.map_cons, List.map_nil]); first | done | rfl | (simp only [List.length_drop, List.length_take]; rfl)) ?_; (with_reducible refine (lombardref01_Sum.calls k1 _ _ x5_1 t485 t486 _ ?side1 ?side2 A22.out).mono ?_); (case side1 => repeat (first | exact (Kd.R_reads' HO_5.out).2.2 | (with_reducible refine Kd.C_alloc ?_ _) | (with_reducible refine Kd.C_drewN ?_ _) | (with_reducible refine Kd.C_drew ?_))); (case side2 => exact (Kd.R_reads' HO_5.out).2.1); rintro e w35 ⟨rfl, hb⟩; refine ⟨_, rfl, ?_⟩; have n0_ := Aside0.mk (Kd.R_below (by (with_reducible repeat (first | apply Kd.R_alloc | apply Kd.R_drewN | apply Kd.R_drew)); exact HO_5.out) hb); have n1_ := Aside0.mk (Kd.R_below (by (with_reducible repeat (first | apply Kd.R_alloc | apply Kd.R_drewN | apply Kd.R_drew)); exact HO_6.out) hb); have n2_ := Aside0.mk (below_step (by repeat (first | (with_reducible first | exact HB.out | apply below_alloc | apply pw_below_drewN | apply below_drew1) | exact HB.out)) hb); clear HO_5; clear HO_6; clear HB; have HO_5 := n0_; have HO_6 := n1_; have HB := n2_; clear n0_ n1_ n2_; (try clear hb); (try clear hb2); (try clear hk); (try clear hi)))
          go_ret3
          exact ⟨by first | rfl | (simp [errW_none, errW_some] <;> rfl) | (simp [*, errW_none, errW_some] <;> rfl), by repeat (first | (with_reducible first | exact HB.out | apply below_alloc | apply pw_below_drewN | apply below_drew1) | exact HB.out)⟩

end Go.Proofs.Ytalnlphinlfenaa.S
end

section
namespace Go.Proofs.Ytalnlphinlfenaa.Knuth
set_option linter.unusedVariables false
set_option linter.unusedSimpArgs false

theorem ltge (a b : Int) : a < b ∨ b ≤ a := by omega
/-- A quotient by its rest. -/
theorem quot_uniq {A b q r : Int} (hb : 0 < b) (h : A = b * q + r) (h0 : 0 ≤ r) (h1 : r < b) : A / b = q ∧ A % b = r := by
  have := Int.mul_ediv_add_emod A b
  have p0 := Int.emod_nonneg A (show b ≠ 0 by omega)
  have p1 := Int.emod_lt_of_pos A hb
  generalize A / b = q' at *
  generalize A % b = r' at *
  have e : b * (q' - q) = r - r' := by rw [Int.mul_sub]; omega
  have k : q' - q = 0 := by
    rcases Int.lt_trichotomy (q' - q) 0 with c | c | c
    · have : b * (q' - q) ≤ b * (-1) := Int.mul_le_mul_of_nonneg_left (by omega) (by omega)
      omega
    · exact c
    · have : b * 1 ≤ b * (q' - q) := Int.mul_le_mul_of_nonneg_left (by omega) (by omega)
      omega
  rw [k, Int.mul_zero] at e
  omega

/-- the first guess: no less than the quotient, and at most one beyond a digit -/
theorem guess {Y y1 y0 U u : Int} (hY : Y = y1 * 4294967296 + y0) (h1 : 2147483648 ≤ y1) (h00 : 0 ≤ y0) (h01 : y0 < 4294967296)
    (hU0 : 0 ≤ U) (hU : U < Y) (hu0 : 0 ≤ u) (hu : u < 4294967296) :
    (U * 4294967296 + u) / Y ≤ U / y1 ∧ U / y1 ≤ 4294967297 ∧ 0 ≤ (U * 4294967296 + u) / Y ∧ (U * 4294967296 + u) / Y ≤ 4294967295 := by
  have hy : 0 < Y := by omega
  have a := Int.mul_ediv_add_emod U y1
  have a0 := Int.emod_nonneg U (show y1 ≠ 0 by omega)
  have a1 := Int.emod_lt_of_pos U (show 0 < y1 by omega)
  have b := Int.mul_ediv_add_emod (U * 4294967296 + u) Y
  have b0 := Int.emod_nonneg (U * 4294967296 + u) (show Y ≠ 0 by omega)
  have b1 := Int.emod_lt_of_pos (U * 4294967296 + u) hy
  generalize U / y1 = g at *
  generalize U % y1 = r at *
  generalize (U * 4294967296 + u) / Y = q at *
  generalize (U * 4294967296 + u) % Y = t at *
  have q0 : 0 ≤ q := by
    rcases ltge q 0 with c | c
    · have : Y * q ≤ Y * (-1) := Int.mul_le_mul_of_nonneg_left (by omega) (by omega)
      omega
    · exact c
  have q1 : q ≤ 4294967295 := by
    rcases ltge 4294967295 q with c | c
    · have : Y * 4294967296 ≤ Y * q := Int.mul_le_mul_of_nonneg_left (by omega) (by omega)
      omega
    · exact c
  refine ⟨?_, ?_, q0, q1⟩
  · rcases ltge g q with c | c
    · have e1 : y1 * (g + 1) ≤ y1 * q := Int.mul_le_mul_of_nonneg_left (by omega) (by omega)
      have e2 : 0 ≤ y0 * q := Int.mul_nonneg h00 q0
      have e3 : Y * q = 4294967296 * (y1 * q) + y0 * q := by rw [hY]; grind
      rw [Int.mul_add, Int.mul_one] at e1
      omega
    · exact c
  · rcases ltge 4294967297 g with c | c
    · have e1 : y1 * 4294967298 ≤ y1 * g := Int.mul_le_mul_of_nonneg_left (by omega) (by omega)
      omega
    · exact c

/-- the guess is right if it asks for no more than there is -/
theorem right {Y N q g : Int} (hy : 0 < Y) (hq : q = N / Y) (h : q ≤ g) (h1 : g * Y ≤ N) : g = q := by
  have b := Int.mul_ediv_add_emod N Y
  have b1 := Int.emod_lt_of_pos N hy
  rw [← hq] at b
  rcases ltge q g with c | c
  · have e1 : Y * (q + 1) ≤ Y * g := Int.mul_le_mul_of_nonneg_left (by omega) (by omega)
    rw [Int.mul_add, Int.mul_one] at e1
    rw [Int.mul_comm] at h1
    omega
  · omega

theorem wrong {Y N q g : Int} (hy : 0 < Y) (hq : q = N / Y) (h1 : N < g * Y) : q < g := by
  have b := Int.mul_ediv_add_emod N Y
  have b0 := Int.emod_nonneg N (show Y ≠ 0 by omega)
  rw [← hq] at b
  rcases ltge q g with c | c
  · exact c
  · have e1 : Y * g ≤ Y * q := Int.mul_le_mul_of_nonneg_left (by omega) (by omega)
    rw [Int.mul_comm] at h1
    omega

/-- what is asked of a guess, by its parts -/
theorem parts {Y y1 y0 U u g r : Int} (hY : Y = y1 * 4294967296 + y0) (hr : g * y1 + r = U) : (g * Y ≤ U * 4294967296 + u ↔ g * y0 ≤ 4294967296 * r + u) := by
  have : g * Y = 4294967296 * (g * y1) + g * y0 := by rw [hY]; grind
  omega

/-- two digits, and the rest moved back -/
theorem whole {X y S Q R : Int} (hy : 0 < y) (hS : 0 < S) (h : X * S = (y * S) * Q + R) (h0 : 0 ≤ R) (h1 : R < y * S) : X / y = Q ∧ X % y = R / S := by
  have e : R = S * (X - y * Q) := by grind
  have f : R / S = X - y * Q := by rw [e]; exact Int.mul_ediv_cancel_left _ (by omega)
  have g0 : 0 ≤ X - y * Q := by
    rcases ltge (X - y * Q) 0 with c | c
    · have : S * (X - y * Q) ≤ S * (-1) := Int.mul_le_mul_of_nonneg_left (by omega) (by omega)
      omega
    · exact c
  have g1 : X - y * Q < y := by
    rcases ltge (X - y * Q) y with c | c
    · exact c
    · have : S * y ≤ S * (X - y * Q) := Int.mul_le_mul_of_nonneg_left (by omega) (by omega)
      rw [Int.mul_comm S y] at this
      omega
  have := quot_uniq hy (show X = y * Q + (X - y * Q) by omega) g0 g1
  exact ⟨this.1, this.2.trans f.symm⟩
end Go.Proofs.Ytalnlphinlfenaa.Knuth
end

section
namespace Go.Proofs.Ytalnlphinlfenaa.XNum
set_option linter.unusedVariables false
set_option linter.unusedSimpArgs false
open Go.RowKit Go.Proofs.YtalnlphinlfenaaW.PrintWords

theorem w64 {n : Int} (h0 : -9223372036854775808 ≤ n) (h1 : n ≤ 9223372036854775807) : wrap64 n = n := by
  unfold wrap64
  omega
theorem wf64 {a : Int} : (Lit.int .i64 a).wf = true ↔ -9223372036854775808 ≤ a ∧ a ≤ 9223372036854775807 := by
  simp only [Lit.wf, IntKind.min, IntKind.max, IntKind.signed, IntKind.bits, Bool.and_eq_true, decide_eq_true_eq, if_true]
  omega
theorem tm_nn {a k : Int} (h : 0 ≤ a) : Int.tmod a k = a % k := Int.tmod_eq_emod_of_nonneg h
theorem td_nn {a k : Int} (h : 0 ≤ a) : Int.tdiv a k = a / k := Int.tdiv_eq_ediv_of_nonneg h
end Go.Proofs.Ytalnlphinlfenaa.XNum
end

section
namespace Go.Proofs.Ytalnlphinlfenaa.XBits
set_option linter.unusedVariables false
set_option linter.unusedSimpArgs false
open Go.RowKit Go.Proofs.Ytalnlphinlfenaa.S Go.Proofs.Ytalnlphinlfenaa.XNum Go.Proofs.Ytalnlphinlfenaa.Knuth Go.Proofs.YtalnlphinlfenaaW.PrintWords

theorem wu (n : Int) : IntKind.u64.wrap n = n % 18446744073709551616 := IntKind.wrap_u64 n
theorem wu_id {n : Int} (h0 : 0 ≤ n) (h1 : n < 18446744073709551616) : IntKind.u64.wrap n = n := by rw [wu]; omega
theorem and32 {x : Int} (h0 : 0 ≤ x) (h1 : x < 18446744073709551616) : Go.bits .and .u64 x 4294967295 = x % 4294967296 := bits_mask .u64 64 (by decide) wraps_u64 32 (by decide) x h0 h1

theorem mul64 {x y : Int} (hx : 0 ≤ x) (hx1 : x < 18446744073709551616) (hy : 0 ≤ y) (hy1 : y < 18446744073709551616) :
    math_bits_Mul64.f x y = some (x * y / 18446744073709551616, x * y % 18446744073709551616) := by
  unfold math_bits_Mul64.f
  rw [and32 hx hx1, and32 hy hy1]
  simp only [wu]
  rw [and32 (by omega) (by omega)]
  obtain ⟨x, rfl⟩ := Int.eq_ofNat_of_zero_le hx
  obtain ⟨y, rfl⟩ := Int.eq_ofNat_of_zero_le hy
  obtain ⟨a, b, c, d⟩ := Go.Lib.mul64_hi x y (by omega) (by omega)
  have d' : ((x * y / 18446744073709551616 : Nat) : Int) = (x : Int) * y / 18446744073709551616 := by rw [Int.natCast_ediv, Int.natCast_mul]; rfl
  rw [← d', ← d]
  have e1 : ((x : Int) / 4294967296) * ((y : Int) / 4294967296) = ((x / 4294967296 * (y / 4294967296) : Nat) : Int) := by rw [Int.natCast_mul, Int.natCast_ediv, Int.natCast_ediv]; rfl
  have e2 : ((x : Int) / 4294967296) * ((y : Int) % 4294967296) = ((x / 4294967296 * (y % 4294967296) : Nat) : Int) := by rw [Int.natCast_mul, Int.natCast_ediv, Int.natCast_emod]; rfl
  have e3 : ((x : Int) % 4294967296) * ((y : Int) / 4294967296) = ((x % 4294967296 * (y / 4294967296) : Nat) : Int) := by rw [Int.natCast_mul, Int.natCast_emod, Int.natCast_ediv]; rfl
  have e4 : ((x : Int) % 4294967296) * ((y : Int) % 4294967296) = ((x % 4294967296 * (y % 4294967296) : Nat) : Int) := by rw [Int.natCast_mul, Int.natCast_emod, Int.natCast_emod]; rfl
  rw [e1, e2, e3, e4]
  have l1 := Go.Lib.half_mul_le (a := x / 4294967296) (b := y / 4294967296) (by omega) (by omega)
  have l2 := Go.Lib.half_mul_le (a := x / 4294967296) (b := y % 4294967296) (by omega) (by omega)
  have l3 := Go.Lib.half_mul_le (a := x % 4294967296) (b := y / 4294967296) (by omega) (by omega)
  have l4 := Go.Lib.half_mul_le (a := x % 4294967296) (b := y % 4294967296) (by omega) (by omega)
  have l5 : x * y / 18446744073709551616 < 18446744073709551616 := by
    have : x * y < 18446744073709551616 * 18446744073709551616 := Nat.mul_lt_mul_of_lt_of_lt (by omega) (by omega)
    omega
  generalize x / 4294967296 * (y / 4294967296) = p1 at *
  generalize x / 4294967296 * (y % 4294967296) = p2 at *
  generalize x % 4294967296 * (y / 4294967296) = p3 at *
  generalize x % 4294967296 * (y % 4294967296) = p4 at *
  generalize x * y / 18446744073709551616 = p5 at *
  congr 2
  omega

/-- How many bits a byte has. -/
def len8 (i : Int) : Int := if i < 1 then 0 else if i < 2 then 1 else if i < 4 then 2 else if i < 8 then 3 else if i < 16 then 4 else if i < 32 then 5 else if i < 64 then 6 else if i < 128 then 7 else 8
theorem tab_fin : ∀ i : Fin 256, bt (⟨#[0, 1, 2, 2, 3, 3, 3, 3, 4, 4, 4, 4, 4, 4, 4, 4, 5, 5, 5, 5, 5, 5, 5, 5, 5, 5, 5, 5, 5, 5, 5, 5, 6, 6, 6, 6, 6, 6, 6, 6, 6, 6, 6, 6, 6, 6, 6, 6, 6, 6, 6, 6, 6, 6, 6, 6, 6, 6, 6, 6, 6, 6, 6, 6, 7, 7, 7, 7, 7, 7, 7, 7, 7, 7, 7, 7, 7, 7, 7, 7, 7, 7, 7, 7, 7, 7, 7, 7, 7, 7, 7, 7, 7, 7, 7, 7, 7, 7, 7, 7, 7, 7, 7, 7, 7, 7, 7, 7, 7, 7, 7, 7, 7, 7, 7, 7, 7, 7, 7, 7, 7, 7, 7, 7, 7, 7, 7, 7, 8, 8, 8, 8, 8, 8, 8, 8, 8, 8, 8, 8, 8, 8, 8, 8, 8, 8, 8, 8, 8, 8, 8, 8, 8, 8, 8, 8, 8, 8, 8, 8, 8, 8, 8, 8, 8, 8, 8, 8, 8, 8, 8, 8, 8, 8, 8, 8, 8, 8, 8, 8, 8, 8, 8, 8, 8, 8, 8, 8, 8, 8, 8, 8, 8, 8, 8, 8, 8, 8, 8, 8, 8, 8, 8, 8, 8, 8, 8, 8, 8, 8, 8, 8, 8, 8, 8, 8, 8, 8, 8, 8, 8, 8, 8, 8, 8, 8, 8, 8, 8, 8, 8, 8, 8, 8, 8, 8, 8, 8, 8, 8, 8, 8, 8, 8, 8, 8, 8, 8, 8, 8, 8, 8, 8, 8, 8, 8]⟩ : ByteArray) (i.val : Int) = len8 (i.val : Int) := by decide +kernel
theorem tab {i : Int} (h0 : 0 ≤ i) (h1 : i < 256) : bt (⟨#[0, 1, 2, 2, 3, 3, 3, 3, 4, 4, 4, 4, 4, 4, 4, 4, 5, 5, 5, 5, 5, 5, 5, 5, 5, 5, 5, 5, 5, 5, 5, 5, 6, 6, 6, 6, 6, 6, 6, 6, 6, 6, 6, 6, 6, 6, 6, 6, 6, 6, 6, 6, 6, 6, 6, 6, 6, 6, 6, 6, 6, 6, 6, 6, 7, 7, 7, 7, 7, 7, 7, 7, 7, 7, 7, 7, 7, 7, 7, 7, 7, 7, 7, 7, 7, 7, 7, 7, 7, 7, 7, 7, 7, 7, 7, 7, 7, 7, 7, 7, 7, 7, 7, 7, 7, 7, 7, 7, 7, 7, 7, 7, 7, 7, 7, 7, 7, 7, 7, 7, 7, 7, 7, 7, 7, 7, 7, 7, 8, 8, 8, 8, 8, 8, 8, 8, 8, 8, 8, 8, 8, 8, 8, 8, 8, 8, 8, 8, 8, 8, 8, 8, 8, 8, 8, 8, 8, 8, 8, 8, 8, 8, 8, 8, 8, 8, 8, 8, 8, 8, 8, 8, 8, 8, 8, 8, 8, 8, 8, 8, 8, 8, 8, 8, 8, 8, 8, 8, 8, 8, 8, 8, 8, 8, 8, 8, 8, 8, 8, 8, 8, 8, 8, 8, 8, 8, 8, 8, 8, 8, 8, 8, 8, 8, 8, 8, 8, 8, 8, 8, 8, 8, 8, 8, 8, 8, 8, 8, 8, 8, 8, 8, 8, 8, 8, 8, 8, 8, 8, 8, 8, 8, 8, 8, 8, 8, 8, 8, 8, 8, 8, 8, 8, 8, 8, 8]⟩ : ByteArray) i = len8 i := by
  obtain ⟨n, rfl⟩ := Int.eq_ofNat_of_zero_le h0
  exact tab_fin ⟨n, by omega⟩
/-- It has n bits. -/
def Bits (n : Nat) (y : Int) : Prop := 1 ≤ n ∧ (2 : Int) ^ (n - 1) ≤ y ∧ y < 2 ^ n
theorem len8_bits {i : Int} (h0 : 1 ≤ i) (h1 : i < 256) : ∃ m : Nat, len8 i = m ∧ m ≤ 8 ∧ Bits m i := by
  unfold len8 Bits
  rw [if_neg (by omega)]
  by_cases c1 : i < 2
  · rw [if_pos c1]; exact ⟨1, rfl, by omega, by omega, by simp; omega, by simp; omega⟩
  rw [if_neg c1]
  by_cases c2 : i < 4
  · rw [if_pos c2]; exact ⟨2, rfl, by omega, by omega, by simp; omega, by simp; omega⟩
  rw [if_neg c2]
  by_cases c3 : i < 8
  · rw [if_pos c3]; exact ⟨3, rfl, by omega, by omega, by simp; omega, by simp; omega⟩
  rw [if_neg c3]
  by_cases c4 : i < 16
  · rw [if_pos c4]; exact ⟨4, rfl, by omega, by omega, by simp; omega, by simp; omega⟩
  rw [if_neg c4]
  by_cases c5 : i < 32
  · rw [if_pos c5]; exact ⟨5, rfl, by omega, by omega, by simp; omega, by simp; omega⟩
  rw [if_neg c5]
  by_cases c6 : i < 64
  · rw [if_pos c6]; exact ⟨6, rfl, by omega, by omega, by simp; omega, by simp; omega⟩
  rw [if_neg c6]
  by_cases c7 : i < 128
  · rw [if_pos c7]; exact ⟨7, rfl, by omega, by omega, by simp; omega, by simp; omega⟩
  rw [if_neg c7]
  exact ⟨8, rfl, by omega, by omega, by simp; omega, by simp; omega⟩
theorem bits_up {t m : Nat} {y : Int} (h : Bits m (y / 2 ^ t)) : Bits (m + t) y := by
  obtain ⟨a, b, c⟩ := h
  have hp : (0 : Int) < 2 ^ t := Int.pow_pos (by decide)
  refine ⟨by omega, ?_, ?_⟩
  · have := (Int.le_ediv_iff_mul_le hp).1 b
    rw [show m + t - 1 = m - 1 + t by omega, Int.pow_add]
    exact this
  · have := (Int.ediv_lt_iff_lt_mul hp).1 c
    rw [Int.pow_add]
    exact this

theorem len64 {y : Int} (h0 : 1 ≤ y) (h1 : y < 18446744073709551616) (k : Nat) : ∃ n : Nat, math_bits_Len64.f (k + 1) y = some (n : Int) ∧ n ≤ 64 ∧ Bits n y := by
  have key : ∀ (z x2 : Int) (t : Nat), 1 ≤ z → z < 4294967296 → x2 = t → t ≤ 32 → ∃ n : Nat, math_bits_Len64.j0 (k + 1) z x2 = some (n + t : Int) ∧ n ≤ 32 ∧ Bits n z := by
    intro z x2 t z0 z1 hx ht
    subst hx
    rw [math_bits_Len64.j0]
    by_cases c1 : z ≥ 65536
    · rw [if_pos c1]
      by_cases c2 : z / 65536 ≥ 256
      · rw [if_pos c2, if_pos (by omega), if_pos (by omega), tab (by omega) (by omega)]
        obtain ⟨m, e, hm, hb⟩ := len8_bits (i := z / 65536 / 256 % 256) (by omega) (by omega)
        rw [e]
        refine ⟨m + 24, ?_, by omega, ?_⟩
        · congr 1
          rw [w64 (n := (t : Int) + 16) (by omega) (by omega), w64 (n := (t : Int) + 16 + 8) (by omega) (by omega), w64 (n := (m : Int)) (by omega) (by omega), w64 (by omega) (by omega)]
          omega
        · refine bits_up ?_
          have : z / 2 ^ 24 = z / 65536 / 256 % 256 := by simp; omega
          rw [this]
          exact hb
      · rw [if_neg c2, if_pos (by omega), if_pos (by omega), tab (by omega) (by omega)]
        obtain ⟨m, e, hm, hb⟩ := len8_bits (i := z / 65536 % 256) (by omega) (by omega)
        rw [e]
        refine ⟨m + 16, ?_, by omega, ?_⟩
        · congr 1
          rw [w64 (n := (t : Int) + 16) (by omega) (by omega), w64 (n := (m : Int)) (by omega) (by omega), w64 (by omega) (by omega)]
          omega
        · refine bits_up ?_
          have : z / 2 ^ 16 = z / 65536 % 256 := by simp; omega
          rw [this]
          exact hb
    · rw [if_neg c1]
      by_cases c2 : z ≥ 256
      · rw [if_pos c2, if_pos (by omega), if_pos (by omega), tab (by omega) (by omega)]
        obtain ⟨m, e, hm, hb⟩ := len8_bits (i := z / 256 % 256) (by omega) (by omega)
        rw [e]
        refine ⟨m + 8, ?_, by omega, ?_⟩
        · congr 1
          rw [w64 (n := (t : Int) + 8) (by omega) (by omega), w64 (n := (m : Int)) (by omega) (by omega), w64 (by omega) (by omega)]
          omega
        · refine bits_up ?_
          have : z / 2 ^ 8 = z / 256 % 256 := by simp; omega
          rw [this]
          exact hb
      · rw [if_neg c2, if_pos (by omega), if_pos (by omega), tab (by omega) (by omega)]
        obtain ⟨m, e, hm, hb⟩ := len8_bits (i := z % 256) (by omega) (by omega)
        rw [e]
        refine ⟨m, ?_, by omega, ?_⟩
        · congr 1
          rw [w64 (n := (m : Int)) (by omega) (by omega), w64 (by omega) (by omega)]
          omega
        · have : z % 256 = z := by omega
          rw [this] at hb
          exact hb
  unfold math_bits_Len64.f
  by_cases c : y ≥ 4294967296
  · rw [if_pos c]
    obtain ⟨n, e, hn, hb⟩ := key (y / 4294967296) 32 32 (by omega) (by omega) rfl (by omega)
    refine ⟨n + 32, by rw [e]; simp, by omega, bits_up ?_⟩
    have : (2 : Int) ^ 32 = 4294967296 := by decide
    rw [this]
    exact hb
  · rw [if_neg c]
    obtain ⟨n, e, hn, hb⟩ := key y 0 0 (by omega) (by omega) rfl (by omega)
    exact ⟨n, by rw [e]; simp, by omega, hb⟩

/-- one digit, as the first loop finds it -/
theorem digit0 {B : Nat} {res : Option (Int × Int)} {x2 x8 x9 x10 x11 x13 x14 q : Int} (hY : x2 = x9 * 4294967296 + x10) (h1 : 2147483648 ≤ x9) (hY1 : x2 < 18446744073709551616)
    (h00 : 0 ≤ x10) (h01 : x10 < 4294967296) (hU0 : 0 ≤ x11) (hU : x11 < x2) (hu0 : 0 ≤ x13) (hu : x13 < 4294967296) (hq : q = (x11 * 4294967296 + x13) / x2)
    (hres : ∀ k, B ≤ k → math_bits_Div64.j2 k x2 x8 x9 x10 x11 x13 x14 q = res) :
    ∀ (d : Nat) (g r : Int), q ≤ g → g ≤ 4294967297 → g - q ≤ d → g * x9 + r = x11 → 0 ≤ r → (r < 4294967296) → ∀ k, B + 2 * d + 2 ≤ k → math_bits_Div64.l0 k x2 x8 x9 x10 x11 x13 x14 g r = res := by
  obtain ⟨_, _, q0, q1⟩ := guess hY h1 h00 h01 hU0 hU hu0 hu
  rw [← hq] at q0 q1
  intro d
  induction d with
  | zero =>
    intro g r hg _ hd hr r0 r1 k hk
    obtain ⟨k, rfl⟩ : ∃ m, k = m + 2 := ⟨k - 2, by omega⟩
    have e : g = q := by omega
    subst e
    have hle : g * x10 ≤ 4294967296 * r + x13 := by
      rw [← parts hY hr]
      have b := Int.mul_ediv_add_emod (x11 * 4294967296 + x13) x2
      have b0 := Int.emod_nonneg (x11 * 4294967296 + x13) (show x2 ≠ 0 by omega)
      rw [← hq, Int.mul_comm] at b
      omega
    have gy0 : 0 ≤ g * x10 := Int.mul_nonneg q0 h00
    simp only [math_bits_Div64.l0]
    rw [if_neg (by omega), wu_id (n := g * x10) gy0 (by omega), wu_id (n := 4294967296 * r) (by omega) (by omega), wu_id (n := 4294967296 * r + x13) (by omega) (by omega), decide_eq_false (by omega)]
    simp only [math_bits_Div64.j1, Bool.false_eq_true, if_false]
    exact hres k (by omega)
  | succ d ih =>
    intro g r hg hg1 hd hr r0 r1 k hk
    obtain ⟨k, rfl⟩ : ∃ m, k = m + 2 := ⟨k - 2, by omega⟩
    have step : q < g → math_bits_Div64.j1 (k + 1) x2 x8 x9 x10 x11 x13 x14 g r true = res := by
      intro hlt
      simp only [math_bits_Div64.j1, if_true]
      rw [wu_id (n := r + x9) (by omega) (by omega), wu_id (n := g - 1) (by omega) (by omega)]
      by_cases c : r + x9 ≥ 4294967296
      · rw [if_pos c]
        have e : g - 1 = q := by
          refine right (show 0 < x2 by omega) hq (by omega) ?_
          rw [parts (r := r + x9) hY (by rw [Int.sub_mul]; omega)]
          have m : (g - 1) * x10 ≤ 4294967296 * x10 := Int.mul_le_mul_of_nonneg_right (by omega) h00
          omega
        rw [e]
        exact hres k (by omega)
      · rw [if_neg c]
        exact ih (g - 1) (r + x9) (by omega) (by omega) (by omega) (by rw [Int.sub_mul]; omega) (by omega) (by omega) k (by omega)
    simp only [math_bits_Div64.l0]
    by_cases c : g ≥ 4294967296
    · rw [if_pos c]
      exact step (by omega)
    · rw [if_neg c]
      have gy0 : 0 ≤ g * x10 := Int.mul_nonneg (by omega) h00
      have gy1 : g * x10 ≤ 4294967296 * x10 := Int.mul_le_mul_of_nonneg_right (by omega) h00
      rw [wu_id (n := g * x10) gy0 (by omega), wu_id (n := 4294967296 * r) (by omega) (by omega), wu_id (n := 4294967296 * r + x13) (by omega) (by omega)]
      by_cases c2 : g * x10 > 4294967296 * r + x13
      · rw [decide_eq_true c2]
        refine step (wrong (Y := x2) (N := x11 * 4294967296 + x13) (by omega) hq ?_)
        have := (parts (u := x13) hY hr)
        omega
      · rw [decide_eq_false c2]
        simp only [math_bits_Div64.j1, Bool.false_eq_true, if_false]
        have e : g = q := right (Y := x2) (by omega) hq hg ((parts hY hr).2 (by omega))
        rw [e]
        exact hres k (by omega)

/-- the second digit, and what comes behind it -/
theorem digit1 {x2 x8 x9 x10 x14 x15 x17 q : Int} (hY : x2 = x9 * 4294967296 + x10) (h1 : 2147483648 ≤ x9) (hY1 : x2 < 18446744073709551616)
    (h00 : 0 ≤ x10) (h01 : x10 < 4294967296) (hU0 : 0 ≤ x17) (hU : x17 < x2) (hu0 : 0 ≤ x14) (hu : x14 < 4294967296) (hq : q = (x17 * 4294967296 + x14) / x2) (h8 : 0 ≤ x8) (hp0 : 0 ≤ x15) (hp1 : x15 < 4294967296) :
    ∀ (d : Nat) (g r : Int), q ≤ g → g ≤ 4294967297 → g - q ≤ d → g * x9 + r = x17 → 0 ≤ r → (r < 4294967296) → ∀ k, 2 * d + 2 ≤ k → math_bits_Div64.l1 k x2 x8 x9 x10 x14 x15 r x17 g = some (x15 * 4294967296 + q, shr .u64 ((x17 * 4294967296 + x14) % x2) x8) := by
  obtain ⟨_, _, q0, q1⟩ := guess hY h1 h00 h01 hU0 hU hu0 hu
  rw [← hq] at q0 q1
  have b := Int.mul_ediv_add_emod (x17 * 4294967296 + x14) x2
  have b0 := Int.emod_nonneg (x17 * 4294967296 + x14) (show x2 ≠ 0 by omega)
  have b1 := Int.emod_lt_of_pos (x17 * 4294967296 + x14) (show 0 < x2 by omega)
  rw [← hq, Int.mul_comm] at b
  have fin : some (IntKind.u64.wrap ((IntKind.u64.wrap (x15 * 4294967296)) + q), shr .u64 (IntKind.u64.wrap ((IntKind.u64.wrap ((IntKind.u64.wrap (x17 * 4294967296)) + x14)) - (IntKind.u64.wrap (q * x2)))) x8) = some (x15 * 4294967296 + q, shr .u64 ((x17 * 4294967296 + x14) % x2) x8) := by
    rw [wu_id (n := x15 * 4294967296) (by omega) (by omega), wu_id (n := x15 * 4294967296 + q) (by omega) (by omega)]
    congr 3
    simp only [wu]
    generalize q * x2 = m at *
    generalize (x17 * 4294967296 + x14) % x2 = t at *
    omega
  intro d
  induction d with
  | zero =>
    intro g r hg _ hd hr r0 r1 k hk
    obtain ⟨k, rfl⟩ : ∃ m, k = m + 2 := ⟨k - 2, by omega⟩
    have e : g = q := by omega
    subst e
    have hle : g * x10 ≤ 4294967296 * r + x14 := by
      rw [← parts hY hr]
      omega
    have gy0 : 0 ≤ g * x10 := Int.mul_nonneg q0 h00
    simp only [math_bits_Div64.l1]
    rw [if_neg (by omega), wu_id (n := g * x10) gy0 (by omega), wu_id (n := 4294967296 * r) (by omega) (by omega), wu_id (n := 4294967296 * r + x14) (by omega) (by omega), decide_eq_false (by omega)]
    simp only [math_bits_Div64.j4, Bool.false_eq_true, if_false]
    rw [if_pos h8]
    exact fin
  | succ d ih =>
    intro g r hg hg1 hd hr r0 r1 k hk
    obtain ⟨k, rfl⟩ : ∃ m, k = m + 2 := ⟨k - 2, by omega⟩
    have step : q < g → math_bits_Div64.j4 (k + 1) x2 x8 x9 x10 x14 x15 r x17 g true = some (x15 * 4294967296 + q, shr .u64 ((x17 * 4294967296 + x14) % x2) x8) := by
      intro hlt
      simp only [math_bits_Div64.j4, if_true]
      rw [wu_id (n := r + x9) (by omega) (by omega), wu_id (n := g - 1) (by omega) (by omega)]
      by_cases c : r + x9 ≥ 4294967296
      · rw [if_pos c, if_pos h8]
        have e : g - 1 = q := by
          refine right (show 0 < x2 by omega) hq (by omega) ?_
          rw [parts (r := r + x9) hY (by rw [Int.sub_mul]; omega)]
          have m : (g - 1) * x10 ≤ 4294967296 * x10 := Int.mul_le_mul_of_nonneg_right (by omega) h00
          omega
        rw [e]
        exact fin
      · rw [if_neg c]
        exact ih (g - 1) (r + x9) (by omega) (by omega) (by omega) (by rw [Int.sub_mul]; omega) (by omega) (by omega) k (by omega)
    simp only [math_bits_Div64.l1]
    by_cases c : g ≥ 4294967296
    · rw [if_pos c]
      exact step (by omega)
    · rw [if_neg c]
      have gy0 : 0 ≤ g * x10 := Int.mul_nonneg (by omega) h00
      have gy1 : g * x10 ≤ 4294967296 * x10 := Int.mul_le_mul_of_nonneg_right (by omega) h00
      rw [wu_id (n := g * x10) gy0 (by omega), wu_id (n := 4294967296 * r) (by omega) (by omega), wu_id (n := 4294967296 * r + x14) (by omega) (by omega)]
      by_cases c2 : g * x10 > 4294967296 * r + x14
      · rw [decide_eq_true c2]
        refine step (wrong (Y := x2) (N := x17 * 4294967296 + x14) (by omega) hq ?_)
        have := (parts (u := x14) hY hr)
        omega
      · rw [decide_eq_false c2]
        simp only [math_bits_Div64.j4, Bool.false_eq_true, if_false]
        have e : g = q := right (Y := x2) (by omega) hq hg ((parts hY hr).2 (by omega))
        rw [e, if_pos h8]
        exact fin

theorem div64 {hi lo y : Int} (h0 : 0 ≤ hi) (h1 : hi < y) (l0 : 0 ≤ lo) (l1 : lo < 18446744073709551616) (y1 : y < 18446744073709551616) {k : Nat} (hk : 24 ≤ k) :
    math_bits_Div64.f k hi lo y = some ((hi * 18446744073709551616 + lo) / y, (hi * 18446744073709551616 + lo) % y) := by
  obtain ⟨k, rfl⟩ : ∃ m, k = m + 24 := ⟨k - 24, by omega⟩
  unfold math_bits_Div64.f
  rw [if_neg (by omega), if_neg (by omega)]
  by_cases c : hi = 0
  · rw [if_pos c]
    subst c
    rw [td_nn l0, tm_nn l0, Int.zero_mul, Int.zero_add]
    have : lo / y ≤ lo := Int.ediv_le_self _ l0
    have : 0 ≤ lo / y := Int.ediv_nonneg l0 (by omega)
    rw [wu_id (by omega) (by omega)]
  rw [if_neg c]
  obtain ⟨n, e, hn, b0, b1, b2⟩ := len64 (y := y) (by omega) y1 (k + 23)
  unfold math_bits_LeadingZeros64.f
  rw [e]
  simp only [Option.bind_some]
  rw [w64 (by omega) (by omega), wu_id (n := 64 - (n : Int)) (by omega) (by omega), wu_id (n := 64 - (64 - (n : Int))) (by omega) (by omega)]
  rw [if_pos (by omega), if_pos (by omega)]
  unfold shl
  unfold shr
  have i1 : min (64 - (n : Int)).toNat IntKind.u64.bits = 64 - n := by show min (64 - (n : Int)).toNat 64 = 64 - n; omega
  have i2 : min (64 - (64 - (n : Int))).toNat IntKind.u64.bits = n := by show min (64 - (64 - (n : Int))).toNat 64 = n; omega
  rw [i1, i2]
  obtain ⟨S, hSd⟩ : ∃ S : Int, S = 2 ^ (64 - n) := ⟨_, rfl⟩
  rw [← hSd]
  have hS : 0 < S := by rw [hSd]; exact Int.pow_pos (by decide)
  have hP : (0 : Int) < 2 ^ n := Int.pow_pos (by decide)
  have hSP : (2 : Int) ^ n * S = 18446744073709551616 := by
    rw [hSd, ← Int.pow_add, show n + (64 - n) = 64 by omega]; decide
  have hSP2 : (2 : Int) ^ (n - 1) * S = 9223372036854775808 := by
    rw [hSd, ← Int.pow_add, show n - 1 + (64 - n) = 63 by omega]; decide
  generalize (2 : Int) ^ n = P at *
  generalize (2 : Int) ^ (n - 1) = P' at *
  have yS1 : y * S < 18446744073709551616 := by
    have : y * S < P * S := Int.mul_lt_mul_of_pos_right b2 hS
    omega
  have yS0 : 9223372036854775808 ≤ y * S := by
    have : P' * S ≤ y * S := Int.mul_le_mul_of_nonneg_right b1 (by omega)
    omega
  have hS1 : hi * S + S ≤ y * S := by
    have : (hi + 1) * S ≤ y * S := Int.mul_le_mul_of_nonneg_right (by omega) (by omega)
    rw [Int.add_mul, Int.one_mul] at this
    omega
  have hS0 : 0 ≤ hi * S := Int.mul_nonneg h0 (by omega)
  have lS0 : 0 ≤ lo * S := Int.mul_nonneg l0 (by omega)
  have lP0 : 0 ≤ lo / P := Int.ediv_nonneg l0 (by omega)
  have lP : lo * S / 18446744073709551616 = lo / P := by
    rw [← hSP]
    exact Int.mul_ediv_mul_of_pos_left _ _ hS
  have lP1 : lo / P < S := by
    rw [Int.ediv_lt_iff_lt_mul hP, Int.mul_comm, hSP]
    exact l1
  rw [wu_id (n := y * S) (by omega) yS1, wu_id (n := hi * S) hS0 (by omega), wu (lo * S)]
  have or1 : Go.bits .or .u64 (hi * S) (lo / P) = hi * S + lo / P := by
    exact bits_join .u64 64 (by decide) wraps_u64 (64 - n) _ _ hS0 (by rw [← hSd]; exact Int.mul_emod_left _ _) (by simp; omega) lP0 (by rw [← hSd]; exact lP1) (by simp; omega)
  rw [or1, and32 (by omega) yS1, and32 (by omega) (by omega)]
  have hX : (hi * 18446744073709551616 + lo) * S = ((hi * S + lo / P) * 18446744073709551616) + lo * S % 18446744073709551616 := by
    rw [← lP]
    have : (hi * 18446744073709551616 + lo) * S = hi * S * 18446744073709551616 + lo * S := by grind
    omega
  generalize hU : hi * S + lo / P = U at *
  generalize hV : lo * S % 18446744073709551616 = V at *
  generalize hY : y * S = Y at *
  have V0 : 0 ≤ V := by omega
  have V1 : V < 18446744073709551616 := by omega
  have Us : U < Y := by omega
  rw [if_neg (by omega), td_nn (by omega)]
  have sp : Y = Y / 4294967296 * 4294967296 + Y % 4294967296 := by omega
  obtain ⟨g1, g2, g3, g4⟩ := guess (u := V / 4294967296) sp (by omega) (by omega) (by omega) (by omega) Us (by omega) (by omega)
  have ga := Int.mul_ediv_add_emod U (Y / 4294967296)
  have ga0 := Int.emod_nonneg U (show Y / 4294967296 ≠ 0 by omega)
  have ga1 := Int.emod_lt_of_pos U (show 0 < Y / 4294967296 by omega)
  rw [Int.mul_comm] at ga
  have gn : 0 ≤ U / (Y / 4294967296) * (Y / 4294967296) := Int.mul_nonneg (by omega) (by omega)
  rw [wu_id (n := U / (Y / 4294967296)) (by omega) (by omega), wu_id (n := U / (Y / 4294967296) * (Y / 4294967296)) (by omega) (by omega), wu_id (n := U - U / (Y / 4294967296) * (Y / 4294967296)) (by omega) (by omega)]
  generalize hg : U / (Y / 4294967296) = g at *
  -- the first digit
  have m1 := Int.mul_ediv_add_emod (U * 4294967296 + V / 4294967296) Y
  have m10 := Int.emod_nonneg (U * 4294967296 + V / 4294967296) (show Y ≠ 0 by omega)
  have m11 := Int.emod_lt_of_pos (U * 4294967296 + V / 4294967296) (show 0 < Y by omega)
  generalize hq1 : (U * 4294967296 + V / 4294967296) / Y = q1 at *
  generalize hr1 : (U * 4294967296 + V / 4294967296) % Y = W at *
  refine digit0 (B := 14) (q := q1) (res := some ((hi * 18446744073709551616 + lo) / y, (hi * 18446744073709551616 + lo) % y)) sp (by omega) (by omega) (by omega) (by omega) (by omega) Us (by omega) (by omega) hq1.symm ?_ 4 g (U - g * (Y / 4294967296)) g1 g2 ?_ (by omega) (by omega) (by omega) (k + 24) (by omega)
  · intro k' hk'
    obtain ⟨k', rfl⟩ : ∃ m, k' = m + 14 := ⟨k' - 14, by omega⟩
    simp only [math_bits_Div64.j2]
    rw [if_neg (by omega)]
    have w : IntKind.u64.wrap ((IntKind.u64.wrap ((IntKind.u64.wrap (U * 4294967296)) + V / 4294967296)) - (IntKind.u64.wrap (q1 * Y))) = W := by
      simp only [wu]
      rw [Int.mul_comm q1 Y]
      generalize Y * q1 = m at *
      omega
    rw [w, td_nn (by omega)]
    obtain ⟨p1, p2, p3, p4⟩ := guess (u := V % 4294967296) sp (by omega) (by omega) (by omega) (show 0 ≤ W by omega) (by omega) (by omega) (by omega)
    have pa := Int.mul_ediv_add_emod W (Y / 4294967296)
    have pa0 := Int.emod_nonneg W (show Y / 4294967296 ≠ 0 by omega)
    have pa1 := Int.emod_lt_of_pos W (show 0 < Y / 4294967296 by omega)
    rw [Int.mul_comm] at pa
    have pn : 0 ≤ W / (Y / 4294967296) * (Y / 4294967296) := Int.mul_nonneg (by omega) (by omega)
    rw [wu_id (n := W / (Y / 4294967296)) (by omega) (by omega), wu_id (n := W / (Y / 4294967296) * (Y / 4294967296)) (by omega) (by omega), wu_id (n := W - W / (Y / 4294967296) * (Y / 4294967296)) (by omega) (by omega)]
    generalize hg' : W / (Y / 4294967296) = g' at *
    have m2 := Int.mul_ediv_add_emod (W * 4294967296 + V % 4294967296) Y
    have m20 := Int.emod_nonneg (W * 4294967296 + V % 4294967296) (show Y ≠ 0 by omega)
    have m21 := Int.emod_lt_of_pos (W * 4294967296 + V % 4294967296) (show 0 < Y by omega)
    generalize hq2 : (W * 4294967296 + V % 4294967296) / Y = q2 at *
    have d2 : g' - q2 ≤ 4 := by
      rcases ltge 4 (g' - q2) with c5 | c5
      · have e1 : Y * q2 + Y * 5 ≤ Y * g' := by
          have : Y * (q2 + 5) ≤ Y * g' := Int.mul_le_mul_of_nonneg_left (by omega) (by omega)
          rw [Int.mul_add] at this
          exact this
        have e2 : Y * g' = g' * (Y / 4294967296) * 4294967296 + g' * (Y % 4294967296) := by
          conv => lhs; rw [sp]
          grind
        have e3 : g' * (Y % 4294967296) ≤ 4294967297 * (Y % 4294967296) := Int.mul_le_mul_of_nonneg_right p2 (by omega)
        omega
      · exact c5
    rw [digit1 (q := q2) sp (by omega) (by omega) (by omega) (by omega) (by omega) (by omega) (by omega) (by omega) hq2.symm (by omega) (by omega) (by omega) 4 g' (W - g' * (Y / 4294967296)) p1 p2 d2 (by omega) (by omega) (by omega) (k' + 13) (by omega)]
    have fin := whole (X := hi * 18446744073709551616 + lo) (y := y) (S := S) (Q := q1 * 4294967296 + q2) (R := (W * 4294967296 + V % 4294967296) % Y) (by omega) hS (by
      rw [hX, hY, Int.mul_add]
      have : Y * (q1 * 4294967296) = Y * q1 * 4294967296 := by rw [Int.mul_assoc]
      rw [this]
      generalize Y * q1 = a at *
      generalize Y * q2 = b at *
      omega) m20 (by rw [hY]; exact m21)
    rw [fin.1, fin.2]
    unfold shr
    rw [i1]
    rw [hSd]
  · rcases ltge 4 (g - q1) with c5 | c5
    · have e1 : Y * q1 + Y * 5 ≤ Y * g := by
        have : Y * (q1 + 5) ≤ Y * g := Int.mul_le_mul_of_nonneg_left (by omega) (by omega)
        rw [Int.mul_add] at this
        exact this
      have e2 : Y * g = g * (Y / 4294967296) * 4294967296 + g * (Y % 4294967296) := by
        conv => lhs; rw [sp]
        grind
      have e3 : g * (Y % 4294967296) ≤ 4294967297 * (Y % 4294967296) := Int.mul_le_mul_of_nonneg_right g2 (by omega)
      omega
    · omega
end Go.Proofs.Ytalnlphinlfenaa.XBits
end
