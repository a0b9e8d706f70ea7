/- Printed by a program of this session out of the translation: what each function called here computes, and that its call comes to just that. Conditions: none beyond those that each theorem names. -/
import Derived.Test.YtchpeobenlnemaaSx0
namespace Go.Proofs.Ytchpeobenlnemaa.S
open Go.RowKit Go.Proofs.YtchpeobenlnemaaW.PrintWords Go.Proofs.YtchpeobenlnemaaW.PrintLast Go.Proofs.YtchpeobenlnemaaW.PrintMore
attribute [local go_sem] max2_int min2_int max_two min_two max_three min_three max_four min_four   -- for this text's walks alone
attribute [local go_sem] Go.Proofs.Ytchpeobenlnemaa.XWalk.cell2
set_option linter.unusedVariables false
set_option linter.unusedSimpArgs false

/-! ### lombardref08_Check: function 16 -/
mutual
def lombardref08_Check.j0 : Nat → Bool → Int → Int → List Int → Int → Option (Int)
 | 0, _, _, _, _, _ => none
 | k + 1, x46, x207000, x207001, x207002, x207003 => if x46 = true then (some 2) else (lombardref08_Check.l0 k x207002 (x207002.length : Int) 0)
def lombardref08_Check.l0 : Nat → List Int → Int → Int → Option (Int)
 | 0, _, _, _ => none
 | k + 1, x48, x49, x50 => if x50 < x49 then (if 0 ≤ x50 then (if x50 < (x48.length : Int) then (if (rd x48 x50) < 0 then (some 2) else (if (rd x48 x50) > 1000000000000 then (some 2) else (lombardref08_Check.l0 k x48 x49 (wrap64 (x50 + 1))))) else (none)) else (none)) else (some 0)
end
def lombardref08_Check.f (k : Nat) (a0_0 : Int) (a0_1 : Int) (l0_2 : List Int) (a0_3 : Int) : Option (Int) := if a0_0 < 1 then (lombardref08_Check.j0 k true a0_0 a0_1 l0_2 a0_3) else (if a0_0 > 4 then (lombardref08_Check.j0 k true a0_0 a0_1 l0_2 a0_3) else (if a0_1 < 1 then (lombardref08_Check.j0 k true a0_0 a0_1 l0_2 a0_3) else (if a0_1 > 10000000000000 then (lombardref08_Check.j0 k true a0_0 a0_1 l0_2 a0_3) else (if a0_3 < 1 then (lombardref08_Check.j0 k true a0_0 a0_1 l0_2 a0_3) else (if a0_3 > 600 then (lombardref08_Check.j0 k true a0_0 a0_1 l0_2 a0_3) else (if (l0_2.length : Int) < 1 then (lombardref08_Check.j0 k true a0_0 a0_1 l0_2 a0_3) else (lombardref08_Check.j0 k (decide ((l0_2.length : Int) > a0_3)) a0_0 a0_1 l0_2 a0_3)))))))
set_option maxHeartbeats 8000000 in
set_option maxRecDepth 100000 in
theorem lombardref08_Check.calls (k : Nat) (a0_0 : Int) (a0_1 : Int) (A0_2 : Option Addr) (c0_2 : Nat) (l0_2 : List Int) (a0_3 : Int) (r : Int) (w : World) (hr0_2 : Kd.C (Kd.int .i64) w A0_2 l0_2.length l0_2) (hc0_2 : l0_2.length ≤ c0_2) (h : lombardref08_Check.f k a0_0 a0_1 l0_2 a0_3 = some r) :
  Calls Try.prog 16 #[.agg #[.int .i64 a0_0, .int .i64 a0_1, .slice A0_2 l0_2.length c0_2, .int .i64 a0_3]] w fun e w' => e = .returned (.int .i64 r) ∧ Below w.heap.size w w' := by
 have hu24 := Try.underlying24
 have HR0_2 := Aside0.mk hr0_2
 have HC0_2 := Aside0.mk hc0_2
 clear hr0_2 hc0_2
 have HB := Aside0.mk (Below.refl w.heap.size w)
 have H : (if a0_0 < 1 then (lombardref08_Check.j0 k true a0_0 a0_1 l0_2 a0_3) else (if a0_0 > 4 then (lombardref08_Check.j0 k true a0_0 a0_1 l0_2 a0_3) else (if a0_1 < 1 then (lombardref08_Check.j0 k true a0_0 a0_1 l0_2 a0_3) else (if a0_1 > 10000000000000 then (lombardref08_Check.j0 k true a0_0 a0_1 l0_2 a0_3) else (if a0_3 < 1 then (lombardref08_Check.j0 k true a0_0 a0_1 l0_2 a0_3) else (if a0_3 > 600 then (lombardref08_Check.j0 k true a0_0 a0_1 l0_2 a0_3) else (if (l0_2.length : Int) < 1 then (lombardref08_Check.j0 k true a0_0 a0_1 l0_2 a0_3) else (lombardref08_Check.j0 k (decide ((l0_2.length : Int) > a0_3)) a0_0 a0_1 l0_2 a0_3)))))))) = some r := h
 clear h
 have HC2 := Aside0.mk H
 clear H
 go_enter Try.func16, Try.ntmps16
 go_upto_region 1 with (first | ((with_reducible refine gate_dst (N := 1) rfl ?_); (try (refine gate_guard (by rfl) ?_; dsimp only)); refine box_event ?hg (N := 1) ?hd (cs := #[.int .i64 a0_0, .int .i64 a0_1, .slice A0_2 l0_2.length c0_2, .int .i64 a0_3]) (t := 24) ?hr ?_; (case hd => rfl); (case hg => rfl); (case hr => first | (go_simp; done) | (go_simp; rfl)); intro gb206 hg w3 hbox hb; have n0_ := Aside0.mk (below_step (by repeat (first | (with_reducible first | exact HB.out | apply below_alloc | apply pw_below_drewN | apply below_drew1) | exact HB.out)) hb); have n1_ := Aside0.mk (hbox); have n2_ := Aside0.mk ((by rw [hg]; exact (below_size (by repeat (first | (with_reducible first | exact HB.out | apply below_alloc | apply pw_below_drewN | apply below_drew1) | exact HB.out))) : w.heap.size ≤ gb206)); have n3_ := Aside0.mk ((by rw [hg]; exact (below_size (by repeat (first | (with_reducible first | exact HB.out | apply below_alloc | apply pw_below_drewN | apply below_drew1) | exact HB.out))) : w.heap.size ≤ gb206)); clear HB; have HB := n0_; have BK206 := n1_; have GW206 := n2_; have GE206 := n3_; clear n0_ n1_ n2_ n3_; clear hb hbox hg))
 (try simp only [Act.put, List.setIfInBounds_toArray, List.set_cons_zero, List.set_cons_succ])
 go_cut [46] (fun v46 wc => ∃ (kq : Nat) (x46_1 : Bool), v46 = .bool x46_1 ∧ Aside0 (lombardref08_Check.j0 kq x46_1 a0_0 a0_1 l0_2 a0_3 = some r) ∧ Aside0 (kq ≤ k) ∧ Aside0 (wc.heap[gb206]? = some (.cells #[.int .i64 a0_0, .int .i64 a0_1, (.slice A0_2 l0_2.length c0_2), .int .i64 a0_3] 24 (0, 0))) ∧ Aside0 (Below w.heap.size w wc))
 case first =>
  have H := HC2.out
  clear HC2
  by_cases c4 : a0_0 < 1
  ·rw [if_pos c4] at H
   have c4b0 : decide (a0_0 < 1) = true := decide_eq_true c4
   clear c4
   (first | rw [c4b0] | (simp only [i64_w, i32_w]; rw [c4b0]) | skip)
   have H' := Aside0.mk H
   clear H
   have hcz5_0 := (blk_cell BK206.out 0).trans rfl
   have hcz5_1 := (blk_cell BK206.out 1).trans rfl
   have hcz5_2 := (blk_cell BK206.out 2).trans rfl
   have hcz5_3 := (blk_cell BK206.out 3).trans rfl
   have hfz5_0 := blk_frozen BK206.out 0
   have hfz5_1 := blk_frozen BK206.out 1
   have hfz5_2 := blk_frozen BK206.out 2
   have hfz5_3 := blk_frozen BK206.out 3
   go_wp2
   go_meet
   case rel => exact ⟨_, (true), (by first | rfl | (simp; done) | (simp [*]; done)), H', ⟨by first | omega | exact Nat.le_refl _⟩, ⟨by (with_reducible repeat (first | refine blk_drewN ?_ _ | refine blk_drew ?_ | refine blk_alloc ?_ _)); exact BK206.out⟩, ⟨by repeat (first | (with_reducible first | exact HB.out | apply below_alloc | apply pw_below_drewN | apply below_drew1 | refine below_set ?_ GE206.out) | exact HB.out)⟩⟩
  ·rw [if_neg c4] at H
   have c4b0 : decide (a0_0 < 1) = false := decide_eq_false c4
   clear c4
   (first | rw [c4b0] | (simp only [i64_w, i32_w]; rw [c4b0]) | skip)
   by_cases c6 : a0_0 > 4
   ·rw [if_pos c6] at H
    have c6b0 : decide (4 < a0_0) = true := decide_eq_true c6
    clear c6
    have H' := Aside0.mk H
    clear H
    have hcz7_0 := (blk_cell BK206.out 0).trans rfl
    have hcz7_1 := (blk_cell BK206.out 1).trans rfl
    have hcz7_2 := (blk_cell BK206.out 2).trans rfl
    have hcz7_3 := (blk_cell BK206.out 3).trans rfl
    have hfz7_0 := blk_frozen BK206.out 0
    have hfz7_1 := blk_frozen BK206.out 1
    have hfz7_2 := blk_frozen BK206.out 2
    have hfz7_3 := blk_frozen BK206.out 3
    go_wp2
    go_meet
    case rel => exact ⟨_, (true), (by first | rfl | (simp; done) | (simp [*]; done)), H', ⟨by first | omega | exact Nat.le_refl _⟩, ⟨by (with_reducible repeat (first | refine blk_drewN ?_ _ | refine blk_drew ?_ | refine blk_alloc ?_ _)); exact BK206.out⟩, ⟨by repeat (first | (with_reducible first | exact HB.out | apply below_alloc | apply pw_below_drewN | apply below_drew1 | refine below_set ?_ GE206.out) | exact HB.out)⟩⟩
   ·rw [if_neg c6] at H
    have c6b0 : decide (4 < a0_0) = false := decide_eq_false c6
    clear c6
    by_cases c8 : a0_1 < 1
    ·rw [if_pos c8] at H
     have c8b0 : decide (a0_1 < 1) = true := decide_eq_true c8
     clear c8
     have H' := Aside0.mk H
     clear H
     have hcz9_0 := (blk_cell BK206.out 0).trans rfl
     have hcz9_1 := (blk_cell BK206.out 1).trans rfl
     have hcz9_2 := (blk_cell BK206.out 2).trans rfl
     have hcz9_3 := (blk_cell BK206.out 3).trans rfl
     have hfz9_0 := blk_frozen BK206.out 0
     have hfz9_1 := blk_frozen BK206.out 1
     have hfz9_2 := blk_frozen BK206.out 2
     have hfz9_3 := blk_frozen BK206.out 3
     go_wp2
     go_meet
     case rel => exact ⟨_, (true), (by first | rfl | (simp; done) | (simp [*]; done)), H', ⟨by first | omega | exact Nat.le_refl _⟩, ⟨by (with_reducible repeat (first | refine blk_drewN ?_ _ | refine blk_drew ?_ | refine blk_alloc ?_ _)); exact BK206.out⟩, ⟨by repeat (first | (with_reducible first | exact HB.out | apply below_alloc | apply pw_below_drewN | apply below_drew1 | refine below_set ?_ GE206.out) | exact HB.out)⟩⟩
    ·rw [if_neg c8] at H
     have c8b0 : decide (a0_1 < 1) = false := decide_eq_false c8
     clear c8
     by_cases c10 : a0_1 > 10000000000000
     ·rw [if_pos c10] at H
      have c10b0 : decide (10000000000000 < a0_1) = true := decide_eq_true c10
      clear c10
      have H' := Aside0.mk H
      clear H
      have hcz11_0 := (blk_cell BK206.out 0).trans rfl
      have hcz11_1 := (blk_cell BK206.out 1).trans rfl
      have hcz11_2 := (blk_cell BK206.out 2).trans rfl
      have hcz11_3 := (blk_cell BK206.out 3).trans rfl
      have hfz11_0 := blk_frozen BK206.out 0
      have hfz11_1 := blk_frozen BK206.out 1
      have hfz11_2 := blk_frozen BK206.out 2
      have hfz11_3 := blk_frozen BK206.out 3
      go_wp2
      go_meet
      case rel => exact ⟨_, (true), (by first | rfl | (simp; done) | (simp [*]; done)), H', ⟨by first | omega | exact Nat.le_refl _⟩, ⟨by (with_reducible repeat (first | refine blk_drewN ?_ _ | refine blk_drew ?_ | refine blk_alloc ?_ _)); exact BK206.out⟩, ⟨by repeat (first | (with_reducible first | exact HB.out | apply below_alloc | apply pw_below_drewN | apply below_drew1 | refine below_set ?_ GE206.out) | exact HB.out)⟩⟩
     ·rw [if_neg c10] at H
      have c10b0 : decide (10000000000000 < a0_1) = false := decide_eq_false c10
      clear c10
      by_cases c12 : a0_3 < 1
      ·rw [if_pos c12] at H
       have c12b0 : decide (a0_3 < 1) = true := decide_eq_true c12
       clear c12
       have H' := Aside0.mk H
       clear H
       have hcz13_0 := (blk_cell BK206.out 0).trans rfl
       have hcz13_1 := (blk_cell BK206.out 1).trans rfl
       have hcz13_2 := (blk_cell BK206.out 2).trans rfl
       have hcz13_3 := (blk_cell BK206.out 3).trans rfl
       have hfz13_0 := blk_frozen BK206.out 0
       have hfz13_1 := blk_frozen BK206.out 1
       have hfz13_2 := blk_frozen BK206.out 2
       have hfz13_3 := blk_frozen BK206.out 3
       go_wp2
       go_meet
       case rel => exact ⟨_, (true), (by first | rfl | (simp; done) | (simp [*]; done)), H', ⟨by first | omega | exact Nat.le_refl _⟩, ⟨by (with_reducible repeat (first | refine blk_drewN ?_ _ | refine blk_drew ?_ | refine blk_alloc ?_ _)); exact BK206.out⟩, ⟨by repeat (first | (with_reducible first | exact HB.out | apply below_alloc | apply pw_below_drewN | apply below_drew1 | refine below_set ?_ GE206.out) | exact HB.out)⟩⟩
      ·rw [if_neg c12] at H
       have c12b0 : decide (a0_3 < 1) = false := decide_eq_false c12
       clear c12
       by_cases c14 : a0_3 > 600
       ·rw [if_pos c14] at H
        have c14b0 : decide (600 < a0_3) = true := decide_eq_true c14
        clear c14
        have H' := Aside0.mk H
        clear H
        have hcz15_0 := (blk_cell BK206.out 0).trans rfl
        have hcz15_1 := (blk_cell BK206.out 1).trans rfl
        have hcz15_2 := (blk_cell BK206.out 2).trans rfl
        have hcz15_3 := (blk_cell BK206.out 3).trans rfl
        have hfz15_0 := blk_frozen BK206.out 0
        have hfz15_1 := blk_frozen BK206.out 1
        have hfz15_2 := blk_frozen BK206.out 2
        have hfz15_3 := blk_frozen BK206.out 3
        go_wp2
        go_meet
        case rel => exact ⟨_, (true), (by first | rfl | (simp; done) | (simp [*]; done)), H', ⟨by first | omega | exact Nat.le_refl _⟩, ⟨by (with_reducible repeat (first | refine blk_drewN ?_ _ | refine blk_drew ?_ | refine blk_alloc ?_ _)); exact BK206.out⟩, ⟨by repeat (first | (with_reducible first | exact HB.out | apply below_alloc | apply pw_below_drewN | apply below_drew1 | refine below_set ?_ GE206.out) | exact HB.out)⟩⟩
       ·rw [if_neg c14] at H
        have c14b0 : decide (600 < a0_3) = false := decide_eq_false c14
        clear c14
        by_cases c16 : (l0_2.length : Int) < 1
        ·rw [if_pos c16] at H
         have c16b0 : decide ((l0_2.length : Int) < 1) = true := decide_eq_true c16
         have c16b1 : decide (l0_2.length < 1) = true := decide_eq_true (by omega)
         clear c16
         have H' := Aside0.mk H
         clear H
         have hcz17_0 := (blk_cell BK206.out 0).trans rfl
         have hcz17_1 := (blk_cell BK206.out 1).trans rfl
         have hcz17_2 := (blk_cell BK206.out 2).trans rfl
         have hcz17_3 := (blk_cell BK206.out 3).trans rfl
         have hfz17_0 := blk_frozen BK206.out 0
         have hfz17_1 := blk_frozen BK206.out 1
         have hfz17_2 := blk_frozen BK206.out 2
         have hfz17_3 := blk_frozen BK206.out 3
         go_wp2
         go_meet
         case rel => exact ⟨_, (true), (by first | rfl | (simp; done) | (simp [*]; done)), H', ⟨by first | omega | exact Nat.le_refl _⟩, ⟨by (with_reducible repeat (first | refine blk_drewN ?_ _ | refine blk_drew ?_ | refine blk_alloc ?_ _)); exact BK206.out⟩, ⟨by repeat (first | (with_reducible first | exact HB.out | apply below_alloc | apply pw_below_drewN | apply below_drew1 | refine below_set ?_ GE206.out) | exact HB.out)⟩⟩
        ·rw [if_neg c16] at H
         have c16b0 : decide ((l0_2.length : Int) < 1) = false := decide_eq_false c16
         have c16b1 : decide (l0_2.length < 1) = false := decide_eq_false (by omega)
         clear c16
         have H' := Aside0.mk H
         clear H
         have hcz18_0 := (blk_cell BK206.out 0).trans rfl
         have hcz18_1 := (blk_cell BK206.out 1).trans rfl
         have hcz18_2 := (blk_cell BK206.out 2).trans rfl
         have hcz18_3 := (blk_cell BK206.out 3).trans rfl
         have hfz18_0 := blk_frozen BK206.out 0
         have hfz18_1 := blk_frozen BK206.out 1
         have hfz18_2 := blk_frozen BK206.out 2
         have hfz18_3 := blk_frozen BK206.out 3
         go_wp2
         go_meet
         case rel => exact ⟨_, (decide ((l0_2.length : Int) > a0_3)), (by first | rfl | (simp; done) | (simp [*]; done)), H', ⟨by first | omega | exact Nat.le_refl _⟩, ⟨by (with_reducible repeat (first | refine blk_drewN ?_ _ | refine blk_drew ?_ | refine blk_alloc ?_ _)); exact BK206.out⟩, ⟨by repeat (first | (with_reducible first | exact HB.out | apply below_alloc | apply pw_below_drewN | apply below_drew1 | refine below_set ?_ GE206.out) | exact HB.out)⟩⟩
 case rest =>
  clear HC2
  repeat first | clear c1 | clear p2 | clear c4 | clear c4b0 | clear c6 | clear c6b0 | clear c8 | clear c8b0 | clear c10 | clear c10b0 | clear c12 | clear c12b0 | clear c14 | clear c14b0 | clear c16 | clear c16b0 | clear c16b1 | clear hcz11_0 | clear hcz11_1 | clear hcz11_2 | clear hcz11_3 | clear hcz13_0 | clear hcz13_1 | clear hcz13_2 | clear hcz13_3 | clear hcz15_0 | clear hcz15_1 | clear hcz15_2 | clear hcz15_3 | clear hcz17_0 | clear hcz17_1 | clear hcz17_2 | clear hcz17_3 | clear hcz18_0 | clear hcz18_1 | clear hcz18_2 | clear hcz18_3 | clear hcz5_0 | clear hcz5_1 | clear hcz5_2 | clear hcz5_3 | clear hcz7_0 | clear hcz7_1 | clear hcz7_2 | clear hcz7_3 | clear hcz9_0 | clear hcz9_1 | clear hcz9_2 | clear hcz9_3 | clear hfz11_0 | clear hfz11_1 | clear hfz11_2 | clear hfz11_3 | clear hfz13_0 | clear hfz13_1 | clear hfz13_2 | clear hfz13_3 | clear hfz15_0 | clear hfz15_1 | clear hfz15_2 | clear hfz15_3 | clear hfz17_0 | clear hfz17_1 | clear hfz17_2 | clear hfz17_3 | clear hfz18_0 | clear hfz18_1 | clear hfz18_2 | clear hfz18_3 | clear hfz5_0 | clear hfz5_1 | clear hfz5_2 | clear hfz5_3 | clear hfz7_0 | clear hfz7_1 | clear hfz7_2 | clear hfz7_3 | clear hfz9_0 | clear hfz9_1 | clear hfz9_2 | clear hfz9_3
  obtain ⟨kq, x46_1, rfl, HA, HJ1, BK206, HB⟩ := hcut
  cases kq with
  | zero => exact absurd HA.out (by simp [lombardref08_Check.j0])
  | succ kj1 =>
   have H := HA.out
   clear HA
   simp only [lombardref08_Check.j0] at H
   by_cases c19 : x46_1 = true
   ·subst c19
    have H1 : (some 2) = some r := by rw [if_pos rfl] at H; exact H
    clear H
    have H := H1
    clear H1
    obtain rfl := Option.some.inj H
    go_wp2
    go_ret
    exact ⟨by first | rfl | (simp [errW_none, errW_some] <;> rfl) | (simp [*, errW_none, errW_some] <;> rfl), by repeat (first | (with_reducible first | exact HB.out | apply below_alloc | apply pw_below_drewN | apply below_drew1 | refine below_set ?_ GE206.out) | exact HB.out)⟩
   ·replace c19 := Bool.eq_false_iff.mpr c19
    subst c19
    have H1 : (lombardref08_Check.l0 kj1 l0_2 (l0_2.length : Int) 0) = some r := by rw [if_neg (show ¬ (false = true) by decide)] at H; exact H
    clear H
    have H := H1
    clear H1
    have H' := Aside0.mk H
    clear H
    have hcz20_0 := (blk_cell BK206.out 0).trans rfl
    have hcz20_1 := (blk_cell BK206.out 1).trans rfl
    have hcz20_2 := (blk_cell BK206.out 2).trans rfl
    have hcz20_3 := (blk_cell BK206.out 3).trans rfl
    have hfz20_0 := blk_frozen BK206.out 0
    have hfz20_1 := blk_frozen BK206.out 1
    have hfz20_2 := blk_frozen BK206.out 2
    have hfz20_3 := blk_frozen BK206.out 3
    go_wp2
    go_loopg [50] kj1 (fun kq v50 w' => ∃ (x50_2 : Int), v50 = .int .i64 x50_2 ∧ Aside0 (lombardref08_Check.l0 kq l0_2 (l0_2.length : Int) x50_2 = some r) ∧ Aside0 (kq ≤ kj1) ∧ Aside0 (w'.heap[gb206]? = some (.cells #[.int .i64 a0_0, .int .i64 a0_1, (.slice A0_2 l0_2.length c0_2), .int .i64 a0_3] 24 (0, 0))) ∧ Aside0 (Below w.heap.size w w'))
    case atStart => exact ⟨(0), (by first | rfl | (simp; done) | (simp [*]; done)), H', ⟨Nat.le_refl _⟩, ⟨by (with_reducible repeat (first | refine blk_drewN ?_ _ | refine blk_drew ?_ | refine blk_alloc ?_ _)); exact BK206.out⟩, ⟨by repeat (first | (with_reducible first | exact HB.out | apply below_alloc | apply pw_below_drewN | apply below_drew1 | refine below_set ?_ GE206.out) | exact HB.out)⟩⟩
    case round =>
     clear H'
     repeat first | clear c1 | clear p2 | clear c4 | clear c4b0 | clear c6 | clear c6b0 | clear c8 | clear c8b0 | clear c10 | clear c10b0 | clear c12 | clear c12b0 | clear c14 | clear c14b0 | clear c16 | clear c16b0 | clear c16b1 | clear c19 | clear hcz11_0 | clear hcz11_1 | clear hcz11_2 | clear hcz11_3 | clear hcz13_0 | clear hcz13_1 | clear hcz13_2 | clear hcz13_3 | clear hcz15_0 | clear hcz15_1 | clear hcz15_2 | clear hcz15_3 | clear hcz17_0 | clear hcz17_1 | clear hcz17_2 | clear hcz17_3 | clear hcz18_0 | clear hcz18_1 | clear hcz18_2 | clear hcz18_3 | clear hcz20_0 | clear hcz20_1 | clear hcz20_2 | clear hcz20_3 | clear hcz5_0 | clear hcz5_1 | clear hcz5_2 | clear hcz5_3 | clear hcz7_0 | clear hcz7_1 | clear hcz7_2 | clear hcz7_3 | clear hcz9_0 | clear hcz9_1 | clear hcz9_2 | clear hcz9_3 | clear hfz11_0 | clear hfz11_1 | clear hfz11_2 | clear hfz11_3 | clear hfz13_0 | clear hfz13_1 | clear hfz13_2 | clear hfz13_3 | clear hfz15_0 | clear hfz15_1 | clear hfz15_2 | clear hfz15_3 | clear hfz17_0 | clear hfz17_1 | clear hfz17_2 | clear hfz17_3 | clear hfz18_0 | clear hfz18_1 | clear hfz18_2 | clear hfz18_3 | clear hfz20_0 | clear hfz20_1 | clear hfz20_2 | clear hfz20_3 | clear hfz5_0 | clear hfz5_1 | clear hfz5_2 | clear hfz5_3 | clear hfz7_0 | clear hfz7_1 | clear hfz7_2 | clear hfz7_3 | clear hfz9_0 | clear hfz9_1 | clear hfz9_2 | clear hfz9_3 | clear p2
     obtain ⟨x50_2, rfl, HA, HK2, BK206, HB⟩ := hrel
     cases gk with
     | zero => exact absurd HA.out (by simp [lombardref08_Check.l0])
     | succ k2 =>
      have H := HA.out
      clear HA
      simp only [lombardref08_Check.l0] at H
      by_cases c21 : x50_2 < (l0_2.length : Int)
      ·rw [if_pos c21] at H
       have c21b0 : decide (x50_2 < (l0_2.length : Int)) = true := decide_eq_true c21
       clear c21
       by_cases c22 : 0 ≤ x50_2
       ·rw [if_pos c22] at H
        have c22b0 : decide (0 ≤ x50_2) = true := decide_eq_true c22
        clear c22
        by_cases c23 : x50_2 < (l0_2.length : Int)
        ·rw [if_pos c23] at H
         have c23b0 : decide (x50_2 < (l0_2.length : Int)) = true := decide_eq_true c23
         clear c23
         have HC24 := Aside0.mk H
         clear H
         have p207 : 0 ≤ (x50_2 : Int) := of_decide_eq_true (by first | (with_reducible assumption) | assumption)
         have q207 : x50_2 < (l0_2.length : Int) := of_decide_eq_true (by first | (with_reducible assumption) | assumption)
         obtain ⟨ad207, e207, hx207_0⟩ := Kd.at_int HR0_2.out x50_2 p207 q207
         cases e207
         try replace hx207_0 := (HB.out.cell (World.block_lt_of_cell? w _ hx207_0)).trans hx207_0
         replace p207 := eq_true p207
         replace q207 := eq_true q207
         go_upto_region 6 with (fail)
         have H := HC24.out
         clear HC24
         by_cases c25 : (rd l0_2 x50_2) < 0
         ·rw [if_pos c25] at H
          have c25b0 : decide ((rd l0_2 x50_2) < 0) = true := decide_eq_true c25
          clear c25
          obtain rfl := Option.some.inj H
          go_wp2
          go_ret
          exact ⟨by first | rfl | (simp [errW_none, errW_some] <;> rfl) | (simp [*, errW_none, errW_some] <;> rfl), by repeat (first | (with_reducible first | exact HB.out | apply below_alloc | apply pw_below_drewN | apply below_drew1 | refine below_set ?_ GE206.out) | exact HB.out)⟩
         ·rw [if_neg c25] at H
          have c25b0 : decide ((rd l0_2 x50_2) < 0) = false := decide_eq_false c25
          clear c25
          by_cases c26 : (rd l0_2 x50_2) > 1000000000000
          ·rw [if_pos c26] at H
           have c26b0 : decide (1000000000000 < (rd l0_2 x50_2)) = true := decide_eq_true c26
           clear c26
           obtain rfl := Option.some.inj H
           go_wp2
           go_ret
           exact ⟨by first | rfl | (simp [errW_none, errW_some] <;> rfl) | (simp [*, errW_none, errW_some] <;> rfl), by repeat (first | (with_reducible first | exact HB.out | apply below_alloc | apply pw_below_drewN | apply below_drew1 | refine below_set ?_ GE206.out) | exact HB.out)⟩
          ·rw [if_neg c26] at H
           have c26b0 : decide (1000000000000 < (rd l0_2 x50_2)) = false := decide_eq_false c26
           clear c26
           have H' := Aside0.mk H
           clear H
           go_wp2
           go_roundg k2
           case measure => have := HJ1.out; have := HK2.out; omega
           case rel => exact ⟨(wrap64 (x50_2 + 1)), (by first | rfl | (simp; done) | (simp [*]; done)), H', ⟨by have := HJ1.out; have := HK2.out; omega⟩, ⟨by (with_reducible repeat (first | refine blk_drewN ?_ _ | refine blk_drew ?_ | refine blk_alloc ?_ _)); exact BK206.out⟩, ⟨by repeat (first | (with_reducible first | exact HB.out | apply below_alloc | apply pw_below_drewN | apply below_drew1 | refine below_set ?_ GE206.out) | exact HB.out)⟩⟩
        ·rw [if_neg c23] at H
         exact absurd H (by simp)
       ·rw [if_neg c22] at H
        exact absurd H (by simp)
      ·rw [if_neg c21] at H
       have c21b0 : decide (x50_2 < (l0_2.length : Int)) = false := decide_eq_false c21
       clear c21
       obtain rfl := Option.some.inj H
       go_wp2
       go_ret
       exact ⟨by first | rfl | (simp [errW_none, errW_some] <;> rfl) | (simp [*, errW_none, errW_some] <;> rfl), by repeat (first | (with_reducible first | exact HB.out | apply below_alloc | apply pw_below_drewN | apply below_drew1 | refine below_set ?_ GE206.out) | exact HB.out)⟩

end Go.Proofs.Ytchpeobenlnemaa.S
