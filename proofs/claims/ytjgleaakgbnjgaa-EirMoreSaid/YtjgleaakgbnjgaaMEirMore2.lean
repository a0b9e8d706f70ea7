/- Texts of the statement EirMoreSaid, laid together. Conditions: none beyond those that each theorem names. -/
import Derived.Test.YtjgleaakgbnjgaaSx0
import Derived.Test.YtjgleaakgbnjgaaMEirMore3
import Derived.Test.YtjgleaakgbnjgaaSxRateMay
import Derived.Calls
import Derived.StepT
import Derived.Laws.Sem
import GoSem.Dispatch
set_option linter.unusedSimpArgs false
set_option linter.unusedVariables false
section
namespace Go.Proofs.Ytjgleaakgbnjgaa.S
open Go.RowKit Go.Proofs.YtjgleaakgbnjgaaW.PrintWords Go.Proofs.YtjgleaakgbnjgaaW.PrintLast Go.Proofs.YtjgleaakgbnjgaaW.PrintMore
attribute [local go_sem] max2_int min2_int max_two min_two max_three min_three max_four min_four
attribute [local go_sem] XWalk.cell2
def eir_Fits.f (k : Nat) (a0 : Int) (l1 : List Int) (a2 : Int) : Option (Bool) := (eir_may.f k a0 l1).bind fun t183 => (if t183 = true then ((rate_May.f a2).bind fun t184 => (if t184 = true then (if a2 < 10000000000000 then ((eir_covers.f k a0 l1 a2).bind fun t185 => (if t185 = true then ((eir_covers.f k a0 l1 (wrap64 (a2 + 1))).bind fun t186 => (some (!t186))) else (some false))) else (some false)) else (some false))) else (some false))
set_option maxHeartbeats 8000000 in
set_option maxRecDepth 100000 in
theorem eir_Fits.calls (k : Nat) (a0 : Int) (A1 : Option Addr) (c1 : Nat) (l1 : List Int) (a2 : Int) (r : Bool) (w : World) (hr1 : Kd.C (Kd.int .i64) w A1 l1.length l1) (hc1 : l1.length ≤ c1) (h : eir_Fits.f k a0 l1 a2 = some r) :
  Calls Star.prog 11 #[.int .i64 a0, .slice A1 l1.length c1, .int .i64 a2] w fun e w' => e = .returned (.bool r) ∧ Below w.heap.size w w' := by
 have HR1 := Aside0.mk hr1
 have HC1 := Aside0.mk hc1
 clear hr1 hc1
 have HB := Aside0.mk (Below.refl w.heap.size w)
 have H : ((eir_may.f k a0 l1).bind fun t183 => (if t183 = true then ((rate_May.f a2).bind fun t184 => (if t184 = true then (if a2 < 10000000000000 then ((eir_covers.f k a0 l1 a2).bind fun t185 => (if t185 = true then ((eir_covers.f k a0 l1 (wrap64 (a2 + 1))).bind fun t186 => (some (!t186))) else (some false))) else (some false)) else (some false))) else (some false))) = some r := h
 clear h
 replace H := Option.bind_eq_some_iff.mp H
 obtain ⟨t183, A40, H⟩ := H
 replace H : (if t183 = true then ((rate_May.f a2).bind fun t184 => (if t184 = true then (if a2 < 10000000000000 then ((eir_covers.f k a0 l1 a2).bind fun t185 => (if t185 = true then ((eir_covers.f k a0 l1 (wrap64 (a2 + 1))).bind fun t186 => (some (!t186))) else (some false))) else (some false)) else (some false))) else (some false)) = some r := H
 have A4 := Aside0.mk A40
 clear A40
 by_cases c5 : t183 = true
 ·subst c5
  have H1 : ((rate_May.f a2).bind fun t184 => (if t184 = true then (if a2 < 10000000000000 then ((eir_covers.f k a0 l1 a2).bind fun t185 => (if t185 = true then ((eir_covers.f k a0 l1 (wrap64 (a2 + 1))).bind fun t186 => (some (!t186))) else (some false))) else (some false)) else (some false))) = some r := by rw [if_pos rfl] at H; exact H
  clear H
  have H := H1
  clear H1
  replace H := Option.bind_eq_some_iff.mp H
  obtain ⟨t184, A60, H⟩ := H
  replace H : (if t184 = true then (if a2 < 10000000000000 then ((eir_covers.f k a0 l1 a2).bind fun t185 => (if t185 = true then ((eir_covers.f k a0 l1 (wrap64 (a2 + 1))).bind fun t186 => (some (!t186))) else (some false))) else (some false)) else (some false)) = some r := H
  have A6 := Aside0.mk A60
  clear A60
  by_cases c7 : t184 = true
  ·subst c7
   have H1 : (if a2 < 10000000000000 then ((eir_covers.f k a0 l1 a2).bind fun t185 => (if t185 = true then ((eir_covers.f k a0 l1 (wrap64 (a2 + 1))).bind fun t186 => (some (!t186))) else (some false))) else (some false)) = some r := by rw [if_pos rfl] at H; exact H
   clear H
   have H := H1
   clear H1
   by_cases c8 : a2 < 10000000000000
   ·rw [if_pos c8] at H
    have c8b0 : decide (a2 < 10000000000000) = true := decide_eq_true c8
    clear c8
    replace H := Option.bind_eq_some_iff.mp H
    obtain ⟨t185, A90, H⟩ := H
    replace H : (if t185 = true then ((eir_covers.f k a0 l1 (wrap64 (a2 + 1))).bind fun t186 => (some (!t186))) else (some false)) = some r := H
    have A9 := Aside0.mk A90
    clear A90
    by_cases c10 : t185 = true
    ·subst c10
     have H1 : ((eir_covers.f k a0 l1 (wrap64 (a2 + 1))).bind fun t186 => (some (!t186))) = some r := by rw [if_pos rfl] at H; exact H
     clear H
     have H := H1
     clear H1
     replace H := Option.bind_eq_some_iff.mp H
     obtain ⟨t186, A110, H⟩ := H
     replace H : (some (!t186)) = some r := H
     have A11 := Aside0.mk A110
     clear A110
     obtain rfl := Option.some.inj H
     go_enter Star.func11, Try.ntmps11
     go_wp2_with (first | ((with_reducible refine gate_callee (f := 22) rfl ?_); refine goesL_ (some 9) rfl rfl Star.func22 (by kernel_rfl) rfl #[.int .i64 a0, .slice A1 l1.length c1] rfl (by (try simp only [List.map_toArray, List.map_cons, List.map_nil]); first | done | rfl | (simp only [List.length_drop, List.length_take]; rfl)) ?_; (with_reducible refine (eir_may.calls k a0 _ _ l1 true _ ?side1 ?side2 A4.out).mono ?_); (case side1 => repeat (first | exact HR1.out | (with_reducible refine Kd.C_alloc ?_ _) | (with_reducible refine Kd.C_drewN ?_ _) | (with_reducible refine Kd.C_drew ?_))); (case side2 => exact HC1.out); rintro e w' ⟨rfl, ⟨nd, rfl⟩⟩; refine ⟨_, rfl, ?_⟩) | (go_at_call 26; (with_reducible refine (rate_May.calls a2 true _ A6.out).mono ?_); rintro e w' ⟨rfl, ⟨nd, rfl⟩⟩) | (go_at_call 24; (with_reducible refine (eir_covers.calls k a0 _ _ l1 a2 true _ ?side1 ?side2 A9.out).mono ?_); (case side1 => repeat (first | exact HR1.out | (with_reducible refine Kd.C_alloc ?_ _) | (with_reducible refine Kd.C_drewN ?_ _) | (with_reducible refine Kd.C_drew ?_))); (case side2 => exact HC1.out); rintro e w12 ⟨rfl, hb⟩; have n0_ := Aside0.mk (below_step (by repeat (first | (with_reducible first | exact HB.out | apply below_alloc | apply pw_below_drewN | apply below_drew1) | exact HB.out)) hb); clear HB; have HB := n0_; clear n0_; (try clear hb); (try clear hb2); (try clear hk); (try clear hi)) | (go_at_call 24; (with_reducible refine (eir_covers.calls k a0 _ _ l1 (wrap64 (a2 + 1)) t186 _ ?side1 ?side2 A11.out).mono ?_); (case side1 => repeat (first | exact (Kd.C_below HR1.out HB.out) | (with_reducible refine Kd.C_alloc ?_ _) | (with_reducible refine Kd.C_drewN ?_ _) | (with_reducible refine Kd.C_drew ?_))); (case side2 => exact HC1.out); rintro e w13 ⟨rfl, hb⟩; have n0_ := Aside0.mk (below_step (by repeat (first | (with_reducible first | exact HB.out | apply below_alloc | apply pw_below_drewN | apply below_drew1) | exact HB.out)) hb); clear HB; have HB := n0_; clear n0_; (try clear hb); (try clear hb2); (try clear hk); (try clear hi)))
     go_ret
     exact ⟨by first | rfl | (simp [errW_none, errW_some] <;> rfl) | (simp [*, errW_none, errW_some] <;> rfl), by repeat (first | (with_reducible first | exact HB.out | apply below_alloc | apply pw_below_drewN | apply below_drew1) | exact HB.out)⟩
    ·replace c10 := Bool.eq_false_iff.mpr c10
     subst c10
     have H1 : (some false) = some r := by rw [if_neg (show ¬ (false = true) by decide)] at H; exact H
     clear H
     have H := H1
     clear H1
     obtain rfl := Option.some.inj H
     go_enter Star.func11, Try.ntmps11
     go_wp2_with (first | ((with_reducible refine gate_callee (f := 22) rfl ?_); refine goesL_ (some 9) rfl rfl Star.func22 (by kernel_rfl) rfl #[.int .i64 a0, .slice A1 l1.length c1] rfl (by (try simp only [List.map_toArray, List.map_cons, List.map_nil]); first | done | rfl | (simp only [List.length_drop, List.length_take]; rfl)) ?_; (with_reducible refine (eir_may.calls k a0 _ _ l1 true _ ?side1 ?side2 A4.out).mono ?_); (case side1 => repeat (first | exact HR1.out | (with_reducible refine Kd.C_alloc ?_ _) | (with_reducible refine Kd.C_drewN ?_ _) | (with_reducible refine Kd.C_drew ?_))); (case side2 => exact HC1.out); rintro e w' ⟨rfl, ⟨nd, rfl⟩⟩; refine ⟨_, rfl, ?_⟩) | (go_at_call 26; (with_reducible refine (rate_May.calls a2 true _ A6.out).mono ?_); rintro e w' ⟨rfl, ⟨nd, rfl⟩⟩) | (go_at_call 24; (with_reducible refine (eir_covers.calls k a0 _ _ l1 a2 false _ ?side1 ?side2 A9.out).mono ?_); (case side1 => repeat (first | exact HR1.out | (with_reducible refine Kd.C_alloc ?_ _) | (with_reducible refine Kd.C_drewN ?_ _) | (with_reducible refine Kd.C_drew ?_))); (case side2 => exact HC1.out); rintro e w14 ⟨rfl, hb⟩; have n0_ := Aside0.mk (below_step (by repeat (first | (with_reducible first | exact HB.out | apply below_alloc | apply pw_below_drewN | apply below_drew1) | exact HB.out)) hb); clear HB; have HB := n0_; clear n0_; (try clear hb); (try clear hb2); (try clear hk); (try clear hi)))
     go_ret
     exact ⟨by first | rfl | (simp [errW_none, errW_some] <;> rfl) | (simp [*, errW_none, errW_some] <;> rfl), by repeat (first | (with_reducible first | exact HB.out | apply below_alloc | apply pw_below_drewN | apply below_drew1) | exact HB.out)⟩
   ·rw [if_neg c8] at H
    have c8b0 : decide (a2 < 10000000000000) = false := decide_eq_false c8
    clear c8
    obtain rfl := Option.some.inj H
    go_enter Star.func11, Try.ntmps11
    go_wp2_with (first | ((with_reducible refine gate_callee (f := 22) rfl ?_); refine goesL_ (some 9) rfl rfl Star.func22 (by kernel_rfl) rfl #[.int .i64 a0, .slice A1 l1.length c1] rfl (by (try simp only [List.map_toArray, List.map_cons, List.map_nil]); first | done | rfl | (simp only [List.length_drop, List.length_take]; rfl)) ?_; (with_reducible refine (eir_may.calls k a0 _ _ l1 true _ ?side1 ?side2 A4.out).mono ?_); (case side1 => repeat (first | exact HR1.out | (with_reducible refine Kd.C_alloc ?_ _) | (with_reducible refine Kd.C_drewN ?_ _) | (with_reducible refine Kd.C_drew ?_))); (case side2 => exact HC1.out); rintro e w' ⟨rfl, ⟨nd, rfl⟩⟩; refine ⟨_, rfl, ?_⟩) | (go_at_call 26; (with_reducible refine (rate_May.calls a2 true _ A6.out).mono ?_); rintro e w' ⟨rfl, ⟨nd, rfl⟩⟩))
    go_ret
    exact ⟨by first | rfl | (simp [errW_none, errW_some] <;> rfl) | (simp [*, errW_none, errW_some] <;> rfl), by repeat (first | (with_reducible first | exact HB.out | apply below_alloc | apply pw_below_drewN | apply below_drew1) | exact HB.out)⟩
  ·replace c7 := Bool.eq_false_iff.mpr c7
   subst c7
   have H1 : (some false) = some r := by rw [if_neg (show ¬ (false = true) by decide)] at H; exact H
   clear H
   have H := H1
   clear H1
   obtain rfl := Option.some.inj H
   go_enter Star.func11, Try.ntmps11
   go_wp2_with (first | ((with_reducible refine gate_callee (f := 22) rfl ?_); refine goesL_ (some 9) rfl rfl Star.func22 (by kernel_rfl) rfl #[.int .i64 a0, .slice A1 l1.length c1] rfl (by (try simp only [List.map_toArray, List.map_cons, List.map_nil]); first | done | rfl | (simp only [List.length_drop, List.length_take]; rfl)) ?_; (with_reducible refine (eir_may.calls k a0 _ _ l1 true _ ?side1 ?side2 A4.out).mono ?_); (case side1 => repeat (first | exact HR1.out | (with_reducible refine Kd.C_alloc ?_ _) | (with_reducible refine Kd.C_drewN ?_ _) | (with_reducible refine Kd.C_drew ?_))); (case side2 => exact HC1.out); rintro e w' ⟨rfl, ⟨nd, rfl⟩⟩; refine ⟨_, rfl, ?_⟩) | (go_at_call 26; (with_reducible refine (rate_May.calls a2 false _ A6.out).mono ?_); rintro e w' ⟨rfl, ⟨nd, rfl⟩⟩))
   go_ret
   exact ⟨by first | rfl | (simp [errW_none, errW_some] <;> rfl) | (simp [*, errW_none, errW_some] <;> rfl), by repeat (first | (with_reducible first | exact HB.out | apply below_alloc | apply pw_below_drewN | apply below_drew1) | exact HB.out)⟩
 ·replace c5 := Bool.eq_false_iff.mpr c5
  subst c5
  have H1 : (some false) = some r := by rw [if_neg (show ¬ (false = true) by decide)] at H; exact H
  clear H
  have H := H1
  clear H1
  obtain rfl := Option.some.inj H
  go_enter Star.func11, Try.ntmps11
  go_wp2_with (first | ((with_reducible refine gate_callee (f := 22) rfl ?_); refine goesL_ (some 9) rfl rfl Star.func22 (by kernel_rfl) rfl #[.int .i64 a0, .slice A1 l1.length c1] rfl (by (try simp only [List.map_toArray, List.map_cons, List.map_nil]); first | done | rfl | (simp only [List.length_drop, List.length_take]; rfl)) ?_; (with_reducible refine (eir_may.calls k a0 _ _ l1 false _ ?side1 ?side2 A4.out).mono ?_); (case side1 => repeat (first | exact HR1.out | (with_reducible refine Kd.C_alloc ?_ _) | (with_reducible refine Kd.C_drewN ?_ _) | (with_reducible refine Kd.C_drew ?_))); (case side2 => exact HC1.out); rintro e w' ⟨rfl, ⟨nd, rfl⟩⟩; refine ⟨_, rfl, ?_⟩))
  go_ret
  exact ⟨by first | rfl | (simp [errW_none, errW_some] <;> rfl) | (simp [*, errW_none, errW_some] <;> rfl), by repeat (first | (with_reducible first | exact HB.out | apply below_alloc | apply pw_below_drewN | apply below_drew1) | exact HB.out)⟩
end Go.Proofs.Ytjgleaakgbnjgaa.S
end

section
namespace Go.Proofs.Ytjgleaakgbnjgaa.S
open Go.RowKit Go.Proofs.YtjgleaakgbnjgaaW.PrintWords Go.Proofs.YtjgleaakgbnjgaaW.PrintLast Go.Proofs.YtjgleaakgbnjgaaW.PrintMore
attribute [local go_sem] max2_int min2_int max_two min_two max_three min_three max_four min_four
attribute [local go_sem] XWalk.cell2
def lombardlaw10_alive.f (k : Nat)  : Option (Bool) := (eir_Solve.f k 100 (([105] : List Int))).bind fun bt190 => ((eir_Solve.f k 1000 (([1] : List Int))).bind fun bt195 => (if bt190.2 = 0 then (if bt190.1 > 40000000000 then (if bt190.1 < 60000000000 then (if bt195.2 = 13 then ((eir_Fits.f k 100 (([105] : List Int)) bt190.1).bind fun t200 => (some t200)) else (some false)) else (some false)) else (some false)) else (some false)))
set_option maxHeartbeats 8000000 in
set_option maxRecDepth 100000 in
theorem lombardlaw10_alive.calls (k : Nat)  (r : Bool) (w : World) (h : lombardlaw10_alive.f k  = some r) :
  Calls Star.prog 9 #[] w fun e w' => e = .returned (.bool r) ∧ Below w.heap.size w w' := by
 have HB := Aside0.mk (Below.refl w.heap.size w)
 have H : ((eir_Solve.f k 100 (([105] : List Int))).bind fun bt190 => ((eir_Solve.f k 1000 (([1] : List Int))).bind fun bt195 => (if bt190.2 = 0 then (if bt190.1 > 40000000000 then (if bt190.1 < 60000000000 then (if bt195.2 = 13 then ((eir_Fits.f k 100 (([105] : List Int)) bt190.1).bind fun t200 => (some t200)) else (some false)) else (some false)) else (some false)) else (some false)))) = some r := h
 clear h
 obtain ⟨y187, hy187⟩ : ∃ y_ : List Int, y_ = (([105] : List Int)) := ⟨_, rfl⟩
 replace H : ((eir_Solve.f k 100 y187).bind fun bt190 => ((eir_Solve.f k 1000 (([1] : List Int))).bind fun bt195 => (if bt190.2 = 0 then (if bt190.1 > 40000000000 then (if bt190.1 < 60000000000 then (if bt195.2 = 13 then ((eir_Fits.f k 100 (([105] : List Int)) bt190.1).bind fun t200 => (some t200)) else (some false)) else (some false)) else (some false)) else (some false)))) = some r := by first | (rw [hy187]; with_reducible exact H) | (have H2_ := (Option.bind_some _ _).symm.trans H; rw [hy187]; with_reducible exact H2_) | (have H2_ := (Option.bind_some _ _).symm.trans H; with_reducible exact H2_) | with_reducible exact H | (rw [hy187]; exact H) | exact H
 have Ny187 := Aside0.mk hy187
 clear hy187
 replace H := Option.bind_eq_some_iff.mp H
 obtain ⟨⟨t190, t191⟩, A10, H⟩ := H
 replace H : ((eir_Solve.f k 1000 (([1] : List Int))).bind fun bt195 => (if t191 = 0 then (if t190 > 40000000000 then (if t190 < 60000000000 then (if bt195.2 = 13 then ((eir_Fits.f k 100 (([105] : List Int)) t190).bind fun t200 => (some t200)) else (some false)) else (some false)) else (some false)) else (some false))) = some r := H
 have A1 := Aside0.mk A10
 clear A10
 obtain ⟨y192, hy192⟩ : ∃ y_ : List Int, y_ = (([1] : List Int)) := ⟨_, rfl⟩
 replace H : ((eir_Solve.f k 1000 y192).bind fun bt195 => (if t191 = 0 then (if t190 > 40000000000 then (if t190 < 60000000000 then (if bt195.2 = 13 then ((eir_Fits.f k 100 (([105] : List Int)) t190).bind fun t200 => (some t200)) else (some false)) else (some false)) else (some false)) else (some false))) = some r := by first | (rw [hy192]; with_reducible exact H) | (have H2_ := (Option.bind_some _ _).symm.trans H; rw [hy192]; with_reducible exact H2_) | (have H2_ := (Option.bind_some _ _).symm.trans H; with_reducible exact H2_) | with_reducible exact H | (rw [hy192]; exact H) | exact H
 have Ny192 := Aside0.mk hy192
 clear hy192
 replace H := Option.bind_eq_some_iff.mp H
 obtain ⟨⟨t195, t196⟩, A20, H⟩ := H
 replace H : (if t191 = 0 then (if t190 > 40000000000 then (if t190 < 60000000000 then (if t196 = 13 then ((eir_Fits.f k 100 (([105] : List Int)) t190).bind fun t200 => (some t200)) else (some false)) else (some false)) else (some false)) else (some false)) = some r := H
 have A2 := Aside0.mk A20
 clear A20
 have HC3 := Aside0.mk H
 clear H
 go_enter Star.func9, Try.ntmps9
 go_upto_region 3 with (first | ((with_reducible refine gate_dst (N := 6) rfl ?_); (try (refine gate_guard (by rfl) ?_; dsimp only)); refine Kd.R_lit (Kd.int .i64) _ 2 ?hg (N := 6) ?hd (xs := ([105] : List Int)) (inner := [.int .i64 105]) (ok := fun _ => True) (okp := fun _ => True) ?hr ?hp (fun _ hk => hk) trivial (Below.refl _ _) (Nat.le_refl _) (by simp) ?_; (case hd => rfl); (case hg => rfl); (case hr => first | (go_simp; done) | (go_simp; rfl)); (case hp => exact (Reps.one (show Kd.M (Kd.int .i64) _ _ _ 105 [.int .i64 105] from rfl) (Reps.none _ _))); intro v188 w4 ho5 hb hg_ hnew_; clear hg_ hnew_; (first | rw [← Ny187.out] at ho5 | (simp only [Int.reduceToNat] at ho5; rw [← Ny187.out] at ho5)); have n0_ := Aside0.mk (Kd.R_lower ho5 (below_size (by repeat (first | (with_reducible first | exact HB.out | apply below_alloc | apply pw_below_drewN | apply below_drew1) | exact HB.out)))); have n1_ := Aside0.mk (below_step (by repeat (first | (with_reducible first | exact HB.out | apply below_alloc | apply pw_below_drewN | apply below_drew1) | exact HB.out)) hb); clear HB; have HO189 := n0_; have HB := n1_; clear n0_ n1_; clear hb ho5; obtain ⟨Ao6, co6, eo6⟩ := Kd.R_slice HO189.out; subst eo6) | ((with_reducible refine gate_callee (f := 10) rfl ?_); refine goesL_ (some 7) rfl rfl Star.func10 (by kernel_rfl) rfl #[.int .i64 100, .slice Ao6 y187.length co6] rfl (by (try simp only [List.map_toArray, List.map_cons, List.map_nil]); first | done | rfl | (simp only [List.length_drop, List.length_take]; rfl)) ?_; (with_reducible refine (eir_Solve.calls k 100 _ _ y187 t190 t191 _ ?side1 ?side2 A1.out).mono ?_); (case side1 => repeat (first | exact (Kd.R_reads' HO189.out).2.2 | (with_reducible refine Kd.C_alloc ?_ _) | (with_reducible refine Kd.C_drewN ?_ _) | (with_reducible refine Kd.C_drew ?_))); (case side2 => exact (Kd.R_reads' HO189.out).2.1); rintro e w7 ⟨rfl, hb⟩; refine ⟨_, rfl, ?_⟩; have n0_ := Aside0.mk (Kd.R_below (by (with_reducible repeat (first | apply Kd.R_alloc | apply Kd.R_drewN | apply Kd.R_drew)); exact HO189.out) hb); have n1_ := Aside0.mk (below_step (by repeat (first | (with_reducible first | exact HB.out | apply below_alloc | apply pw_below_drewN | apply below_drew1) | exact HB.out)) hb); clear HO189; clear HB; have HO189 := n0_; have HB := n1_; clear n0_ n1_; (try clear hb); (try clear hb2); (try clear hk); (try clear hi)) | ((with_reducible refine gate_dst (N := 11) rfl ?_); (try (refine gate_guard (by rfl) ?_; dsimp only)); refine Kd.R_lit (Kd.int .i64) _ 2 ?hg (N := 11) ?hd (xs := ([1] : List Int)) (inner := [.int .i64 1]) (ok := fun _ => True) (okp := fun _ => True) ?hr ?hp (fun _ hk => hk) trivial (Below.refl _ _) (Nat.le_refl _) (by simp) ?_; (case hd => rfl); (case hg => rfl); (case hr => first | (go_simp; done) | (go_simp; rfl)); (case hp => exact (Reps.one (show Kd.M (Kd.int .i64) _ _ _ 1 [.int .i64 1] from rfl) (Reps.none _ _))); intro v193 w8 ho9 hb hg_ hnew_; clear hg_ hnew_; (first | rw [← Ny192.out] at ho9 | (simp only [Int.reduceToNat] at ho9; rw [← Ny192.out] at ho9)); have n0_ := Aside0.mk (Kd.R_elder' (by (with_reducible repeat (first | apply Kd.R_alloc | apply Kd.R_drewN | apply Kd.R_drew)); exact HO189.out) (Kd.R_base ho9) hb); have n1_ := Aside0.mk (Kd.R_lower (Kd.R_new' ho9 (Kd.R_lt (by (with_reducible repeat (first | apply Kd.R_alloc | apply Kd.R_drewN | apply Kd.R_drew)); exact HO189.out))) (below_size (by repeat (first | (with_reducible first | exact HB.out | apply below_alloc | apply pw_below_drewN | apply below_drew1) | exact HB.out)))); have n2_ := Aside0.mk (below_step (by repeat (first | (with_reducible first | exact HB.out | apply below_alloc | apply pw_below_drewN | apply below_drew1) | exact HB.out)) hb); clear HO189; clear HB; have HO189 := n0_; have HO194 := n1_; have HB := n2_; clear n0_ n1_ n2_; clear hb ho9; obtain ⟨Ao10, co10, eo10⟩ := Kd.R_slice HO194.out; subst eo10) | ((with_reducible refine gate_callee (f := 10) rfl ?_); refine goesL_ (some 12) rfl rfl Star.func10 (by kernel_rfl) rfl #[.int .i64 1000, .slice Ao10 y192.length co10] rfl (by (try simp only [List.map_toArray, List.map_cons, List.map_nil]); first | done | rfl | (simp only [List.length_drop, List.length_take]; rfl)) ?_; (with_reducible refine (eir_Solve.calls k 1000 _ _ y192 t195 t196 _ ?side1 ?side2 A2.out).mono ?_); (case side1 => repeat (first | exact (Kd.R_reads' HO194.out).2.2 | (with_reducible refine Kd.C_alloc ?_ _) | (with_reducible refine Kd.C_drewN ?_ _) | (with_reducible refine Kd.C_drew ?_))); (case side2 => exact (Kd.R_reads' HO194.out).2.1); rintro e w11 ⟨rfl, hb⟩; refine ⟨_, rfl, ?_⟩; have n0_ := Aside0.mk (Kd.R_below (by (with_reducible repeat (first | apply Kd.R_alloc | apply Kd.R_drewN | apply Kd.R_drew)); exact HO189.out) hb); have n1_ := Aside0.mk (Kd.R_below (by (with_reducible repeat (first | apply Kd.R_alloc | apply Kd.R_drewN | apply Kd.R_drew)); exact HO194.out) hb); have n2_ := Aside0.mk (below_step (by repeat (first | (with_reducible first | exact HB.out | apply below_alloc | apply pw_below_drewN | apply below_drew1) | exact HB.out)) hb); clear HO189; clear HO194; clear HB; have HO189 := n0_; have HO194 := n1_; have HB := n2_; clear n0_ n1_ n2_; (try clear hb); (try clear hb2); (try clear hk); (try clear hi)))
 have H := HC3.out
 clear HC3
 by_cases c12 : t191 = 0
 ·rw [if_pos c12] at H
  have c12b0 : (t191 == 0) = true := beq_iff_eq.mpr c12
  have c12b1 : (t191 != 0) = false := bne_eq_false_iff_eq.mpr c12
  clear c12
  by_cases c13 : t190 > 40000000000
  ·rw [if_pos c13] at H
   have c13b0 : decide (40000000000 < t190) = true := decide_eq_true c13
   clear c13
   by_cases c14 : t190 < 60000000000
   ·rw [if_pos c14] at H
    have c14b0 : decide (t190 < 60000000000) = true := decide_eq_true c14
    clear c14
    by_cases c15 : t196 = 13
    ·rw [if_pos c15] at H
     have c15b0 : (t196 == 13) = true := beq_iff_eq.mpr c15
     have c15b1 : (t196 != 13) = false := bne_eq_false_iff_eq.mpr c15
     clear c15
     obtain ⟨y197, hy197⟩ : ∃ y_ : List Int, y_ = (([105] : List Int)) := ⟨_, rfl⟩
     replace H : ((eir_Fits.f k 100 y197 t190).bind fun t200 => (some t200)) = some r := by first | (rw [hy197]; with_reducible exact H) | (have H2_ := (Option.bind_some _ _).symm.trans H; rw [hy197]; with_reducible exact H2_) | (have H2_ := (Option.bind_some _ _).symm.trans H; with_reducible exact H2_) | with_reducible exact H | (rw [hy197]; exact H) | exact H
     have Ny197 := Aside0.mk hy197
     clear hy197
     replace H := Option.bind_eq_some_iff.mp H
     obtain ⟨t200, A160, H⟩ := H
     replace H : (some t200) = some r := H
     have A16 := Aside0.mk A160
     clear A160
     obtain rfl := Option.some.inj H
     go_wp2_with (first | ((with_reducible refine gate_dst (N := 30) rfl ?_); (try (refine gate_guard (by rfl) ?_; dsimp only)); refine Kd.R_lit (Kd.int .i64) _ 2 ?hg (N := 30) ?hd (xs := ([105] : List Int)) (inner := [.int .i64 105]) (ok := fun _ => True) (okp := fun _ => True) ?hr ?hp (fun _ hk => hk) trivial (Below.refl _ _) (Nat.le_refl _) (by simp) ?_; (case hd => rfl); (case hg => rfl); (case hr => first | (go_simp; done) | (go_simp; rfl)); (case hp => exact (Reps.one (show Kd.M (Kd.int .i64) _ _ _ 105 [.int .i64 105] from rfl) (Reps.none _ _))); intro v198 w17 ho18 hb hg_ hnew_; clear hg_ hnew_; (first | rw [← Ny197.out] at ho18 | (simp only [Int.reduceToNat] at ho18; rw [← Ny197.out] at ho18)); have n0_ := Aside0.mk (Kd.R_elder' (by (with_reducible repeat (first | apply Kd.R_alloc | apply Kd.R_drewN | apply Kd.R_drew)); exact HO189.out) (Kd.R_base ho18) hb); have n1_ := Aside0.mk (Kd.R_elder' (by (with_reducible repeat (first | apply Kd.R_alloc | apply Kd.R_drewN | apply Kd.R_drew)); exact HO194.out) (Kd.R_base ho18) hb); have n2_ := Aside0.mk (Kd.R_lower (Kd.R_new' (Kd.R_new' ho18 (Kd.R_lt (by (with_reducible repeat (first | apply Kd.R_alloc | apply Kd.R_drewN | apply Kd.R_drew)); exact HO189.out))) (Kd.R_lt (by (with_reducible repeat (first | apply Kd.R_alloc | apply Kd.R_drewN | apply Kd.R_drew)); exact HO194.out))) (below_size (by repeat (first | (with_reducible first | exact HB.out | apply below_alloc | apply pw_below_drewN | apply below_drew1) | exact HB.out)))); have n3_ := Aside0.mk (below_step (by repeat (first | (with_reducible first | exact HB.out | apply below_alloc | apply pw_below_drewN | apply below_drew1) | exact HB.out)) hb); clear HO189; clear HO194; clear HB; have HO189 := n0_; have HO194 := n1_; have HO199 := n2_; have HB := n3_; clear n0_ n1_ n2_ n3_; clear hb ho18; obtain ⟨Ao19, co19, eo19⟩ := Kd.R_slice HO199.out; subst eo19) | (go_at_call 11; (with_reducible refine (eir_Fits.calls k 100 _ _ y197 t190 t200 _ ?side1 ?side2 A16.out).mono ?_); (case side1 => repeat (first | exact (Kd.R_reads' HO199.out).2.2 | (with_reducible refine Kd.C_alloc ?_ _) | (with_reducible refine Kd.C_drewN ?_ _) | (with_reducible refine Kd.C_drew ?_))); (case side2 => exact (Kd.R_reads' HO199.out).2.1); rintro e w20 ⟨rfl, hb⟩; have n0_ := Aside0.mk (Kd.R_below (by (with_reducible repeat (first | apply Kd.R_alloc | apply Kd.R_drewN | apply Kd.R_drew)); exact HO189.out) hb); have n1_ := Aside0.mk (Kd.R_below (by (with_reducible repeat (first | apply Kd.R_alloc | apply Kd.R_drewN | apply Kd.R_drew)); exact HO194.out) hb); have n2_ := Aside0.mk (Kd.R_below (by (with_reducible repeat (first | apply Kd.R_alloc | apply Kd.R_drewN | apply Kd.R_drew)); exact HO199.out) hb); have n3_ := Aside0.mk (below_step (by repeat (first | (with_reducible first | exact HB.out | apply below_alloc | apply pw_below_drewN | apply below_drew1) | exact HB.out)) hb); clear HO189; clear HO194; clear HO199; clear HB; have HO189 := n0_; have HO194 := n1_; have HO199 := n2_; have HB := n3_; clear n0_ n1_ n2_ n3_; (try clear hb); (try clear hb2); (try clear hk); (try clear hi)))
     go_ret
     exact ⟨by first | rfl | (simp [errW_none, errW_some] <;> rfl) | (simp [*, errW_none, errW_some] <;> rfl), by repeat (first | (with_reducible first | exact HB.out | apply below_alloc | apply pw_below_drewN | apply below_drew1) | exact HB.out)⟩
    ·rw [if_neg c15] at H
     have c15b0 : (t196 == 13) = false := beq_eq_false_iff_ne.mpr c15
     have c15b1 : (t196 != 13) = true := bne_iff_ne.mpr c15
     obtain rfl := Option.some.inj H
     go_wp2
     go_ret
     exact ⟨by first | rfl | (simp [errW_none, errW_some] <;> rfl) | (simp [*, errW_none, errW_some] <;> rfl), by repeat (first | (with_reducible first | exact HB.out | apply below_alloc | apply pw_below_drewN | apply below_drew1) | exact HB.out)⟩
   ·rw [if_neg c14] at H
    have c14b0 : decide (t190 < 60000000000) = false := decide_eq_false c14
    clear c14
    obtain rfl := Option.some.inj H
    go_wp2
    go_ret
    exact ⟨by first | rfl | (simp [errW_none, errW_some] <;> rfl) | (simp [*, errW_none, errW_some] <;> rfl), by repeat (first | (with_reducible first | exact HB.out | apply below_alloc | apply pw_below_drewN | apply below_drew1) | exact HB.out)⟩
  ·rw [if_neg c13] at H
   have c13b0 : decide (40000000000 < t190) = false := decide_eq_false c13
   clear c13
   obtain rfl := Option.some.inj H
   go_wp2
   go_ret
   exact ⟨by first | rfl | (simp [errW_none, errW_some] <;> rfl) | (simp [*, errW_none, errW_some] <;> rfl), by repeat (first | (with_reducible first | exact HB.out | apply below_alloc | apply pw_below_drewN | apply below_drew1) | exact HB.out)⟩
 ·rw [if_neg c12] at H
  have c12b0 : (t191 == 0) = false := beq_eq_false_iff_ne.mpr c12
  have c12b1 : (t191 != 0) = true := bne_iff_ne.mpr c12
  obtain rfl := Option.some.inj H
  go_wp2
  go_ret
  exact ⟨by first | rfl | (simp [errW_none, errW_some] <;> rfl) | (simp [*, errW_none, errW_some] <;> rfl), by repeat (first | (with_reducible first | exact HB.out | apply below_alloc | apply pw_below_drewN | apply below_drew1) | exact HB.out)⟩
end Go.Proofs.Ytjgleaakgbnjgaa.S
end

section
namespace Go.Proofs.Ytjgleaakgbnjgaa.S
open Go.RowKit Go.Proofs.YtjgleaakgbnjgaaW.PrintWords Go.Proofs.YtjgleaakgbnjgaaW.PrintLast Go.Proofs.YtjgleaakgbnjgaaW.PrintMore
attribute [local go_sem] max2_int min2_int max_two min_two max_three min_three max_four min_four
attribute [local go_sem] XWalk.cell2
def lombardlaw10_EirMore.j0 : Nat → Int → Int → List Int → Int → Bool → Option (Bool)
 | 0, _, _, _, _, _ => none
 | k + 1, x3, x4, x5, x6, x31 => if x31 = true then (some true) else ((eir_Solve.f k x3 x5).bind fun bt213 => (if bt213.2 = 0 then ((eir_Solve.f k (wrap64 (x3 + (mn (mx x4 0) 1000000))) x5).bind fun bt215 => (if bt215.2 = 0 then (if bt215.1 > bt213.1 then (some false) else ((some (([] : List Int) : List Int)).bind fun y217 => (if y217.length + x5.length < 17592186044416 then ((some (y217 ++ x5 : List Int)).bind fun y220 => (if (y220.length : Int) = 0 then (none) else (if 0 ≤ (Int.tmod (wrap64 (x6)) (y220.length : Int)) then (if (Int.tmod (wrap64 (x6)) (y220.length : Int)) < (y220.length : Int) then ((eir_Solve.f k x3 (y220.set ((Int.tmod (wrap64 (x6)) (y220.length : Int)) : Int).toNat (wrap64 ((rd y220 (Int.tmod (wrap64 (x6)) (y220.length : Int))) + (mn (mx x4 0) 1000000))))).bind fun bt225 => (if bt225.2 = 0 then (some (decide (bt225.1 ≥ bt213.1))) else (some true))) else (none)) else (none)))) else (none)))) else (if bt215.2 = 13 then ((some (([] : List Int) : List Int)).bind fun y227 => (if y227.length + x5.length < 17592186044416 then ((some (y227 ++ x5 : List Int)).bind fun y230 => (if (y230.length : Int) = 0 then (none) else (if 0 ≤ (Int.tmod (wrap64 (x6)) (y230.length : Int)) then (if (Int.tmod (wrap64 (x6)) (y230.length : Int)) < (y230.length : Int) then ((eir_Solve.f k x3 (y230.set ((Int.tmod (wrap64 (x6)) (y230.length : Int)) : Int).toNat (wrap64 ((rd y230 (Int.tmod (wrap64 (x6)) (y230.length : Int))) + (mn (mx x4 0) 1000000))))).bind fun bt235 => (if bt235.2 = 0 then (some (decide (bt235.1 ≥ bt213.1))) else (some true))) else (none)) else (none)))) else (none))) else (if (wrap64 (x3 + (mn (mx x4 0) 1000000))) ≤ 10000000000000 then (some false) else ((some (([] : List Int) : List Int)).bind fun y237 => (if y237.length + x5.length < 17592186044416 then ((some (y237 ++ x5 : List Int)).bind fun y240 => (if (y240.length : Int) = 0 then (none) else (if 0 ≤ (Int.tmod (wrap64 (x6)) (y240.length : Int)) then (if (Int.tmod (wrap64 (x6)) (y240.length : Int)) < (y240.length : Int) then ((eir_Solve.f k x3 (y240.set ((Int.tmod (wrap64 (x6)) (y240.length : Int)) : Int).toNat (wrap64 ((rd y240 (Int.tmod (wrap64 (x6)) (y240.length : Int))) + (mn (mx x4 0) 1000000))))).bind fun bt245 => (if bt245.2 = 0 then (some (decide (bt245.1 ≥ bt213.1))) else (some true))) else (none)) else (none)))) else (none))))))) else (some true)))
def lombardlaw10_EirMore.f (k : Nat) (a0_0 : Int) (a0_1 : Int) (l0_2 : List Int) (a0_3 : Int) : Option (Bool) := (lombardlaw10_alive.f k).bind fun t212 => (if t212 = true then (if (l0_2.length : Int) > 60 then (lombardlaw10_EirMore.j0 k a0_0 a0_1 l0_2 a0_3 true) else (lombardlaw10_EirMore.j0 k a0_0 a0_1 l0_2 a0_3 ((l0_2.length : Int) == 0))) else (some false))
set_option maxHeartbeats 8000000 in
set_option maxRecDepth 100000 in
theorem lombardlaw10_EirMore.calls (k : Nat) (a0_0 : Int) (a0_1 : Int) (A0_2 : Option Addr) (c0_2 : Nat) (l0_2 : List Int) (a0_3 : Int) (r : Bool) (w : World) (hr0_2 : Kd.C (Kd.int .i64) w A0_2 l0_2.length l0_2) (hc0_2 : l0_2.length ≤ c0_2) (h : lombardlaw10_EirMore.f k a0_0 a0_1 l0_2 a0_3 = some r) :
  Calls Star.prog 4 #[.agg #[.int .i64 a0_0, .int .i64 a0_1, .slice A0_2 l0_2.length c0_2, .int .u8 a0_3]] w fun e w' => e = .returned (.bool r) ∧ Below w.heap.size w w' := by
 have hu30 := Star.underlying30
 have HR0_2 := Aside0.mk hr0_2
 have HC0_2 := Aside0.mk hc0_2
 clear hr0_2 hc0_2
 have HB := Aside0.mk (Below.refl w.heap.size w)
 have H : ((lombardlaw10_alive.f k).bind fun t212 => (if t212 = true then (if (l0_2.length : Int) > 60 then (lombardlaw10_EirMore.j0 k a0_0 a0_1 l0_2 a0_3 true) else (lombardlaw10_EirMore.j0 k a0_0 a0_1 l0_2 a0_3 ((l0_2.length : Int) == 0))) else (some false))) = some r := h
 clear h
 replace H := Option.bind_eq_some_iff.mp H
 obtain ⟨t212, A20, H⟩ := H
 replace H : (if t212 = true then (if (l0_2.length : Int) > 60 then (lombardlaw10_EirMore.j0 k a0_0 a0_1 l0_2 a0_3 true) else (lombardlaw10_EirMore.j0 k a0_0 a0_1 l0_2 a0_3 ((l0_2.length : Int) == 0))) else (some false)) = some r := H
 have A2 := Aside0.mk A20
 clear A20
 by_cases c3 : t212 = true
 ·subst c3
  have H1 : (if (l0_2.length : Int) > 60 then (lombardlaw10_EirMore.j0 k a0_0 a0_1 l0_2 a0_3 true) else (lombardlaw10_EirMore.j0 k a0_0 a0_1 l0_2 a0_3 ((l0_2.length : Int) == 0))) = some r := by rw [if_pos rfl] at H; exact H
  clear H
  have H := H1
  clear H1
  have HC4 := Aside0.mk H
  clear H
  go_enter Star.func4, Try.ntmps4
  go_upto_region 4 with (first | ((with_reducible refine gate_dst (N := 1) rfl ?_); (try (refine gate_guard (by rfl) ?_; dsimp only)); refine box_event ?hg (N := 1) ?hd (cs := #[.int .i64 a0_0, .int .i64 a0_1, .slice A0_2 l0_2.length c0_2, .int .u8 a0_3]) (t := 30) ?hr ?_; (case hd => rfl); (case hg => rfl); (case hr => first | (go_simp; done) | (go_simp; rfl)); intro gb211 hg w5 hbox hb; have n0_ := Aside0.mk (below_step (by repeat (first | (with_reducible first | exact HB.out | apply below_alloc | apply pw_below_drewN | apply below_drew1) | exact HB.out)) hb); have n1_ := Aside0.mk (hbox); have n2_ := Aside0.mk ((by rw [hg]; exact (below_size (by repeat (first | (with_reducible first | exact HB.out | apply below_alloc | apply pw_below_drewN | apply below_drew1) | exact HB.out))) : w.heap.size ≤ gb211)); have n3_ := Aside0.mk ((by rw [hg]; exact (below_size (by repeat (first | (with_reducible first | exact HB.out | apply below_alloc | apply pw_below_drewN | apply below_drew1) | exact HB.out))) : w.heap.size ≤ gb211)); clear HB; have HB := n0_; have BK211 := n1_; have GW211 := n2_; have GE211 := n3_; clear n0_ n1_ n2_ n3_; clear hb hbox hg) | (go_at_call 9; (with_reducible refine (lombardlaw10_alive.calls k  true _ A2.out).mono ?_); rintro e w6 ⟨rfl, hb⟩; have n0_ := Aside0.mk (blk_below (g := gb211) (o := .cells #[.int .i64 a0_0, .int .i64 a0_1, .slice A0_2 l0_2.length c0_2, .int .u8 a0_3] 30 (0, 0)) (by (with_reducible repeat (first | refine blk_drewN ?_ _ | refine blk_drew ?_ | refine blk_alloc ?_ _)); exact BK211.out) hb); have n1_ := Aside0.mk (below_step (by repeat (first | (with_reducible first | exact HB.out | apply below_alloc | apply pw_below_drewN | apply below_drew1 | refine below_set ?_ GE211.out) | exact HB.out)) hb); clear BK211; clear HB; have BK211 := n0_; have HB := n1_; clear n0_ n1_; (try clear hb); (try clear hb2); (try clear hk); (try clear hi); have hcz7_0 : w6.cell? ⟨gb211, 0, none⟩ = some (.int .i64 a0_0) := (blk_cell BK211.out 0).trans rfl; have hcz7_1 : w6.cell? ⟨gb211, 1, none⟩ = some (.int .i64 a0_1) := (blk_cell BK211.out 1).trans rfl; have hcz7_2 : w6.cell? ⟨gb211, 2, none⟩ = some (.slice A0_2 l0_2.length c0_2) := (blk_cell BK211.out 2).trans rfl; have hcz7_3 : w6.cell? ⟨gb211, 3, none⟩ = some (.int .u8 a0_3) := (blk_cell BK211.out 3).trans rfl; have hfz7_0 := blk_frozen BK211.out 0; have hfz7_1 := blk_frozen BK211.out 1; have hfz7_2 := blk_frozen BK211.out 2; have hfz7_3 := blk_frozen BK211.out 3))
  repeat (go_quiet (first | ((with_reducible refine gate_dst (N := 1) rfl ?_); (try (refine gate_guard (by rfl) ?_; dsimp only)); refine box_event ?hg (N := 1) ?hd (cs := #[.int .i64 a0_0, .int .i64 a0_1, .slice A0_2 l0_2.length c0_2, .int .u8 a0_3]) (t := 30) ?hr ?_; (case hd => rfl); (case hg => rfl); (case hr => first | (go_simp; done) | (go_simp; rfl)); intro gb211 hg w5 hbox hb; have n0_ := Aside0.mk (below_step (by repeat (first | (with_reducible first | exact HB.out | apply below_alloc | apply pw_below_drewN | apply below_drew1) | exact HB.out)) hb); have n1_ := Aside0.mk (hbox); have n2_ := Aside0.mk ((by rw [hg]; exact (below_size (by repeat (first | (with_reducible first | exact HB.out | apply below_alloc | apply pw_below_drewN | apply below_drew1) | exact HB.out))) : w.heap.size ≤ gb211)); have n3_ := Aside0.mk ((by rw [hg]; exact (below_size (by repeat (first | (with_reducible first | exact HB.out | apply below_alloc | apply pw_below_drewN | apply below_drew1) | exact HB.out))) : w.heap.size ≤ gb211)); clear HB; have HB := n0_; have BK211 := n1_; have GW211 := n2_; have GE211 := n3_; clear n0_ n1_ n2_ n3_; clear hb hbox hg) | (go_at_call 9; (with_reducible refine (lombardlaw10_alive.calls k  true _ A2.out).mono ?_); rintro e w6 ⟨rfl, hb⟩; have n0_ := Aside0.mk (blk_below (g := gb211) (o := .cells #[.int .i64 a0_0, .int .i64 a0_1, .slice A0_2 l0_2.length c0_2, .int .u8 a0_3] 30 (0, 0)) (by (with_reducible repeat (first | refine blk_drewN ?_ _ | refine blk_drew ?_ | refine blk_alloc ?_ _)); exact BK211.out) hb); have n1_ := Aside0.mk (below_step (by repeat (first | (with_reducible first | exact HB.out | apply below_alloc | apply pw_below_drewN | apply below_drew1 | refine below_set ?_ GE211.out) | exact HB.out)) hb); clear BK211; clear HB; have BK211 := n0_; have HB := n1_; clear n0_ n1_; (try clear hb); (try clear hb2); (try clear hk); (try clear hi); have hcz7_0 : w6.cell? ⟨gb211, 0, none⟩ = some (.int .i64 a0_0) := (blk_cell BK211.out 0).trans rfl; have hcz7_1 : w6.cell? ⟨gb211, 1, none⟩ = some (.int .i64 a0_1) := (blk_cell BK211.out 1).trans rfl; have hcz7_2 : w6.cell? ⟨gb211, 2, none⟩ = some (.slice A0_2 l0_2.length c0_2) := (blk_cell BK211.out 2).trans rfl; have hcz7_3 : w6.cell? ⟨gb211, 3, none⟩ = some (.int .u8 a0_3) := (blk_cell BK211.out 3).trans rfl; have hfz7_0 := blk_frozen BK211.out 0; have hfz7_1 := blk_frozen BK211.out 1; have hfz7_2 := blk_frozen BK211.out 2; have hfz7_3 := blk_frozen BK211.out 3)); go_upto_region 4 with (first | ((with_reducible refine gate_dst (N := 1) rfl ?_); (try (refine gate_guard (by rfl) ?_; dsimp only)); refine box_event ?hg (N := 1) ?hd (cs := #[.int .i64 a0_0, .int .i64 a0_1, .slice A0_2 l0_2.length c0_2, .int .u8 a0_3]) (t := 30) ?hr ?_; (case hd => rfl); (case hg => rfl); (case hr => first | (go_simp; done) | (go_simp; rfl)); intro gb211 hg w5 hbox hb; have n0_ := Aside0.mk (below_step (by repeat (first | (with_reducible first | exact HB.out | apply below_alloc | apply pw_below_drewN | apply below_drew1) | exact HB.out)) hb); have n1_ := Aside0.mk (hbox); have n2_ := Aside0.mk ((by rw [hg]; exact (below_size (by repeat (first | (with_reducible first | exact HB.out | apply below_alloc | apply pw_below_drewN | apply below_drew1) | exact HB.out))) : w.heap.size ≤ gb211)); have n3_ := Aside0.mk ((by rw [hg]; exact (below_size (by repeat (first | (with_reducible first | exact HB.out | apply below_alloc | apply pw_below_drewN | apply below_drew1) | exact HB.out))) : w.heap.size ≤ gb211)); clear HB; have HB := n0_; have BK211 := n1_; have GW211 := n2_; have GE211 := n3_; clear n0_ n1_ n2_ n3_; clear hb hbox hg) | (go_at_call 9; (with_reducible refine (lombardlaw10_alive.calls k  true _ A2.out).mono ?_); rintro e w6 ⟨rfl, hb⟩; have n0_ := Aside0.mk (blk_below (g := gb211) (o := .cells #[.int .i64 a0_0, .int .i64 a0_1, .slice A0_2 l0_2.length c0_2, .int .u8 a0_3] 30 (0, 0)) (by (with_reducible repeat (first | refine blk_drewN ?_ _ | refine blk_drew ?_ | refine blk_alloc ?_ _)); exact BK211.out) hb); have n1_ := Aside0.mk (below_step (by repeat (first | (with_reducible first | exact HB.out | apply below_alloc | apply pw_below_drewN | apply below_drew1 | refine below_set ?_ GE211.out) | exact HB.out)) hb); clear BK211; clear HB; have BK211 := n0_; have HB := n1_; clear n0_ n1_; (try clear hb); (try clear hb2); (try clear hk); (try clear hi); have hcz7_0 : w6.cell? ⟨gb211, 0, none⟩ = some (.int .i64 a0_0) := (blk_cell BK211.out 0).trans rfl; have hcz7_1 : w6.cell? ⟨gb211, 1, none⟩ = some (.int .i64 a0_1) := (blk_cell BK211.out 1).trans rfl; have hcz7_2 : w6.cell? ⟨gb211, 2, none⟩ = some (.slice A0_2 l0_2.length c0_2) := (blk_cell BK211.out 2).trans rfl; have hcz7_3 : w6.cell? ⟨gb211, 3, none⟩ = some (.int .u8 a0_3) := (blk_cell BK211.out 3).trans rfl; have hfz7_0 := blk_frozen BK211.out 0; have hfz7_1 := blk_frozen BK211.out 1; have hfz7_2 := blk_frozen BK211.out 2; have hfz7_3 := blk_frozen BK211.out 3)))
  (try simp only [Act.put, List.setIfInBounds_toArray, List.set_cons_zero, List.set_cons_succ])
  go_cut [31] (fun v31 wc => ∃ (kq : Nat) (x31_3 : Bool), v31 = .bool x31_3 ∧ Aside0 (lombardlaw10_EirMore.j0 kq a0_0 a0_1 l0_2 a0_3 x31_3 = some r) ∧ Aside0 (kq ≤ k) ∧ Aside0 (wc.heap[gb211]? = some (.cells #[.int .i64 a0_0, .int .i64 a0_1, (.slice A0_2 l0_2.length c0_2), .int .u8 a0_3] 30 (0, 0))) ∧ Aside0 (Below w.heap.size w wc))
  case first =>
   have H := HC4.out
   clear HC4
   by_cases c8 : (l0_2.length : Int) > 60
   ·rw [if_pos c8] at H
    have c8b0 : decide (60 < (l0_2.length : Int)) = true := decide_eq_true c8
    have c8b1 : decide (60 < l0_2.length) = true := decide_eq_true (by omega)
    clear c8
    (first | rw [c8b0] | (simp only [i64_w, i32_w]; rw [c8b0]) | skip)
    have H' := Aside0.mk H
    clear H
    go_wp2
    repeat (go_quiet (fail); try go_wp2)
    go_meet
    case rel => exact ⟨_, (true), (by first | rfl | (simp; done) | (simp [*]; done)), H', ⟨by first | omega | exact Nat.le_refl _⟩, ⟨by (with_reducible repeat (first | refine blk_drewN ?_ _ | refine blk_drew ?_ | refine blk_alloc ?_ _)); exact BK211.out⟩, ⟨by repeat (first | (with_reducible first | exact HB.out | apply below_alloc | apply pw_below_drewN | apply below_drew1 | refine below_set ?_ GE211.out) | exact HB.out)⟩⟩
   ·rw [if_neg c8] at H
    have c8b0 : decide (60 < (l0_2.length : Int)) = false := decide_eq_false c8
    have c8b1 : decide (60 < l0_2.length) = false := decide_eq_false (by omega)
    clear c8
    (first | rw [c8b0] | (simp only [i64_w, i32_w]; rw [c8b0]) | skip)
    have H' := Aside0.mk H
    clear H
    go_wp2
    repeat (go_quiet (fail); try go_wp2)
    go_meet
    case rel => exact ⟨_, (((l0_2.length : Int) == 0)), (by first | rfl | (simp; done) | (simp [*]; done)), H', ⟨by first | omega | exact Nat.le_refl _⟩, ⟨by (with_reducible repeat (first | refine blk_drewN ?_ _ | refine blk_drew ?_ | refine blk_alloc ?_ _)); exact BK211.out⟩, ⟨by repeat (first | (with_reducible first | exact HB.out | apply below_alloc | apply pw_below_drewN | apply below_drew1 | refine below_set ?_ GE211.out) | exact HB.out)⟩⟩
  case rest =>
   clear HC4
   try clear p2; try clear c3; try clear c4; try clear c8; try clear c8b0; try clear c8b1; try clear hcz7_0; try clear hcz7_1; try clear hcz7_2; try clear hcz7_3; try clear hfz7_0; try clear hfz7_1; try clear hfz7_2; try clear hfz7_3
   obtain ⟨kq, x31_3, rfl, HA, HJ3, BK211, HB⟩ := hcut
   cases kq with
   | zero => exact absurd HA.out (by simp [lombardlaw10_EirMore.j0])
   | succ kj3 =>
    have H := HA.out
    clear HA
    simp only [lombardlaw10_EirMore.j0] at H
    by_cases c9 : x31_3 = true
    ·subst c9
     have H1 : (some true) = some r := by rw [if_pos rfl] at H; exact H
     clear H
     have H := H1
     clear H1
     obtain rfl := Option.some.inj H
     go_wp2
     repeat (go_quiet (fail); try go_wp2)
     go_ret
     exact ⟨by first | rfl | (simp [errW_none, errW_some] <;> rfl) | (simp [*, errW_none, errW_some] <;> rfl), by repeat (first | (with_reducible first | exact HB.out | apply below_alloc | apply pw_below_drewN | apply below_drew1 | refine below_set ?_ GE211.out) | exact HB.out)⟩
    ·replace c9 := Bool.eq_false_iff.mpr c9
     subst c9
     have H1 : ((eir_Solve.f kj3 a0_0 l0_2).bind fun bt213 => (if bt213.2 = 0 then ((eir_Solve.f kj3 (wrap64 (a0_0 + (mn (mx a0_1 0) 1000000))) l0_2).bind fun bt215 => (if bt215.2 = 0 then (if bt215.1 > bt213.1 then (some false) else ((some (([] : List Int) : List Int)).bind fun y217 => (if y217.length + l0_2.length < 17592186044416 then ((some (y217 ++ l0_2 : List Int)).bind fun y220 => (if (y220.length : Int) = 0 then (none) else (if 0 ≤ (Int.tmod (wrap64 (a0_3)) (y220.length : Int)) then (if (Int.tmod (wrap64 (a0_3)) (y220.length : Int)) < (y220.length : Int) then ((eir_Solve.f kj3 a0_0 (y220.set ((Int.tmod (wrap64 (a0_3)) (y220.length : Int)) : Int).toNat (wrap64 ((rd y220 (Int.tmod (wrap64 (a0_3)) (y220.length : Int))) + (mn (mx a0_1 0) 1000000))))).bind fun bt225 => (if bt225.2 = 0 then (some (decide (bt225.1 ≥ bt213.1))) else (some true))) else (none)) else (none)))) else (none)))) else (if bt215.2 = 13 then ((some (([] : List Int) : List Int)).bind fun y227 => (if y227.length + l0_2.length < 17592186044416 then ((some (y227 ++ l0_2 : List Int)).bind fun y230 => (if (y230.length : Int) = 0 then (none) else (if 0 ≤ (Int.tmod (wrap64 (a0_3)) (y230.length : Int)) then (if (Int.tmod (wrap64 (a0_3)) (y230.length : Int)) < (y230.length : Int) then ((eir_Solve.f kj3 a0_0 (y230.set ((Int.tmod (wrap64 (a0_3)) (y230.length : Int)) : Int).toNat (wrap64 ((rd y230 (Int.tmod (wrap64 (a0_3)) (y230.length : Int))) + (mn (mx a0_1 0) 1000000))))).bind fun bt235 => (if bt235.2 = 0 then (some (decide (bt235.1 ≥ bt213.1))) else (some true))) else (none)) else (none)))) else (none))) else (if (wrap64 (a0_0 + (mn (mx a0_1 0) 1000000))) ≤ 10000000000000 then (some false) else ((some (([] : List Int) : List Int)).bind fun y237 => (if y237.length + l0_2.length < 17592186044416 then ((some (y237 ++ l0_2 : List Int)).bind fun y240 => (if (y240.length : Int) = 0 then (none) else (if 0 ≤ (Int.tmod (wrap64 (a0_3)) (y240.length : Int)) then (if (Int.tmod (wrap64 (a0_3)) (y240.length : Int)) < (y240.length : Int) then ((eir_Solve.f kj3 a0_0 (y240.set ((Int.tmod (wrap64 (a0_3)) (y240.length : Int)) : Int).toNat (wrap64 ((rd y240 (Int.tmod (wrap64 (a0_3)) (y240.length : Int))) + (mn (mx a0_1 0) 1000000))))).bind fun bt245 => (if bt245.2 = 0 then (some (decide (bt245.1 ≥ bt213.1))) else (some true))) else (none)) else (none)))) else (none))))))) else (some true))) = some r := by rw [if_neg (show ¬ (false = true) by decide)] at H; exact H
     clear H
     have H := H1
     clear H1
     replace H := Option.bind_eq_some_iff.mp H
     obtain ⟨⟨t213, t214⟩, A100, H⟩ := H
     replace H : (if t214 = 0 then ((eir_Solve.f kj3 (wrap64 (a0_0 + (mn (mx a0_1 0) 1000000))) l0_2).bind fun bt215 => (if bt215.2 = 0 then (if bt215.1 > t213 then (some false) else ((some (([] : List Int) : List Int)).bind fun y217 => (if y217.length + l0_2.length < 17592186044416 then ((some (y217 ++ l0_2 : List Int)).bind fun y220 => (if (y220.length : Int) = 0 then (none) else (if 0 ≤ (Int.tmod (wrap64 (a0_3)) (y220.length : Int)) then (if (Int.tmod (wrap64 (a0_3)) (y220.length : Int)) < (y220.length : Int) then ((eir_Solve.f kj3 a0_0 (y220.set ((Int.tmod (wrap64 (a0_3)) (y220.length : Int)) : Int).toNat (wrap64 ((rd y220 (Int.tmod (wrap64 (a0_3)) (y220.length : Int))) + (mn (mx a0_1 0) 1000000))))).bind fun bt225 => (if bt225.2 = 0 then (some (decide (bt225.1 ≥ t213))) else (some true))) else (none)) else (none)))) else (none)))) else (if bt215.2 = 13 then ((some (([] : List Int) : List Int)).bind fun y227 => (if y227.length + l0_2.length < 17592186044416 then ((some (y227 ++ l0_2 : List Int)).bind fun y230 => (if (y230.length : Int) = 0 then (none) else (if 0 ≤ (Int.tmod (wrap64 (a0_3)) (y230.length : Int)) then (if (Int.tmod (wrap64 (a0_3)) (y230.length : Int)) < (y230.length : Int) then ((eir_Solve.f kj3 a0_0 (y230.set ((Int.tmod (wrap64 (a0_3)) (y230.length : Int)) : Int).toNat (wrap64 ((rd y230 (Int.tmod (wrap64 (a0_3)) (y230.length : Int))) + (mn (mx a0_1 0) 1000000))))).bind fun bt235 => (if bt235.2 = 0 then (some (decide (bt235.1 ≥ t213))) else (some true))) else (none)) else (none)))) else (none))) else (if (wrap64 (a0_0 + (mn (mx a0_1 0) 1000000))) ≤ 10000000000000 then (some false) else ((some (([] : List Int) : List Int)).bind fun y237 => (if y237.length + l0_2.length < 17592186044416 then ((some (y237 ++ l0_2 : List Int)).bind fun y240 => (if (y240.length : Int) = 0 then (none) else (if 0 ≤ (Int.tmod (wrap64 (a0_3)) (y240.length : Int)) then (if (Int.tmod (wrap64 (a0_3)) (y240.length : Int)) < (y240.length : Int) then ((eir_Solve.f kj3 a0_0 (y240.set ((Int.tmod (wrap64 (a0_3)) (y240.length : Int)) : Int).toNat (wrap64 ((rd y240 (Int.tmod (wrap64 (a0_3)) (y240.length : Int))) + (mn (mx a0_1 0) 1000000))))).bind fun bt245 => (if bt245.2 = 0 then (some (decide (bt245.1 ≥ t213))) else (some true))) else (none)) else (none)))) else (none))))))) else (some true)) = some r := H
     have A10 := Aside0.mk A100
     clear A100
     by_cases c11 : t214 = 0
     ·rw [if_pos c11] at H
      have c11b0 : (t214 == 0) = true := beq_iff_eq.mpr c11
      have c11b1 : (t214 != 0) = false := bne_eq_false_iff_eq.mpr c11
      clear c11
      obtain ⟨ji12, hji12⟩ : ∃ j_ : Int, (mx a0_1 0) = j_ := ⟨_, rfl⟩
      replace H : ((eir_Solve.f kj3 (wrap64 (a0_0 + (mn (ji12) 1000000))) l0_2).bind fun bt215 => (if bt215.2 = 0 then (if bt215.1 > t213 then (some false) else ((some (([] : List Int) : List Int)).bind fun y217 => (if y217.length + l0_2.length < 17592186044416 then ((some (y217 ++ l0_2 : List Int)).bind fun y220 => (if (y220.length : Int) = 0 then (none) else (if 0 ≤ (Int.tmod (wrap64 (a0_3)) (y220.length : Int)) then (if (Int.tmod (wrap64 (a0_3)) (y220.length : Int)) < (y220.length : Int) then ((eir_Solve.f kj3 a0_0 (y220.set ((Int.tmod (wrap64 (a0_3)) (y220.length : Int)) : Int).toNat (wrap64 ((rd y220 (Int.tmod (wrap64 (a0_3)) (y220.length : Int))) + (mn (ji12) 1000000))))).bind fun bt225 => (if bt225.2 = 0 then (some (decide (bt225.1 ≥ t213))) else (some true))) else (none)) else (none)))) else (none)))) else (if bt215.2 = 13 then ((some (([] : List Int) : List Int)).bind fun y227 => (if y227.length + l0_2.length < 17592186044416 then ((some (y227 ++ l0_2 : List Int)).bind fun y230 => (if (y230.length : Int) = 0 then (none) else (if 0 ≤ (Int.tmod (wrap64 (a0_3)) (y230.length : Int)) then (if (Int.tmod (wrap64 (a0_3)) (y230.length : Int)) < (y230.length : Int) then ((eir_Solve.f kj3 a0_0 (y230.set ((Int.tmod (wrap64 (a0_3)) (y230.length : Int)) : Int).toNat (wrap64 ((rd y230 (Int.tmod (wrap64 (a0_3)) (y230.length : Int))) + (mn (ji12) 1000000))))).bind fun bt235 => (if bt235.2 = 0 then (some (decide (bt235.1 ≥ t213))) else (some true))) else (none)) else (none)))) else (none))) else (if (wrap64 (a0_0 + (mn (ji12) 1000000))) ≤ 10000000000000 then (some false) else ((some (([] : List Int) : List Int)).bind fun y237 => (if y237.length + l0_2.length < 17592186044416 then ((some (y237 ++ l0_2 : List Int)).bind fun y240 => (if (y240.length : Int) = 0 then (none) else (if 0 ≤ (Int.tmod (wrap64 (a0_3)) (y240.length : Int)) then (if (Int.tmod (wrap64 (a0_3)) (y240.length : Int)) < (y240.length : Int) then ((eir_Solve.f kj3 a0_0 (y240.set ((Int.tmod (wrap64 (a0_3)) (y240.length : Int)) : Int).toNat (wrap64 ((rd y240 (Int.tmod (wrap64 (a0_3)) (y240.length : Int))) + (mn (ji12) 1000000))))).bind fun bt245 => (if bt245.2 = 0 then (some (decide (bt245.1 ≥ t213))) else (some true))) else (none)) else (none)))) else (none))))))) = some r := by first | (rw [hji12] at H; exact H) | (simp only [hji12] at H ⊢; exact H)
      (try rw [hji12] at A10)
      have hji12_ : (if a0_1 < 0 then 0 else a0_1) = ji12 := hji12
      obtain ⟨ji13, hji13⟩ : ∃ j_ : Int, (mn (ji12) 1000000) = j_ := ⟨_, rfl⟩
      replace H : ((eir_Solve.f kj3 (wrap64 (a0_0 + (ji13))) l0_2).bind fun bt215 => (if bt215.2 = 0 then (if bt215.1 > t213 then (some false) else ((some (([] : List Int) : List Int)).bind fun y217 => (if y217.length + l0_2.length < 17592186044416 then ((some (y217 ++ l0_2 : List Int)).bind fun y220 => (if (y220.length : Int) = 0 then (none) else (if 0 ≤ (Int.tmod (wrap64 (a0_3)) (y220.length : Int)) then (if (Int.tmod (wrap64 (a0_3)) (y220.length : Int)) < (y220.length : Int) then ((eir_Solve.f kj3 a0_0 (y220.set ((Int.tmod (wrap64 (a0_3)) (y220.length : Int)) : Int).toNat (wrap64 ((rd y220 (Int.tmod (wrap64 (a0_3)) (y220.length : Int))) + (ji13))))).bind fun bt225 => (if bt225.2 = 0 then (some (decide (bt225.1 ≥ t213))) else (some true))) else (none)) else (none)))) else (none)))) else (if bt215.2 = 13 then ((some (([] : List Int) : List Int)).bind fun y227 => (if y227.length + l0_2.length < 17592186044416 then ((some (y227 ++ l0_2 : List Int)).bind fun y230 => (if (y230.length : Int) = 0 then (none) else (if 0 ≤ (Int.tmod (wrap64 (a0_3)) (y230.length : Int)) then (if (Int.tmod (wrap64 (a0_3)) (y230.length : Int)) < (y230.length : Int) then ((eir_Solve.f kj3 a0_0 (y230.set ((Int.tmod (wrap64 (a0_3)) (y230.length : Int)) : Int).toNat (wrap64 ((rd y230 (Int.tmod (wrap64 (a0_3)) (y230.length : Int))) + (ji13))))).bind fun bt235 => (if bt235.2 = 0 then (some (decide (bt235.1 ≥ t213))) else (some true))) else (none)) else (none)))) else (none))) else (if (wrap64 (a0_0 + (ji13))) ≤ 10000000000000 then (some false) else ((some (([] : List Int) : List Int)).bind fun y237 => (if y237.length + l0_2.length < 17592186044416 then ((some (y237 ++ l0_2 : List Int)).bind fun y240 => (if (y240.length : Int) = 0 then (none) else (if 0 ≤ (Int.tmod (wrap64 (a0_3)) (y240.length : Int)) then (if (Int.tmod (wrap64 (a0_3)) (y240.length : Int)) < (y240.length : Int) then ((eir_Solve.f kj3 a0_0 (y240.set ((Int.tmod (wrap64 (a0_3)) (y240.length : Int)) : Int).toNat (wrap64 ((rd y240 (Int.tmod (wrap64 (a0_3)) (y240.length : Int))) + (ji13))))).bind fun bt245 => (if bt245.2 = 0 then (some (decide (bt245.1 ≥ t213))) else (some true))) else (none)) else (none)))) else (none))))))) = some r := by first | (rw [hji13] at H; exact H) | (simp only [hji13] at H ⊢; exact H)
      (try rw [hji13] at A10)
      have hji13_ : (if 1000000 < (ji12) then 1000000 else (ji12)) = ji13 := hji13
      replace H := Option.bind_eq_some_iff.mp H
      obtain ⟨⟨t215, t216⟩, A140, H⟩ := H
      replace H : (if t216 = 0 then (if t215 > t213 then (some false) else ((some (([] : List Int) : List Int)).bind fun y217 => (if y217.length + l0_2.length < 17592186044416 then ((some (y217 ++ l0_2 : List Int)).bind fun y220 => (if (y220.length : Int) = 0 then (none) else (if 0 ≤ (Int.tmod (wrap64 (a0_3)) (y220.length : Int)) then (if (Int.tmod (wrap64 (a0_3)) (y220.length : Int)) < (y220.length : Int) then ((eir_Solve.f kj3 a0_0 (y220.set ((Int.tmod (wrap64 (a0_3)) (y220.length : Int)) : Int).toNat (wrap64 ((rd y220 (Int.tmod (wrap64 (a0_3)) (y220.length : Int))) + (ji13))))).bind fun bt225 => (if bt225.2 = 0 then (some (decide (bt225.1 ≥ t213))) else (some true))) else (none)) else (none)))) else (none)))) else (if t216 = 13 then ((some (([] : List Int) : List Int)).bind fun y227 => (if y227.length + l0_2.length < 17592186044416 then ((some (y227 ++ l0_2 : List Int)).bind fun y230 => (if (y230.length : Int) = 0 then (none) else (if 0 ≤ (Int.tmod (wrap64 (a0_3)) (y230.length : Int)) then (if (Int.tmod (wrap64 (a0_3)) (y230.length : Int)) < (y230.length : Int) then ((eir_Solve.f kj3 a0_0 (y230.set ((Int.tmod (wrap64 (a0_3)) (y230.length : Int)) : Int).toNat (wrap64 ((rd y230 (Int.tmod (wrap64 (a0_3)) (y230.length : Int))) + (ji13))))).bind fun bt235 => (if bt235.2 = 0 then (some (decide (bt235.1 ≥ t213))) else (some true))) else (none)) else (none)))) else (none))) else (if (wrap64 (a0_0 + (ji13))) ≤ 10000000000000 then (some false) else ((some (([] : List Int) : List Int)).bind fun y237 => (if y237.length + l0_2.length < 17592186044416 then ((some (y237 ++ l0_2 : List Int)).bind fun y240 => (if (y240.length : Int) = 0 then (none) else (if 0 ≤ (Int.tmod (wrap64 (a0_3)) (y240.length : Int)) then (if (Int.tmod (wrap64 (a0_3)) (y240.length : Int)) < (y240.length : Int) then ((eir_Solve.f kj3 a0_0 (y240.set ((Int.tmod (wrap64 (a0_3)) (y240.length : Int)) : Int).toNat (wrap64 ((rd y240 (Int.tmod (wrap64 (a0_3)) (y240.length : Int))) + (ji13))))).bind fun bt245 => (if bt245.2 = 0 then (some (decide (bt245.1 ≥ t213))) else (some true))) else (none)) else (none)))) else (none)))))) = some r := H
      have A14 := Aside0.mk A140
      clear A140
      have HC15 := Aside0.mk H
      clear H
      go_upto_region 11 with (first | (go_at_call 10; (with_reducible refine (eir_Solve.calls kj3 a0_0 _ _ l0_2 t213 t214 _ ?side1 ?side2 A10.out).mono ?_); (case side1 => repeat (first | exact (Kd.C_below HR0_2.out HB.out) | (with_reducible refine Kd.C_alloc ?_ _) | (with_reducible refine Kd.C_drewN ?_ _) | (with_reducible refine Kd.C_drew ?_))); (case side2 => exact HC0_2.out); rintro e w16 ⟨rfl, hb⟩; have n0_ := Aside0.mk (blk_below (g := gb211) (o := .cells #[.int .i64 a0_0, .int .i64 a0_1, .slice A0_2 l0_2.length c0_2, .int .u8 a0_3] 30 (0, 0)) (by (with_reducible repeat (first | refine blk_drewN ?_ _ | refine blk_drew ?_ | refine blk_alloc ?_ _)); exact BK211.out) hb); have n1_ := Aside0.mk (below_step (by repeat (first | (with_reducible first | exact HB.out | apply below_alloc | apply pw_below_drewN | apply below_drew1 | refine below_set ?_ GE211.out) | exact HB.out)) hb); clear BK211; clear HB; have BK211 := n0_; have HB := n1_; clear n0_ n1_; (try clear hb); (try clear hb2); (try clear hk); (try clear hi)) | (go_at_call 10; (with_reducible refine (eir_Solve.calls kj3 (wrap64 (a0_0 + (ji13))) _ _ l0_2 t215 t216 _ ?side1 ?side2 A14.out).mono ?_); (case side1 => repeat (first | exact (Kd.C_below HR0_2.out HB.out) | (with_reducible refine Kd.C_alloc ?_ _) | (with_reducible refine Kd.C_drewN ?_ _) | (with_reducible refine Kd.C_drew ?_))); (case side2 => exact HC0_2.out); rintro e w17 ⟨rfl, hb⟩; have n0_ := Aside0.mk (blk_below (g := gb211) (o := .cells #[.int .i64 a0_0, .int .i64 a0_1, .slice A0_2 l0_2.length c0_2, .int .u8 a0_3] 30 (0, 0)) (by (with_reducible repeat (first | refine blk_drewN ?_ _ | refine blk_drew ?_ | refine blk_alloc ?_ _)); exact BK211.out) hb); have n1_ := Aside0.mk (below_step (by repeat (first | (with_reducible first | exact HB.out | apply below_alloc | apply pw_below_drewN | apply below_drew1 | refine below_set ?_ GE211.out) | exact HB.out)) hb); clear BK211; clear HB; have BK211 := n0_; have HB := n1_; clear n0_ n1_; (try clear hb); (try clear hb2); (try clear hk); (try clear hi)))
      repeat (go_quiet (first | (go_at_call 10; (with_reducible refine (eir_Solve.calls kj3 a0_0 _ _ l0_2 t213 t214 _ ?side1 ?side2 A10.out).mono ?_); (case side1 => repeat (first | exact (Kd.C_below HR0_2.out HB.out) | (with_reducible refine Kd.C_alloc ?_ _) | (with_reducible refine Kd.C_drewN ?_ _) | (with_reducible refine Kd.C_drew ?_))); (case side2 => exact HC0_2.out); rintro e w16 ⟨rfl, hb⟩; have n0_ := Aside0.mk (blk_below (g := gb211) (o := .cells #[.int .i64 a0_0, .int .i64 a0_1, .slice A0_2 l0_2.length c0_2, .int .u8 a0_3] 30 (0, 0)) (by (with_reducible repeat (first | refine blk_drewN ?_ _ | refine blk_drew ?_ | refine blk_alloc ?_ _)); exact BK211.out) hb); have n1_ := Aside0.mk (below_step (by repeat (first | (with_reducible first | exact HB.out | apply below_alloc | apply pw_below_drewN | apply below_drew1 | refine below_set ?_ GE211.out) | exact HB.out)) hb); clear BK211; clear HB; have BK211 := n0_; have HB := n1_; clear n0_ n1_; (try clear hb); (try clear hb2); (try clear hk); (try clear hi)) | (go_at_call 10; (with_reducible refine (eir_Solve.calls kj3 (wrap64 (a0_0 + (ji13))) _ _ l0_2 t215 t216 _ ?side1 ?side2 A14.out).mono ?_); (case side1 => repeat (first | exact (Kd.C_below HR0_2.out HB.out) | (with_reducible refine Kd.C_alloc ?_ _) | (with_reducible refine Kd.C_drewN ?_ _) | (with_reducible refine Kd.C_drew ?_))); (case side2 => exact HC0_2.out); rintro e w17 ⟨rfl, hb⟩; have n0_ := Aside0.mk (blk_below (g := gb211) (o := .cells #[.int .i64 a0_0, .int .i64 a0_1, .slice A0_2 l0_2.length c0_2, .int .u8 a0_3] 30 (0, 0)) (by (with_reducible repeat (first | refine blk_drewN ?_ _ | refine blk_drew ?_ | refine blk_alloc ?_ _)); exact BK211.out) hb); have n1_ := Aside0.mk (below_step (by repeat (first | (with_reducible first | exact HB.out | apply below_alloc | apply pw_below_drewN | apply below_drew1 | refine below_set ?_ GE211.out) | exact HB.out)) hb); clear BK211; clear HB; have BK211 := n0_; have HB := n1_; clear n0_ n1_; (try clear hb); (try clear hb2); (try clear hk); (try clear hi))); go_upto_region 11 with (first | (go_at_call 10; (with_reducible refine (eir_Solve.calls kj3 a0_0 _ _ l0_2 t213 t214 _ ?side1 ?side2 A10.out).mono ?_); (case side1 => repeat (first | exact (Kd.C_below HR0_2.out HB.out) | (with_reducible refine Kd.C_alloc ?_ _) | (with_reducible refine Kd.C_drewN ?_ _) | (with_reducible refine Kd.C_drew ?_))); (case side2 => exact HC0_2.out); rintro e w16 ⟨rfl, hb⟩; have n0_ := Aside0.mk (blk_below (g := gb211) (o := .cells #[.int .i64 a0_0, .int .i64 a0_1, .slice A0_2 l0_2.length c0_2, .int .u8 a0_3] 30 (0, 0)) (by (with_reducible repeat (first | refine blk_drewN ?_ _ | refine blk_drew ?_ | refine blk_alloc ?_ _)); exact BK211.out) hb); have n1_ := Aside0.mk (below_step (by repeat (first | (with_reducible first | exact HB.out | apply below_alloc | apply pw_below_drewN | apply below_drew1 | refine below_set ?_ GE211.out) | exact HB.out)) hb); clear BK211; clear HB; have BK211 := n0_; have HB := n1_; clear n0_ n1_; (try clear hb); (try clear hb2); (try clear hk); (try clear hi)) | (go_at_call 10; (with_reducible refine (eir_Solve.calls kj3 (wrap64 (a0_0 + (ji13))) _ _ l0_2 t215 t216 _ ?side1 ?side2 A14.out).mono ?_); (case side1 => repeat (first | exact (Kd.C_below HR0_2.out HB.out) | (with_reducible refine Kd.C_alloc ?_ _) | (with_reducible refine Kd.C_drewN ?_ _) | (with_reducible refine Kd.C_drew ?_))); (case side2 => exact HC0_2.out); rintro e w17 ⟨rfl, hb⟩; have n0_ := Aside0.mk (blk_below (g := gb211) (o := .cells #[.int .i64 a0_0, .int .i64 a0_1, .slice A0_2 l0_2.length c0_2, .int .u8 a0_3] 30 (0, 0)) (by (with_reducible repeat (first | refine blk_drewN ?_ _ | refine blk_drew ?_ | refine blk_alloc ?_ _)); exact BK211.out) hb); have n1_ := Aside0.mk (below_step (by repeat (first | (with_reducible first | exact HB.out | apply below_alloc | apply pw_below_drewN | apply below_drew1 | refine below_set ?_ GE211.out) | exact HB.out)) hb); clear BK211; clear HB; have BK211 := n0_; have HB := n1_; clear n0_ n1_; (try clear hb); (try clear hb2); (try clear hk); (try clear hi))))
      have H := HC15.out
      clear HC15
      by_cases c18 : t216 = 0
      ·rw [if_pos c18] at H
       have c18b0 : (t216 == 0) = true := beq_iff_eq.mpr c18
       have c18b1 : (t216 != 0) = false := bne_eq_false_iff_eq.mpr c18
       clear c18
       by_cases c19 : t215 > t213
       ·rw [if_pos c19] at H
        have c19b0 : decide (t213 < t215) = true := decide_eq_true c19
        clear c19
        obtain rfl := Option.some.inj H
        go_wp2
        repeat (go_quiet (fail); try go_wp2)
        go_ret
        exact ⟨by first | rfl | (simp [errW_none, errW_some] <;> rfl) | (simp only [← hji12, ← hji13]; first | rfl | (simp [errW_none, errW_some] <;> rfl)) | (simp [*, errW_none, errW_some] <;> rfl), by repeat (first | (with_reducible first | exact HB.out | apply below_alloc | apply pw_below_drewN | apply below_drew1 | refine below_set ?_ GE211.out) | exact HB.out)⟩
       ·rw [if_neg c19] at H
        have c19b0 : decide (t213 < t215) = false := decide_eq_false c19
        clear c19
        obtain ⟨y217, hy217⟩ : ∃ y_ : List Int, y_ = (([] : List Int)) := ⟨_, rfl⟩
        replace H : (if y217.length + l0_2.length < 17592186044416 then ((some (y217 ++ l0_2 : List Int)).bind fun y220 => (if (y220.length : Int) = 0 then (none) else (if 0 ≤ (Int.tmod (wrap64 (a0_3)) (y220.length : Int)) then (if (Int.tmod (wrap64 (a0_3)) (y220.length : Int)) < (y220.length : Int) then ((eir_Solve.f kj3 a0_0 (y220.set ((Int.tmod (wrap64 (a0_3)) (y220.length : Int)) : Int).toNat (wrap64 ((rd y220 (Int.tmod (wrap64 (a0_3)) (y220.length : Int))) + (ji13))))).bind fun bt225 => (if bt225.2 = 0 then (some (decide (bt225.1 ≥ t213))) else (some true))) else (none)) else (none)))) else (none)) = some r := by first | (rw [hy217]; with_reducible exact H) | (have H2_ := (Option.bind_some _ _).symm.trans H; rw [hy217]; with_reducible exact H2_) | (have H2_ := (Option.bind_some _ _).symm.trans H; with_reducible exact H2_) | with_reducible exact H | (rw [hy217]; exact H) | exact H
        have Ny217 := Aside0.mk hy217
        clear hy217
        by_cases c20 : y217.length + l0_2.length < 17592186044416
        ·rw [if_pos c20] at H
         have LMc20 := Aside0.mk c20
         clear c20
         obtain ⟨y220, hy220⟩ : ∃ y_ : List Int, y_ = (y217 ++ l0_2) := ⟨_, rfl⟩
         replace H : (if (y220.length : Int) = 0 then (none) else (if 0 ≤ (Int.tmod (wrap64 (a0_3)) (y220.length : Int)) then (if (Int.tmod (wrap64 (a0_3)) (y220.length : Int)) < (y220.length : Int) then ((eir_Solve.f kj3 a0_0 (y220.set ((Int.tmod (wrap64 (a0_3)) (y220.length : Int)) : Int).toNat (wrap64 ((rd y220 (Int.tmod (wrap64 (a0_3)) (y220.length : Int))) + (ji13))))).bind fun bt225 => (if bt225.2 = 0 then (some (decide (bt225.1 ≥ t213))) else (some true))) else (none)) else (none))) = some r := by first | (rw [hy220]; with_reducible exact H) | (have H2_ := (Option.bind_some _ _).symm.trans H; rw [hy220]; with_reducible exact H2_) | (have H2_ := (Option.bind_some _ _).symm.trans H; with_reducible exact H2_) | with_reducible exact H | (rw [hy220]; exact H) | exact H
         have Ny220 := Aside0.mk hy220
         clear hy220
         by_cases c21 : (y220.length : Int) = 0
         ·rw [if_pos c21] at H
          exact absurd H (by simp)
         ·rw [if_neg c21] at H
          have c21b0 : ((y220.length : Int) == 0) = false := beq_eq_false_iff_ne.mpr c21
          have c21b1 : ((y220.length : Int) != 0) = true := bne_iff_ne.mpr c21
          have c21b2 : ¬ (y220 = []) := fun h_ => c21 (by rw [h_]; rfl)
          obtain ⟨ji22, hji22⟩ : ∃ j_ : Int, (Int.tmod (wrap64 (a0_3)) (y220.length : Int)) = j_ := ⟨_, rfl⟩
          replace H : (if 0 ≤ (ji22) then (if (ji22) < (y220.length : Int) then ((eir_Solve.f kj3 a0_0 (y220.set ((ji22) : Int).toNat (wrap64 ((rd y220 (ji22)) + (ji13))))).bind fun bt225 => (if bt225.2 = 0 then (some (decide (bt225.1 ≥ t213))) else (some true))) else (none)) else (none)) = some r := by first | (rw [hji22] at H; exact H) | (simp only [hji22] at H ⊢; exact H)
          by_cases c23 : 0 ≤ (ji22)
          ·rw [if_pos c23] at H
           have c23b0 : decide (0 ≤ (ji22)) = true := decide_eq_true c23
           clear c23
           by_cases c24 : (ji22) < (y220.length : Int)
           ·rw [if_pos c24] at H
            have c24b0 : decide ((ji22) < (y220.length : Int)) = true := decide_eq_true c24
            clear c24
            obtain ⟨y224, hy224⟩ : ∃ y_ : List Int, y_ = (y220.set ((ji22) : Int).toNat (wrap64 ((rd y220 (ji22)) + (ji13)))) := ⟨_, rfl⟩
            replace H : ((eir_Solve.f kj3 a0_0 y224).bind fun bt225 => (if bt225.2 = 0 then (some (decide (bt225.1 ≥ t213))) else (some true))) = some r := by first | (rw [hy224]; with_reducible exact H) | (have H2_ := (Option.bind_some _ _).symm.trans H; rw [hy224]; with_reducible exact H2_) | (have H2_ := (Option.bind_some _ _).symm.trans H; with_reducible exact H2_) | with_reducible exact H | (rw [hy224]; exact H) | exact H
            have Ny224 := Aside0.mk hy224
            clear hy224
            replace H := Option.bind_eq_some_iff.mp H
            obtain ⟨⟨t225, t226⟩, A260, H⟩ := H
            replace H : (if t226 = 0 then (some (decide (t225 ≥ t213))) else (some true)) = some r := H
            have A26 := Aside0.mk A260
            clear A260
            have HC27 := Aside0.mk H
            clear H
            go_upto_region 16 with (first | ((with_reducible refine gate_dst (N := 72) rfl ?_); (try (refine gate_guard (by rfl) ?_; dsimp only)); refine Kd.R_lit (Kd.int .i64) _ 2 ?hg (N := 72) ?hd (xs := ([] : List Int)) (inner := []) (ok := fun _ => True) (okp := fun _ => True) ?hr ?hp (fun _ hk => hk) trivial (Below.refl _ _) (Nat.le_refl _) (by simp) ?_; (case hd => rfl); (case hg => rfl); (case hr => first | (go_simp; done) | (go_simp; rfl)); (case hp => exact (Reps.none _ _)); intro v218 w28 ho29 hb hg_ hnew_; clear hg_ hnew_; (first | rw [← Ny217.out] at ho29 | (simp only [Int.reduceToNat] at ho29; rw [← Ny217.out] at ho29)); have n0_ := Aside0.mk (Kd.R_lower ho29 (below_size (by repeat (first | (with_reducible first | exact HB.out | apply below_alloc | apply pw_below_drewN | apply below_drew1 | refine below_set ?_ GE211.out) | exact HB.out)))); have n1_ := Aside0.mk (blk_below (g := gb211) (o := .cells #[.int .i64 a0_0, .int .i64 a0_1, .slice A0_2 l0_2.length c0_2, .int .u8 a0_3] 30 (0, 0)) (by (with_reducible repeat (first | refine blk_drewN ?_ _ | refine blk_drew ?_ | refine blk_alloc ?_ _)); exact BK211.out) hb); have n2_ := Aside0.mk (below_step (by repeat (first | (with_reducible first | exact HB.out | apply below_alloc | apply pw_below_drewN | apply below_drew1 | refine below_set ?_ GE211.out) | exact HB.out)) hb); clear BK211; clear HB; have HO219 := n0_; have BK211 := n1_; have HB := n2_; clear n0_ n1_ n2_; clear hb ho29) | ((with_reducible refine gate_builtin (b := .append) (xs := #[.tmp 72, .tmp 73]) rfl ?_); (try (refine gate_guard (by rfl) ?_; dsimp only)); at_builtin; refine Kd.R_append_rows (Kd.int .i64) (w0 := w) w.heap.size rfl (.tmp 72) (.tmp 73) 22 2 (.int .i64 0) 8 rfl Star.underlying22 info2 rfl (by decide) (by omega) v218 y217 l0_2 _ _ _ (fun _ => True) (fun _ => False) rfl rfl ?aO ?aR (fun _ _ h => h) (fun _ h => h.elim) ?aF ?aB ?aS ?aL ?_; (case aR => repeat (first | exact (Kd.C_below HR0_2.out HB.out) | (with_reducible refine Kd.C_alloc ?_ _) | (with_reducible refine Kd.C_drewN ?_ _) | (with_reducible refine Kd.C_drew ?_))); (case aB => exact (by repeat (first | (with_reducible first | exact HB.out | apply below_alloc | apply pw_below_drewN | apply below_drew1 | refine below_set ?_ GE211.out) | exact HB.out))); (case aF => exact (fun _ _ => trivial)); (case aO => exact (by (with_reducible repeat (first | apply Kd.R_alloc | apply Kd.R_drewN | apply Kd.R_drew)); exact HO219.out)); (case aS => exact (below_size (by repeat (first | (with_reducible first | exact HB.out | apply below_alloc | apply pw_below_drewN | apply below_drew1 | refine below_set ?_ GE211.out) | exact HB.out)))); (case aL => have := LMc20.out; omega); intro v221 w30 ho hb hg hat; rw [← Ny220.out] at ho; have n0_ := Aside0.mk (blk_grown (g := gb211) (o := .cells #[.int .i64 a0_0, .int .i64 a0_1, .slice A0_2 l0_2.length c0_2, .int .u8 a0_3] 30 (0, 0)) (by (with_reducible repeat (first | refine blk_drewN ?_ _ | refine blk_drew ?_ | refine blk_alloc ?_ _)); exact BK211.out) hg (Kd.R_ne HO219.out BK211.out (by decide))); have n1_ := Aside0.mk (hb); have n2_ := Aside0.mk (ho); clear BK211; clear HB; clear HO219; have BK211 := n0_; have HB := n1_; have HO222 := n2_; clear n0_ n1_ n2_; clear ho hb hg hat; obtain ⟨Ao31, co31, eo31⟩ := Kd.R_slice HO222.out; subst eo31; have p223 : 0 ≤ ((ji22) : Int) := of_decide_eq_true (by first | (with_reducible assumption) | assumption); have q223 : (ji22) < (y220.length : Int) := of_decide_eq_true (by first | (with_reducible assumption) | assumption); obtain ⟨ad223, e223, hx223_0⟩ := Kd.at_int (Kd.R_reads' HO222.out).2.2 (ji22) p223 q223; cases e223; replace p223 := eq_true p223; replace q223 := eq_true q223; have p25 : 0 ≤ ((ji22) : Int) := of_decide_eq_true (by first | (with_reducible assumption) | assumption); have q25 : ((ji22) : Int) < ((y220.length : Int) : Int) := of_decide_eq_true (by first | (with_reducible assumption) | assumption); obtain ⟨go25, co25, eo25, gb25, gl25, cl25, HG25⟩ := Kd.R_form HO222.out (by omega); (first | cases eo25 | (injection eo25 with ea_ en_ ec_; (first | subst ea_ | (injection ea_ with ea_; subst ea_)); subst ec_; clear en_)); have GB25 := Aside0.mk gb25; have GG25 := Aside0.mk HG25; clear gb25 gl25 HG25; (first | simp only [add_plain] at hx223_0 | skip); obtain ⟨hx25_0, hf25_0⟩ := Kd.R_celln 0 HO222.out ((ji22) : Int) p25 q25; replace p25 := eq_true p25; replace q25 := eq_true q25; obtain ⟨hy32_, hz32_⟩ := Kd.R_celln 0 HO222.out ((ji22) : Int) (of_decide_eq_true (by first | (with_reducible assumption) | assumption)) (of_decide_eq_true (by first | (with_reducible assumption) | assumption)); have HP32 := Kd.R_putg HO222.out ((ji22) : Int) (wrap64 ((rd y220 (ji22)) + (ji13)))) | ((with_reducible refine gate_store (t := 2) (p := 85) rfl ?_); (try (rw [drewN_self w30]; generalize hq_ : World.drewN w30 _ = w30; have n0_ := Aside0.mk (Kd.R_at hq_ HO222.out); have n1_ := Aside0.mk (blk_at hq_ BK211.out); have n2_ := Aside0.mk (below_at hq_ HB.out); clear hq_ HO222 BK211 HB; have HO222 := n0_; have BK211 := n1_; have HB := n2_; clear n0_ n1_ n2_; (try (obtain ⟨hy32_, hz32_⟩ := Kd.R_celln 0 HO222.out ((ji22) : Int) (of_decide_eq_true (by first | (with_reducible assumption) | assumption)) (of_decide_eq_true (by first | (with_reducible assumption) | assumption)))); (try (have HP32 := Kd.R_putg HO222.out ((ji22) : Int) (wrap64 ((rd y220 (ji22)) + (ji13))))))); refine store_event (t := 2) (p := 85) (v := ?vo_w33) (w1 := (w30.setCell ⟨go25, ((ji22) : Int).toNat, none⟩ (.int .i64 (wrap64 ((rd y220 (ji22)) + (ji13)))))) ?hg ?ho ?hn ?hr ?_; (case ho => rfl); (case hg => rfl); (case hn => rfl); (case hr => first | (go_simp; done) | (go_simp; rfl)); intro w33 hw; have hg : w30.grownBy w33 (some go25) := (by rw [hw]; exact HP32.2); have hp_ : Kd.R (Kd.int .i64) 2 w33 w.heap.size (fun _ => True) (.slice (some ⟨go25, 0, none⟩) y220.length co31) y224 := (by rw [hw, Ny224.out]; exact HP32.1); clear HP32; have n0_ := Aside0.mk (blk_grown (g := gb211) (o := .cells #[.int .i64 a0_0, .int .i64 a0_1, .slice A0_2 l0_2.length c0_2, .int .u8 a0_3] 30 (0, 0)) (by (with_reducible repeat (first | refine blk_drewN ?_ _ | refine blk_drew ?_ | refine blk_alloc ?_ _)); exact BK211.out) hg (Kd.R_ne HO222.out BK211.out (by decide))); have n1_ := Aside0.mk (hp_); have n2_ := Aside0.mk ((by rw [hw]; exact below_set (HB.out) GB25.out : Below w.heap.size w w33)); clear BK211; clear HO222; clear HB; have BK211 := n0_; have HO222 := n1_; have HB := n2_; clear n0_ n1_ n2_; clear hg hw hp_) | (go_at_call 10; refine calls_of_args (args' := #[.int .i64 a0_0, .slice (some ⟨go25, 0, none⟩) y224.length co31]) (by first | (rw [show y224.length = y220.length from (Kd.R_reads' HO222.out).1.symm] <;> rfl) | rfl) ?_; (with_reducible refine (eir_Solve.calls kj3 a0_0 _ _ y224 t225 t226 _ ?side1 ?side2 A26.out).mono ?_); (case side1 => repeat (first | exact (Kd.R_reads' HO222.out).2.2 | (with_reducible refine Kd.C_alloc ?_ _) | (with_reducible refine Kd.C_drewN ?_ _) | (with_reducible refine Kd.C_drew ?_))); (case side2 => rw [show y224.length = y220.length from (Kd.R_reads' HO222.out).1.symm]; exact (Kd.R_reads' HO222.out).2.1); rintro e w34 ⟨rfl, hb⟩; have n0_ := Aside0.mk (Kd.R_below (by (with_reducible repeat (first | apply Kd.R_alloc | apply Kd.R_drewN | apply Kd.R_drew)); exact HO222.out) hb); have n1_ := Aside0.mk (blk_below (g := gb211) (o := .cells #[.int .i64 a0_0, .int .i64 a0_1, .slice A0_2 l0_2.length c0_2, .int .u8 a0_3] 30 (0, 0)) (by (with_reducible repeat (first | refine blk_drewN ?_ _ | refine blk_drew ?_ | refine blk_alloc ?_ _)); exact BK211.out) hb); have n2_ := Aside0.mk (below_step (by repeat (first | (with_reducible first | exact HB.out | apply below_alloc | apply pw_below_drewN | apply below_drew1 | refine below_set ?_ GE211.out) | exact HB.out)) hb); clear HO222; clear BK211; clear HB; have HO222 := n0_; have BK211 := n1_; have HB := n2_; clear n0_ n1_ n2_; (try clear hb); (try clear hb2); (try clear hk); (try clear hi)))
            repeat (go_quiet (first | ((with_reducible refine gate_dst (N := 72) rfl ?_); (try (refine gate_guard (by rfl) ?_; dsimp only)); refine Kd.R_lit (Kd.int .i64) _ 2 ?hg (N := 72) ?hd (xs := ([] : List Int)) (inner := []) (ok := fun _ => True) (okp := fun _ => True) ?hr ?hp (fun _ hk => hk) trivial (Below.refl _ _) (Nat.le_refl _) (by simp) ?_; (case hd => rfl); (case hg => rfl); (case hr => first | (go_simp; done) | (go_simp; rfl)); (case hp => exact (Reps.none _ _)); intro v218 w28 ho29 hb hg_ hnew_; clear hg_ hnew_; (first | rw [← Ny217.out] at ho29 | (simp only [Int.reduceToNat] at ho29; rw [← Ny217.out] at ho29)); have n0_ := Aside0.mk (Kd.R_lower ho29 (below_size (by repeat (first | (with_reducible first | exact HB.out | apply below_alloc | apply pw_below_drewN | apply below_drew1 | refine below_set ?_ GE211.out) | exact HB.out)))); have n1_ := Aside0.mk (blk_below (g := gb211) (o := .cells #[.int .i64 a0_0, .int .i64 a0_1, .slice A0_2 l0_2.length c0_2, .int .u8 a0_3] 30 (0, 0)) (by (with_reducible repeat (first | refine blk_drewN ?_ _ | refine blk_drew ?_ | refine blk_alloc ?_ _)); exact BK211.out) hb); have n2_ := Aside0.mk (below_step (by repeat (first | (with_reducible first | exact HB.out | apply below_alloc | apply pw_below_drewN | apply below_drew1 | refine below_set ?_ GE211.out) | exact HB.out)) hb); clear BK211; clear HB; have HO219 := n0_; have BK211 := n1_; have HB := n2_; clear n0_ n1_ n2_; clear hb ho29) | ((with_reducible refine gate_builtin (b := .append) (xs := #[.tmp 72, .tmp 73]) rfl ?_); (try (refine gate_guard (by rfl) ?_; dsimp only)); at_builtin; refine Kd.R_append_rows (Kd.int .i64) (w0 := w) w.heap.size rfl (.tmp 72) (.tmp 73) 22 2 (.int .i64 0) 8 rfl Star.underlying22 info2 rfl (by decide) (by omega) v218 y217 l0_2 _ _ _ (fun _ => True) (fun _ => False) rfl rfl ?aO ?aR (fun _ _ h => h) (fun _ h => h.elim) ?aF ?aB ?aS ?aL ?_; (case aR => repeat (first | exact (Kd.C_below HR0_2.out HB.out) | (with_reducible refine Kd.C_alloc ?_ _) | (with_reducible refine Kd.C_drewN ?_ _) | (with_reducible refine Kd.C_drew ?_))); (case aB => exact (by repeat (first | (with_reducible first | exact HB.out | apply below_alloc | apply pw_below_drewN | apply below_drew1 | refine below_set ?_ GE211.out) | exact HB.out))); (case aF => exact (fun _ _ => trivial)); (case aO => exact (by (with_reducible repeat (first | apply Kd.R_alloc | apply Kd.R_drewN | apply Kd.R_drew)); exact HO219.out)); (case aS => exact (below_size (by repeat (first | (with_reducible first | exact HB.out | apply below_alloc | apply pw_below_drewN | apply below_drew1 | refine below_set ?_ GE211.out) | exact HB.out)))); (case aL => have := LMc20.out; omega); intro v221 w30 ho hb hg hat; rw [← Ny220.out] at ho; have n0_ := Aside0.mk (blk_grown (g := gb211) (o := .cells #[.int .i64 a0_0, .int .i64 a0_1, .slice A0_2 l0_2.length c0_2, .int .u8 a0_3] 30 (0, 0)) (by (with_reducible repeat (first | refine blk_drewN ?_ _ | refine blk_drew ?_ | refine blk_alloc ?_ _)); exact BK211.out) hg (Kd.R_ne HO219.out BK211.out (by decide))); have n1_ := Aside0.mk (hb); have n2_ := Aside0.mk (ho); clear BK211; clear HB; clear HO219; have BK211 := n0_; have HB := n1_; have HO222 := n2_; clear n0_ n1_ n2_; clear ho hb hg hat; obtain ⟨Ao31, co31, eo31⟩ := Kd.R_slice HO222.out; subst eo31; have p223 : 0 ≤ ((ji22) : Int) := of_decide_eq_true (by first | (with_reducible assumption) | assumption); have q223 : (ji22) < (y220.length : Int) := of_decide_eq_true (by first | (with_reducible assumption) | assumption); obtain ⟨ad223, e223, hx223_0⟩ := Kd.at_int (Kd.R_reads' HO222.out).2.2 (ji22) p223 q223; cases e223; replace p223 := eq_true p223; replace q223 := eq_true q223; have p25 : 0 ≤ ((ji22) : Int) := of_decide_eq_true (by first | (with_reducible assumption) | assumption); have q25 : ((ji22) : Int) < ((y220.length : Int) : Int) := of_decide_eq_true (by first | (with_reducible assumption) | assumption); obtain ⟨go25, co25, eo25, gb25, gl25, cl25, HG25⟩ := Kd.R_form HO222.out (by omega); (first | cases eo25 | (injection eo25 with ea_ en_ ec_; (first | subst ea_ | (injection ea_ with ea_; subst ea_)); subst ec_; clear en_)); have GB25 := Aside0.mk gb25; have GG25 := Aside0.mk HG25; clear gb25 gl25 HG25; (first | simp only [add_plain] at hx223_0 | skip); obtain ⟨hx25_0, hf25_0⟩ := Kd.R_celln 0 HO222.out ((ji22) : Int) p25 q25; replace p25 := eq_true p25; replace q25 := eq_true q25; obtain ⟨hy32_, hz32_⟩ := Kd.R_celln 0 HO222.out ((ji22) : Int) (of_decide_eq_true (by first | (with_reducible assumption) | assumption)) (of_decide_eq_true (by first | (with_reducible assumption) | assumption)); have HP32 := Kd.R_putg HO222.out ((ji22) : Int) (wrap64 ((rd y220 (ji22)) + (ji13)))) | ((with_reducible refine gate_store (t := 2) (p := 85) rfl ?_); (try (rw [drewN_self w30]; generalize hq_ : World.drewN w30 _ = w30; have n0_ := Aside0.mk (Kd.R_at hq_ HO222.out); have n1_ := Aside0.mk (blk_at hq_ BK211.out); have n2_ := Aside0.mk (below_at hq_ HB.out); clear hq_ HO222 BK211 HB; have HO222 := n0_; have BK211 := n1_; have HB := n2_; clear n0_ n1_ n2_; (try (obtain ⟨hy32_, hz32_⟩ := Kd.R_celln 0 HO222.out ((ji22) : Int) (of_decide_eq_true (by first | (with_reducible assumption) | assumption)) (of_decide_eq_true (by first | (with_reducible assumption) | assumption)))); (try (have HP32 := Kd.R_putg HO222.out ((ji22) : Int) (wrap64 ((rd y220 (ji22)) + (ji13))))))); refine store_event (t := 2) (p := 85) (v := ?vo_w33) (w1 := (w30.setCell ⟨go25, ((ji22) : Int).toNat, none⟩ (.int .i64 (wrap64 ((rd y220 (ji22)) + (ji13)))))) ?hg ?ho ?hn ?hr ?_; (case ho => rfl); (case hg => rfl); (case hn => rfl); (case hr => first | (go_simp; done) | (go_simp; rfl)); intro w33 hw; have hg : w30.grownBy w33 (some go25) := (by rw [hw]; exact HP32.2); have hp_ : Kd.R (Kd.int .i64) 2 w33 w.heap.size (fun _ => True) (.slice (some ⟨go25, 0, none⟩) y220.length co31) y224 := (by rw [hw, Ny224.out]; exact HP32.1); clear HP32; have n0_ := Aside0.mk (blk_grown (g := gb211) (o := .cells #[.int .i64 a0_0, .int .i64 a0_1, .slice A0_2 l0_2.length c0_2, .int .u8 a0_3] 30 (0, 0)) (by (with_reducible repeat (first | refine blk_drewN ?_ _ | refine blk_drew ?_ | refine blk_alloc ?_ _)); exact BK211.out) hg (Kd.R_ne HO222.out BK211.out (by decide))); have n1_ := Aside0.mk (hp_); have n2_ := Aside0.mk ((by rw [hw]; exact below_set (HB.out) GB25.out : Below w.heap.size w w33)); clear BK211; clear HO222; clear HB; have BK211 := n0_; have HO222 := n1_; have HB := n2_; clear n0_ n1_ n2_; clear hg hw hp_) | (go_at_call 10; refine calls_of_args (args' := #[.int .i64 a0_0, .slice (some ⟨go25, 0, none⟩) y224.length co31]) (by first | (rw [show y224.length = y220.length from (Kd.R_reads' HO222.out).1.symm] <;> rfl) | rfl) ?_; (with_reducible refine (eir_Solve.calls kj3 a0_0 _ _ y224 t225 t226 _ ?side1 ?side2 A26.out).mono ?_); (case side1 => repeat (first | exact (Kd.R_reads' HO222.out).2.2 | (with_reducible refine Kd.C_alloc ?_ _) | (with_reducible refine Kd.C_drewN ?_ _) | (with_reducible refine Kd.C_drew ?_))); (case side2 => rw [show y224.length = y220.length from (Kd.R_reads' HO222.out).1.symm]; exact (Kd.R_reads' HO222.out).2.1); rintro e w34 ⟨rfl, hb⟩; have n0_ := Aside0.mk (Kd.R_below (by (with_reducible repeat (first | apply Kd.R_alloc | apply Kd.R_drewN | apply Kd.R_drew)); exact HO222.out) hb); have n1_ := Aside0.mk (blk_below (g := gb211) (o := .cells #[.int .i64 a0_0, .int .i64 a0_1, .slice A0_2 l0_2.length c0_2, .int .u8 a0_3] 30 (0, 0)) (by (with_reducible repeat (first | refine blk_drewN ?_ _ | refine blk_drew ?_ | refine blk_alloc ?_ _)); exact BK211.out) hb); have n2_ := Aside0.mk (below_step (by repeat (first | (with_reducible first | exact HB.out | apply below_alloc | apply pw_below_drewN | apply below_drew1 | refine below_set ?_ GE211.out) | exact HB.out)) hb); clear HO222; clear BK211; clear HB; have HO222 := n0_; have BK211 := n1_; have HB := n2_; clear n0_ n1_ n2_; (try clear hb); (try clear hb2); (try clear hk); (try clear hi))); go_upto_region 16 with (first | ((with_reducible refine gate_dst (N := 72) rfl ?_); (try (refine gate_guard (by rfl) ?_; dsimp only)); refine Kd.R_lit (Kd.int .i64) _ 2 ?hg (N := 72) ?hd (xs := ([] : List Int)) (inner := []) (ok := fun _ => True) (okp := fun _ => True) ?hr ?hp (fun _ hk => hk) trivial (Below.refl _ _) (Nat.le_refl _) (by simp) ?_; (case hd => rfl); (case hg => rfl); (case hr => first | (go_simp; done) | (go_simp; rfl)); (case hp => exact (Reps.none _ _)); intro v218 w28 ho29 hb hg_ hnew_; clear hg_ hnew_; (first | rw [← Ny217.out] at ho29 | (simp only [Int.reduceToNat] at ho29; rw [← Ny217.out] at ho29)); have n0_ := Aside0.mk (Kd.R_lower ho29 (below_size (by repeat (first | (with_reducible first | exact HB.out | apply below_alloc | apply pw_below_drewN | apply below_drew1 | refine below_set ?_ GE211.out) | exact HB.out)))); have n1_ := Aside0.mk (blk_below (g := gb211) (o := .cells #[.int .i64 a0_0, .int .i64 a0_1, .slice A0_2 l0_2.length c0_2, .int .u8 a0_3] 30 (0, 0)) (by (with_reducible repeat (first | refine blk_drewN ?_ _ | refine blk_drew ?_ | refine blk_alloc ?_ _)); exact BK211.out) hb); have n2_ := Aside0.mk (below_step (by repeat (first | (with_reducible first | exact HB.out | apply below_alloc | apply pw_below_drewN | apply below_drew1 | refine below_set ?_ GE211.out) | exact HB.out)) hb); clear BK211; clear HB; have HO219 := n0_; have BK211 := n1_; have HB := n2_; clear n0_ n1_ n2_; clear hb ho29) | ((with_reducible refine gate_builtin (b := .append) (xs := #[.tmp 72, .tmp 73]) rfl ?_); (try (refine gate_guard (by rfl) ?_; dsimp only)); at_builtin; refine Kd.R_append_rows (Kd.int .i64) (w0 := w) w.heap.size rfl (.tmp 72) (.tmp 73) 22 2 (.int .i64 0) 8 rfl Star.underlying22 info2 rfl (by decide) (by omega) v218 y217 l0_2 _ _ _ (fun _ => True) (fun _ => False) rfl rfl ?aO ?aR (fun _ _ h => h) (fun _ h => h.elim) ?aF ?aB ?aS ?aL ?_; (case aR => repeat (first | exact (Kd.C_below HR0_2.out HB.out) | (with_reducible refine Kd.C_alloc ?_ _) | (with_reducible refine Kd.C_drewN ?_ _) | (with_reducible refine Kd.C_drew ?_))); (case aB => exact (by repeat (first | (with_reducible first | exact HB.out | apply below_alloc | apply pw_below_drewN | apply below_drew1 | refine below_set ?_ GE211.out) | exact HB.out))); (case aF => exact (fun _ _ => trivial)); (case aO => exact (by (with_reducible repeat (first | apply Kd.R_alloc | apply Kd.R_drewN | apply Kd.R_drew)); exact HO219.out)); (case aS => exact (below_size (by repeat (first | (with_reducible first | exact HB.out | apply below_alloc | apply pw_below_drewN | apply below_drew1 | refine below_set ?_ GE211.out) | exact HB.out)))); (case aL => have := LMc20.out; omega); intro v221 w30 ho hb hg hat; rw [← Ny220.out] at ho; have n0_ := Aside0.mk (blk_grown (g := gb211) (o := .cells #[.int .i64 a0_0, .int .i64 a0_1, .slice A0_2 l0_2.length c0_2, .int .u8 a0_3] 30 (0, 0)) (by (with_reducible repeat (first | refine blk_drewN ?_ _ | refine blk_drew ?_ | refine blk_alloc ?_ _)); exact BK211.out) hg (Kd.R_ne HO219.out BK211.out (by decide))); have n1_ := Aside0.mk (hb); have n2_ := Aside0.mk (ho); clear BK211; clear HB; clear HO219; have BK211 := n0_; have HB := n1_; have HO222 := n2_; clear n0_ n1_ n2_; clear ho hb hg hat; obtain ⟨Ao31, co31, eo31⟩ := Kd.R_slice HO222.out; subst eo31; have p223 : 0 ≤ ((ji22) : Int) := of_decide_eq_true (by first | (with_reducible assumption) | assumption); have q223 : (ji22) < (y220.length : Int) := of_decide_eq_true (by first | (with_reducible assumption) | assumption); obtain ⟨ad223, e223, hx223_0⟩ := Kd.at_int (Kd.R_reads' HO222.out).2.2 (ji22) p223 q223; cases e223; replace p223 := eq_true p223; replace q223 := eq_true q223; have p25 : 0 ≤ ((ji22) : Int) := of_decide_eq_true (by first | (with_reducible assumption) | assumption); have q25 : ((ji22) : Int) < ((y220.length : Int) : Int) := of_decide_eq_true (by first | (with_reducible assumption) | assumption); obtain ⟨go25, co25, eo25, gb25, gl25, cl25, HG25⟩ := Kd.R_form HO222.out (by omega); (first | cases eo25 | (injection eo25 with ea_ en_ ec_; (first | subst ea_ | (injection ea_ with ea_; subst ea_)); subst ec_; clear en_)); have GB25 := Aside0.mk gb25; have GG25 := Aside0.mk HG25; clear gb25 gl25 HG25; (first | simp only [add_plain] at hx223_0 | skip); obtain ⟨hx25_0, hf25_0⟩ := Kd.R_celln 0 HO222.out ((ji22) : Int) p25 q25; replace p25 := eq_true p25; replace q25 := eq_true q25; obtain ⟨hy32_, hz32_⟩ := Kd.R_celln 0 HO222.out ((ji22) : Int) (of_decide_eq_true (by first | (with_reducible assumption) | assumption)) (of_decide_eq_true (by first | (with_reducible assumption) | assumption)); have HP32 := Kd.R_putg HO222.out ((ji22) : Int) (wrap64 ((rd y220 (ji22)) + (ji13)))) | ((with_reducible refine gate_store (t := 2) (p := 85) rfl ?_); (try (rw [drewN_self w30]; generalize hq_ : World.drewN w30 _ = w30; have n0_ := Aside0.mk (Kd.R_at hq_ HO222.out); have n1_ := Aside0.mk (blk_at hq_ BK211.out); have n2_ := Aside0.mk (below_at hq_ HB.out); clear hq_ HO222 BK211 HB; have HO222 := n0_; have BK211 := n1_; have HB := n2_; clear n0_ n1_ n2_; (try (obtain ⟨hy32_, hz32_⟩ := Kd.R_celln 0 HO222.out ((ji22) : Int) (of_decide_eq_true (by first | (with_reducible assumption) | assumption)) (of_decide_eq_true (by first | (with_reducible assumption) | assumption)))); (try (have HP32 := Kd.R_putg HO222.out ((ji22) : Int) (wrap64 ((rd y220 (ji22)) + (ji13))))))); refine store_event (t := 2) (p := 85) (v := ?vo_w33) (w1 := (w30.setCell ⟨go25, ((ji22) : Int).toNat, none⟩ (.int .i64 (wrap64 ((rd y220 (ji22)) + (ji13)))))) ?hg ?ho ?hn ?hr ?_; (case ho => rfl); (case hg => rfl); (case hn => rfl); (case hr => first | (go_simp; done) | (go_simp; rfl)); intro w33 hw; have hg : w30.grownBy w33 (some go25) := (by rw [hw]; exact HP32.2); have hp_ : Kd.R (Kd.int .i64) 2 w33 w.heap.size (fun _ => True) (.slice (some ⟨go25, 0, none⟩) y220.length co31) y224 := (by rw [hw, Ny224.out]; exact HP32.1); clear HP32; have n0_ := Aside0.mk (blk_grown (g := gb211) (o := .cells #[.int .i64 a0_0, .int .i64 a0_1, .slice A0_2 l0_2.length c0_2, .int .u8 a0_3] 30 (0, 0)) (by (with_reducible repeat (first | refine blk_drewN ?_ _ | refine blk_drew ?_ | refine blk_alloc ?_ _)); exact BK211.out) hg (Kd.R_ne HO222.out BK211.out (by decide))); have n1_ := Aside0.mk (hp_); have n2_ := Aside0.mk ((by rw [hw]; exact below_set (HB.out) GB25.out : Below w.heap.size w w33)); clear BK211; clear HO222; clear HB; have BK211 := n0_; have HO222 := n1_; have HB := n2_; clear n0_ n1_ n2_; clear hg hw hp_) | (go_at_call 10; refine calls_of_args (args' := #[.int .i64 a0_0, .slice (some ⟨go25, 0, none⟩) y224.length co31]) (by first | (rw [show y224.length = y220.length from (Kd.R_reads' HO222.out).1.symm] <;> rfl) | rfl) ?_; (with_reducible refine (eir_Solve.calls kj3 a0_0 _ _ y224 t225 t226 _ ?side1 ?side2 A26.out).mono ?_); (case side1 => repeat (first | exact (Kd.R_reads' HO222.out).2.2 | (with_reducible refine Kd.C_alloc ?_ _) | (with_reducible refine Kd.C_drewN ?_ _) | (with_reducible refine Kd.C_drew ?_))); (case side2 => rw [show y224.length = y220.length from (Kd.R_reads' HO222.out).1.symm]; exact (Kd.R_reads' HO222.out).2.1); rintro e w34 ⟨rfl, hb⟩; have n0_ := Aside0.mk (Kd.R_below (by (with_reducible repeat (first | apply Kd.R_alloc | apply Kd.R_drewN | apply Kd.R_drew)); exact HO222.out) hb); have n1_ := Aside0.mk (blk_below (g := gb211) (o := .cells #[.int .i64 a0_0, .int .i64 a0_1, .slice A0_2 l0_2.length c0_2, .int .u8 a0_3] 30 (0, 0)) (by (with_reducible repeat (first | refine blk_drewN ?_ _ | refine blk_drew ?_ | refine blk_alloc ?_ _)); exact BK211.out) hb); have n2_ := Aside0.mk (below_step (by repeat (first | (with_reducible first | exact HB.out | apply below_alloc | apply pw_below_drewN | apply below_drew1 | refine below_set ?_ GE211.out) | exact HB.out)) hb); clear HO222; clear BK211; clear HB; have HO222 := n0_; have BK211 := n1_; have HB := n2_; clear n0_ n1_ n2_; (try clear hb); (try clear hb2); (try clear hk); (try clear hi))))
            have H := HC27.out
            clear HC27
            by_cases c35 : t226 = 0
            ·rw [if_pos c35] at H
             have c35b0 : (t226 == 0) = true := beq_iff_eq.mpr c35
             have c35b1 : (t226 != 0) = false := bne_eq_false_iff_eq.mpr c35
             clear c35
             obtain rfl := Option.some.inj H
             go_wp2
             repeat (go_quiet (fail); try go_wp2)
             go_ret
             exact ⟨by first | rfl | (simp [errW_none, errW_some] <;> rfl) | (simp only [← hji12, ← hji13, ← hji22]; first | rfl | (simp [errW_none, errW_some] <;> rfl)) | (simp [*, errW_none, errW_some] <;> rfl), by repeat (first | (with_reducible first | exact HB.out | apply below_alloc | apply pw_below_drewN | apply below_drew1 | refine below_set ?_ GE211.out) | exact HB.out)⟩
            ·rw [if_neg c35] at H
             have c35b0 : (t226 == 0) = false := beq_eq_false_iff_ne.mpr c35
             have c35b1 : (t226 != 0) = true := bne_iff_ne.mpr c35
             obtain rfl := Option.some.inj H
             go_wp2
             repeat (go_quiet (fail); try go_wp2)
             go_ret
             exact ⟨by first | rfl | (simp [errW_none, errW_some] <;> rfl) | (simp only [← hji12, ← hji13, ← hji22]; first | rfl | (simp [errW_none, errW_some] <;> rfl)) | (simp [*, errW_none, errW_some] <;> rfl), by repeat (first | (with_reducible first | exact HB.out | apply below_alloc | apply pw_below_drewN | apply below_drew1 | refine below_set ?_ GE211.out) | exact HB.out)⟩
           ·rw [if_neg c24] at H
            exact absurd H (by simp)
          ·rw [if_neg c23] at H
           exact absurd H (by simp)
        ·rw [if_neg c20] at H
         exact absurd H (by simp)
      ·rw [if_neg c18] at H
       have c18b0 : (t216 == 0) = false := beq_eq_false_iff_ne.mpr c18
       have c18b1 : (t216 != 0) = true := bne_iff_ne.mpr c18
       by_cases c36 : t216 = 13
       ·rw [if_pos c36] at H
        have c36b0 : (t216 == 13) = true := beq_iff_eq.mpr c36
        have c36b1 : (t216 != 13) = false := bne_eq_false_iff_eq.mpr c36
        clear c36
        obtain ⟨y227, hy227⟩ : ∃ y_ : List Int, y_ = (([] : List Int)) := ⟨_, rfl⟩
        replace H : (if y227.length + l0_2.length < 17592186044416 then ((some (y227 ++ l0_2 : List Int)).bind fun y230 => (if (y230.length : Int) = 0 then (none) else (if 0 ≤ (Int.tmod (wrap64 (a0_3)) (y230.length : Int)) then (if (Int.tmod (wrap64 (a0_3)) (y230.length : Int)) < (y230.length : Int) then ((eir_Solve.f kj3 a0_0 (y230.set ((Int.tmod (wrap64 (a0_3)) (y230.length : Int)) : Int).toNat (wrap64 ((rd y230 (Int.tmod (wrap64 (a0_3)) (y230.length : Int))) + (ji13))))).bind fun bt235 => (if bt235.2 = 0 then (some (decide (bt235.1 ≥ t213))) else (some true))) else (none)) else (none)))) else (none)) = some r := by first | (rw [hy227]; with_reducible exact H) | (have H2_ := (Option.bind_some _ _).symm.trans H; rw [hy227]; with_reducible exact H2_) | (have H2_ := (Option.bind_some _ _).symm.trans H; with_reducible exact H2_) | with_reducible exact H | (rw [hy227]; exact H) | exact H
        have Ny227 := Aside0.mk hy227
        clear hy227
        by_cases c37 : y227.length + l0_2.length < 17592186044416
        ·rw [if_pos c37] at H
         have LMc37 := Aside0.mk c37
         clear c37
         obtain ⟨y230, hy230⟩ : ∃ y_ : List Int, y_ = (y227 ++ l0_2) := ⟨_, rfl⟩
         replace H : (if (y230.length : Int) = 0 then (none) else (if 0 ≤ (Int.tmod (wrap64 (a0_3)) (y230.length : Int)) then (if (Int.tmod (wrap64 (a0_3)) (y230.length : Int)) < (y230.length : Int) then ((eir_Solve.f kj3 a0_0 (y230.set ((Int.tmod (wrap64 (a0_3)) (y230.length : Int)) : Int).toNat (wrap64 ((rd y230 (Int.tmod (wrap64 (a0_3)) (y230.length : Int))) + (ji13))))).bind fun bt235 => (if bt235.2 = 0 then (some (decide (bt235.1 ≥ t213))) else (some true))) else (none)) else (none))) = some r := by first | (rw [hy230]; with_reducible exact H) | (have H2_ := (Option.bind_some _ _).symm.trans H; rw [hy230]; with_reducible exact H2_) | (have H2_ := (Option.bind_some _ _).symm.trans H; with_reducible exact H2_) | with_reducible exact H | (rw [hy230]; exact H) | exact H
         have Ny230 := Aside0.mk hy230
         clear hy230
         by_cases c38 : (y230.length : Int) = 0
         ·rw [if_pos c38] at H
          exact absurd H (by simp)
         ·rw [if_neg c38] at H
          have c38b0 : ((y230.length : Int) == 0) = false := beq_eq_false_iff_ne.mpr c38
          have c38b1 : ((y230.length : Int) != 0) = true := bne_iff_ne.mpr c38
          have c38b2 : ¬ (y230 = []) := fun h_ => c38 (by rw [h_]; rfl)
          obtain ⟨ji39, hji39⟩ : ∃ j_ : Int, (Int.tmod (wrap64 (a0_3)) (y230.length : Int)) = j_ := ⟨_, rfl⟩
          replace H : (if 0 ≤ (ji39) then (if (ji39) < (y230.length : Int) then ((eir_Solve.f kj3 a0_0 (y230.set ((ji39) : Int).toNat (wrap64 ((rd y230 (ji39)) + (ji13))))).bind fun bt235 => (if bt235.2 = 0 then (some (decide (bt235.1 ≥ t213))) else (some true))) else (none)) else (none)) = some r := by first | (rw [hji39] at H; exact H) | (simp only [hji39] at H ⊢; exact H)
          by_cases c40 : 0 ≤ (ji39)
          ·rw [if_pos c40] at H
           have c40b0 : decide (0 ≤ (ji39)) = true := decide_eq_true c40
           clear c40
           by_cases c41 : (ji39) < (y230.length : Int)
           ·rw [if_pos c41] at H
            have c41b0 : decide ((ji39) < (y230.length : Int)) = true := decide_eq_true c41
            clear c41
            obtain ⟨y234, hy234⟩ : ∃ y_ : List Int, y_ = (y230.set ((ji39) : Int).toNat (wrap64 ((rd y230 (ji39)) + (ji13)))) := ⟨_, rfl⟩
            replace H : ((eir_Solve.f kj3 a0_0 y234).bind fun bt235 => (if bt235.2 = 0 then (some (decide (bt235.1 ≥ t213))) else (some true))) = some r := by first | (rw [hy234]; with_reducible exact H) | (have H2_ := (Option.bind_some _ _).symm.trans H; rw [hy234]; with_reducible exact H2_) | (have H2_ := (Option.bind_some _ _).symm.trans H; with_reducible exact H2_) | with_reducible exact H | (rw [hy234]; exact H) | exact H
            have Ny234 := Aside0.mk hy234
            clear hy234
            replace H := Option.bind_eq_some_iff.mp H
            obtain ⟨⟨t235, t236⟩, A430, H⟩ := H
            replace H : (if t236 = 0 then (some (decide (t235 ≥ t213))) else (some true)) = some r := H
            have A43 := Aside0.mk A430
            clear A430
            have HC44 := Aside0.mk H
            clear H
            go_upto_region 16 with (first | ((with_reducible refine gate_dst (N := 72) rfl ?_); (try (refine gate_guard (by rfl) ?_; dsimp only)); refine Kd.R_lit (Kd.int .i64) _ 2 ?hg (N := 72) ?hd (xs := ([] : List Int)) (inner := []) (ok := fun _ => True) (okp := fun _ => True) ?hr ?hp (fun _ hk => hk) trivial (Below.refl _ _) (Nat.le_refl _) (by simp) ?_; (case hd => rfl); (case hg => rfl); (case hr => first | (go_simp; done) | (go_simp; rfl)); (case hp => exact (Reps.none _ _)); intro v228 w45 ho46 hb hg_ hnew_; clear hg_ hnew_; (first | rw [← Ny227.out] at ho46 | (simp only [Int.reduceToNat] at ho46; rw [← Ny227.out] at ho46)); have n0_ := Aside0.mk (Kd.R_lower ho46 (below_size (by repeat (first | (with_reducible first | exact HB.out | apply below_alloc | apply pw_below_drewN | apply below_drew1 | refine below_set ?_ GE211.out) | exact HB.out)))); have n1_ := Aside0.mk (blk_below (g := gb211) (o := .cells #[.int .i64 a0_0, .int .i64 a0_1, .slice A0_2 l0_2.length c0_2, .int .u8 a0_3] 30 (0, 0)) (by (with_reducible repeat (first | refine blk_drewN ?_ _ | refine blk_drew ?_ | refine blk_alloc ?_ _)); exact BK211.out) hb); have n2_ := Aside0.mk (below_step (by repeat (first | (with_reducible first | exact HB.out | apply below_alloc | apply pw_below_drewN | apply below_drew1 | refine below_set ?_ GE211.out) | exact HB.out)) hb); clear BK211; clear HB; have HO229 := n0_; have BK211 := n1_; have HB := n2_; clear n0_ n1_ n2_; clear hb ho46) | ((with_reducible refine gate_builtin (b := .append) (xs := #[.tmp 72, .tmp 73]) rfl ?_); (try (refine gate_guard (by rfl) ?_; dsimp only)); at_builtin; refine Kd.R_append_rows (Kd.int .i64) (w0 := w) w.heap.size rfl (.tmp 72) (.tmp 73) 22 2 (.int .i64 0) 8 rfl Star.underlying22 info2 rfl (by decide) (by omega) v228 y227 l0_2 _ _ _ (fun _ => True) (fun _ => False) rfl rfl ?aO ?aR (fun _ _ h => h) (fun _ h => h.elim) ?aF ?aB ?aS ?aL ?_; (case aR => repeat (first | exact (Kd.C_below HR0_2.out HB.out) | (with_reducible refine Kd.C_alloc ?_ _) | (with_reducible refine Kd.C_drewN ?_ _) | (with_reducible refine Kd.C_drew ?_))); (case aB => exact (by repeat (first | (with_reducible first | exact HB.out | apply below_alloc | apply pw_below_drewN | apply below_drew1 | refine below_set ?_ GE211.out) | exact HB.out))); (case aF => exact (fun _ _ => trivial)); (case aO => exact (by (with_reducible repeat (first | apply Kd.R_alloc | apply Kd.R_drewN | apply Kd.R_drew)); exact HO229.out)); (case aS => exact (below_size (by repeat (first | (with_reducible first | exact HB.out | apply below_alloc | apply pw_below_drewN | apply below_drew1 | refine below_set ?_ GE211.out) | exact HB.out)))); (case aL => have := LMc37.out; omega); intro v231 w47 ho hb hg hat; rw [← Ny230.out] at ho; have n0_ := Aside0.mk (blk_grown (g := gb211) (o := .cells #[.int .i64 a0_0, .int .i64 a0_1, .slice A0_2 l0_2.length c0_2, .int .u8 a0_3] 30 (0, 0)) (by (with_reducible repeat (first | refine blk_drewN ?_ _ | refine blk_drew ?_ | refine blk_alloc ?_ _)); exact BK211.out) hg (Kd.R_ne HO229.out BK211.out (by decide))); have n1_ := Aside0.mk (hb); have n2_ := Aside0.mk (ho); clear BK211; clear HB; clear HO229; have BK211 := n0_; have HB := n1_; have HO232 := n2_; clear n0_ n1_ n2_; clear ho hb hg hat; obtain ⟨Ao48, co48, eo48⟩ := Kd.R_slice HO232.out; subst eo48; have p233 : 0 ≤ ((ji39) : Int) := of_decide_eq_true (by first | (with_reducible assumption) | assumption); have q233 : (ji39) < (y230.length : Int) := of_decide_eq_true (by first | (with_reducible assumption) | assumption); obtain ⟨ad233, e233, hx233_0⟩ := Kd.at_int (Kd.R_reads' HO232.out).2.2 (ji39) p233 q233; cases e233; replace p233 := eq_true p233; replace q233 := eq_true q233; have p42 : 0 ≤ ((ji39) : Int) := of_decide_eq_true (by first | (with_reducible assumption) | assumption); have q42 : ((ji39) : Int) < ((y230.length : Int) : Int) := of_decide_eq_true (by first | (with_reducible assumption) | assumption); obtain ⟨go42, co42, eo42, gb42, gl42, cl42, HG42⟩ := Kd.R_form HO232.out (by omega); (first | cases eo42 | (injection eo42 with ea_ en_ ec_; (first | subst ea_ | (injection ea_ with ea_; subst ea_)); subst ec_; clear en_)); have GB42 := Aside0.mk gb42; have GG42 := Aside0.mk HG42; clear gb42 gl42 HG42; (first | simp only [add_plain] at hx233_0 | skip); obtain ⟨hx42_0, hf42_0⟩ := Kd.R_celln 0 HO232.out ((ji39) : Int) p42 q42; replace p42 := eq_true p42; replace q42 := eq_true q42; obtain ⟨hy49_, hz49_⟩ := Kd.R_celln 0 HO232.out ((ji39) : Int) (of_decide_eq_true (by first | (with_reducible assumption) | assumption)) (of_decide_eq_true (by first | (with_reducible assumption) | assumption)); have HP49 := Kd.R_putg HO232.out ((ji39) : Int) (wrap64 ((rd y230 (ji39)) + (ji13)))) | ((with_reducible refine gate_store (t := 2) (p := 85) rfl ?_); (try (rw [drewN_self w47]; generalize hq_ : World.drewN w47 _ = w47; have n0_ := Aside0.mk (Kd.R_at hq_ HO232.out); have n1_ := Aside0.mk (blk_at hq_ BK211.out); have n2_ := Aside0.mk (below_at hq_ HB.out); clear hq_ HO232 BK211 HB; have HO232 := n0_; have BK211 := n1_; have HB := n2_; clear n0_ n1_ n2_; (try (obtain ⟨hy49_, hz49_⟩ := Kd.R_celln 0 HO232.out ((ji39) : Int) (of_decide_eq_true (by first | (with_reducible assumption) | assumption)) (of_decide_eq_true (by first | (with_reducible assumption) | assumption)))); (try (have HP49 := Kd.R_putg HO232.out ((ji39) : Int) (wrap64 ((rd y230 (ji39)) + (ji13))))))); refine store_event (t := 2) (p := 85) (v := ?vo_w50) (w1 := (w47.setCell ⟨go42, ((ji39) : Int).toNat, none⟩ (.int .i64 (wrap64 ((rd y230 (ji39)) + (ji13)))))) ?hg ?ho ?hn ?hr ?_; (case ho => rfl); (case hg => rfl); (case hn => rfl); (case hr => first | (go_simp; done) | (go_simp; rfl)); intro w50 hw; have hg : w47.grownBy w50 (some go42) := (by rw [hw]; exact HP49.2); have hp_ : Kd.R (Kd.int .i64) 2 w50 w.heap.size (fun _ => True) (.slice (some ⟨go42, 0, none⟩) y230.length co48) y234 := (by rw [hw, Ny234.out]; exact HP49.1); clear HP49; have n0_ := Aside0.mk (blk_grown (g := gb211) (o := .cells #[.int .i64 a0_0, .int .i64 a0_1, .slice A0_2 l0_2.length c0_2, .int .u8 a0_3] 30 (0, 0)) (by (with_reducible repeat (first | refine blk_drewN ?_ _ | refine blk_drew ?_ | refine blk_alloc ?_ _)); exact BK211.out) hg (Kd.R_ne HO232.out BK211.out (by decide))); have n1_ := Aside0.mk (hp_); have n2_ := Aside0.mk ((by rw [hw]; exact below_set (HB.out) GB42.out : Below w.heap.size w w50)); clear BK211; clear HO232; clear HB; have BK211 := n0_; have HO232 := n1_; have HB := n2_; clear n0_ n1_ n2_; clear hg hw hp_) | (go_at_call 10; refine calls_of_args (args' := #[.int .i64 a0_0, .slice (some ⟨go42, 0, none⟩) y234.length co48]) (by first | (rw [show y234.length = y230.length from (Kd.R_reads' HO232.out).1.symm] <;> rfl) | rfl) ?_; (with_reducible refine (eir_Solve.calls kj3 a0_0 _ _ y234 t235 t236 _ ?side1 ?side2 A43.out).mono ?_); (case side1 => repeat (first | exact (Kd.R_reads' HO232.out).2.2 | (with_reducible refine Kd.C_alloc ?_ _) | (with_reducible refine Kd.C_drewN ?_ _) | (with_reducible refine Kd.C_drew ?_))); (case side2 => rw [show y234.length = y230.length from (Kd.R_reads' HO232.out).1.symm]; exact (Kd.R_reads' HO232.out).2.1); rintro e w51 ⟨rfl, hb⟩; have n0_ := Aside0.mk (Kd.R_below (by (with_reducible repeat (first | apply Kd.R_alloc | apply Kd.R_drewN | apply Kd.R_drew)); exact HO232.out) hb); have n1_ := Aside0.mk (blk_below (g := gb211) (o := .cells #[.int .i64 a0_0, .int .i64 a0_1, .slice A0_2 l0_2.length c0_2, .int .u8 a0_3] 30 (0, 0)) (by (with_reducible repeat (first | refine blk_drewN ?_ _ | refine blk_drew ?_ | refine blk_alloc ?_ _)); exact BK211.out) hb); have n2_ := Aside0.mk (below_step (by repeat (first | (with_reducible first | exact HB.out | apply below_alloc | apply pw_below_drewN | apply below_drew1 | refine below_set ?_ GE211.out) | exact HB.out)) hb); clear HO232; clear BK211; clear HB; have HO232 := n0_; have BK211 := n1_; have HB := n2_; clear n0_ n1_ n2_; (try clear hb); (try clear hb2); (try clear hk); (try clear hi)))
            repeat (go_quiet (first | ((with_reducible refine gate_dst (N := 72) rfl ?_); (try (refine gate_guard (by rfl) ?_; dsimp only)); refine Kd.R_lit (Kd.int .i64) _ 2 ?hg (N := 72) ?hd (xs := ([] : List Int)) (inner := []) (ok := fun _ => True) (okp := fun _ => True) ?hr ?hp (fun _ hk => hk) trivial (Below.refl _ _) (Nat.le_refl _) (by simp) ?_; (case hd => rfl); (case hg => rfl); (case hr => first | (go_simp; done) | (go_simp; rfl)); (case hp => exact (Reps.none _ _)); intro v228 w45 ho46 hb hg_ hnew_; clear hg_ hnew_; (first | rw [← Ny227.out] at ho46 | (simp only [Int.reduceToNat] at ho46; rw [← Ny227.out] at ho46)); have n0_ := Aside0.mk (Kd.R_lower ho46 (below_size (by repeat (first | (with_reducible first | exact HB.out | apply below_alloc | apply pw_below_drewN | apply below_drew1 | refine below_set ?_ GE211.out) | exact HB.out)))); have n1_ := Aside0.mk (blk_below (g := gb211) (o := .cells #[.int .i64 a0_0, .int .i64 a0_1, .slice A0_2 l0_2.length c0_2, .int .u8 a0_3] 30 (0, 0)) (by (with_reducible repeat (first | refine blk_drewN ?_ _ | refine blk_drew ?_ | refine blk_alloc ?_ _)); exact BK211.out) hb); have n2_ := Aside0.mk (below_step (by repeat (first | (with_reducible first | exact HB.out | apply below_alloc | apply pw_below_drewN | apply below_drew1 | refine below_set ?_ GE211.out) | exact HB.out)) hb); clear BK211; clear HB; have HO229 := n0_; have BK211 := n1_; have HB := n2_; clear n0_ n1_ n2_; clear hb ho46) | ((with_reducible refine gate_builtin (b := .append) (xs := #[.tmp 72, .tmp 73]) rfl ?_); (try (refine gate_guard (by rfl) ?_; dsimp only)); at_builtin; refine Kd.R_append_rows (Kd.int .i64) (w0 := w) w.heap.size rfl (.tmp 72) (.tmp 73) 22 2 (.int .i64 0) 8 rfl Star.underlying22 info2 rfl (by decide) (by omega) v228 y227 l0_2 _ _ _ (fun _ => True) (fun _ => False) rfl rfl ?aO ?aR (fun _ _ h => h) (fun _ h => h.elim) ?aF ?aB ?aS ?aL ?_; (case aR => repeat (first | exact (Kd.C_below HR0_2.out HB.out) | (with_reducible refine Kd.C_alloc ?_ _) | (with_reducible refine Kd.C_drewN ?_ _) | (with_reducible refine Kd.C_drew ?_))); (case aB => exact (by repeat (first | (with_reducible first | exact HB.out | apply below_alloc | apply pw_below_drewN | apply below_drew1 | refine below_set ?_ GE211.out) | exact HB.out))); (case aF => exact (fun _ _ => trivial)); (case aO => exact (by (with_reducible repeat (first | apply Kd.R_alloc | apply Kd.R_drewN | apply Kd.R_drew)); exact HO229.out)); (case aS => exact (below_size (by repeat (first | (with_reducible first | exact HB.out | apply below_alloc | apply pw_below_drewN | apply below_drew1 | refine below_set ?_ GE211.out) | exact HB.out)))); (case aL => have := LMc37.out; omega); intro v231 w47 ho hb hg hat; rw [← Ny230.out] at ho; have n0_ := Aside0.mk (blk_grown (g := gb211) (o := .cells #[.int .i64 a0_0, .int .i64 a0_1, .slice A0_2 l0_2.length c0_2, .int .u8 a0_3] 30 (0, 0)) (by (with_reducible repeat (first | refine blk_drewN ?_ _ | refine blk_drew ?_ | refine blk_alloc ?_ _)); exact BK211.out) hg (Kd.R_ne HO229.out BK211.out (by decide))); have n1_ := Aside0.mk (hb); have n2_ := Aside0.mk (ho); clear BK211; clear HB; clear HO229; have BK211 := n0_; have HB := n1_; have HO232 := n2_; clear n0_ n1_ n2_; clear ho hb hg hat; obtain ⟨Ao48, co48, eo48⟩ := Kd.R_slice HO232.out; subst eo48; have p233 : 0 ≤ ((ji39) : Int) := of_decide_eq_true (by first | (with_reducible assumption) | assumption); have q233 : (ji39) < (y230.length : Int) := of_decide_eq_true (by first | (with_reducible assumption) | assumption); obtain ⟨ad233, e233, hx233_0⟩ := Kd.at_int (Kd.R_reads' HO232.out).2.2 (ji39) p233 q233; cases e233; replace p233 := eq_true p233; replace q233 := eq_true q233; have p42 : 0 ≤ ((ji39) : Int) := of_decide_eq_true (by first | (with_reducible assumption) | assumption); have q42 : ((ji39) : Int) < ((y230.length : Int) : Int) := of_decide_eq_true (by first | (with_reducible assumption) | assumption); obtain ⟨go42, co42, eo42, gb42, gl42, cl42, HG42⟩ := Kd.R_form HO232.out (by omega); (first | cases eo42 | (injection eo42 with ea_ en_ ec_; (first | subst ea_ | (injection ea_ with ea_; subst ea_)); subst ec_; clear en_)); have GB42 := Aside0.mk gb42; have GG42 := Aside0.mk HG42; clear gb42 gl42 HG42; (first | simp only [add_plain] at hx233_0 | skip); obtain ⟨hx42_0, hf42_0⟩ := Kd.R_celln 0 HO232.out ((ji39) : Int) p42 q42; replace p42 := eq_true p42; replace q42 := eq_true q42; obtain ⟨hy49_, hz49_⟩ := Kd.R_celln 0 HO232.out ((ji39) : Int) (of_decide_eq_true (by first | (with_reducible assumption) | assumption)) (of_decide_eq_true (by first | (with_reducible assumption) | assumption)); have HP49 := Kd.R_putg HO232.out ((ji39) : Int) (wrap64 ((rd y230 (ji39)) + (ji13)))) | ((with_reducible refine gate_store (t := 2) (p := 85) rfl ?_); (try (rw [drewN_self w47]; generalize hq_ : World.drewN w47 _ = w47; have n0_ := Aside0.mk (Kd.R_at hq_ HO232.out); have n1_ := Aside0.mk (blk_at hq_ BK211.out); have n2_ := Aside0.mk (below_at hq_ HB.out); clear hq_ HO232 BK211 HB; have HO232 := n0_; have BK211 := n1_; have HB := n2_; clear n0_ n1_ n2_; (try (obtain ⟨hy49_, hz49_⟩ := Kd.R_celln 0 HO232.out ((ji39) : Int) (of_decide_eq_true (by first | (with_reducible assumption) | assumption)) (of_decide_eq_true (by first | (with_reducible assumption) | assumption)))); (try (have HP49 := Kd.R_putg HO232.out ((ji39) : Int) (wrap64 ((rd y230 (ji39)) + (ji13))))))); refine store_event (t := 2) (p := 85) (v := ?vo_w50) (w1 := (w47.setCell ⟨go42, ((ji39) : Int).toNat, none⟩ (.int .i64 (wrap64 ((rd y230 (ji39)) + (ji13)))))) ?hg ?ho ?hn ?hr ?_; (case ho => rfl); (case hg => rfl); (case hn => rfl); (case hr => first | (go_simp; done) | (go_simp; rfl)); intro w50 hw; have hg : w47.grownBy w50 (some go42) := (by rw [hw]; exact HP49.2); have hp_ : Kd.R (Kd.int .i64) 2 w50 w.heap.size (fun _ => True) (.slice (some ⟨go42, 0, none⟩) y230.length co48) y234 := (by rw [hw, Ny234.out]; exact HP49.1); clear HP49; have n0_ := Aside0.mk (blk_grown (g := gb211) (o := .cells #[.int .i64 a0_0, .int .i64 a0_1, .slice A0_2 l0_2.length c0_2, .int .u8 a0_3] 30 (0, 0)) (by (with_reducible repeat (first | refine blk_drewN ?_ _ | refine blk_drew ?_ | refine blk_alloc ?_ _)); exact BK211.out) hg (Kd.R_ne HO232.out BK211.out (by decide))); have n1_ := Aside0.mk (hp_); have n2_ := Aside0.mk ((by rw [hw]; exact below_set (HB.out) GB42.out : Below w.heap.size w w50)); clear BK211; clear HO232; clear HB; have BK211 := n0_; have HO232 := n1_; have HB := n2_; clear n0_ n1_ n2_; clear hg hw hp_) | (go_at_call 10; refine calls_of_args (args' := #[.int .i64 a0_0, .slice (some ⟨go42, 0, none⟩) y234.length co48]) (by first | (rw [show y234.length = y230.length from (Kd.R_reads' HO232.out).1.symm] <;> rfl) | rfl) ?_; (with_reducible refine (eir_Solve.calls kj3 a0_0 _ _ y234 t235 t236 _ ?side1 ?side2 A43.out).mono ?_); (case side1 => repeat (first | exact (Kd.R_reads' HO232.out).2.2 | (with_reducible refine Kd.C_alloc ?_ _) | (with_reducible refine Kd.C_drewN ?_ _) | (with_reducible refine Kd.C_drew ?_))); (case side2 => rw [show y234.length = y230.length from (Kd.R_reads' HO232.out).1.symm]; exact (Kd.R_reads' HO232.out).2.1); rintro e w51 ⟨rfl, hb⟩; have n0_ := Aside0.mk (Kd.R_below (by (with_reducible repeat (first | apply Kd.R_alloc | apply Kd.R_drewN | apply Kd.R_drew)); exact HO232.out) hb); have n1_ := Aside0.mk (blk_below (g := gb211) (o := .cells #[.int .i64 a0_0, .int .i64 a0_1, .slice A0_2 l0_2.length c0_2, .int .u8 a0_3] 30 (0, 0)) (by (with_reducible repeat (first | refine blk_drewN ?_ _ | refine blk_drew ?_ | refine blk_alloc ?_ _)); exact BK211.out) hb); have n2_ := Aside0.mk (below_step (by repeat (first | (with_reducible first | exact HB.out | apply below_alloc | apply pw_below_drewN | apply below_drew1 | refine below_set ?_ GE211.out) | exact HB.out)) hb); clear HO232; clear BK211; clear HB; have HO232 := n0_; have BK211 := n1_; have HB := n2_; clear n0_ n1_ n2_; (try clear hb); (try clear hb2); (try clear hk); (try clear hi))); go_upto_region 16 with (first | ((with_reducible refine gate_dst (N := 72) rfl ?_); (try (refine gate_guard (by rfl) ?_; dsimp only)); refine Kd.R_lit (Kd.int .i64) _ 2 ?hg (N := 72) ?hd (xs := ([] : List Int)) (inner := []) (ok := fun _ => True) (okp := fun _ => True) ?hr ?hp (fun _ hk => hk) trivial (Below.refl _ _) (Nat.le_refl _) (by simp) ?_; (case hd => rfl); (case hg => rfl); (case hr => first | (go_simp; done) | (go_simp; rfl)); (case hp => exact (Reps.none _ _)); intro v228 w45 ho46 hb hg_ hnew_; clear hg_ hnew_; (first | rw [← Ny227.out] at ho46 | (simp only [Int.reduceToNat] at ho46; rw [← Ny227.out] at ho46)); have n0_ := Aside0.mk (Kd.R_lower ho46 (below_size (by repeat (first | (with_reducible first | exact HB.out | apply below_alloc | apply pw_below_drewN | apply below_drew1 | refine below_set ?_ GE211.out) | exact HB.out)))); have n1_ := Aside0.mk (blk_below (g := gb211) (o := .cells #[.int .i64 a0_0, .int .i64 a0_1, .slice A0_2 l0_2.length c0_2, .int .u8 a0_3] 30 (0, 0)) (by (with_reducible repeat (first | refine blk_drewN ?_ _ | refine blk_drew ?_ | refine blk_alloc ?_ _)); exact BK211.out) hb); have n2_ := Aside0.mk (below_step (by repeat (first | (with_reducible first | exact HB.out | apply below_alloc | apply pw_below_drewN | apply below_drew1 | refine below_set ?_ GE211.out) | exact HB.out)) hb); clear BK211; clear HB; have HO229 := n0_; have BK211 := n1_; have HB := n2_; clear n0_ n1_ n2_; clear hb ho46) | ((with_reducible refine gate_builtin (b := .append) (xs := #[.tmp 72, .tmp 73]) rfl ?_); (try (refine gate_guard (by rfl) ?_; dsimp only)); at_builtin; refine Kd.R_append_rows (Kd.int .i64) (w0 := w) w.heap.size rfl (.tmp 72) (.tmp 73) 22 2 (.int .i64 0) 8 rfl Star.underlying22 info2 rfl (by decide) (by omega) v228 y227 l0_2 _ _ _ (fun _ => True) (fun _ => False) rfl rfl ?aO ?aR (fun _ _ h => h) (fun _ h => h.elim) ?aF ?aB ?aS ?aL ?_; (case aR => repeat (first | exact (Kd.C_below HR0_2.out HB.out) | (with_reducible refine Kd.C_alloc ?_ _) | (with_reducible refine Kd.C_drewN ?_ _) | (with_reducible refine Kd.C_drew ?_))); (case aB => exact (by repeat (first | (with_reducible first | exact HB.out | apply below_alloc | apply pw_below_drewN | apply below_drew1 | refine below_set ?_ GE211.out) | exact HB.out))); (case aF => exact (fun _ _ => trivial)); (case aO => exact (by (with_reducible repeat (first | apply Kd.R_alloc | apply Kd.R_drewN | apply Kd.R_drew)); exact HO229.out)); (case aS => exact (below_size (by repeat (first | (with_reducible first | exact HB.out | apply below_alloc | apply pw_below_drewN | apply below_drew1 | refine below_set ?_ GE211.out) | exact HB.out)))); (case aL => have := LMc37.out; omega); intro v231 w47 ho hb hg hat; rw [← Ny230.out] at ho; have n0_ := Aside0.mk (blk_grown (g := gb211) (o := .cells #[.int .i64 a0_0, .int .i64 a0_1, .slice A0_2 l0_2.length c0_2, .int .u8 a0_3] 30 (0, 0)) (by (with_reducible repeat (first | refine blk_drewN ?_ _ | refine blk_drew ?_ | refine blk_alloc ?_ _)); exact BK211.out) hg (Kd.R_ne HO229.out BK211.out (by decide))); have n1_ := Aside0.mk (hb); have n2_ := Aside0.mk (ho); clear BK211; clear HB; clear HO229; have BK211 := n0_; have HB := n1_; have HO232 := n2_; clear n0_ n1_ n2_; clear ho hb hg hat; obtain ⟨Ao48, co48, eo48⟩ := Kd.R_slice HO232.out; subst eo48; have p233 : 0 ≤ ((ji39) : Int) := of_decide_eq_true (by first | (with_reducible assumption) | assumption); have q233 : (ji39) < (y230.length : Int) := of_decide_eq_true (by first | (with_reducible assumption) | assumption); obtain ⟨ad233, e233, hx233_0⟩ := Kd.at_int (Kd.R_reads' HO232.out).2.2 (ji39) p233 q233; cases e233; replace p233 := eq_true p233; replace q233 := eq_true q233; have p42 : 0 ≤ ((ji39) : Int) := of_decide_eq_true (by first | (with_reducible assumption) | assumption); have q42 : ((ji39) : Int) < ((y230.length : Int) : Int) := of_decide_eq_true (by first | (with_reducible assumption) | assumption); obtain ⟨go42, co42, eo42, gb42, gl42, cl42, HG42⟩ := Kd.R_form HO232.out (by omega); (first | cases eo42 | (injection eo42 with ea_ en_ ec_; (first | subst ea_ | (injection ea_ with ea_; subst ea_)); subst ec_; clear en_)); have GB42 := Aside0.mk gb42; have GG42 := Aside0.mk HG42; clear gb42 gl42 HG42; (first | simp only [add_plain] at hx233_0 | skip); obtain ⟨hx42_0, hf42_0⟩ := Kd.R_celln 0 HO232.out ((ji39) : Int) p42 q42; replace p42 := eq_true p42; replace q42 := eq_true q42; obtain ⟨hy49_, hz49_⟩ := Kd.R_celln 0 HO232.out ((ji39) : Int) (of_decide_eq_true (by first | (with_reducible assumption) | assumption)) (of_decide_eq_true (by first | (with_reducible assumption) | assumption)); have HP49 := Kd.R_putg HO232.out ((ji39) : Int) (wrap64 ((rd y230 (ji39)) + (ji13)))) | ((with_reducible refine gate_store (t := 2) (p := 85) rfl ?_); (try (rw [drewN_self w47]; generalize hq_ : World.drewN w47 _ = w47; have n0_ := Aside0.mk (Kd.R_at hq_ HO232.out); have n1_ := Aside0.mk (blk_at hq_ BK211.out); have n2_ := Aside0.mk (below_at hq_ HB.out); clear hq_ HO232 BK211 HB; have HO232 := n0_; have BK211 := n1_; have HB := n2_; clear n0_ n1_ n2_; (try (obtain ⟨hy49_, hz49_⟩ := Kd.R_celln 0 HO232.out ((ji39) : Int) (of_decide_eq_true (by first | (with_reducible assumption) | assumption)) (of_decide_eq_true (by first | (with_reducible assumption) | assumption)))); (try (have HP49 := Kd.R_putg HO232.out ((ji39) : Int) (wrap64 ((rd y230 (ji39)) + (ji13))))))); refine store_event (t := 2) (p := 85) (v := ?vo_w50) (w1 := (w47.setCell ⟨go42, ((ji39) : Int).toNat, none⟩ (.int .i64 (wrap64 ((rd y230 (ji39)) + (ji13)))))) ?hg ?ho ?hn ?hr ?_; (case ho => rfl); (case hg => rfl); (case hn => rfl); (case hr => first | (go_simp; done) | (go_simp; rfl)); intro w50 hw; have hg : w47.grownBy w50 (some go42) := (by rw [hw]; exact HP49.2); have hp_ : Kd.R (Kd.int .i64) 2 w50 w.heap.size (fun _ => True) (.slice (some ⟨go42, 0, none⟩) y230.length co48) y234 := (by rw [hw, Ny234.out]; exact HP49.1); clear HP49; have n0_ := Aside0.mk (blk_grown (g := gb211) (o := .cells #[.int .i64 a0_0, .int .i64 a0_1, .slice A0_2 l0_2.length c0_2, .int .u8 a0_3] 30 (0, 0)) (by (with_reducible repeat (first | refine blk_drewN ?_ _ | refine blk_drew ?_ | refine blk_alloc ?_ _)); exact BK211.out) hg (Kd.R_ne HO232.out BK211.out (by decide))); have n1_ := Aside0.mk (hp_); have n2_ := Aside0.mk ((by rw [hw]; exact below_set (HB.out) GB42.out : Below w.heap.size w w50)); clear BK211; clear HO232; clear HB; have BK211 := n0_; have HO232 := n1_; have HB := n2_; clear n0_ n1_ n2_; clear hg hw hp_) | (go_at_call 10; refine calls_of_args (args' := #[.int .i64 a0_0, .slice (some ⟨go42, 0, none⟩) y234.length co48]) (by first | (rw [show y234.length = y230.length from (Kd.R_reads' HO232.out).1.symm] <;> rfl) | rfl) ?_; (with_reducible refine (eir_Solve.calls kj3 a0_0 _ _ y234 t235 t236 _ ?side1 ?side2 A43.out).mono ?_); (case side1 => repeat (first | exact (Kd.R_reads' HO232.out).2.2 | (with_reducible refine Kd.C_alloc ?_ _) | (with_reducible refine Kd.C_drewN ?_ _) | (with_reducible refine Kd.C_drew ?_))); (case side2 => rw [show y234.length = y230.length from (Kd.R_reads' HO232.out).1.symm]; exact (Kd.R_reads' HO232.out).2.1); rintro e w51 ⟨rfl, hb⟩; have n0_ := Aside0.mk (Kd.R_below (by (with_reducible repeat (first | apply Kd.R_alloc | apply Kd.R_drewN | apply Kd.R_drew)); exact HO232.out) hb); have n1_ := Aside0.mk (blk_below (g := gb211) (o := .cells #[.int .i64 a0_0, .int .i64 a0_1, .slice A0_2 l0_2.length c0_2, .int .u8 a0_3] 30 (0, 0)) (by (with_reducible repeat (first | refine blk_drewN ?_ _ | refine blk_drew ?_ | refine blk_alloc ?_ _)); exact BK211.out) hb); have n2_ := Aside0.mk (below_step (by repeat (first | (with_reducible first | exact HB.out | apply below_alloc | apply pw_below_drewN | apply below_drew1 | refine below_set ?_ GE211.out) | exact HB.out)) hb); clear HO232; clear BK211; clear HB; have HO232 := n0_; have BK211 := n1_; have HB := n2_; clear n0_ n1_ n2_; (try clear hb); (try clear hb2); (try clear hk); (try clear hi))))
            have H := HC44.out
            clear HC44
            by_cases c52 : t236 = 0
            ·rw [if_pos c52] at H
             have c52b0 : (t236 == 0) = true := beq_iff_eq.mpr c52
             have c52b1 : (t236 != 0) = false := bne_eq_false_iff_eq.mpr c52
             clear c52
             obtain rfl := Option.some.inj H
             go_wp2
             repeat (go_quiet (fail); try go_wp2)
             go_ret
             exact ⟨by first | rfl | (simp [errW_none, errW_some] <;> rfl) | (simp only [← hji12, ← hji13, ← hji39]; first | rfl | (simp [errW_none, errW_some] <;> rfl)) | (simp [*, errW_none, errW_some] <;> rfl), by repeat (first | (with_reducible first | exact HB.out | apply below_alloc | apply pw_below_drewN | apply below_drew1 | refine below_set ?_ GE211.out) | exact HB.out)⟩
            ·rw [if_neg c52] at H
             have c52b0 : (t236 == 0) = false := beq_eq_false_iff_ne.mpr c52
             have c52b1 : (t236 != 0) = true := bne_iff_ne.mpr c52
             obtain rfl := Option.some.inj H
             go_wp2
             repeat (go_quiet (fail); try go_wp2)
             go_ret
             exact ⟨by first | rfl | (simp [errW_none, errW_some] <;> rfl) | (simp only [← hji12, ← hji13, ← hji39]; first | rfl | (simp [errW_none, errW_some] <;> rfl)) | (simp [*, errW_none, errW_some] <;> rfl), by repeat (first | (with_reducible first | exact HB.out | apply below_alloc | apply pw_below_drewN | apply below_drew1 | refine below_set ?_ GE211.out) | exact HB.out)⟩
           ·rw [if_neg c41] at H
            exact absurd H (by simp)
          ·rw [if_neg c40] at H
           exact absurd H (by simp)
        ·rw [if_neg c37] at H
         exact absurd H (by simp)
       ·rw [if_neg c36] at H
        have c36b0 : (t216 == 13) = false := beq_eq_false_iff_ne.mpr c36
        have c36b1 : (t216 != 13) = true := bne_iff_ne.mpr c36
        by_cases c53 : (wrap64 (a0_0 + (ji13))) ≤ 10000000000000
        ·rw [if_pos c53] at H
         have c53b0 : decide ((wrap64 (a0_0 + (ji13))) ≤ 10000000000000) = true := decide_eq_true c53
         clear c53
         obtain rfl := Option.some.inj H
         go_wp2
         repeat (go_quiet (fail); try go_wp2)
         go_ret
         exact ⟨by first | rfl | (simp [errW_none, errW_some] <;> rfl) | (simp only [← hji12, ← hji13]; first | rfl | (simp [errW_none, errW_some] <;> rfl)) | (simp [*, errW_none, errW_some] <;> rfl), by repeat (first | (with_reducible first | exact HB.out | apply below_alloc | apply pw_below_drewN | apply below_drew1 | refine below_set ?_ GE211.out) | exact HB.out)⟩
        ·rw [if_neg c53] at H
         have c53b0 : decide ((wrap64 (a0_0 + (ji13))) ≤ 10000000000000) = false := decide_eq_false c53
         clear c53
         obtain ⟨y237, hy237⟩ : ∃ y_ : List Int, y_ = (([] : List Int)) := ⟨_, rfl⟩
         replace H : (if y237.length + l0_2.length < 17592186044416 then ((some (y237 ++ l0_2 : List Int)).bind fun y240 => (if (y240.length : Int) = 0 then (none) else (if 0 ≤ (Int.tmod (wrap64 (a0_3)) (y240.length : Int)) then (if (Int.tmod (wrap64 (a0_3)) (y240.length : Int)) < (y240.length : Int) then ((eir_Solve.f kj3 a0_0 (y240.set ((Int.tmod (wrap64 (a0_3)) (y240.length : Int)) : Int).toNat (wrap64 ((rd y240 (Int.tmod (wrap64 (a0_3)) (y240.length : Int))) + (ji13))))).bind fun bt245 => (if bt245.2 = 0 then (some (decide (bt245.1 ≥ t213))) else (some true))) else (none)) else (none)))) else (none)) = some r := by first | (rw [hy237]; with_reducible exact H) | (have H2_ := (Option.bind_some _ _).symm.trans H; rw [hy237]; with_reducible exact H2_) | (have H2_ := (Option.bind_some _ _).symm.trans H; with_reducible exact H2_) | with_reducible exact H | (rw [hy237]; exact H) | exact H
         have Ny237 := Aside0.mk hy237
         clear hy237
         by_cases c54 : y237.length + l0_2.length < 17592186044416
         ·rw [if_pos c54] at H
          have LMc54 := Aside0.mk c54
          clear c54
          obtain ⟨y240, hy240⟩ : ∃ y_ : List Int, y_ = (y237 ++ l0_2) := ⟨_, rfl⟩
          replace H : (if (y240.length : Int) = 0 then (none) else (if 0 ≤ (Int.tmod (wrap64 (a0_3)) (y240.length : Int)) then (if (Int.tmod (wrap64 (a0_3)) (y240.length : Int)) < (y240.length : Int) then ((eir_Solve.f kj3 a0_0 (y240.set ((Int.tmod (wrap64 (a0_3)) (y240.length : Int)) : Int).toNat (wrap64 ((rd y240 (Int.tmod (wrap64 (a0_3)) (y240.length : Int))) + (ji13))))).bind fun bt245 => (if bt245.2 = 0 then (some (decide (bt245.1 ≥ t213))) else (some true))) else (none)) else (none))) = some r := by first | (rw [hy240]; with_reducible exact H) | (have H2_ := (Option.bind_some _ _).symm.trans H; rw [hy240]; with_reducible exact H2_) | (have H2_ := (Option.bind_some _ _).symm.trans H; with_reducible exact H2_) | with_reducible exact H | (rw [hy240]; exact H) | exact H
          have Ny240 := Aside0.mk hy240
          clear hy240
          by_cases c55 : (y240.length : Int) = 0
          ·rw [if_pos c55] at H
           exact absurd H (by simp)
          ·rw [if_neg c55] at H
           have c55b0 : ((y240.length : Int) == 0) = false := beq_eq_false_iff_ne.mpr c55
           have c55b1 : ((y240.length : Int) != 0) = true := bne_iff_ne.mpr c55
           have c55b2 : ¬ (y240 = []) := fun h_ => c55 (by rw [h_]; rfl)
           obtain ⟨ji56, hji56⟩ : ∃ j_ : Int, (Int.tmod (wrap64 (a0_3)) (y240.length : Int)) = j_ := ⟨_, rfl⟩
           replace H : (if 0 ≤ (ji56) then (if (ji56) < (y240.length : Int) then ((eir_Solve.f kj3 a0_0 (y240.set ((ji56) : Int).toNat (wrap64 ((rd y240 (ji56)) + (ji13))))).bind fun bt245 => (if bt245.2 = 0 then (some (decide (bt245.1 ≥ t213))) else (some true))) else (none)) else (none)) = some r := by first | (rw [hji56] at H; exact H) | (simp only [hji56] at H ⊢; exact H)
           by_cases c57 : 0 ≤ (ji56)
           ·rw [if_pos c57] at H
            have c57b0 : decide (0 ≤ (ji56)) = true := decide_eq_true c57
            clear c57
            by_cases c58 : (ji56) < (y240.length : Int)
            ·rw [if_pos c58] at H
             have c58b0 : decide ((ji56) < (y240.length : Int)) = true := decide_eq_true c58
             clear c58
             obtain ⟨y244, hy244⟩ : ∃ y_ : List Int, y_ = (y240.set ((ji56) : Int).toNat (wrap64 ((rd y240 (ji56)) + (ji13)))) := ⟨_, rfl⟩
             replace H : ((eir_Solve.f kj3 a0_0 y244).bind fun bt245 => (if bt245.2 = 0 then (some (decide (bt245.1 ≥ t213))) else (some true))) = some r := by first | (rw [hy244]; with_reducible exact H) | (have H2_ := (Option.bind_some _ _).symm.trans H; rw [hy244]; with_reducible exact H2_) | (have H2_ := (Option.bind_some _ _).symm.trans H; with_reducible exact H2_) | with_reducible exact H | (rw [hy244]; exact H) | exact H
             have Ny244 := Aside0.mk hy244
             clear hy244
             replace H := Option.bind_eq_some_iff.mp H
             obtain ⟨⟨t245, t246⟩, A600, H⟩ := H
             replace H : (if t246 = 0 then (some (decide (t245 ≥ t213))) else (some true)) = some r := H
             have A60 := Aside0.mk A600
             clear A600
             have HC61 := Aside0.mk H
             clear H
             go_upto_region 16 with (first | ((with_reducible refine gate_dst (N := 72) rfl ?_); (try (refine gate_guard (by rfl) ?_; dsimp only)); refine Kd.R_lit (Kd.int .i64) _ 2 ?hg (N := 72) ?hd (xs := ([] : List Int)) (inner := []) (ok := fun _ => True) (okp := fun _ => True) ?hr ?hp (fun _ hk => hk) trivial (Below.refl _ _) (Nat.le_refl _) (by simp) ?_; (case hd => rfl); (case hg => rfl); (case hr => first | (go_simp; done) | (go_simp; rfl)); (case hp => exact (Reps.none _ _)); intro v238 w62 ho63 hb hg_ hnew_; clear hg_ hnew_; (first | rw [← Ny237.out] at ho63 | (simp only [Int.reduceToNat] at ho63; rw [← Ny237.out] at ho63)); have n0_ := Aside0.mk (Kd.R_lower ho63 (below_size (by repeat (first | (with_reducible first | exact HB.out | apply below_alloc | apply pw_below_drewN | apply below_drew1 | refine below_set ?_ GE211.out) | exact HB.out)))); have n1_ := Aside0.mk (blk_below (g := gb211) (o := .cells #[.int .i64 a0_0, .int .i64 a0_1, .slice A0_2 l0_2.length c0_2, .int .u8 a0_3] 30 (0, 0)) (by (with_reducible repeat (first | refine blk_drewN ?_ _ | refine blk_drew ?_ | refine blk_alloc ?_ _)); exact BK211.out) hb); have n2_ := Aside0.mk (below_step (by repeat (first | (with_reducible first | exact HB.out | apply below_alloc | apply pw_below_drewN | apply below_drew1 | refine below_set ?_ GE211.out) | exact HB.out)) hb); clear BK211; clear HB; have HO239 := n0_; have BK211 := n1_; have HB := n2_; clear n0_ n1_ n2_; clear hb ho63) | ((with_reducible refine gate_builtin (b := .append) (xs := #[.tmp 72, .tmp 73]) rfl ?_); (try (refine gate_guard (by rfl) ?_; dsimp only)); at_builtin; refine Kd.R_append_rows (Kd.int .i64) (w0 := w) w.heap.size rfl (.tmp 72) (.tmp 73) 22 2 (.int .i64 0) 8 rfl Star.underlying22 info2 rfl (by decide) (by omega) v238 y237 l0_2 _ _ _ (fun _ => True) (fun _ => False) rfl rfl ?aO ?aR (fun _ _ h => h) (fun _ h => h.elim) ?aF ?aB ?aS ?aL ?_; (case aR => repeat (first | exact (Kd.C_below HR0_2.out HB.out) | (with_reducible refine Kd.C_alloc ?_ _) | (with_reducible refine Kd.C_drewN ?_ _) | (with_reducible refine Kd.C_drew ?_))); (case aB => exact (by repeat (first | (with_reducible first | exact HB.out | apply below_alloc | apply pw_below_drewN | apply below_drew1 | refine below_set ?_ GE211.out) | exact HB.out))); (case aF => exact (fun _ _ => trivial)); (case aO => exact (by (with_reducible repeat (first | apply Kd.R_alloc | apply Kd.R_drewN | apply Kd.R_drew)); exact HO239.out)); (case aS => exact (below_size (by repeat (first | (with_reducible first | exact HB.out | apply below_alloc | apply pw_below_drewN | apply below_drew1 | refine below_set ?_ GE211.out) | exact HB.out)))); (case aL => have := LMc54.out; omega); intro v241 w64 ho hb hg hat; rw [← Ny240.out] at ho; have n0_ := Aside0.mk (blk_grown (g := gb211) (o := .cells #[.int .i64 a0_0, .int .i64 a0_1, .slice A0_2 l0_2.length c0_2, .int .u8 a0_3] 30 (0, 0)) (by (with_reducible repeat (first | refine blk_drewN ?_ _ | refine blk_drew ?_ | refine blk_alloc ?_ _)); exact BK211.out) hg (Kd.R_ne HO239.out BK211.out (by decide))); have n1_ := Aside0.mk (hb); have n2_ := Aside0.mk (ho); clear BK211; clear HB; clear HO239; have BK211 := n0_; have HB := n1_; have HO242 := n2_; clear n0_ n1_ n2_; clear ho hb hg hat; obtain ⟨Ao65, co65, eo65⟩ := Kd.R_slice HO242.out; subst eo65; have p243 : 0 ≤ ((ji56) : Int) := of_decide_eq_true (by first | (with_reducible assumption) | assumption); have q243 : (ji56) < (y240.length : Int) := of_decide_eq_true (by first | (with_reducible assumption) | assumption); obtain ⟨ad243, e243, hx243_0⟩ := Kd.at_int (Kd.R_reads' HO242.out).2.2 (ji56) p243 q243; cases e243; replace p243 := eq_true p243; replace q243 := eq_true q243; have p59 : 0 ≤ ((ji56) : Int) := of_decide_eq_true (by first | (with_reducible assumption) | assumption); have q59 : ((ji56) : Int) < ((y240.length : Int) : Int) := of_decide_eq_true (by first | (with_reducible assumption) | assumption); obtain ⟨go59, co59, eo59, gb59, gl59, cl59, HG59⟩ := Kd.R_form HO242.out (by omega); (first | cases eo59 | (injection eo59 with ea_ en_ ec_; (first | subst ea_ | (injection ea_ with ea_; subst ea_)); subst ec_; clear en_)); have GB59 := Aside0.mk gb59; have GG59 := Aside0.mk HG59; clear gb59 gl59 HG59; (first | simp only [add_plain] at hx243_0 | skip); obtain ⟨hx59_0, hf59_0⟩ := Kd.R_celln 0 HO242.out ((ji56) : Int) p59 q59; replace p59 := eq_true p59; replace q59 := eq_true q59; obtain ⟨hy66_, hz66_⟩ := Kd.R_celln 0 HO242.out ((ji56) : Int) (of_decide_eq_true (by first | (with_reducible assumption) | assumption)) (of_decide_eq_true (by first | (with_reducible assumption) | assumption)); have HP66 := Kd.R_putg HO242.out ((ji56) : Int) (wrap64 ((rd y240 (ji56)) + (ji13)))) | ((with_reducible refine gate_store (t := 2) (p := 85) rfl ?_); (try (rw [drewN_self w64]; generalize hq_ : World.drewN w64 _ = w64; have n0_ := Aside0.mk (Kd.R_at hq_ HO242.out); have n1_ := Aside0.mk (blk_at hq_ BK211.out); have n2_ := Aside0.mk (below_at hq_ HB.out); clear hq_ HO242 BK211 HB; have HO242 := n0_; have BK211 := n1_; have HB := n2_; clear n0_ n1_ n2_; (try (obtain ⟨hy66_, hz66_⟩ := Kd.R_celln 0 HO242.out ((ji56) : Int) (of_decide_eq_true (by first | (with_reducible assumption) | assumption)) (of_decide_eq_true (by first | (with_reducible assumption) | assumption)))); (try (have HP66 := Kd.R_putg HO242.out ((ji56) : Int) (wrap64 ((rd y240 (ji56)) + (ji13))))))); refine store_event (t := 2) (p := 85) (v := ?vo_w67) (w1 := (w64.setCell ⟨go59, ((ji56) : Int).toNat, none⟩ (.int .i64 (wrap64 ((rd y240 (ji56)) + (ji13)))))) ?hg ?ho ?hn ?hr ?_; (case ho => rfl); (case hg => rfl); (case hn => rfl); (case hr => first | (go_simp; done) | (go_simp; rfl)); intro w67 hw; have hg : w64.grownBy w67 (some go59) := (by rw [hw]; exact HP66.2); have hp_ : Kd.R (Kd.int .i64) 2 w67 w.heap.size (fun _ => True) (.slice (some ⟨go59, 0, none⟩) y240.length co65) y244 := (by rw [hw, Ny244.out]; exact HP66.1); clear HP66; have n0_ := Aside0.mk (blk_grown (g := gb211) (o := .cells #[.int .i64 a0_0, .int .i64 a0_1, .slice A0_2 l0_2.length c0_2, .int .u8 a0_3] 30 (0, 0)) (by (with_reducible repeat (first | refine blk_drewN ?_ _ | refine blk_drew ?_ | refine blk_alloc ?_ _)); exact BK211.out) hg (Kd.R_ne HO242.out BK211.out (by decide))); have n1_ := Aside0.mk (hp_); have n2_ := Aside0.mk ((by rw [hw]; exact below_set (HB.out) GB59.out : Below w.heap.size w w67)); clear BK211; clear HO242; clear HB; have BK211 := n0_; have HO242 := n1_; have HB := n2_; clear n0_ n1_ n2_; clear hg hw hp_) | (go_at_call 10; refine calls_of_args (args' := #[.int .i64 a0_0, .slice (some ⟨go59, 0, none⟩) y244.length co65]) (by first | (rw [show y244.length = y240.length from (Kd.R_reads' HO242.out).1.symm] <;> rfl) | rfl) ?_; (with_reducible refine (eir_Solve.calls kj3 a0_0 _ _ y244 t245 t246 _ ?side1 ?side2 A60.out).mono ?_); (case side1 => repeat (first | exact (Kd.R_reads' HO242.out).2.2 | (with_reducible refine Kd.C_alloc ?_ _) | (with_reducible refine Kd.C_drewN ?_ _) | (with_reducible refine Kd.C_drew ?_))); (case side2 => rw [show y244.length = y240.length from (Kd.R_reads' HO242.out).1.symm]; exact (Kd.R_reads' HO242.out).2.1); rintro e w68 ⟨rfl, hb⟩; have n0_ := Aside0.mk (Kd.R_below (by (with_reducible repeat (first | apply Kd.R_alloc | apply Kd.R_drewN | apply Kd.R_drew)); exact HO242.out) hb); have n1_ := Aside0.mk (blk_below (g := gb211) (o := .cells #[.int .i64 a0_0, .int .i64 a0_1, .slice A0_2 l0_2.length c0_2, .int .u8 a0_3] 30 (0, 0)) (by (with_reducible repeat (first | refine blk_drewN ?_ _ | refine blk_drew ?_ | refine blk_alloc ?_ _)); exact BK211.out) hb); have n2_ := Aside0.mk (below_step (by repeat (first | (with_reducible first | exact HB.out | apply below_alloc | apply pw_below_drewN | apply below_drew1 | refine below_set ?_ GE211.out) | exact HB.out)) hb); clear HO242; clear BK211; clear HB; have HO242 := n0_; have BK211 := n1_; have HB := n2_; clear n0_ n1_ n2_; (try clear hb); (try clear hb2); (try clear hk); (try clear hi)))
             repeat (go_quiet (first | ((with_reducible refine gate_dst (N := 72) rfl ?_); (try (refine gate_guard (by rfl) ?_; dsimp only)); refine Kd.R_lit (Kd.int .i64) _ 2 ?hg (N := 72) ?hd (xs := ([] : List Int)) (inner := []) (ok := fun _ => True) (okp := fun _ => True) ?hr ?hp (fun _ hk => hk) trivial (Below.refl _ _) (Nat.le_refl _) (by simp) ?_; (case hd => rfl); (case hg => rfl); (case hr => first | (go_simp; done) | (go_simp; rfl)); (case hp => exact (Reps.none _ _)); intro v238 w62 ho63 hb hg_ hnew_; clear hg_ hnew_; (first | rw [← Ny237.out] at ho63 | (simp only [Int.reduceToNat] at ho63; rw [← Ny237.out] at ho63)); have n0_ := Aside0.mk (Kd.R_lower ho63 (below_size (by repeat (first | (with_reducible first | exact HB.out | apply below_alloc | apply pw_below_drewN | apply below_drew1 | refine below_set ?_ GE211.out) | exact HB.out)))); have n1_ := Aside0.mk (blk_below (g := gb211) (o := .cells #[.int .i64 a0_0, .int .i64 a0_1, .slice A0_2 l0_2.length c0_2, .int .u8 a0_3] 30 (0, 0)) (by (with_reducible repeat (first | refine blk_drewN ?_ _ | refine blk_drew ?_ | refine blk_alloc ?_ _)); exact BK211.out) hb); have n2_ := Aside0.mk (below_step (by repeat (first | (with_reducible first | exact HB.out | apply below_alloc | apply pw_below_drewN | apply below_drew1 | refine below_set ?_ GE211.out) | exact HB.out)) hb); clear BK211; clear HB; have HO239 := n0_; have BK211 := n1_; have HB := n2_; clear n0_ n1_ n2_; clear hb ho63) | ((with_reducible refine gate_builtin (b := .append) (xs := #[.tmp 72, .tmp 73]) rfl ?_); (try (refine gate_guard (by rfl) ?_; dsimp only)); at_builtin; refine Kd.R_append_rows (Kd.int .i64) (w0 := w) w.heap.size rfl (.tmp 72) (.tmp 73) 22 2 (.int .i64 0) 8 rfl Star.underlying22 info2 rfl (by decide) (by omega) v238 y237 l0_2 _ _ _ (fun _ => True) (fun _ => False) rfl rfl ?aO ?aR (fun _ _ h => h) (fun _ h => h.elim) ?aF ?aB ?aS ?aL ?_; (case aR => repeat (first | exact (Kd.C_below HR0_2.out HB.out) | (with_reducible refine Kd.C_alloc ?_ _) | (with_reducible refine Kd.C_drewN ?_ _) | (with_reducible refine Kd.C_drew ?_))); (case aB => exact (by repeat (first | (with_reducible first | exact HB.out | apply below_alloc | apply pw_below_drewN | apply below_drew1 | refine below_set ?_ GE211.out) | exact HB.out))); (case aF => exact (fun _ _ => trivial)); (case aO => exact (by (with_reducible repeat (first | apply Kd.R_alloc | apply Kd.R_drewN | apply Kd.R_drew)); exact HO239.out)); (case aS => exact (below_size (by repeat (first | (with_reducible first | exact HB.out | apply below_alloc | apply pw_below_drewN | apply below_drew1 | refine below_set ?_ GE211.out) | exact HB.out)))); (case aL => have := LMc54.out; omega); intro v241 w64 ho hb hg hat; rw [← Ny240.out] at ho; have n0_ := Aside0.mk (blk_grown (g := gb211) (o := .cells #[.int .i64 a0_0, .int .i64 a0_1, .slice A0_2 l0_2.length c0_2, .int .u8 a0_3] 30 (0, 0)) (by (with_reducible repeat (first | refine blk_drewN ?_ _ | refine blk_drew ?_ | refine blk_alloc ?_ _)); exact BK211.out) hg (Kd.R_ne HO239.out BK211.out (by decide))); have n1_ := Aside0.mk (hb); have n2_ := Aside0.mk (ho); clear BK211; clear HB; clear HO239; have BK211 := n0_; have HB := n1_; have HO242 := n2_; clear n0_ n1_ n2_; clear ho hb hg hat; obtain ⟨Ao65, co65, eo65⟩ := Kd.R_slice HO242.out; subst eo65; have p243 : 0 ≤ ((ji56) : Int) := of_decide_eq_true (by first | (with_reducible assumption) | assumption); have q243 : (ji56) < (y240.length : Int) := of_decide_eq_true (by first | (with_reducible assumption) | assumption); obtain ⟨ad243, e243, hx243_0⟩ := Kd.at_int (Kd.R_reads' HO242.out).2.2 (ji56) p243 q243; cases e243; replace p243 := eq_true p243; replace q243 := eq_true q243; have p59 : 0 ≤ ((ji56) : Int) := of_decide_eq_true (by first | (with_reducible assumption) | assumption); have q59 : ((ji56) : Int) < ((y240.length : Int) : Int) := of_decide_eq_true (by first | (with_reducible assumption) | assumption); obtain ⟨go59, co59, eo59, gb59, gl59, cl59, HG59⟩ := Kd.R_form HO242.out (by omega); (first | cases eo59 | (injection eo59 with ea_ en_ ec_; (first | subst ea_ | (injection ea_ with ea_; subst ea_)); subst ec_; clear en_)); have GB59 := Aside0.mk gb59; have GG59 := Aside0.mk HG59; clear gb59 gl59 HG59; (first | simp only [add_plain] at hx243_0 | skip); obtain ⟨hx59_0, hf59_0⟩ := Kd.R_celln 0 HO242.out ((ji56) : Int) p59 q59; replace p59 := eq_true p59; replace q59 := eq_true q59; obtain ⟨hy66_, hz66_⟩ := Kd.R_celln 0 HO242.out ((ji56) : Int) (of_decide_eq_true (by first | (with_reducible assumption) | assumption)) (of_decide_eq_true (by first | (with_reducible assumption) | assumption)); have HP66 := Kd.R_putg HO242.out ((ji56) : Int) (wrap64 ((rd y240 (ji56)) + (ji13)))) | ((with_reducible refine gate_store (t := 2) (p := 85) rfl ?_); (try (rw [drewN_self w64]; generalize hq_ : World.drewN w64 _ = w64; have n0_ := Aside0.mk (Kd.R_at hq_ HO242.out); have n1_ := Aside0.mk (blk_at hq_ BK211.out); have n2_ := Aside0.mk (below_at hq_ HB.out); clear hq_ HO242 BK211 HB; have HO242 := n0_; have BK211 := n1_; have HB := n2_; clear n0_ n1_ n2_; (try (obtain ⟨hy66_, hz66_⟩ := Kd.R_celln 0 HO242.out ((ji56) : Int) (of_decide_eq_true (by first | (with_reducible assumption) | assumption)) (of_decide_eq_true (by first | (with_reducible assumption) | assumption)))); (try (have HP66 := Kd.R_putg HO242.out ((ji56) : Int) (wrap64 ((rd y240 (ji56)) + (ji13))))))); refine store_event (t := 2) (p := 85) (v := ?vo_w67) (w1 := (w64.setCell ⟨go59, ((ji56) : Int).toNat, none⟩ (.int .i64 (wrap64 ((rd y240 (ji56)) + (ji13)))))) ?hg ?ho ?hn ?hr ?_; (case ho => rfl); (case hg => rfl); (case hn => rfl); (case hr => first | (go_simp; done) | (go_simp; rfl)); intro w67 hw; have hg : w64.grownBy w67 (some go59) := (by rw [hw]; exact HP66.2); have hp_ : Kd.R (Kd.int .i64) 2 w67 w.heap.size (fun _ => True) (.slice (some ⟨go59, 0, none⟩) y240.length co65) y244 := (by rw [hw, Ny244.out]; exact HP66.1); clear HP66; have n0_ := Aside0.mk (blk_grown (g := gb211) (o := .cells #[.int .i64 a0_0, .int .i64 a0_1, .slice A0_2 l0_2.length c0_2, .int .u8 a0_3] 30 (0, 0)) (by (with_reducible repeat (first | refine blk_drewN ?_ _ | refine blk_drew ?_ | refine blk_alloc ?_ _)); exact BK211.out) hg (Kd.R_ne HO242.out BK211.out (by decide))); have n1_ := Aside0.mk (hp_); have n2_ := Aside0.mk ((by rw [hw]; exact below_set (HB.out) GB59.out : Below w.heap.size w w67)); clear BK211; clear HO242; clear HB; have BK211 := n0_; have HO242 := n1_; have HB := n2_; clear n0_ n1_ n2_; clear hg hw hp_) | (go_at_call 10; refine calls_of_args (args' := #[.int .i64 a0_0, .slice (some ⟨go59, 0, none⟩) y244.length co65]) (by first | (rw [show y244.length = y240.length from (Kd.R_reads' HO242.out).1.symm] <;> rfl) | rfl) ?_; (with_reducible refine (eir_Solve.calls kj3 a0_0 _ _ y244 t245 t246 _ ?side1 ?side2 A60.out).mono ?_); (case side1 => repeat (first | exact (Kd.R_reads' HO242.out).2.2 | (with_reducible refine Kd.C_alloc ?_ _) | (with_reducible refine Kd.C_drewN ?_ _) | (with_reducible refine Kd.C_drew ?_))); (case side2 => rw [show y244.length = y240.length from (Kd.R_reads' HO242.out).1.symm]; exact (Kd.R_reads' HO242.out).2.1); rintro e w68 ⟨rfl, hb⟩; have n0_ := Aside0.mk (Kd.R_below (by (with_reducible repeat (first | apply Kd.R_alloc | apply Kd.R_drewN | apply Kd.R_drew)); exact HO242.out) hb); have n1_ := Aside0.mk (blk_below (g := gb211) (o := .cells #[.int .i64 a0_0, .int .i64 a0_1, .slice A0_2 l0_2.length c0_2, .int .u8 a0_3] 30 (0, 0)) (by (with_reducible repeat (first | refine blk_drewN ?_ _ | refine blk_drew ?_ | refine blk_alloc ?_ _)); exact BK211.out) hb); have n2_ := Aside0.mk (below_step (by repeat (first | (with_reducible first | exact HB.out | apply below_alloc | apply pw_below_drewN | apply below_drew1 | refine below_set ?_ GE211.out) | exact HB.out)) hb); clear HO242; clear BK211; clear HB; have HO242 := n0_; have BK211 := n1_; have HB := n2_; clear n0_ n1_ n2_; (try clear hb); (try clear hb2); (try clear hk); (try clear hi))); go_upto_region 16 with (first | ((with_reducible refine gate_dst (N := 72) rfl ?_); (try (refine gate_guard (by rfl) ?_; dsimp only)); refine Kd.R_lit (Kd.int .i64) _ 2 ?hg (N := 72) ?hd (xs := ([] : List Int)) (inner := []) (ok := fun _ => True) (okp := fun _ => True) ?hr ?hp (fun _ hk => hk) trivial (Below.refl _ _) (Nat.le_refl _) (by simp) ?_; (case hd => rfl); (case hg => rfl); (case hr => first | (go_simp; done) | (go_simp; rfl)); (case hp => exact (Reps.none _ _)); intro v238 w62 ho63 hb hg_ hnew_; clear hg_ hnew_; (first | rw [← Ny237.out] at ho63 | (simp only [Int.reduceToNat] at ho63; rw [← Ny237.out] at ho63)); have n0_ := Aside0.mk (Kd.R_lower ho63 (below_size (by repeat (first | (with_reducible first | exact HB.out | apply below_alloc | apply pw_below_drewN | apply below_drew1 | refine below_set ?_ GE211.out) | exact HB.out)))); have n1_ := Aside0.mk (blk_below (g := gb211) (o := .cells #[.int .i64 a0_0, .int .i64 a0_1, .slice A0_2 l0_2.length c0_2, .int .u8 a0_3] 30 (0, 0)) (by (with_reducible repeat (first | refine blk_drewN ?_ _ | refine blk_drew ?_ | refine blk_alloc ?_ _)); exact BK211.out) hb); have n2_ := Aside0.mk (below_step (by repeat (first | (with_reducible first | exact HB.out | apply below_alloc | apply pw_below_drewN | apply below_drew1 | refine below_set ?_ GE211.out) | exact HB.out)) hb); clear BK211; clear HB; have HO239 := n0_; have BK211 := n1_; have HB := n2_; clear n0_ n1_ n2_; clear hb ho63) | ((with_reducible refine gate_builtin (b := .append) (xs := #[.tmp 72, .tmp 73]) rfl ?_); (try (refine gate_guard (by rfl) ?_; dsimp only)); at_builtin; refine Kd.R_append_rows (Kd.int .i64) (w0 := w) w.heap.size rfl (.tmp 72) (.tmp 73) 22 2 (.int .i64 0) 8 rfl Star.underlying22 info2 rfl (by decide) (by omega) v238 y237 l0_2 _ _ _ (fun _ => True) (fun _ => False) rfl rfl ?aO ?aR (fun _ _ h => h) (fun _ h => h.elim) ?aF ?aB ?aS ?aL ?_; (case aR => repeat (first | exact (Kd.C_below HR0_2.out HB.out) | (with_reducible refine Kd.C_alloc ?_ _) | (with_reducible refine Kd.C_drewN ?_ _) | (with_reducible refine Kd.C_drew ?_))); (case aB => exact (by repeat (first | (with_reducible first | exact HB.out | apply below_alloc | apply pw_below_drewN | apply below_drew1 | refine below_set ?_ GE211.out) | exact HB.out))); (case aF => exact (fun _ _ => trivial)); (case aO => exact (by (with_reducible repeat (first | apply Kd.R_alloc | apply Kd.R_drewN | apply Kd.R_drew)); exact HO239.out)); (case aS => exact (below_size (by repeat (first | (with_reducible first | exact HB.out | apply below_alloc | apply pw_below_drewN | apply below_drew1 | refine below_set ?_ GE211.out) | exact HB.out)))); (case aL => have := LMc54.out; omega); intro v241 w64 ho hb hg hat; rw [← Ny240.out] at ho; have n0_ := Aside0.mk (blk_grown (g := gb211) (o := .cells #[.int .i64 a0_0, .int .i64 a0_1, .slice A0_2 l0_2.length c0_2, .int .u8 a0_3] 30 (0, 0)) (by (with_reducible repeat (first | refine blk_drewN ?_ _ | refine blk_drew ?_ | refine blk_alloc ?_ _)); exact BK211.out) hg (Kd.R_ne HO239.out BK211.out (by decide))); have n1_ := Aside0.mk (hb); have n2_ := Aside0.mk (ho); clear BK211; clear HB; clear HO239; have BK211 := n0_; have HB := n1_; have HO242 := n2_; clear n0_ n1_ n2_; clear ho hb hg hat; obtain ⟨Ao65, co65, eo65⟩ := Kd.R_slice HO242.out; subst eo65; have p243 : 0 ≤ ((ji56) : Int) := of_decide_eq_true (by first | (with_reducible assumption) | assumption); have q243 : (ji56) < (y240.length : Int) := of_decide_eq_true (by first | (with_reducible assumption) | assumption); obtain ⟨ad243, e243, hx243_0⟩ := Kd.at_int (Kd.R_reads' HO242.out).2.2 (ji56) p243 q243; cases e243; replace p243 := eq_true p243; replace q243 := eq_true q243; have p59 : 0 ≤ ((ji56) : Int) := of_decide_eq_true (by first | (with_reducible assumption) | assumption); have q59 : ((ji56) : Int) < ((y240.length : Int) : Int) := of_decide_eq_true (by first | (with_reducible assumption) | assumption); obtain ⟨go59, co59, eo59, gb59, gl59, cl59, HG59⟩ := Kd.R_form HO242.out (by omega); (first | cases eo59 | (injection eo59 with ea_ en_ ec_; (first | subst ea_ | (injection ea_ with ea_; subst ea_)); subst ec_; clear en_)); have GB59 := Aside0.mk gb59; have GG59 := Aside0.mk HG59; clear gb59 gl59 HG59; (first | simp only [add_plain] at hx243_0 | skip); obtain ⟨hx59_0, hf59_0⟩ := Kd.R_celln 0 HO242.out ((ji56) : Int) p59 q59; replace p59 := eq_true p59; replace q59 := eq_true q59; obtain ⟨hy66_, hz66_⟩ := Kd.R_celln 0 HO242.out ((ji56) : Int) (of_decide_eq_true (by first | (with_reducible assumption) | assumption)) (of_decide_eq_true (by first | (with_reducible assumption) | assumption)); have HP66 := Kd.R_putg HO242.out ((ji56) : Int) (wrap64 ((rd y240 (ji56)) + (ji13)))) | ((with_reducible refine gate_store (t := 2) (p := 85) rfl ?_); (try (rw [drewN_self w64]; generalize hq_ : World.drewN w64 _ = w64; have n0_ := Aside0.mk (Kd.R_at hq_ HO242.out); have n1_ := Aside0.mk (blk_at hq_ BK211.out); have n2_ := Aside0.mk (below_at hq_ HB.out); clear hq_ HO242 BK211 HB; have HO242 := n0_; have BK211 := n1_; have HB := n2_; clear n0_ n1_ n2_; (try (obtain ⟨hy66_, hz66_⟩ := Kd.R_celln 0 HO242.out ((ji56) : Int) (of_decide_eq_true (by first | (with_reducible assumption) | assumption)) (of_decide_eq_true (by first | (with_reducible assumption) | assumption)))); (try (have HP66 := Kd.R_putg HO242.out ((ji56) : Int) (wrap64 ((rd y240 (ji56)) + (ji13))))))); refine store_event (t := 2) (p := 85) (v := ?vo_w67) (w1 := (w64.setCell ⟨go59, ((ji56) : Int).toNat, none⟩ (.int .i64 (wrap64 ((rd y240 (ji56)) + (ji13)))))) ?hg ?ho ?hn ?hr ?_; (case ho => rfl); (case hg => rfl); (case hn => rfl); (case hr => first | (go_simp; done) | (go_simp; rfl)); intro w67 hw; have hg : w64.grownBy w67 (some go59) := (by rw [hw]; exact HP66.2); have hp_ : Kd.R (Kd.int .i64) 2 w67 w.heap.size (fun _ => True) (.slice (some ⟨go59, 0, none⟩) y240.length co65) y244 := (by rw [hw, Ny244.out]; exact HP66.1); clear HP66; have n0_ := Aside0.mk (blk_grown (g := gb211) (o := .cells #[.int .i64 a0_0, .int .i64 a0_1, .slice A0_2 l0_2.length c0_2, .int .u8 a0_3] 30 (0, 0)) (by (with_reducible repeat (first | refine blk_drewN ?_ _ | refine blk_drew ?_ | refine blk_alloc ?_ _)); exact BK211.out) hg (Kd.R_ne HO242.out BK211.out (by decide))); have n1_ := Aside0.mk (hp_); have n2_ := Aside0.mk ((by rw [hw]; exact below_set (HB.out) GB59.out : Below w.heap.size w w67)); clear BK211; clear HO242; clear HB; have BK211 := n0_; have HO242 := n1_; have HB := n2_; clear n0_ n1_ n2_; clear hg hw hp_) | (go_at_call 10; refine calls_of_args (args' := #[.int .i64 a0_0, .slice (some ⟨go59, 0, none⟩) y244.length co65]) (by first | (rw [show y244.length = y240.length from (Kd.R_reads' HO242.out).1.symm] <;> rfl) | rfl) ?_; (with_reducible refine (eir_Solve.calls kj3 a0_0 _ _ y244 t245 t246 _ ?side1 ?side2 A60.out).mono ?_); (case side1 => repeat (first | exact (Kd.R_reads' HO242.out).2.2 | (with_reducible refine Kd.C_alloc ?_ _) | (with_reducible refine Kd.C_drewN ?_ _) | (with_reducible refine Kd.C_drew ?_))); (case side2 => rw [show y244.length = y240.length from (Kd.R_reads' HO242.out).1.symm]; exact (Kd.R_reads' HO242.out).2.1); rintro e w68 ⟨rfl, hb⟩; have n0_ := Aside0.mk (Kd.R_below (by (with_reducible repeat (first | apply Kd.R_alloc | apply Kd.R_drewN | apply Kd.R_drew)); exact HO242.out) hb); have n1_ := Aside0.mk (blk_below (g := gb211) (o := .cells #[.int .i64 a0_0, .int .i64 a0_1, .slice A0_2 l0_2.length c0_2, .int .u8 a0_3] 30 (0, 0)) (by (with_reducible repeat (first | refine blk_drewN ?_ _ | refine blk_drew ?_ | refine blk_alloc ?_ _)); exact BK211.out) hb); have n2_ := Aside0.mk (below_step (by repeat (first | (with_reducible first | exact HB.out | apply below_alloc | apply pw_below_drewN | apply below_drew1 | refine below_set ?_ GE211.out) | exact HB.out)) hb); clear HO242; clear BK211; clear HB; have HO242 := n0_; have BK211 := n1_; have HB := n2_; clear n0_ n1_ n2_; (try clear hb); (try clear hb2); (try clear hk); (try clear hi))))
             have H := HC61.out
             clear HC61
             by_cases c69 : t246 = 0
             ·rw [if_pos c69] at H
              have c69b0 : (t246 == 0) = true := beq_iff_eq.mpr c69
              have c69b1 : (t246 != 0) = false := bne_eq_false_iff_eq.mpr c69
              clear c69
              obtain rfl := Option.some.inj H
              go_wp2
              repeat (go_quiet (fail); try go_wp2)
              go_ret
              exact ⟨by first | rfl | (simp [errW_none, errW_some] <;> rfl) | (simp only [← hji12, ← hji13, ← hji56]; first | rfl | (simp [errW_none, errW_some] <;> rfl)) | (simp [*, errW_none, errW_some] <;> rfl), by repeat (first | (with_reducible first | exact HB.out | apply below_alloc | apply pw_below_drewN | apply below_drew1 | refine below_set ?_ GE211.out) | exact HB.out)⟩
             ·rw [if_neg c69] at H
              have c69b0 : (t246 == 0) = false := beq_eq_false_iff_ne.mpr c69
              have c69b1 : (t246 != 0) = true := bne_iff_ne.mpr c69
              obtain rfl := Option.some.inj H
              go_wp2
              repeat (go_quiet (fail); try go_wp2)
              go_ret
              exact ⟨by first | rfl | (simp [errW_none, errW_some] <;> rfl) | (simp only [← hji12, ← hji13, ← hji56]; first | rfl | (simp [errW_none, errW_some] <;> rfl)) | (simp [*, errW_none, errW_some] <;> rfl), by repeat (first | (with_reducible first | exact HB.out | apply below_alloc | apply pw_below_drewN | apply below_drew1 | refine below_set ?_ GE211.out) | exact HB.out)⟩
            ·rw [if_neg c58] at H
             exact absurd H (by simp)
           ·rw [if_neg c57] at H
            exact absurd H (by simp)
         ·rw [if_neg c54] at H
          exact absurd H (by simp)
     ·rw [if_neg c11] at H
      have c11b0 : (t214 == 0) = false := beq_eq_false_iff_ne.mpr c11
      have c11b1 : (t214 != 0) = true := bne_iff_ne.mpr c11
      obtain rfl := Option.some.inj H
      go_wp2_with (first | (go_at_call 10; (with_reducible refine (eir_Solve.calls kj3 a0_0 _ _ l0_2 t213 t214 _ ?side1 ?side2 A10.out).mono ?_); (case side1 => repeat (first | exact (Kd.C_below HR0_2.out HB.out) | (with_reducible refine Kd.C_alloc ?_ _) | (with_reducible refine Kd.C_drewN ?_ _) | (with_reducible refine Kd.C_drew ?_))); (case side2 => exact HC0_2.out); rintro e w70 ⟨rfl, hb⟩; have n0_ := Aside0.mk (blk_below (g := gb211) (o := .cells #[.int .i64 a0_0, .int .i64 a0_1, .slice A0_2 l0_2.length c0_2, .int .u8 a0_3] 30 (0, 0)) (by (with_reducible repeat (first | refine blk_drewN ?_ _ | refine blk_drew ?_ | refine blk_alloc ?_ _)); exact BK211.out) hb); have n1_ := Aside0.mk (below_step (by repeat (first | (with_reducible first | exact HB.out | apply below_alloc | apply pw_below_drewN | apply below_drew1 | refine below_set ?_ GE211.out) | exact HB.out)) hb); clear BK211; clear HB; have BK211 := n0_; have HB := n1_; clear n0_ n1_; (try clear hb); (try clear hb2); (try clear hk); (try clear hi)))
      repeat (go_quiet (first | (go_at_call 10; (with_reducible refine (eir_Solve.calls kj3 a0_0 _ _ l0_2 t213 t214 _ ?side1 ?side2 A10.out).mono ?_); (case side1 => repeat (first | exact (Kd.C_below HR0_2.out HB.out) | (with_reducible refine Kd.C_alloc ?_ _) | (with_reducible refine Kd.C_drewN ?_ _) | (with_reducible refine Kd.C_drew ?_))); (case side2 => exact HC0_2.out); rintro e w70 ⟨rfl, hb⟩; have n0_ := Aside0.mk (blk_below (g := gb211) (o := .cells #[.int .i64 a0_0, .int .i64 a0_1, .slice A0_2 l0_2.length c0_2, .int .u8 a0_3] 30 (0, 0)) (by (with_reducible repeat (first | refine blk_drewN ?_ _ | refine blk_drew ?_ | refine blk_alloc ?_ _)); exact BK211.out) hb); have n1_ := Aside0.mk (below_step (by repeat (first | (with_reducible first | exact HB.out | apply below_alloc | apply pw_below_drewN | apply below_drew1 | refine below_set ?_ GE211.out) | exact HB.out)) hb); clear BK211; clear HB; have BK211 := n0_; have HB := n1_; clear n0_ n1_; (try clear hb); (try clear hb2); (try clear hk); (try clear hi))); try go_wp2_with (first | (go_at_call 10; (with_reducible refine (eir_Solve.calls kj3 a0_0 _ _ l0_2 t213 t214 _ ?side1 ?side2 A10.out).mono ?_); (case side1 => repeat (first | exact (Kd.C_below HR0_2.out HB.out) | (with_reducible refine Kd.C_alloc ?_ _) | (with_reducible refine Kd.C_drewN ?_ _) | (with_reducible refine Kd.C_drew ?_))); (case side2 => exact HC0_2.out); rintro e w70 ⟨rfl, hb⟩; have n0_ := Aside0.mk (blk_below (g := gb211) (o := .cells #[.int .i64 a0_0, .int .i64 a0_1, .slice A0_2 l0_2.length c0_2, .int .u8 a0_3] 30 (0, 0)) (by (with_reducible repeat (first | refine blk_drewN ?_ _ | refine blk_drew ?_ | refine blk_alloc ?_ _)); exact BK211.out) hb); have n1_ := Aside0.mk (below_step (by repeat (first | (with_reducible first | exact HB.out | apply below_alloc | apply pw_below_drewN | apply below_drew1 | refine below_set ?_ GE211.out) | exact HB.out)) hb); clear BK211; clear HB; have BK211 := n0_; have HB := n1_; clear n0_ n1_; (try clear hb); (try clear hb2); (try clear hk); (try clear hi))))
      go_ret
      exact ⟨by first | rfl | (simp [errW_none, errW_some] <;> rfl) | (simp [*, errW_none, errW_some] <;> rfl), by repeat (first | (with_reducible first | exact HB.out | apply below_alloc | apply pw_below_drewN | apply below_drew1 | refine below_set ?_ GE211.out) | exact HB.out)⟩
 ·replace c3 := Bool.eq_false_iff.mpr c3
  subst c3
  have H1 : (some false) = some r := by rw [if_neg (show ¬ (false = true) by decide)] at H; exact H
  clear H
  have H := H1
  clear H1
  obtain rfl := Option.some.inj H
  go_enter Star.func4, Try.ntmps4
  go_wp2_with (first | ((with_reducible refine gate_dst (N := 1) rfl ?_); (try (refine gate_guard (by rfl) ?_; dsimp only)); refine box_event ?hg (N := 1) ?hd (cs := #[.int .i64 a0_0, .int .i64 a0_1, .slice A0_2 l0_2.length c0_2, .int .u8 a0_3]) (t := 30) ?hr ?_; (case hd => rfl); (case hg => rfl); (case hr => first | (go_simp; done) | (go_simp; rfl)); intro gb211 hg w71 hbox hb; have n0_ := Aside0.mk (below_step (by repeat (first | (with_reducible first | exact HB.out | apply below_alloc | apply pw_below_drewN | apply below_drew1) | exact HB.out)) hb); have n1_ := Aside0.mk (hbox); have n2_ := Aside0.mk ((by rw [hg]; exact (below_size (by repeat (first | (with_reducible first | exact HB.out | apply below_alloc | apply pw_below_drewN | apply below_drew1) | exact HB.out))) : w.heap.size ≤ gb211)); have n3_ := Aside0.mk ((by rw [hg]; exact (below_size (by repeat (first | (with_reducible first | exact HB.out | apply below_alloc | apply pw_below_drewN | apply below_drew1) | exact HB.out))) : w.heap.size ≤ gb211)); clear HB; have HB := n0_; have BK211 := n1_; have GW211 := n2_; have GE211 := n3_; clear n0_ n1_ n2_ n3_; clear hb hbox hg) | (go_at_call 9; (with_reducible refine (lombardlaw10_alive.calls k  false _ A2.out).mono ?_); rintro e w72 ⟨rfl, hb⟩; have n0_ := Aside0.mk (blk_below (g := gb211) (o := .cells #[.int .i64 a0_0, .int .i64 a0_1, .slice A0_2 l0_2.length c0_2, .int .u8 a0_3] 30 (0, 0)) (by (with_reducible repeat (first | refine blk_drewN ?_ _ | refine blk_drew ?_ | refine blk_alloc ?_ _)); exact BK211.out) hb); have n1_ := Aside0.mk (below_step (by repeat (first | (with_reducible first | exact HB.out | apply below_alloc | apply pw_below_drewN | apply below_drew1 | refine below_set ?_ GE211.out) | exact HB.out)) hb); clear BK211; clear HB; have BK211 := n0_; have HB := n1_; clear n0_ n1_; (try clear hb); (try clear hb2); (try clear hk); (try clear hi)))
  repeat (go_quiet (first | ((with_reducible refine gate_dst (N := 1) rfl ?_); (try (refine gate_guard (by rfl) ?_; dsimp only)); refine box_event ?hg (N := 1) ?hd (cs := #[.int .i64 a0_0, .int .i64 a0_1, .slice A0_2 l0_2.length c0_2, .int .u8 a0_3]) (t := 30) ?hr ?_; (case hd => rfl); (case hg => rfl); (case hr => first | (go_simp; done) | (go_simp; rfl)); intro gb211 hg w71 hbox hb; have n0_ := Aside0.mk (below_step (by repeat (first | (with_reducible first | exact HB.out | apply below_alloc | apply pw_below_drewN | apply below_drew1) | exact HB.out)) hb); have n1_ := Aside0.mk (hbox); have n2_ := Aside0.mk ((by rw [hg]; exact (below_size (by repeat (first | (with_reducible first | exact HB.out | apply below_alloc | apply pw_below_drewN | apply below_drew1) | exact HB.out))) : w.heap.size ≤ gb211)); have n3_ := Aside0.mk ((by rw [hg]; exact (below_size (by repeat (first | (with_reducible first | exact HB.out | apply below_alloc | apply pw_below_drewN | apply below_drew1) | exact HB.out))) : w.heap.size ≤ gb211)); clear HB; have HB := n0_; have BK211 := n1_; have GW211 := n2_; have GE211 := n3_; clear n0_ n1_ n2_ n3_; clear hb hbox hg) | (go_at_call 9; (with_reducible refine (lombardlaw10_alive.calls k  false _ A2.out).mono ?_); rintro e w72 ⟨rfl, hb⟩; have n0_ := Aside0.mk (blk_below (g := gb211) (o := .cells #[.int .i64 a0_0, .int .i64 a0_1, .slice A0_2 l0_2.length c0_2, .int .u8 a0_3] 30 (0, 0)) (by (with_reducible repeat (first | refine blk_drewN ?_ _ | refine blk_drew ?_ | refine blk_alloc ?_ _)); exact BK211.out) hb); have n1_ := Aside0.mk (below_step (by repeat (first | (with_reducible first | exact HB.out | apply below_alloc | apply pw_below_drewN | apply below_drew1 | refine below_set ?_ GE211.out) | exact HB.out)) hb); clear BK211; clear HB; have BK211 := n0_; have HB := n1_; clear n0_ n1_; (try clear hb); (try clear hb2); (try clear hk); (try clear hi))); try go_wp2_with (first | ((with_reducible refine gate_dst (N := 1) rfl ?_); (try (refine gate_guard (by rfl) ?_; dsimp only)); refine box_event ?hg (N := 1) ?hd (cs := #[.int .i64 a0_0, .int .i64 a0_1, .slice A0_2 l0_2.length c0_2, .int .u8 a0_3]) (t := 30) ?hr ?_; (case hd => rfl); (case hg => rfl); (case hr => first | (go_simp; done) | (go_simp; rfl)); intro gb211 hg w71 hbox hb; have n0_ := Aside0.mk (below_step (by repeat (first | (with_reducible first | exact HB.out | apply below_alloc | apply pw_below_drewN | apply below_drew1) | exact HB.out)) hb); have n1_ := Aside0.mk (hbox); have n2_ := Aside0.mk ((by rw [hg]; exact (below_size (by repeat (first | (with_reducible first | exact HB.out | apply below_alloc | apply pw_below_drewN | apply below_drew1) | exact HB.out))) : w.heap.size ≤ gb211)); have n3_ := Aside0.mk ((by rw [hg]; exact (below_size (by repeat (first | (with_reducible first | exact HB.out | apply below_alloc | apply pw_below_drewN | apply below_drew1) | exact HB.out))) : w.heap.size ≤ gb211)); clear HB; have HB := n0_; have BK211 := n1_; have GW211 := n2_; have GE211 := n3_; clear n0_ n1_ n2_ n3_; clear hb hbox hg) | (go_at_call 9; (with_reducible refine (lombardlaw10_alive.calls k  false _ A2.out).mono ?_); rintro e w72 ⟨rfl, hb⟩; have n0_ := Aside0.mk (blk_below (g := gb211) (o := .cells #[.int .i64 a0_0, .int .i64 a0_1, .slice A0_2 l0_2.length c0_2, .int .u8 a0_3] 30 (0, 0)) (by (with_reducible repeat (first | refine blk_drewN ?_ _ | refine blk_drew ?_ | refine blk_alloc ?_ _)); exact BK211.out) hb); have n1_ := Aside0.mk (below_step (by repeat (first | (with_reducible first | exact HB.out | apply below_alloc | apply pw_below_drewN | apply below_drew1 | refine below_set ?_ GE211.out) | exact HB.out)) hb); clear BK211; clear HB; have BK211 := n0_; have HB := n1_; clear n0_ n1_; (try clear hb); (try clear hb2); (try clear hk); (try clear hi))))
  go_ret
  exact ⟨by first | rfl | (simp [errW_none, errW_some] <;> rfl) | (simp [*, errW_none, errW_some] <;> rfl), by repeat (first | (with_reducible first | exact HB.out | apply below_alloc | apply pw_below_drewN | apply below_drew1 | refine below_set ?_ GE211.out) | exact HB.out)⟩
def lombardlaw10_EirMore.Pure : Prop := ∀ (a0_0 : Int) (a0_1 : Int) (l0_2 : List Int) (a0_3 : Int), (Lit.int .i64 a0_0).wf = true → (Lit.int .i64 a0_1).wf = true → (l0_2.length ≤ maxLen ∧ ∀ y_ ∈ l0_2, (Lit.int .i64 y_).wf = true) → (Lit.int .u8 a0_3).wf = true → ∃ k, lombardlaw10_EirMore.f k a0_0 a0_1 l0_2 a0_3 = some true
theorem lombardlaw10_EirMore.walk (P : lombardlaw10_EirMore.Pure) (a0_0 : Int) (a0_1 : Int) (A0_2 : Option Addr) (c0_2 : Nat) (l0_2 : List Int) (a0_3 : Int) (w : World) (hr0_2 : Kd.C (Kd.int .i64) w A0_2 l0_2.length l0_2) (hc0_2 : l0_2.length ≤ c0_2) (hg0_0 : (Lit.int .i64 a0_0).wf = true) (hg0_1 : (Lit.int .i64 a0_1).wf = true) (hg0_2 : (l0_2.length ≤ maxLen ∧ ∀ y_ ∈ l0_2, (Lit.int .i64 y_).wf = true)) (hg0_3 : (Lit.int .u8 a0_3).wf = true) :
  Calls Star.prog 4 #[.agg #[.int .i64 a0_0, .int .i64 a0_1, .slice A0_2 l0_2.length c0_2, .int .u8 a0_3]] w fun e w' => e = .returned (.bool true) ∧ Below w.heap.size w w' := by
 obtain ⟨k, h⟩ := P a0_0 a0_1 l0_2 a0_3 hg0_0 hg0_1 hg0_2 hg0_3
 refine (lombardlaw10_EirMore.calls k a0_0 a0_1 A0_2 c0_2 l0_2 a0_3 true w hr0_2 hc0_2 h).mono ?_
 rintro e w' ⟨rfl, hd⟩
 exact ⟨rfl, hd⟩
end Go.Proofs.Ytjgleaakgbnjgaa.S
end

section
namespace Go.Proofs.Ytjgleaakgbnjgaa.Par
open Go
abbrev Emb := Nat → Option Nat
def Emb.le (ρ σ : Emb) : Prop := ∀ b c, ρ b = some c → σ b = some c
theorem Emb.le.refl (ρ : Emb) : ρ.le ρ := fun _ _ h => h
theorem Emb.le.trans {ρ σ τ : Emb} (h : ρ.le σ) (h' : σ.le τ) : ρ.le τ := fun b c x => h' b c (h b c x)
def Emb.add (ρ : Emb) (n r : Nat) : Emb := fun b => if b = n then some r else ρ b
theorem Emb.le_add {ρ : Emb} {n r : Nat} (h : ρ n = none) : ρ.le (ρ.add n r) := fun b c x => by
 unfold Emb.add
 split
 ·rename_i e
  rw [e, h] at x
  cases x
 ·exact x
theorem Emb.add_new (ρ : Emb) (n r : Nat) : ρ.add n r n = some r := by simp [Emb.add]
def AR {α β : Type} (R : α → β → Prop) (a : Array α) (b : Array β) : Prop := a.size = b.size ∧ ∀ (i : Nat) (x : α) (y : β), a[i]? = some x → b[i]? = some y → R x y
theorem AR.mono {α β : Type} {R S : α → β → Prop} {a : Array α} {b : Array β} (h : AR R a b) (hs : ∀ x y, R x y → S x y) : AR S a b := ⟨h.1, fun i x y hx hy => hs _ _ (h.2 i x y hx hy)⟩
theorem AR.getNone {α β : Type} {R : α → β → Prop} {a : Array α} {b : Array β} (h : AR R a b) {i : Nat} (hi : a[i]? = none) : b[i]? = none := by
 rw [Array.getElem?_eq_none_iff] at hi ⊢
 rw [← h.1]
 exact hi
theorem AR.getSome {α β : Type} {R : α → β → Prop} {a : Array α} {b : Array β} (h : AR R a b) {i : Nat} {x : α} (hi : a[i]? = some x) : ∃ y, b[i]? = some y ∧ R x y := by
 have l := (Array.getElem?_eq_some_iff.1 hi).1
 rw [h.1] at l
 exact ⟨b[i], Array.getElem?_eq_getElem l, h.2 i x _ hi (Array.getElem?_eq_getElem l)⟩
theorem AR.empty {α β : Type} {R : α → β → Prop} : AR R (#[] : Array α) (#[] : Array β) := ⟨rfl, fun i x y h => by simp at h⟩
theorem AR.push {α β : Type} {R : α → β → Prop} {a : Array α} {b : Array β} (h : AR R a b) {x : α} {y : β} (hx : R x y) : AR R (a.push x) (b.push y) := by
 refine ⟨by simp [h.1], fun i u v hu hv => ?_⟩
 rw [Array.getElem?_push] at hu hv
 rw [← h.1] at hv
 split at hu <;> rename_i c
 ·rw [if_pos c] at hv
  cases hu
  cases hv
  exact hx
 ·rw [if_neg c] at hv
  exact h.2 i u v hu hv
theorem AR.append {α β : Type} {R : α → β → Prop} {a a' : Array α} {b b' : Array β} (h : AR R a b) (h' : AR R a' b') : AR R (a ++ a') (b ++ b') := by
 refine ⟨by simp [h.1, h'.1], fun i u v hu hv => ?_⟩
 rw [Array.getElem?_append] at hu hv
 rw [← h.1] at hv
 split at hu <;> rename_i c
 ·rw [if_pos c] at hv
  exact h.2 i u v hu hv
 ·rw [if_neg c] at hv
  exact h'.2 _ u v hu hv
theorem AR.set {α β : Type} {R : α → β → Prop} {a : Array α} {b : Array β} (h : AR R a b) (i : Nat) {x : α} {y : β} (hx : R x y) : AR R (a.setIfInBounds i x) (b.setIfInBounds i y) := by
 refine ⟨by simp [h.1], fun j u v hu hv => ?_⟩
 rw [Array.getElem?_setIfInBounds] at hu hv
 rw [← h.1] at hv
 split at hu <;> rename_i c
 ·rw [if_pos c] at hv
  split at hu <;> rename_i d
  ·rw [if_pos d] at hv
   cases hu
   cases hv
   exact hx
  ·cases hu
 ·rw [if_neg c] at hv
  exact h.2 j u v hu hv
theorem AR.extract {α β : Type} {R : α → β → Prop} {a : Array α} {b : Array β} (h : AR R a b) (i j : Nat) : AR R (a.extract i j) (b.extract i j) := by
 refine ⟨by simp [h.1], fun k u v hu hv => ?_⟩
 rw [Array.getElem?_extract] at hu hv
 rw [← h.1] at hv
 split at hu <;> rename_i c
 ·rw [if_pos c] at hv
  exact h.2 _ u v hu hv
 ·cases hu
theorem AR.replicate {α β : Type} {R : α → β → Prop} (n : Nat) {x : α} {y : β} (h : R x y) : AR R (Array.replicate n x) (Array.replicate n y) := by
 refine ⟨by simp, fun i u v hu hv => ?_⟩
 simp only [Array.getElem?_replicate] at hu hv
 split at hu <;> rename_i c
 ·rw [if_pos c] at hv
  cases hu
  cases hv
  exact h
 ·cases hu
theorem AR.mapSame {α γ δ : Type} {S : γ → δ → Prop} (a : Array α) {f : α → γ} {g : α → δ} (hf : ∀ (i : Nat) (x : α), a[i]? = some x → S (f x) (g x)) : AR S (a.map f) (a.map g) := by
 refine ⟨by simp, fun i u v hu hv => ?_⟩
 rw [Array.getElem?_map] at hu hv
 obtain ⟨x, hx, rfl⟩ := Option.map_eq_some_iff.1 hu
 obtain ⟨y, hy, rfl⟩ := Option.map_eq_some_iff.1 hv
 rw [hx] at hy
 cases hy
 exact hf i x hx
structure Cfg where
 N : FuncId → Prop
 T : TypeId → Prop
 G : Nat
 F : Array Func
 S : FuncId → Nat → Prop
def Cfg.here (N : Cfg) (P : Program) : Program := { P with funcs := N.F }
def notNil : Value → Bool
 | .pointer none | .nilIface | .nilFunc | .func (.method _) _ _ | .bool _ => false
 | _ => true
section
variable (N : Cfg)
inductive VR (ρ : Emb) : Value → Value → Prop
 | bool (b : Bool) : VR ρ (.bool b) (.bool b)
 | int (k : IntKind) (n : Int) : VR ρ (.int k n) (.int k n)
 | string (s : ByteArray) : VR ρ (.string s) (.string s)
 | nilPtr : VR ρ (.pointer none) (.pointer none)
 | ptr {a : Addr} {b : Nat} (h : ρ a.block = some b) (hg : N.G ≤ a.block) : VR ρ (.pointer (some a)) (.pointer (some ⟨b, a.off, a.spot⟩))
 | nilSlice (n c : Nat) : VR ρ (.slice none n c) (.slice none n c)
 | slice {a : Addr} {b : Nat} (h : ρ a.block = some b) (hg : N.G ≤ a.block) (n c : Nat) : VR ρ (.slice (some a) n c) (.slice (some ⟨b, a.off, a.spot⟩) n c)
 | nilMap : VR ρ (.map none) (.map none)
 | nilChan : VR ρ (.chan none) (.chan none)
 | func {f : FuncId} (h : N.N f) {xs xs' ys ys' : Array Value} (sx : xs.size = xs'.size) (hx : ∀ (i : Nat) (v v' : Value), xs[i]? = some v → xs'[i]? = some v' → VR ρ v v')
   (sy : ys.size = ys'.size) (hy : ∀ (i : Nat) (v v' : Value), ys[i]? = some v → ys'[i]? = some v' → VR ρ v v') : VR ρ (.func (.func f) xs ys) (.func (.func f) xs' ys')
 | yield {l l' : Nat} (h : ρ l = some l') : VR ρ (.func (.yield l) #[] #[]) (.func (.yield l') #[] #[])
 | nilFunc : VR ρ .nilFunc .nilFunc
 | iface {t : TypeId} (ht : N.T t) {v v' : Value} (h : VR ρ v v') : VR ρ (.iface t v) (.iface t v')
 | nilIface : VR ρ .nilIface .nilIface
 | agg {xs xs' : Array Value} (sx : xs.size = xs'.size) (hx : ∀ (i : Nat) (v v' : Value), xs[i]? = some v → xs'[i]? = some v' → VR ρ v v') : VR ρ (.agg xs) (.agg xs')
 | tuple {xs xs' : Array Value} (sx : xs.size = xs'.size) (hx : ∀ (i : Nat) (v v' : Value), xs[i]? = some v → xs'[i]? = some v' → VR ρ v v') : VR ρ (.tuple xs) (.tuple xs')
 | dead {v' : Value} (h : v'.cells = #[v']) (hn : notNil v' = true) : VR ρ (.tuple #[]) v'
 | meth (n : String) (xs ys : Array Value) : VR ρ (.func (.method n) #[.nilIface] #[]) (.func (.method n) xs ys)
variable {N}
theorem VR.mono {ρ σ : Emb} (h : ρ.le σ) {v v' : Value} (hv : VR N ρ v v') : VR N σ v v' := by
 induction hv with
 | ptr x g => exact .ptr (h _ _ x) g
 | slice x g n c => exact .slice (h _ _ x) g n c
 | yield x => exact .yield (h _ _ x)
 | func hf sx _ sy _ ihx ihy => exact .func hf sx (fun i v v' a b => ihx i v v' a b) sy (fun i v v' a b => ihy i v v' a b)
 | iface ht _ ih => exact .iface ht ih
 | agg sx _ ih => exact .agg sx fun i v v' a b => ih i v v' a b
 | tuple sx _ ih => exact .tuple sx fun i v v' a b => ih i v v' a b
 | dead h hn => exact .dead h hn
 | meth n xs ys => exact .meth n xs ys
 | _ => constructor
theorem VR.ofAgg {ρ : Emb} {xs xs' : Array Value} (h : AR (VR N ρ) xs xs') : VR N ρ (.agg xs) (.agg xs') := .agg h.1 h.2
theorem VR.ofTuple {ρ : Emb} {xs xs' : Array Value} (h : AR (VR N ρ) xs xs') : VR N ρ (.tuple xs) (.tuple xs') := .tuple h.1 h.2
theorem VR.undef {ρ : Emb} : VR N ρ undef undef := .ofTuple .empty
theorem VR.cells {ρ : Emb} {v v' : Value} (h : VR N ρ v v') : AR (VR N ρ) v.cells v'.cells := by
 have one : ∀ {a b : Value}, VR N ρ a b → AR (VR N ρ) #[a] #[b] := fun h => AR.empty.push h
 cases h with
 | agg sx hx => exact ⟨sx, hx⟩
 | bool b => exact one (.bool b)
 | int k n => exact one (.int k n)
 | string s => exact one (.string s)
 | nilPtr => exact one .nilPtr
 | ptr h g => exact one (.ptr h g)
 | nilSlice n c => exact one (.nilSlice n c)
 | slice h g n c => exact one (.slice h g n c)
 | nilMap => exact one .nilMap
 | nilChan => exact one .nilChan
 | func h sx hx sy hy => exact one (.func h sx hx sy hy)
 | yield h => exact one (.yield h)
 | nilFunc => exact one .nilFunc
 | iface ht h => exact one (.iface ht h)
 | nilIface => exact one .nilIface
 | tuple sx hx => exact one (.tuple sx hx)
 | dead h hn =>
  rw [h]
  exact one (.dead h hn)
 | meth n xs ys => exact one (.meth n xs ys)
end
section
variable (N : Cfg)
variable (ok : Code → Prop)
inductive OR (ρ : Emb) : Obj → Obj → Prop
 | cells {c c' : Array Value} (h : AR (VR N ρ) c c') (e : TypeId) {fr fr' : Nat × Nat} (hf : ∀ i, fr'.1 ≤ i → i < fr'.2 → fr.1 ≤ i ∧ i < fr.2) : OR ρ (.cells c e fr) (.cells c' e fr')
 | loop {l l' : Loop} (hs : l'.state = l.state) (hp : l'.pending = l.pending) (hpo : ∀ c, l.pending = some c → ok c) (hfn : l'.fn = l.fn) (ht : AR (VR N ρ) l.tmps l'.tmps) (hpa : l'.params = l.params) (has : l'.assign = l.assign) (hao : ok l.assign) (hbo : l'.body = l.body)
   (hbk : ok l.body) (hd : ρ l.defers = some l'.defers) : OR ρ (.loop l) (.loop l')
 | number {a : Addr} {b : Nat} (h : ρ a.block = some b) (hg : N.G ≤ a.block) (lost : Bool) : OR ρ (.number a lost) (.number ⟨b, a.off, a.spot⟩ lost)
 | taken : OR ρ (.deferred none) (.deferred none)
 | undeferred : OR ρ (.deferred (some [])) (.deferred (some []))
variable {N ok}
theorem OR.mono {ρ σ : Emb} (h : ρ.le σ) {o o' : Obj} (ho : OR N ok ρ o o') : OR N ok σ o o' := by
 cases ho with
 | cells hc e hf => exact .cells (hc.mono fun _ _ x => x.mono h) e hf
 | loop hs hp hpo hfn ht hpa has hao hbo hbk hd => exact .loop hs hp hpo hfn (ht.mono fun _ _ x => x.mono h) hpa has hao hbo hbk (h _ _ hd)
 | number x g lost => exact .number (h _ _ x) g lost
 | taken => exact .taken
 | undeferred => exact .undeferred
end
section
variable (P : Program) (N : Cfg) (ok : Code → Prop) (Poi Ro : Nat → Prop)
structure WR (ρ : Emb) (v w : World) : Prop where
 dom : ∀ b c, ρ b = some c → ∃ o o', v.heap[b]? = some o ∧ w.heap[c]? = some o' ∧ OR N ok ρ o o'
 inj : ∀ b b' c, ρ b = some c → ρ b' = some c → b = b'
 poi : ∀ b, Poi b → ∃ t fr, v.heap[b]? = some (.cells #[] t fr)
 ro : ∀ b, Ro b → ∃ c e fr, v.heap[b]? = some (.cells c e fr) ∧ ∀ i, i < c.size → fr.1 ≤ i ∧ i < fr.2
 glob : ∀ b c, ρ b = some c → N.G ≤ b
 gsize : N.G ≤ v.heap.size
 tape : v.tape = w.tape
 drawn : v.drawn = w.drawn
 globR : ∀ b c, ρ b = some c → N.G ≤ c
 gsizeR : N.G ≤ w.heap.size
def EvOk (σ : Emb) (e : Event) : Prop :=
 match e.loc with
 | .cell a => ∃ b, σ b = some a.block ∧ (e.write = true → ¬Ro b)
 | .obj r => ∃ b, σ b = some r ∧ (e.write = true → ¬Ro b)
 | .mark m => m = .noRoom ∨ ∃ f, m = .extern f
 | _ => False
def HaltOk : Halt → Prop
 | .panic _ | .stuck _ => True
 | .unsupported (.initOrder _) => False
 | .unsupported _ => True
 | _ => False
def Grow (w w' : World) : Prop := w.heap.size ≤ w'.heap.size ∧ (∀ b, b < w.heap.size → w'.heap[b]? = w.heap[b]?) ∧ w'.tape = w.tape
theorem Grow.refl (w : World) : Grow w w := ⟨Nat.le_refl _, fun _ _ => rfl, rfl⟩
def MarkOk (m : Mark) : Prop := m = .noRoom ∨ ∃ f, m = .extern f
inductive SR {α β : Type} (A : Emb → α → β → Prop) : Emb → Sem α → Sem β → Prop
 | pure {ρ : Emb} {a : α} {b : β} (h : A ρ a b) : SR A ρ (.pure a) (.pure b)
 | load {ρ : Emb} {m : Mode} {a : Addr} {b : Nat} {k : Value → Sem α} {k' : Value → Sem β} (h : ρ a.block = some b) (hk : ∀ v v', VR N ρ v v' → SR A ρ (k v) (k' v')) : SR A ρ (.load m a k) (.load m ⟨b, a.off, a.spot⟩ k')
 | loadPoison {ρ : Emb} {m : Mode} {a : Addr} {k : Value → Sem α} {t' : Sem β} (h : Poi a.block) : SR A ρ (.load m a k) t'
 | store {ρ : Emb} {m : Mode} {a : Addr} {b : Nat} {v v' : Value} {k : Sem α} {k' : Sem β} (h : ρ a.block = some b) (hv : VR N ρ v v') (hk : SR A ρ k k') : SR A ρ (.store m a v k) (.store m ⟨b, a.off, a.spot⟩ v' k')
 | new {ρ : Emb} {o o' : Obj} {k : Nat → Sem α} {k' : Nat → Sem β} (h : OR N ok ρ o o') (hk : ∀ n r, ρ n = none → N.G ≤ n → SR A (ρ.add n r) (k n) (k' r)) : SR A ρ (.new o k) (.new o' k')
 | shape {ρ : Emb} {r r' : Nat} {k : Option (TypeId × Nat) → Sem α} {k' : Option (TypeId × Nat) → Sem β} (h : ρ r = some r') (hk : ∀ x, SR A ρ (k x) (k' x)) : SR A ρ (.shape r k) (.shape r' k')
 | getObj {ρ : Emb} {r r' : Nat} {k : Obj → Sem α} {k' : Obj → Sem β} (h : ρ r = some r') (hk : ∀ o o', OR N ok ρ o o' → SR A ρ (k o) (k' o')) : SR A ρ (.getObj r k) (.getObj r' k')
 | setObj {ρ : Emb} {r r' : Nat} {o o' : Obj} {k : Sem α} {k' : Sem β} (h : ρ r = some r') (ho : OR N ok ρ o o') (hk : SR A ρ k k') : SR A ρ (.setObj r o k) (.setObj r' o' k')
 | choose {ρ : Emb} {q : Question} {k : Nat → Sem α} {k' : Nat → Sem β} (hk : ∀ n, SR A ρ (k n) (k' n)) : SR A ρ (.choose q k) (.choose q k')
 | program {ρ : Emb} {k : Program → Sem α} {k' : Program → Sem β} (hk : SR A ρ (k P) (k' (N.here P))) : SR A ρ (.program k) (.program k')
 | progL {ρ : Emb} {k : Program → Sem α} {t' : Sem β} (hk : SR A ρ (k P) t') : SR A ρ (.program k) t'
 | mark {ρ : Emb} {m : Mark} {k : Sem α} {k' : Sem β} (h : MarkOk m) (hk : SR A ρ k k') : SR A ρ (.mark m k) (.mark m k')
 | halt {ρ : Emb} {x : Halt} {t' : Sem β} (h : HaltOk x) : SR A ρ (.halt x) t'
 | doom {ρ : Emb} {t : Sem α} {t' : Sem β} (h : ∀ w, ∃ x w', t.run P w = .halt x w' ∧ HaltOk x ∧ Grow w w') : SR A ρ t t'
end
section
variable {P : Program} {N : Cfg} {ok : Code → Prop} {Poi Ro : Nat → Prop}
theorem SR.mono {α β : Type} {A B : Emb → α → β → Prop} (h : ∀ ρ a b, A ρ a b → B ρ a b) {ρ : Emb} {t : Sem α} {t' : Sem β} (ht : SR P N ok Poi A ρ t t') : SR P N ok Poi B ρ t t' := by
 induction ht with
 | pure x => exact .pure (h _ _ _ x)
 | load x _ ih => exact .load x ih
 | loadPoison x => exact .loadPoison x
 | store x y _ ih => exact .store x y ih
 | new x _ ih => exact .new x ih
 | shape x _ ih => exact .shape x ih
 | getObj x _ ih => exact .getObj x ih
 | setObj x y _ ih => exact .setObj x y ih
 | choose _ ih => exact .choose ih
 | program _ ih => exact .program ih
 | progL _ ih => exact .progL ih
 | mark x _ ih => exact .mark x ih
 | halt x => exact .halt x
 | doom x => exact .doom x
theorem run_bind_halt {α β : Type} {t : Sem α} {f : α → Sem β} {w : World} {x : Halt} {w' : World} (h : t.run P w = .halt x w') : (t >>= f).run P w = .halt x w' := by
 rw [Sem.run_bind, h]
 rfl
theorem SR.bind {α β γ δ : Type} {A : Emb → α → β → Prop} {B : Emb → γ → δ → Prop} {ρ : Emb} {t : Sem α} {t' : Sem β} {f : α → Sem γ} {f' : β → Sem δ} (ht : SR P N ok Poi A ρ t t')
  (hf : ∀ σ a b, ρ.le σ → A σ a b → SR P N ok Poi B σ (f a) (f' b)) : SR P N ok Poi B ρ (t >>= f) (t' >>= f') := by
 induction ht with
 | pure x => exact hf _ _ _ (Emb.le.refl _) x
 | load x _ ih => exact .load x fun v v' hv => ih v v' hv hf
 | loadPoison x => exact .loadPoison x
 | store x y _ ih => exact .store x y (ih hf)
 | new x _ ih => exact .new x fun n r hn hg => ih n r hn hg fun σ a b hs hab => hf σ a b ((Emb.le_add hn).trans hs) hab
 | shape x _ ih => exact .shape x fun y => ih y hf
 | getObj x _ ih => exact .getObj x fun o o' ho => ih o o' ho hf
 | setObj x y _ ih => exact .setObj x y (ih hf)
 | choose _ ih => exact .choose fun n => ih n hf
 | program _ ih => exact .program (ih hf)
 | progL _ ih => exact .progL (ih hf)
 | mark x _ ih => exact .mark x (ih hf)
 | halt x => exact .halt x
 | doom x => exact .doom fun w => let ⟨y, w', h, hy⟩ := x w; ⟨y, w', run_bind_halt h, hy⟩
end
section
variable (P : Program) (N : Cfg) (ok : Code → Prop) (Poi Ro : Nat → Prop)
structure Fr (ρ σ : Emb) (w w' : World) : Prop where
 size : w.heap.size ≤ w'.heap.size
 keep : ∀ c, c < w.heap.size → (∀ b, ρ b = some c → Ro b) → w'.heap[c]? = w.heap[c]?
 new : ∀ b c, σ b = some c → ρ b = some c ∨ w.heap.size ≤ c
 os : w'.os = w.os
 output : w'.output = w.output
 tape : w'.tape = w.tape
end
section
variable {P : Program} {N : Cfg} {ok : Code → Prop} {Poi Ro : Nat → Prop}
theorem Fr.refl (ρ : Emb) (w : World) : Fr Ro ρ ρ w w := ⟨Nat.le_refl _, fun _ _ _ => rfl, fun _ _ h => .inl h, rfl, rfl, rfl⟩
theorem Fr.trans {ρ σ τ : Emb} {w w' w'' : World} (h : Fr Ro ρ σ w w') (h' : Fr Ro σ τ w' w'') : Fr Ro ρ τ w w'' := by
 refine ⟨Nat.le_trans h.size h'.size, fun c hc hb => ?_, fun b c hb => ?_, h'.os.trans h.os, h'.output.trans h.output, h'.tape.trans h.tape⟩
 ·rw [h'.keep c (Nat.lt_of_lt_of_le hc h.size) fun b hb' => ?_, h.keep c hc hb]
  rcases h.new b c hb' with x | x
  ·exact hb b x
  ·omega
 ·rcases h'.new b c hb with x | x
  ·exact h.new b c x
  ·exact .inr (Nat.le_trans h.size x)
theorem WR.cell {ρ : Emb} {v w : World} (h : WR N ok Poi Ro ρ v w) {a : Addr} {b : Nat} (ha : ρ a.block = some b) {x : Value} (hx : v.cell? a = some x) : ∃ y, w.cell? ⟨b, a.off, a.spot⟩ = some y ∧ VR N ρ x y := by
 obtain ⟨o, o', h1, h2, ho⟩ := h.dom _ _ ha
 unfold World.cell? at hx ⊢
 simp only [h1, h2] at hx ⊢
 cases ho with
 | cells hc e hf =>
  simp only at hx ⊢
  split at hx <;> rename_i s
  ·cases hx
  ·rw [if_neg s]
   exact hc.getSome hx
 | loop => cases hx
 | number => cases hx
 | taken => cases hx
 | undeferred => cases hx
theorem WR.noCell {ρ : Emb} {v w : World} (h : WR N ok Poi Ro ρ v w) {a : Addr} {b : Nat} (ha : ρ a.block = some b) (at_ : Bool) (hx : v.cell? a = none) : (∃ x, v.farLoad P a at_ = .error x) ∧ ∀ u, ∃ x, v.farStore P a u at_ = .error x := by
 obtain ⟨o, o', h1, h2, ho⟩ := h.dom _ _ ha
 unfold World.farLoad World.farStore
 simp only [h1]
 cases ho <;> exact ⟨⟨_, rfl⟩, fun _ => ⟨_, rfl⟩⟩
theorem WR.poison {ρ : Emb} {v w : World} (h : WR N ok Poi Ro ρ v w) {a : Addr} (ha : Poi a.block) (at_ : Bool) : v.cell? a = none ∧ ∃ x, v.farLoad P a at_ = .error x := by
 obtain ⟨t, fr, e⟩ := h.poi _ ha
 constructor
 ·unfold World.cell?
  simp only [e]
  split
  ·rfl
  ·simp
 ·unfold World.farLoad
  simp only [e]
  exact ⟨_, rfl⟩
theorem WR.frozen {ρ : Emb} {v w : World} (h : WR N ok Poi Ro ρ v w) {a : Addr} {b : Nat} (ha : ρ a.block = some b) (hf : v.frozen? a = false) : w.frozen? ⟨b, a.off, a.spot⟩ = false := by
 obtain ⟨o, o', h1, h2, ho⟩ := h.dom _ _ ha
 unfold World.frozen? at hf ⊢
 simp only [h1, h2] at hf ⊢
 cases ho with
 | cells hc e hf' =>
  simp only [Bool.and_eq_false_iff, decide_eq_false_iff_not] at hf ⊢
  rename_i c c' fr fr'
  by_cases x : fr'.1 ≤ a.off
  ·by_cases y : a.off < fr'.2
   ·have := hf' a.off x y
    rcases hf with z | z
    ·exact absurd this.1 z
    ·exact absurd this.2 z
   ·exact .inr y
  ·exact .inl x
 | loop => rfl
 | number => rfl
 | taken => rfl
 | undeferred => rfl
theorem WR.notRo {ρ : Emb} {v w : World} (h : WR N ok Poi Ro ρ v w) {a : Addr} {x : Value} (hx : v.cell? a = some x) (hf : v.frozen? a = false) : ¬Ro a.block := by
 intro hr
 obtain ⟨c, e, fr, h1, h2⟩ := h.ro _ hr
 unfold World.cell? at hx
 unfold World.frozen? at hf
 simp only [h1] at hx hf
 split at hx
 ·cases hx
 ·have := h2 a.off (Array.getElem?_eq_some_iff.1 hx).1
  simp only [Bool.and_eq_false_iff, decide_eq_false_iff_not] at hf
  rcases hf with z | z
  ·exact z this.1
  ·exact z this.2
theorem setCell_obj (w : World) (a : Addr) (x : Value) (c : Nat) : (w.setCell a x).heap[c]? = if a.block = c then w.heap[c]?.map (fun | .cells cs e fr => .cells (if a.spot.isSome then cs else cs.setIfInBounds a.off x) e fr | o => o) else w.heap[c]? := by
 unfold World.setCell
 simp only [Array.getElem?_modify]
 split
 ·first
  | rfl
  | (congr 1; funext o; cases o <;> rfl)
 ·rfl
theorem WR.store {ρ : Emb} {v w : World} (h : WR N ok Poi Ro ρ v w) {a : Addr} {b : Nat} (ha : ρ a.block = some b) {x y : Value} (hx : VR N ρ x y) (hr : ¬Ro a.block) : WR N ok Poi Ro ρ (v.setCell a x) (w.setCell ⟨b, a.off, a.spot⟩ y) := by
 refine ⟨fun c d hc => ?_, h.inj, fun c hc => ?_, fun c hc => ?_, h.glob, (by simpa [World.setCell] using h.gsize), h.tape, h.drawn, h.globR, (by simpa [World.setCell] using h.gsizeR)⟩
 ·obtain ⟨o, o', h1, h2, ho⟩ := h.dom c d hc
  rw [setCell_obj, setCell_obj]
  by_cases e : a.block = c
  ·subst e
   obtain rfl : b = d := Option.some.inj (ha.symm.trans hc)
   rw [if_pos rfl, if_pos rfl, h1, h2]
   refine ⟨_, _, rfl, rfl, ?_⟩
   cases ho with
   | cells hcs e hf =>
    refine .cells ?_ e hf
    show AR _ (if a.spot.isSome then _ else _) (if a.spot.isSome then _ else _)
    split
    ·exact hcs
    ·exact hcs.set _ hx
   | loop hs hp hpo hfn ht hpa has hao hbo hbk hd => exact .loop hs hp hpo hfn ht hpa has hao hbo hbk hd
   | number x g lost => exact .number x g lost
   | taken => exact .taken
   | undeferred => exact .undeferred
  ·rw [if_neg e, if_neg (show ¬(b = d) from fun e' => e (h.inj _ _ _ ha (e' ▸ hc)))]
   exact ⟨o, o', h1, h2, ho⟩
 ·obtain ⟨t, fr, e⟩ := h.poi c hc
  rw [setCell_obj, e]
  split
  ·refine ⟨t, fr, ?_⟩
   simp
  ·exact ⟨t, fr, rfl⟩
 ·obtain ⟨cs, t, fr, e, hi⟩ := h.ro c hc
  rw [setCell_obj, if_neg (fun e' : a.block = c => hr (by rw [e']; exact hc))]
  exact ⟨cs, t, fr, e, hi⟩
end
section
variable {P : Program} {N : Cfg} {ok : Code → Prop} {Poi Ro : Nat → Prop}
theorem WR.lt {ρ : Emb} {v w : World} (h : WR N ok Poi Ro ρ v w) {b c : Nat} (hb : ρ b = some c) : b < v.heap.size ∧ c < w.heap.size := by
 obtain ⟨o, o', h1, h2, _⟩ := h.dom b c hb
 exact ⟨(Array.getElem?_eq_some_iff.1 h1).1, (Array.getElem?_eq_some_iff.1 h2).1⟩
theorem WR.fresh {ρ : Emb} {v w : World} (h : WR N ok Poi Ro ρ v w) : ρ v.heap.size = none := by
 cases e : ρ v.heap.size with
 | none => rfl
 | some c => exact absurd (h.lt e).1 (Nat.lt_irrefl _)
theorem add_get {ρ : Emb} {n r b c : Nat} (h : ρ.add n r b = some c) : (b = n ∧ c = r) ∨ (b ≠ n ∧ ρ b = some c) := by
 unfold Emb.add at h
 split at h
 ·rename_i e
  exact .inl ⟨e, (Option.some.inj h).symm⟩
 ·rename_i e
  exact .inr ⟨e, h⟩
theorem WR.new {ρ : Emb} {v w : World} (h : WR N ok Poi Ro ρ v w) {o o' : Obj} (ho : OR N ok ρ o o') :
  WR N ok Poi Ro (ρ.add v.heap.size w.heap.size) { v with heap := v.heap.push o } { w with heap := w.heap.push o' } := by
 have le := Emb.le_add (r := w.heap.size) h.fresh
 have keep : ∀ (u : World) (x o : Obj) (i : Nat), u.heap[i]? = some x → (u.heap.push o)[i]? = some x := fun u x o i hx => by
  rw [Array.getElem?_push_lt (Array.getElem?_eq_some_iff.1 hx).1]
  rw [← Array.getElem?_eq_getElem]
  exact hx
 refine ⟨fun b c hb => ?_, fun b b' c hb hb' => ?_, fun b hb => ?_, fun b hb => ?_, fun b c hb => ?_, (by have := h.gsize; simp; omega), h.tape, h.drawn, fun b c hb => ?_, (by have := h.gsizeR; simp; omega)⟩
 ·rcases add_get hb with ⟨rfl, rfl⟩ | ⟨_, hb⟩
  ·exact ⟨o, o', by simp, by simp, ho.mono le⟩
  ·obtain ⟨x, x', h1, h2, hx⟩ := h.dom b c hb
   exact ⟨x, x', keep _ _ _ _ h1, keep _ _ _ _ h2, hx.mono le⟩
 ·rcases add_get hb with ⟨rfl, rfl⟩ | ⟨_, hb⟩
  ·rcases add_get hb' with ⟨rfl, _⟩ | ⟨_, hb'⟩
   ·rfl
   ·exact absurd (h.lt hb').2 (Nat.lt_irrefl _)
  ·rcases add_get hb' with ⟨rfl, rfl⟩ | ⟨_, hb'⟩
   ·exact absurd (h.lt hb).2 (Nat.lt_irrefl _)
   ·exact h.inj b b' c hb hb'
 ·obtain ⟨t, fr, e⟩ := h.poi b hb
  exact ⟨t, fr, keep _ _ _ _ e⟩
 ·obtain ⟨c, e, fr, h1, h2⟩ := h.ro b hb
  exact ⟨c, e, fr, keep _ _ _ _ h1, h2⟩
 ·rcases add_get hb with ⟨rfl, rfl⟩ | ⟨_, hb⟩
  ·exact h.gsize
  ·exact h.glob b c hb
 ·rcases add_get hb with ⟨rfl, rfl⟩ | ⟨_, hb⟩
  ·exact h.gsizeR
  ·exact h.globR b c hb
theorem WR.setObj {ρ : Emb} {v w : World} (h : WR N ok Poi Ro ρ v w) {r r' : Nat} (hr : ρ r = some r') {x : Obj} (hx : v.heap[r]? = some x) (hc : ∀ c e fr, x ≠ .cells c e fr) {o o' : Obj} (ho : OR N ok ρ o o') :
  WR N ok Poi Ro ρ { v with heap := v.heap.setIfInBounds r o } { w with heap := w.heap.setIfInBounds r' o' } := by
 refine ⟨fun b c hb => ?_, h.inj, fun b hb => ?_, fun b hb => ?_, h.glob, (by simpa using h.gsize), h.tape, h.drawn, h.globR, (by simpa using h.gsizeR)⟩
 ·obtain ⟨y, y', h1, h2, hy⟩ := h.dom b c hb
  simp only [Array.getElem?_setIfInBounds]
  by_cases e : r = b
  ·subst e
   obtain rfl : r' = c := Option.some.inj (hr.symm.trans hb)
   rw [if_pos rfl, if_pos rfl, if_pos (h.lt hb).1, if_pos (h.lt hb).2]
   exact ⟨o, o', rfl, rfl, ho⟩
  ·rw [if_neg e, if_neg (show ¬(r' = c) from fun e' => e (h.inj _ _ _ hr (e' ▸ hb)))]
   exact ⟨y, y', h1, h2, hy⟩
 ·obtain ⟨t, fr, e⟩ := h.poi b hb
  refine ⟨t, fr, ?_⟩
  show (v.heap.setIfInBounds r o)[b]? = _
  rw [Array.getElem?_setIfInBounds, if_neg, e]
  intro e'
  subst e'
  exact hc _ _ _ (Option.some.inj (hx.symm.trans e))
 ·obtain ⟨c, e, fr, h1, h2⟩ := h.ro b hb
  refine ⟨c, e, fr, ?_, h2⟩
  show (v.heap.setIfInBounds r o)[b]? = _
  rw [Array.getElem?_setIfInBounds, if_neg, h1]
  intro e'
  subst e'
  exact hc _ _ _ (Option.some.inj (hx.symm.trans h1))
theorem EvOk.mono {σ τ : Emb} (h : σ.le τ) {e : Event} (he : EvOk Ro σ e) : EvOk Ro τ e := by
 unfold EvOk at *
 split at he
 ·obtain ⟨b, h1, h2⟩ := he
  exact ⟨b, h _ _ h1, h2⟩
 ·obtain ⟨b, h1, h2⟩ := he
  exact ⟨b, h _ _ h1, h2⟩
 ·exact he
 ·exact he.elim
theorem SR.sound {α β : Type} {A : Emb → α → β → Prop} {ρ : Emb} {t : Sem α} {t' : Sem β} (h : SR P N ok Poi A ρ t t') : ∀ {v w : World} {a : α} {v' : World}, WR N ok Poi Ro ρ v w → t.run P v = .ok a v' → ∀ es : Array Event,
  ∃ σ b w' es', ρ.le σ ∧ t'.runT (N.here P) w es = (.ok b w', es ++ es') ∧ A σ a b ∧ WR N ok Poi Ro σ v' w' ∧ (∀ e ∈ es', EvOk Ro σ e) ∧ Fr Ro ρ σ w w' ∧ v.heap.size ≤ v'.heap.size ∧ v'.os = v.os ∧ v'.output = v.output := by
 induction h with
 | pure x =>
  intro v w a v' hw hr es
  simp only [Sem.run, Result.ok.injEq] at hr
  obtain ⟨rfl, rfl⟩ := hr
  exact ⟨_, _, w, #[], Emb.le.refl _, by simp [Sem.runT], x, hw, by simp, Fr.refl _ _, Nat.le_refl _, rfl, rfl⟩
 | @load ρ m a b k k' x _ ih =>
  intro v w a' v' hw hr es
  simp only [Sem.run] at hr
  cases hc : v.cell? a with
  | none =>
   obtain ⟨y, hy⟩ := (hw.noCell (P := P) x (m == .atomic) hc).1
   rw [hc] at hr
   simp only [hy] at hr
   cases hr
  | some u =>
   rw [hc] at hr
   obtain ⟨u', h1, h2⟩ := hw.cell x hc
   obtain ⟨σ, b', w', es', g1, g2, g3, g4, g5, g6, g7⟩ := ih u u' h2 hw hr (es.push ⟨.cell ⟨b, a.off, a.spot⟩, false, m == .atomic⟩)
   refine ⟨σ, b', w', #[⟨.cell ⟨b, a.off, a.spot⟩, false, m == .atomic⟩] ++ es', g1, ?_, g3, g4, ?_, g6, g7⟩
   ·simp only [Sem.runT, h1, g2]
    rw [Array.push_eq_append, Array.append_assoc]
   ·intro e he
    rw [Array.mem_append] at he
    rcases he with he | he
    ·obtain rfl : e = _ := by simpa using he
     exact ⟨a.block, g1 _ _ x, fun h => by cases h⟩
    ·exact g5 e he
 | @loadPoison ρ m a k t' x =>
  intro v w a' v' hw hr es
  obtain ⟨h1, y, hy⟩ := hw.poison (P := P) x (m == .atomic)
  simp only [Sem.run, h1, hy] at hr
  cases hr
 | @store ρ m a b u u' k k' x hu _ ih =>
  intro v w a' v' hw hr es
  cases hc : v.cell? a with
  | none =>
   obtain ⟨y, hy⟩ := (hw.noCell (P := P) x (m == .atomic) hc).2 u
   cases u <;> simp only [Sem.run, hc, hy] at hr <;> cases hr
  | some z =>
   obtain ⟨z', h1, h2⟩ := hw.cell x hc
   by_cases hf : v.frozen? a = true
   ·cases u <;> simp only [Sem.run, hc, hf, if_true] at hr <;> cases hr
   ·have hf : v.frozen? a = false := by simpa using hf
    have hf' := hw.frozen x hf
    have nr := hw.notRo hc hf
    have hr' : k.run P (v.setCell a u) = .ok a' v' := by
     cases u <;> simp only [Sem.run, hc, hf, Bool.false_eq_true, if_false] at hr <;> first | exact hr | cases hr
    have e' : ∀ es, (Sem.store m ⟨b, a.off, a.spot⟩ u' k').runT (N.here P) w es = k'.runT (N.here P) (w.setCell ⟨b, a.off, a.spot⟩ u') (es.push ⟨.cell ⟨b, a.off, a.spot⟩, true, m == .atomic⟩) := by
     intro es
     cases hu <;> first | (simp only [Sem.runT, h1, hf', Bool.false_eq_true, if_false]; done) | (simp only [Sem.run] at hr; cases hr)
    obtain ⟨σ, b', w', es', g1, g2, g3, g4, g5, g6, g7, g8⟩ := ih (hw.store x hu nr) hr' (es.push ⟨.cell ⟨b, a.off, a.spot⟩, true, m == .atomic⟩)
    refine ⟨σ, b', w', #[⟨.cell ⟨b, a.off, a.spot⟩, true, m == .atomic⟩] ++ es', g1, ?_, g3, g4, ?_, ?_, by simpa [World.setCell] using g7, g8⟩
    ·rw [e', g2, Array.push_eq_append, Array.append_assoc]
    ·intro e he
     rw [Array.mem_append] at he
     rcases he with he | he
     ·obtain rfl : e = _ := by simpa using he
      exact ⟨a.block, g1 _ _ x, fun _ => nr⟩
     ·exact g5 e he
    ·have f1 : Fr Ro ρ ρ w (w.setCell ⟨b, a.off, a.spot⟩ u') := ⟨by simp [World.setCell], fun c hc hb => by rw [setCell_obj, if_neg (fun e : b = c => nr (hb _ (e ▸ x)))], fun _ _ h => .inl h, rfl, rfl, rfl⟩
     exact f1.trans g6
 | @new ρ o o' k k' ho _ ih =>
  intro v w a v' hw hr es
  simp only [Sem.run] at hr
  obtain ⟨σ, b', w', es', g1, g2, g3, g4, g5, g6, g7, g8⟩ := ih v.heap.size w.heap.size hw.fresh hw.gsize (hw.new ho) hr es
  refine ⟨σ, b', w', es', (Emb.le_add hw.fresh).trans g1, by simp only [Sem.runT, g2], g3, g4, g5, ?_, by simp at g7; omega, g8⟩
  have f1 : Fr Ro ρ (ρ.add v.heap.size w.heap.size) w { w with heap := w.heap.push o' } := by
   refine ⟨by simp, fun c hc _ => ?_, fun b c h => ?_, rfl, rfl, rfl⟩
   ·show (w.heap.push o')[c]? = _
    rw [Array.getElem?_push_lt hc, ← Array.getElem?_eq_getElem]
   ·rcases add_get h with ⟨_, rfl⟩ | ⟨_, h⟩
    ·exact .inr (Nat.le_refl _)
    ·exact .inl h
  exact f1.trans g6
 | @shape ρ r r' k k' x _ ih =>
  intro v w a v' hw hr es
  simp only [Sem.run] at hr
  have e : w.shape? r' = v.shape? r := by
   obtain ⟨o, o', h1, h2, ho⟩ := hw.dom _ _ x
   unfold World.shape?
   simp only [h1, h2]
   cases ho with
   | cells hc e hf => simp only [hc.1]
   | _ => rfl
  obtain ⟨σ, b', w', es', g1, g2, g3⟩ := ih (v.shape? r) hw hr es
  exact ⟨σ, b', w', es', g1, by simp only [Sem.runT, e, g2], g3⟩
 | @getObj ρ r r' k k' x _ ih =>
  intro v w a v' hw hr es
  obtain ⟨o, o', h1, h2, ho⟩ := hw.dom _ _ x
  have key : (k o).run P v = .ok a v' := by
   cases ho <;> simp only [Sem.run, h1] at hr <;> first | exact hr | cases hr
  have nc : ∀ es, (Sem.getObj r' k').runT (N.here P) w es = (k' o').runT (N.here P) w (es.push ⟨.obj r', false, o'.isChan⟩) := by
   intro es
   cases ho with
   | cells hc e hf => simp only [Sem.run, h1] at hr; cases hr
   | loop => simp only [Sem.runT, h2]
   | number => simp only [Sem.runT, h2]
   | taken => simp only [Sem.runT, h2]
   | undeferred => simp only [Sem.runT, h2]
  obtain ⟨σ, b', w', es', g1, g2, g3, g4, g5, g6⟩ := ih o o' ho hw key (es.push ⟨.obj r', false, o'.isChan⟩)
  refine ⟨σ, b', w', #[⟨.obj r', false, o'.isChan⟩] ++ es', g1, ?_, g3, g4, ?_, g6⟩
  ·rw [nc, g2, Array.push_eq_append, Array.append_assoc]
  ·intro e he
   rw [Array.mem_append] at he
   rcases he with he | he
   ·obtain rfl : e = _ := by simpa using he
    exact ⟨r, g1 _ _ x, fun h => by cases h⟩
   ·exact g5 e he
 | @setObj ρ r r' o o' k k' x ho _ ih =>
  intro v w a v' hw hr es
  obtain ⟨y, y', h1, h2, hy⟩ := hw.dom _ _ x
  have nc : ∀ c e fr, y ≠ .cells c e fr := by
   rintro c e fr rfl
   simp only [Sem.run, h1] at hr
   cases hr
  have key : k.run P { v with heap := v.heap.setIfInBounds r o } = .ok a v' := by
   cases y <;> simp only [Sem.run, h1] at hr <;> first | exact hr | exact absurd rfl (nc _ _ _)
  have nr : ¬Ro r := fun hr' => by
   obtain ⟨c, e, fr, h3, _⟩ := hw.ro r hr'
   exact nc _ _ _ (Option.some.inj (h1.symm.trans h3))
  have e' : ∀ es, (Sem.setObj r' o' k').runT (N.here P) w es = k'.runT (N.here P) { w with heap := w.heap.setIfInBounds r' o' } (es.push ⟨.obj r', true, o'.isChan⟩) := by
   intro es
   cases hy with
   | cells => exact absurd rfl (nc _ _ _)
   | loop => simp only [Sem.runT, h2]
   | number => simp only [Sem.runT, h2]
   | taken => simp only [Sem.runT, h2]
   | undeferred => simp only [Sem.runT, h2]
  obtain ⟨σ, b', w', es', g1, g2, g3, g4, g5, g6, g7, g8⟩ := ih (hw.setObj x h1 nc ho) key (es.push ⟨.obj r', true, o'.isChan⟩)
  refine ⟨σ, b', w', #[⟨.obj r', true, o'.isChan⟩] ++ es', g1, ?_, g3, g4, ?_, ?_, by simpa using g7, g8⟩
  ·rw [e', g2, Array.push_eq_append, Array.append_assoc]
  ·intro e he
   rw [Array.mem_append] at he
   rcases he with he | he
   ·obtain rfl : e = _ := by simpa using he
    exact ⟨r, g1 _ _ x, fun _ => nr⟩
   ·exact g5 e he
  ·have f1 : Fr Ro ρ ρ w { w with heap := w.heap.setIfInBounds r' o' } := ⟨by simp, fun c hc hb => by
    show (w.heap.setIfInBounds r' o')[c]? = _
    rw [Array.getElem?_setIfInBounds, if_neg (fun e : r' = c => nr (hb _ (e ▸ x)))], fun _ _ h => .inl h, rfl, rfl, rfl⟩
   exact f1.trans g6
 | @choose ρ q k k' _ ih =>
  intro v w a v' hw hr es
  simp only [Sem.run] at hr
  simp only [Sem.runT]
  split at hr <;> rename_i hq
  ·rw [if_pos hq]
   exact ih 0 hw hr es
  ·rw [if_neg hq, show w.tape w.drawn q = v.tape v.drawn q by rw [hw.tape, hw.drawn], ← hw.drawn]
   have hw' : WR N ok Poi Ro ρ { v with drawn := v.drawn + 1 } { w with drawn := v.drawn + 1 } := ⟨hw.dom, hw.inj, hw.poi, hw.ro, hw.glob, hw.gsize, hw.tape, rfl, hw.globR, hw.gsizeR⟩
   obtain ⟨σ, b', w', es', g1, g2, g3, g4, g5, g6, g7⟩ := ih _ hw' hr es
   exact ⟨σ, b', w', es', g1, g2, g3, g4, g5, ⟨g6.size, g6.keep, g6.new, g6.os, g6.output, g6.tape⟩, g7⟩
 | @program ρ k k' _ ih =>
  intro v w a v' hw hr es
  simp only [Sem.run] at hr
  simp only [Sem.runT]
  exact ih hw hr es
 | @progL ρ k t' _ ih =>
  intro v w a v' hw hr es
  simp only [Sem.run] at hr
  exact ih hw hr es
 | @mark ρ m k k' x _ ih =>
  intro v w a v' hw hr es
  simp only [Sem.run] at hr
  obtain ⟨σ, b', w', es', g1, g2, g3, g4, g5, g6⟩ := ih hw hr (es.push ⟨.mark m, false, true⟩)
  refine ⟨σ, b', w', #[⟨.mark m, false, true⟩] ++ es', g1, ?_, g3, g4, ?_, g6⟩
  ·simp only [Sem.runT, g2]
   rw [Array.push_eq_append, Array.append_assoc]
  ·intro e he
   rw [Array.mem_append] at he
   rcases he with he | he
   ·obtain rfl : e = _ := by simpa using he
    exact x
   ·exact g5 e he
 | halt =>
  intro v w a v' _ hr
  simp only [Sem.run] at hr
  cases hr
 | doom x =>
  intro v w a v' _ hr
  obtain ⟨y, w', h, _⟩ := x v
  rw [h] at hr
  cases hr
theorem stuckAt {ρ : Emb} {v w : World} (h : WR N ok Poi Ro ρ v w) {a : Addr} (ha : (∃ b, ρ a.block = some b) ∨ Poi a.block) (at_ : Bool) : (∃ x, v.farLoad P a at_ = .error x ∧ HaltOk x) ∧ ∀ u, ∃ x, v.farStore P a u at_ = .error x ∧ HaltOk x := by
 rcases ha with ⟨b, ha⟩ | ha
 ·obtain ⟨o, o', h1, h2, ho⟩ := h.dom _ _ ha
  unfold World.farLoad World.farStore World.noCell
  simp only [h1]
  cases ho <;> exact ⟨⟨_, rfl, trivial⟩, fun _ => ⟨_, rfl, trivial⟩⟩
 ·obtain ⟨t, fr, e⟩ := h.poi _ ha
  unfold World.farLoad World.farStore World.noCell
  simp only [e]
  exact ⟨⟨_, rfl, trivial⟩, fun _ => ⟨_, rfl, trivial⟩⟩
theorem WR.grow {ρ : Emb} {v w v' : World} (h : WR N ok Poi Ro ρ v w) (g : Grow v v') : WR N ok Poi Ro ρ v' { w with drawn := v'.drawn } := by
 obtain ⟨g1, g2, g3⟩ := g
 refine ⟨fun b c hb => ?_, h.inj, fun b hb => ?_, fun b hb => ?_, h.glob, Nat.le_trans h.gsize g1, g3.trans h.tape, rfl, h.globR, h.gsizeR⟩
 ·obtain ⟨o, o', h1, h2, ho⟩ := h.dom b c hb
  exact ⟨o, o', (g2 b (h.lt hb).1).trans h1, h2, ho⟩
 ·obtain ⟨t, fr, e⟩ := h.poi b hb
  exact ⟨t, fr, (g2 b (Array.getElem?_eq_some_iff.1 e).1).trans e⟩
 ·obtain ⟨c, e, fr, h1, h2⟩ := h.ro b hb
  exact ⟨c, e, fr, (g2 b (Array.getElem?_eq_some_iff.1 h1).1).trans h1, h2⟩
theorem SR.halts {α β : Type} {A : Emb → α → β → Prop} {ρ : Emb} {t : Sem α} {t' : Sem β} (h : SR P N ok Poi A ρ t t') : ∀ {v w : World} {x : Halt} {v' : World}, WR N ok Poi Ro ρ v w → t.run P v = .halt x v' → HaltOk x ∧ ∃ σ w', ρ.le σ ∧ WR N ok Poi Ro σ v' w' := by
 induction h with
 | pure y =>
  intro v w x v' _ hr
  simp only [Sem.run] at hr
  cases hr
 | @load ρ m a b k k' y _ ih =>
  intro v w x v' hw hr
  simp only [Sem.run] at hr
  cases hc : v.cell? a with
  | none =>
   obtain ⟨z, hz, h⟩ := (stuckAt (P := P) hw (.inl ⟨b, y⟩) (m == .atomic)).1
   rw [hc] at hr
   simp only [hz] at hr
   cases hr
   exact ⟨h, _, _, Emb.le.refl _, hw⟩
  | some u =>
   rw [hc] at hr
   obtain ⟨u', _, h2⟩ := hw.cell y hc
   exact ih u u' h2 hw hr
 | @loadPoison ρ m a k t' y =>
  intro v w x v' hw hr
  have h1 := (hw.poison (P := P) y (m == .atomic)).1
  obtain ⟨z, hz, h⟩ := (stuckAt (P := P) hw (.inr y) (m == .atomic)).1
  simp only [Sem.run, h1, hz] at hr
  cases hr
  exact ⟨h, _, _, Emb.le.refl _, hw⟩
 | @store ρ m a b u u' k k' y hu _ ih =>
  intro v w x v' hw hr
  cases hc : v.cell? a with
  | none =>
   obtain ⟨z, hz, h⟩ := (stuckAt (P := P) hw (.inl ⟨b, y⟩) (m == .atomic)).2 u
   cases u <;> simp only [Sem.run, hc, hz] at hr <;> cases hr <;> first | exact ⟨h, _, _, Emb.le.refl _, hw⟩ | exact ⟨trivial, _, _, Emb.le.refl _, hw⟩
  | some z =>
   by_cases hf : v.frozen? a = true
   ·cases u <;> simp only [Sem.run, hc, hf, if_true] at hr <;> cases hr <;> exact ⟨trivial, _, _, Emb.le.refl _, hw⟩
   ·have hf : v.frozen? a = false := by simpa using hf
    have nr := hw.notRo hc hf
    have key : (HaltOk x ∧ v' = v) ∨ k.run P (v.setCell a u) = .halt x v' := by
     cases u <;> simp only [Sem.run, hc, hf, Bool.false_eq_true, if_false] at hr <;> first | exact .inr hr | (cases hr; exact .inl ⟨trivial, rfl⟩)
    rcases key with ⟨key, rfl⟩ | key
    ·exact ⟨key, _, _, Emb.le.refl _, hw⟩
    ·exact ih (hw.store y hu nr) key
 | @new ρ o o' k k' ho _ ih =>
  intro v w x v' hw hr
  simp only [Sem.run] at hr
  obtain ⟨h1, σ, w', h2, h3⟩ := ih v.heap.size w.heap.size hw.fresh hw.gsize (hw.new ho) hr
  exact ⟨h1, σ, w', (Emb.le_add hw.fresh).trans h2, h3⟩
 | @shape ρ r r' k k' y _ ih =>
  intro v w x v' hw hr
  simp only [Sem.run] at hr
  exact ih (v.shape? r) hw hr
 | @getObj ρ r r' k k' y _ ih =>
  intro v w x v' hw hr
  obtain ⟨o, o', h1, h2, ho⟩ := hw.dom _ _ y
  cases ho <;> simp only [Sem.run, h1] at hr
  ·cases hr
   exact ⟨trivial, _, _, Emb.le.refl _, hw⟩
  ·rename_i l l' hs hp hpo hfn ht hpa has hao hbo hbk hd
   exact ih _ _ (.loop hs hp hpo hfn ht hpa has hao hbo hbk hd) hw hr
  ·rename_i x g lost
   exact ih _ _ (.number x g lost) hw hr
  ·exact ih _ _ .taken hw hr
  ·exact ih _ _ .undeferred hw hr
 | @setObj ρ r r' o o' k k' y ho _ ih =>
  intro v w x v' hw hr
  obtain ⟨z, z', h1, h2, hz⟩ := hw.dom _ _ y
  cases hz <;> simp only [Sem.run, h1] at hr
  ·cases hr
   exact ⟨trivial, _, _, Emb.le.refl _, hw⟩
  all_goals exact ih (hw.setObj y h1 (fun c e fr h => by cases h) ho) hr
 | @choose ρ q k k' _ ih =>
  intro v w x v' hw hr
  simp only [Sem.run] at hr
  split at hr
  ·exact ih 0 hw hr
  ·have hw' : WR N ok Poi Ro ρ { v with drawn := v.drawn + 1 } { w with drawn := v.drawn + 1 } := ⟨hw.dom, hw.inj, hw.poi, hw.ro, hw.glob, hw.gsize, hw.tape, rfl, hw.globR, hw.gsizeR⟩
   exact ih _ hw' hr
 | @program ρ k k' _ ih =>
  intro v w x v' hw hr
  simp only [Sem.run] at hr
  exact ih hw hr
 | @progL ρ k t' _ ih =>
  intro v w x v' hw hr
  simp only [Sem.run] at hr
  exact ih hw hr
 | @mark ρ m k k' y _ ih =>
  intro v w x v' hw hr
  simp only [Sem.run] at hr
  exact ih hw hr
 | halt y =>
  intro v w x v' hw hr
  simp only [Sem.run] at hr
  cases hr
  exact ⟨y, _, _, Emb.le.refl _, hw⟩
 | doom y =>
  intro v w x v' hw hr
  obtain ⟨z, w', h, hz, g⟩ := y v
  rw [h] at hr
  cases hr
  exact ⟨hz, _, _, Emb.le.refl _, hw.grow g⟩
end
end Go.Proofs.Ytjgleaakgbnjgaa.Par
end

section
namespace Go.Proofs.Ytjgleaakgbnjgaa.Par
open Go
section
variable {P : Program} {N : Cfg} {ok : Code → Prop} {Poi : Nat → Prop} {ρ : Emb}
theorem sr_stuck {α β : Type} {A : Emb → α → β → Prop} (s : String) (t' : Sem β) : SR P N ok Poi A ρ (stuck s) t' := .halt trivial
theorem run_elemOf (t : TypeId) (w : World) : (∃ e, (elemOf t).run P w = .ok e w) ∨ ∃ x, (elemOf t).run P w = .halt x w ∧ HaltOk x := by
 unfold elemOf underlying program
 simp only [Sem.run_bind, Sem.run, Result.andThen_ok]
 cases P.underlying t with
 | none => exact .inr ⟨_, rfl, trivial⟩
 | some d => cases d <;> first | exact .inl ⟨_, rfl⟩ | exact .inr ⟨_, rfl, trivial⟩
theorem Grow.push (w : World) (o : Obj) : Grow w { w with heap := w.heap.push o } := by
 refine ⟨by simp, fun b hb => ?_, rfl⟩
 show (w.heap.push o)[b]? = _
 rw [Array.getElem?_push_lt hb, ← Array.getElem?_eq_getElem]
theorem run_runtimePanic {α : Type} (e : RuntimeError) (w : World) : ∃ x w', (runtimePanic e : Sem α).run P w = .halt x w' ∧ HaltOk x ∧ Grow w w' := by
 unfold runtimePanic program
 simp only [Sem.run_bind, Sem.run, Result.andThen_ok]
 cases e with
 | typeAssertion i c a m =>
  rcases run_elemOf (P := P) P.rt.typeAssertionError w with ⟨e, h⟩ | ⟨x, h, hx⟩
  ·simp only [Sem.run_bind, h, Result.andThen_ok]
   exact ⟨_, _, rfl, trivial, Grow.push _ _⟩
  ·simp only [Sem.run_bind, h, Result.andThen_halt]
   exact ⟨_, _, rfl, hx, Grow.refl _⟩
 | panicNil =>
  rcases run_elemOf (P := P) P.rt.panicNilError w with ⟨e, h⟩ | ⟨x, h, hx⟩
  ·simp only [Sem.run_bind, h, Result.andThen_ok]
   exact ⟨_, _, rfl, trivial, Grow.push _ _⟩
  ·simp only [Sem.run_bind, h, Result.andThen_halt]
   exact ⟨_, _, rfl, hx, Grow.refl _⟩
 | _ => exact ⟨_, _, rfl, trivial, Grow.refl _⟩
theorem sr_runtimePanic {α β : Type} {A : Emb → α → β → Prop} (e : RuntimeError) (t' : Sem β) : SR P N ok Poi A ρ (runtimePanic e : Sem α) t' := .doom fun w => run_runtimePanic e w
theorem sr_boundsPanic {α β : Type} {A : Emb → α → β → Prop} (k : IntKind) (x y : Int) (c : BoundsCode) (t' : Sem β) : SR P N ok Poi A ρ (boundsPanic k x y c : Sem α) t' := by
 refine .doom fun w => ?_
 unfold boundsPanic
 have key : ∀ (s : Sem Bool), (∃ b w', s.run P w = .ok b w' ∧ Grow w w') → ∃ x_1 w', (s >>= fun signed => (runtimePanic (.bounds (IntKind.i64.wrap x) y signed c) : Sem α)).run P w = .halt x_1 w' ∧ HaltOk x_1 ∧ Grow w w' := by
  rintro s ⟨b, w', h, g⟩
  rw [Sem.run_bind, h, Result.andThen_ok]
  obtain ⟨x, w2, h1, h2, g1, g2, g3⟩ := run_runtimePanic (P := P) (α := α) (.bounds (IntKind.i64.wrap x) y b c) w'
  exact ⟨x, w2, h1, h2, Nat.le_trans g.1 g1, fun b hb => (g2 b (Nat.lt_of_lt_of_le hb g.1)).trans (g.2.1 b hb), g3.trans g.2.2⟩
 dsimp only
 split
 ·apply key
  rw [Sem.run_map]
  unfold choose
  simp only [Sem.run]
  split <;> exact ⟨_, _, rfl, Nat.le_refl _, fun _ _ => rfl, rfl⟩
 ·apply key
  exact ⟨_, _, rfl, Grow.refl _⟩
theorem sr_typeInfo (t : TypeId) : SR P N ok Poi (fun _ a b => a = b) ρ (typeInfo t) (typeInfo t) := by
 unfold typeInfo
 refine .program ?_
 show SR _ _ _ _ _ _ (match P.info? t with | some i => pure i | none => stuck "no such type") (match P.info? t with | some i => pure i | none => stuck "no such type")
 split
 ·exact .pure rfl
 ·exact sr_stuck _ _
theorem sr_underlying (t : TypeId) : SR P N ok Poi (fun _ a b => a = b ∧ P.underlying t = some a) ρ (underlying t) (underlying t) := by
 unfold underlying
 refine .program ?_
 show SR _ _ _ _ _ _ (match P.underlying t with | some i => pure i | none => stuck "no such type") (match P.underlying t with | some i => pure i | none => stuck "no such type")
 split
 ·rename_i h
  exact .pure ⟨rfl, h⟩
 ·exact sr_stuck _ _
theorem sr_sizeOf (t : TypeId) : SR P N ok Poi (fun _ a b => a = b) ρ (sizeOf t) (sizeOf t) := by
 unfold sizeOf
 refine (sr_typeInfo t).bind fun σ a b _ h => ?_
 subst h
 exact .pure rfl
theorem sr_isAgg (t : TypeId) : SR P N ok Poi (fun _ a b => a = b) ρ (isAgg t) (isAgg t) := by
 unfold isAgg
 refine (sr_underlying t).bind fun σ a b _ h => ?_
 obtain ⟨rfl, _⟩ := h
 split <;> exact .pure rfl
def plain1 : Value → Bool
 | .bool _ | .int _ _ | .string _ | .pointer none | .slice none _ _ | .map none | .chan none | .nilFunc | .nilIface => true
 | _ => false
theorem VR.plain1 {v : Value} (h : plain1 v = true) : VR N ρ v v := by
 unfold Par.plain1 at h
 split at h <;> first | constructor | cases h
def plain : Value → Bool
 | .agg cs => cs.all plain1
 | .tuple cs => cs.all plain1
 | v => plain1 v
theorem VR.plain {v : Value} (h : plain v = true) : VR N ρ v v := by
 have arr : ∀ {cs : Array Value}, cs.all Par.plain1 = true → ∀ (i : Nat) (v v' : Value), cs[i]? = some v → cs[i]? = some v' → VR N ρ v v' := by
  intro cs h i v v' h1 h2
  rw [h1] at h2
  cases h2
  rw [Array.all_eq_true_iff_forall_mem] at h
  exact VR.plain1 (h v (Array.mem_of_getElem? h1))
 unfold Par.plain at h
 split at h
 ·exact .agg rfl (arr h)
 ·exact .tuple rfl (arr h)
 ·exact VR.plain1 h
def zeroOk (P : Program) (t : TypeId) : Bool :=
 match P.info? t with
 | some i => match i.zero with | some v => plain v | none => true
 | none => true
theorem sr_zeroValue {t : TypeId} (h : zeroOk P t = true) : SR P N ok Poi (fun σ a b => VR N σ a b) ρ (zeroValue t) (zeroValue t) := by
 unfold zeroValue
 unfold typeInfo
 refine .program ?_
 unfold zeroOk at h
 show SR _ _ _ _ _ _ ((match P.info? t with | some i => pure i | none => stuck "no such type") >>= fun i => match i.zero with | some v => pure v | none => unsupported _) ((match P.info? t with | some i => pure i | none => stuck "no such type") >>= fun i => match i.zero with | some v => pure v | none => unsupported _)
 cases hi : P.info? t with
 | none => exact .halt trivial
 | some i =>
  rw [hi] at h
  simp only at h
  show SR _ _ _ _ _ _ (match i.zero with | some v => pure v | none => unsupported _) (match i.zero with | some v => pure v | none => unsupported _)
  cases hz : i.zero with
  | none => exact .halt trivial
  | some v =>
   rw [hz] at h
   exact .pure (VR.plain h)
def AdR (N : Cfg) (ρ : Emb) (a a' : Addr) : Prop := ρ a.block = some a'.block ∧ a'.off = a.off ∧ a'.spot = a.spot ∧ N.G ≤ a.block
theorem AdR.mono {ρ σ : Emb} (h : ρ.le σ) {a a' : Addr} (x : AdR N ρ a a') : AdR N σ a a' := ⟨h _ _ x.1, x.2⟩
theorem AdR.eq {a a' : Addr} (h : AdR N ρ a a') : a' = ⟨a'.block, a.off, a.spot⟩ := by
 obtain ⟨_, h1, h2, _⟩ := h
 cases a'
 simp only at h1 h2
 rw [h1, h2]
theorem AdR.add {a a' : Addr} (h : AdR N ρ a a') (n : Nat) : AdR N ρ (a.add n) (a'.add n) := by
 unfold Addr.add
 split
 ·exact h
 ·exact ⟨h.1, by simp [h.2.1], rfl, h.2.2.2⟩
theorem AdR.ptr {a a' : Addr} (h : AdR N ρ a a') : VR N ρ (.pointer (some a)) (.pointer (some a')) := by
 rw [h.eq]
 exact .ptr h.1 h.2.2.2
theorem AdR.slice {a a' : Addr} (h : AdR N ρ a a') (n c : Nat) : VR N ρ (.slice (some a) n c) (.slice (some a') n c) := by
 rw [h.eq]
 exact .slice h.1 h.2.2.2 n c
theorem sr_load {a a' : Addr} (h : AdR N ρ a a') : SR P N ok Poi (fun σ a b => VR N σ a b) ρ (Go.load a) (Go.load a') := by
 rw [h.eq]
 exact .load h.1 fun v v' hv => .pure hv
theorem sr_store {a a' : Addr} (h : AdR N ρ a a') {v v' : Value} (hv : VR N ρ v v') : SR P N ok Poi (fun _ _ _ => True) ρ (Go.store a v) (Go.store a' v') := by
 rw [h.eq]
 exact .store h.1 hv (.pure trivial)
theorem sr_loadCellsFrom {a a' : Addr} : ∀ (n i : Nat) {ρ : Emb} {acc acc' : Array Value}, AdR N ρ a a' → AR (VR N ρ) acc acc' → SR P N ok Poi (fun σ a b => AR (VR N σ) a b) ρ (loadCellsFrom a i n acc) (loadCellsFrom a' i n acc')
 | 0, i, ρ, acc, acc', h, hacc => .pure hacc
 | n + 1, i, ρ, acc, acc', h, hacc => (sr_load (h.add i)).bind fun σ v v' hσ hv => sr_loadCellsFrom n (i + 1) (h.mono hσ) ((hacc.mono fun _ _ x => x.mono hσ).push hv)
theorem sr_loadCells {a a' : Addr} (h : AdR N ρ a a') (n : Nat) : SR P N ok Poi (fun σ a b => AR (VR N σ) a b) ρ (loadCells a n) (loadCells a' n) := sr_loadCellsFrom n 0 h .empty
inductive LR {α β : Type} (R : α → β → Prop) : List α → List β → Prop
 | nil : LR R [] []
 | cons {a : α} {b : β} {l : List α} {m : List β} (h : R a b) (ht : LR R l m) : LR R (a :: l) (b :: m)
theorem LR.mono {α β : Type} {R S : α → β → Prop} (hs : ∀ a b, R a b → S a b) {l : List α} {m : List β} (h : LR R l m) : LR S l m := by
 induction h with
 | nil => exact .nil
 | cons h _ ih => exact .cons (hs _ _ h) ih
theorem LR.ofGet {α β : Type} {R : α → β → Prop} : ∀ (l : List α) (m : List β), l.length = m.length → (∀ (i : Nat) (a : α) (b : β), l[i]? = some a → m[i]? = some b → R a b) → LR R l m
 | [], [], _, _ => .nil
 | [], _ :: _, h, _ => by simp at h
 | _ :: _, [], h, _ => by simp at h
 | a :: l, b :: m, h, x => .cons (x 0 a b rfl rfl) (LR.ofGet l m (by simpa using h) fun i c d hc hd => x (i + 1) c d (by simpa using hc) (by simpa using hd))
theorem AR.toList {α β : Type} {R : α → β → Prop} {a : Array α} {b : Array β} (h : AR R a b) : LR R a.toList b.toList := LR.ofGet _ _ (by simpa using h.1) fun i x y hx hy => h.2 i x y (by simpa using hx) (by simpa using hy)
theorem sr_storeCells {a a' : Addr} {vs vs' : List Value} : ∀ {ρ : Emb} (i : Nat), AdR N ρ a a' → LR (VR N ρ) vs vs' → SR P N ok Poi (fun _ _ _ => True) ρ (storeCells a vs i) (storeCells a' vs' i) := by
 induction vs generalizing vs' with
 | nil =>
  intro ρ i h hv
  cases hv
  exact .pure trivial
 | cons v rest ih =>
  intro ρ i h hv
  cases hv with
  | cons h1 h2 => exact (sr_store (h.add i) h1).bind fun σ _ _ hσ _ => ih (i + 1) (h.mono hσ) (h2.mono fun _ _ x => x.mono hσ)
theorem sr_loadVar {a a' : Addr} (t : TypeId) (h : AdR N ρ a a') : SR P N ok Poi (fun σ a b => VR N σ a b) ρ (loadVar t a) (loadVar t a') := by
 unfold loadVar
 refine (sr_isAgg t).bind fun σ b b' hσ hb => ?_
 subst hb
 split
 ·refine (sr_sizeOf t).bind fun τ n n' hτ hn => ?_
  subst hn
  refine (sr_loadCells ((h.mono hσ).mono hτ) n).bind fun υ x y _ hx => ?_
  exact .pure (VR.ofAgg hx)
 ·exact sr_load (h.mono hσ)
theorem sr_storeVar {a a' : Addr} (t : TypeId) (h : AdR N ρ a a') {v v' : Value} (hv : VR N ρ v v') : SR P N ok Poi (fun _ _ _ => True) ρ (storeVar t a v) (storeVar t a' v') := by
 unfold storeVar
 refine (sr_sizeOf t).bind fun σ n n' hσ hn => ?_
 subst hn
 have hc := (hv.mono hσ).cells
 rw [← hc.1]
 split
 ·exact sr_stuck _ _
 ·exact sr_storeCells 0 (h.mono hσ) hc.toList
theorem sr_newRow (e : TypeId) {c c' : Array Value} (h : AR (VR N ρ) c c') : SR P N ok Poi (fun σ a b => AdR N σ a b) ρ (newRow e c) (newRow e c') := by
 unfold newRow
 refine SR.bind (A := fun σ n r => σ n = some r ∧ N.G ≤ n) (.new (.cells h e (fun i x y => by omega)) fun n r hn hg => .pure ⟨Emb.add_new _ _ _, hg⟩) fun σ n r hσ hn => ?_
 exact .pure ⟨hn.1, rfl, rfl, hn.2⟩
theorem sr_newVar (t : TypeId) {v v' : Value} (h : VR N ρ v v') : SR P N ok Poi (fun σ a b => AdR N σ a b) ρ (newVar t v) (newVar t v') := sr_newRow t h.cells
end
end Go.Proofs.Ytjgleaakgbnjgaa.Par
end

section
namespace Go.Proofs.Ytjgleaakgbnjgaa.Par
open Go
section
variable {P : Program} {N : Cfg} {ok : Code → Prop} {Poi : Nat → Prop} {ρ : Emb}
theorem sr_sureAddr {v v' : Value} (h : VR N ρ v v') : SR P N ok Poi (fun σ a b => AdR N σ a b) ρ (Instr.sureAddr v) (Instr.sureAddr v') := by
 cases h with
 | ptr h g => exact .pure ⟨h, rfl, rfl, g⟩
 | _ => exact .halt trivial
theorem sr_asIntOf {v v' : Value} (h : VR N ρ v v') : SR P N ok Poi (fun _ a b => a = b) ρ (asIntOf v) (asIntOf v') := by
 cases h with
 | int k n => exact .pure rfl
 | _ => exact .halt trivial
theorem sr_asInt {v v' : Value} (h : VR N ρ v v') : SR P N ok Poi (fun _ a b => a = b) ρ (asInt v) (asInt v') := by
 unfold asInt
 refine (sr_asIntOf h).bind fun σ a b _ e => ?_
 subst e
 exact .pure rfl
theorem sr_asBool {v v' : Value} (h : VR N ρ v v') : SR P N ok Poi (fun _ a b => a = b) ρ (asBool v) (asBool v') := by
 cases h with
 | bool b => exact .pure rfl
 | _ => exact .halt trivial
theorem sr_asAgg {v v' : Value} (h : VR N ρ v v') : SR P N ok Poi (fun σ a b => AR (VR N σ) a b) ρ (asAgg v) (asAgg v') := by
 cases h with
 | agg sx hx => exact .pure ⟨sx, hx⟩
 | _ => exact .halt trivial
theorem sr_part (t : TypeId) {cs cs' : Array Value} (h : AR (VR N ρ) cs cs') (off : Nat) : SR P N ok Poi (fun σ a b => VR N σ a b) ρ (part t cs off) (part t cs' off) := by
 unfold part
 refine (sr_isAgg t).bind fun σ b b' hσ hb => ?_
 subst hb
 split
 ·refine (sr_sizeOf t).bind fun τ n n' hτ hn => ?_
  subst hn
  exact .pure (VR.ofAgg ((h.mono fun _ _ x => x.mono (hσ.trans hτ)).extract off _))
 ·cases e : cs[off]? with
  | none => exact .halt trivial
  | some x =>
   obtain ⟨y, h1, h2⟩ := h.getSome e
   rw [h1]
   exact .pure (h2.mono hσ)
theorem sr_alloc {t : TypeId} (hz : zeroOk P t = true) : SR P N ok Poi (fun σ a b => VR N σ a b) ρ (Instr.alloc t true (.tuple #[])) (Instr.alloc t true (.tuple #[])) := by
 unfold Instr.alloc
 refine (sr_zeroValue hz).bind fun σ z z' hσ h => ?_
 refine (sr_newVar t h).bind fun τ a a' hτ ha => ?_
 exact .pure ha.ptr
theorem sr_box (t : TypeId) {v v' : Value} (h : VR N ρ v v') : SR P N ok Poi (fun σ a b => VR N σ a b) ρ (Instr.box t v) (Instr.box t v') := by
 unfold Instr.box
 refine (sr_newVar t h).bind fun τ a a' hτ ha => ?_
 exact .pure ha.ptr
theorem sr_loadAt (t : TypeId) {v v' : Value} (h : VR N ρ v v') : SR P N ok Poi (fun σ a b => VR N σ a b) ρ (Instr.loadAt t v) (Instr.loadAt t v') := by
 unfold Instr.loadAt
 exact (sr_sureAddr h).bind fun σ a a' _ ha => sr_loadVar t ha
theorem sr_storeAt (t : TypeId) {a a' v v' : Value} (ha : VR N ρ a a') (h : VR N ρ v v') : SR P N ok Poi (fun _ _ _ => True) ρ (Instr.storeAt t a v) (Instr.storeAt t a' v') := by
 unfold Instr.storeAt
 exact (sr_sureAddr ha).bind fun σ x x' hσ hx => sr_storeVar t hx (h.mono hσ)
def flat (P : Program) (t : TypeId) : Bool := match P.underlying t with | some (.struct _) | some (.array _ _) => false | _ => true
theorem sr_loadPoison {t : TypeId} {g : Nat} (hg : Poi g) (hs : flat P t = true) (v' : Value) : SR P N ok Poi (fun σ a b => VR N σ a b) ρ (Instr.loadAt t (.pointer (some ⟨g, 0, none⟩))) (Instr.loadAt t v') := by
 have key : ∀ {β : Type} (t' : Sem β) {A : Emb → Value → β → Prop}, SR P N ok Poi A ρ (Instr.loadAt t (.pointer (some ⟨g, 0, none⟩))) t' := by
  intro β t' A
  have e : Instr.loadAt t (.pointer (some ⟨g, 0, none⟩)) = (underlying t >>= fun d => (match d with | .struct _ => pure true | .array _ _ => pure true | _ => pure false) >>= fun b => if b then (do pure (.agg (← loadCells ⟨g, 0, none⟩ (← sizeOf t)))) else Go.load ⟨g, 0, none⟩) := by
   unfold Instr.loadAt Instr.sureAddr loadVar isAgg
   rw [pure_bind, bind_assoc]
   rfl
  rw [e]
  unfold underlying
  unfold flat at hs
  refine .progL ?_
  show SR _ _ _ _ _ _ ((match P.underlying t with | some i => pure i | none => stuck "no such type") >>= fun d => (match d with | .struct _ => pure true | .array _ _ => pure true | _ => pure false) >>= fun b => if b then (do pure (.agg (← loadCells ⟨g, 0, none⟩ (← sizeOf t)))) else Go.load ⟨g, 0, none⟩) _
  cases hu : P.underlying t with
  | none => exact .halt trivial
  | some d =>
   rw [hu] at hs
   cases d <;> first | (simp at hs; done) | exact .loadPoison hg
 exact key _
theorem sr_mapM {α β : Type} (f : α → Sem β) (hf : ∀ x σ, SR P N ok Poi (fun _ a b => a = b) σ (f x) (f x)) (xs : Array α) : SR P N ok Poi (fun _ a b => a = b) ρ (xs.mapM f) (xs.mapM f) := by
 have key : ∀ (l : List α) (acc : List β) (σ : Emb), SR P N ok Poi (fun _ a b => a = b) σ (List.mapM.loop f l acc) (List.mapM.loop f l acc) := by
  intro l
  induction l with
  | nil => intro acc σ; exact .pure rfl
  | cons x l ih =>
   intro acc σ
   refine (hf x σ).bind fun τ a b _ e => ?_
   subst e
   exact ih _ _
 rw [Array.mapM_eq_mapM_toList]
 have k2 := key xs.toList [] ρ
 refine SR.bind (A := fun _ a b => a = b) k2 fun τ a b _ e => ?_
 subst e
 exact .pure rfl
theorem AR.foldSet {cs cs' : Array Value} (h : AR (VR N ρ) cs cs') (off : Nat) {vs vs' : Array Value} (hv : AR (VR N ρ) vs vs') : AR (VR N ρ) (vs.zipIdx.foldl (fun cs (c, j) => cs.setIfInBounds (off + j) c) cs) (vs'.zipIdx.foldl (fun cs (c, j) => cs.setIfInBounds (off + j) c) cs') := by
 have key : ∀ (l l' : List Value), LR (VR N ρ) l l' → ∀ (k : Nat) (cs cs' : Array Value), AR (VR N ρ) cs cs' → AR (VR N ρ) ((l.zipIdx k).foldl (fun cs (c, j) => cs.setIfInBounds (off + j) c) cs) ((l'.zipIdx k).foldl (fun cs (c, j) => cs.setIfInBounds (off + j) c) cs') := by
  intro l l' hl
  induction hl with
  | nil => intro k cs cs' h; exact h
  | cons h1 _ ih => intro k cs cs' h; exact ih (k + 1) _ _ (h.set _ h1)
 have := key _ _ hv.toList 0 cs cs' h
 rw [← Array.foldl_toList, ← Array.foldl_toList, Array.toList_zipIdx, Array.toList_zipIdx]
 exact this
theorem fill_rel (place : Nat → Option (Nat × Nat)) : ∀ (l l' : List (Nat × Value)), LR (fun x y => x.1 = y.1 ∧ VR N ρ x.2 y.2) l l' → ∀ {cs cs' : Array Value}, AR (VR N ρ) cs cs' →
  (Instr.fill place cs l = none ∧ Instr.fill place cs' l' = none) ∨ ∃ d d', Instr.fill place cs l = some d ∧ Instr.fill place cs' l' = some d' ∧ AR (VR N ρ) d d' := by
 intro l l' hl
 induction hl with
 | nil => intro cs cs' h; exact .inr ⟨_, _, rfl, rfl, h⟩
 | @cons x y l m h1 _ ih =>
  intro cs cs' h
  obtain ⟨i, u⟩ := x
  obtain ⟨j, u'⟩ := y
  obtain ⟨e, hu⟩ := h1
  simp only at e hu
  subst e
  unfold Instr.fill
  cases place i with
  | none => exact .inl ⟨rfl, rfl⟩
  | some os =>
   obtain ⟨off, size⟩ := os
   simp only
   have hc := hu.cells
   rw [← hc.1, ← h.1]
   split
   ·exact .inl ⟨rfl, rfl⟩
   ·exact ih (h.foldSet off hc)
theorem sr_build {t : TypeId} (hz : zeroOk P t = true) {parts parts' : Array (Nat × Value)} (hp : AR (fun x y => x.1 = y.1 ∧ VR N ρ x.2 y.2) parts parts') : SR P N ok Poi (fun σ a b => VR N σ a b) ρ (Instr.build t parts) (Instr.build t parts') := by
 unfold Instr.build
 refine (sr_zeroValue hz).bind fun σ z z' hσ hz => ?_
 refine (sr_underlying t).bind fun τ d d' hτ hd => ?_
 obtain ⟨rfl, _⟩ := hd
 split
 ·rename_i fields _
  refine (sr_mapM _ (fun f υ => (sr_sizeOf f.type).bind fun _ a b _ e => by subst e; exact .pure rfl) fields).bind fun υ p p' hυ e => ?_
  subst e
  have hz' := ((hz.mono (hτ.trans hυ))).cells
  rcases fill_rel (N := N) (ρ := υ) (p[·]?) _ _ ((hp.mono fun _ _ x => ⟨x.1, x.2.mono (hσ.trans (hτ.trans hυ))⟩).toList) hz' with ⟨e1, e2⟩ | ⟨c, c', e1, e2, h⟩
  ·rw [e1, e2]
   exact sr_stuck _ _
  ·rw [e1, e2]
   exact .pure (VR.ofAgg h)
 ·rename_i elem _
  refine (sr_sizeOf elem).bind fun υ s s' hυ e => ?_
  subst e
  have hz' := ((hz.mono (hτ.trans hυ))).cells
  rcases fill_rel (N := N) (ρ := υ) (fun i => some (i * s, s)) _ _ ((hp.mono fun _ _ x => ⟨x.1, x.2.mono (hσ.trans (hτ.trans hυ))⟩).toList) hz' with ⟨e1, e2⟩ | ⟨c, c', e1, e2, h⟩
  ·rw [e1, e2]
   exact sr_stuck _ _
  ·rw [e1, e2]
   exact .pure (VR.ofAgg h)
 ·exact sr_stuck _ _
end
end Go.Proofs.Ytjgleaakgbnjgaa.Par
end

section
namespace Go.Proofs.Ytjgleaakgbnjgaa.Par
open Go
section
variable {P : Program} {N : Cfg} {ok : Code → Prop} {Poi : Nat → Prop} {ρ : Emb}
abbrev RV (N : Cfg) : Emb → Value → Value → Prop := fun σ a b => VR N σ a b
abbrev RE {α : Type} : Emb → α → α → Prop := fun _ a b => a = b
theorem sr_shape {r r' : Nat} (h : ρ r = some r') : SR P N ok Poi RE ρ (shape r) (shape r') := .shape h fun x => .pure rfl
theorem sr_viewAt {r r' : Nat} (h : ρ r = some r') : SR P N ok Poi (fun _ a b => a = none ∧ b = none) ρ (viewAt r) (viewAt r') := by
 unfold viewAt
 refine (sr_shape h).bind fun σ a b hσ e => ?_
 subst e
 split
 ·exact .pure ⟨rfl, rfl⟩
 ·show SR _ _ _ _ _ _ (getObj r >>= fun o => match o with | .view a t => pure (some (a, t)) | _ => pure none) (getObj r' >>= fun o => match o with | .view a t => pure (some (a, t)) | _ => pure none)
  refine SR.bind (A := fun τ o o' => OR N ok τ o o') (.getObj (hσ _ _ h) fun o o' ho => .pure ho) fun τ o o' _ ho => ?_
  cases ho <;> exact .pure ⟨rfl, rfl⟩
theorem sr_numberAt {r r' : Nat} (h : ρ r = some r') : SR P N ok Poi (fun σ a b => (a = none ∧ b = none) ∨ ∃ x x' l, a = some (x, l) ∧ b = some (x', l) ∧ AdR N σ x x') ρ (numberAt r) (numberAt r') := by
 unfold numberAt
 refine (sr_shape h).bind fun σ a b hσ e => ?_
 subst e
 split
 ·exact .pure (.inl ⟨rfl, rfl⟩)
 ·show SR _ _ _ _ _ _ (getObj r >>= fun o => match o with | .number a t => pure (some (a, t)) | _ => pure none) (getObj r' >>= fun o => match o with | .number a t => pure (some (a, t)) | _ => pure none)
  refine SR.bind (A := fun τ o o' => OR N ok τ o o') (.getObj (hσ _ _ h) fun o o' ho => .pure ho) fun τ o o' _ ho => ?_
  cases ho <;> first | exact .pure (.inl ⟨rfl, rfl⟩) | (rename_i x g l; exact .pure (.inr ⟨_, _, _, rfl, rfl, x, rfl, rfl, g⟩))
theorem sr_behind {a a' : Addr} (h : AdR N ρ a a') : SR P N ok Poi (fun σ x y => AdR N σ x.1 y.1 ∧ x.2 = y.2) ρ (behindNumber a) (behindNumber a') := by
 unfold behindNumber
 refine (sr_numberAt h.1).bind fun σ x y hσ e => ?_
 rcases e with ⟨rfl, rfl⟩ | ⟨u, u', l, rfl, rfl, hu⟩
 ·exact .pure ⟨h.mono hσ, rfl⟩
 ·exact .pure ⟨hu, rfl⟩
theorem sr_noView {a a' : Addr} (h : AdR N ρ a a') : SR P N ok Poi (fun _ _ _ => True) ρ (noView a) (noView a') := by
 unfold noView
 refine (sr_viewAt h.1).bind fun σ x y hσ e => ?_
 obtain ⟨rfl, rfl⟩ := e
 exact .pure trivial
theorem here_underlying (N : Cfg) (P : Program) (t : TypeId) : (N.here P).underlying t = P.underlying t := rfl
theorem here_cellsOf (N : Cfg) (P : Program) (t : TypeId) : (N.here P).cellsOf t = P.cellsOf t := rfl
theorem here_bytesOf (N : Cfg) (P : Program) (t : TypeId) : (N.here P).bytesOf t = P.bytesOf t := rfl
theorem here_depth (N : Cfg) (P : Program) : (N.here P).depth = P.depth := rfl
theorem here_byteOfCell (N : Cfg) (P : Program) : ∀ (d : Nat) (t : TypeId) (off : Nat), byteOfCell (N.here P) d t off = byteOfCell P d t off
 | 0, _, _ => rfl
 | d + 1, t, off => by
  unfold byteOfCell
  simp only [here_underlying, here_cellsOf, here_bytesOf, here_byteOfCell N P d]
  rfl
theorem sr_byteOf {a a' : Addr} (h : AdR N ρ a a') : SR P N ok Poi RE ρ (byteOf a) (byteOf a') := by
 unfold byteOf
 rw [h.2.2.1, h.2.1]
 cases hs : a.spot with
 | some s => exact .pure rfl
 | none =>
  dsimp only
  refine .program ?_
  refine (sr_noView h).bind fun σ _ _ hσ _ => ?_
  refine (sr_shape ((h.mono hσ).1)).bind fun τ x y hτ e => ?_
  subst e
  simp only [here_cellsOf, here_bytesOf, here_depth, here_byteOfCell]
  split
  ·split
   ·exact .pure rfl
   ·split
    ·exact .pure rfl
    ·exact sr_stuck _ _
  ·exact sr_stuck _ _
theorem sr_partAt {a a' : Addr} (h : AdR N ρ a a') (c b : Nat) : SR P N ok Poi (fun σ x y => AdR N σ x y) ρ (partAt a c b) (partAt a' c b) := by
 unfold partAt
 refine (sr_byteOf h).bind fun σ x y hσ e => ?_
 subst e
 have h' := h.mono hσ
 have p : AdR N σ { block := a.block, off := a.off + c } { block := a'.block, off := a'.off + c } := ⟨h'.1, by simp [h'.2.1], rfl, h'.2.2.2⟩
 refine (sr_byteOf p).bind fun τ u v hτ e => ?_
 subst e
 refine .pure ?_
 split
 ·exact p.mono hτ
 ·exact ⟨(p.mono hτ).1, p.2.1, rfl, p.2.2.2⟩
theorem sr_fieldPlace {a a' : Addr} (h : AdR N ρ a a') (f : Field) : SR P N ok Poi (fun σ x y => AdR N σ x y) ρ (fieldPlace a f) (fieldPlace a' f) := by
 unfold fieldPlace
 refine (sr_sizeOf f.type).bind fun σ x y hσ e => ?_
 subst e
 split
 ·exact sr_partAt (h.mono hσ) _ _
 ·exact .pure ((h.mono hσ).add _)
theorem sr_fieldAt (s : TypeId) {v v' : Value} (h : VR N ρ v v') (f : Nat) : SR P N ok Poi (RV N) ρ (Instr.fieldAt s v f) (Instr.fieldAt s v' f) := by
 unfold Instr.fieldAt
 refine (sr_underlying s).bind fun σ d d' hσ e => ?_
 obtain ⟨rfl, _⟩ := e
 split
 ·split
  ·refine (sr_sureAddr (h.mono hσ)).bind fun τ a a' hτ ha => ?_
   refine (sr_fieldPlace ha _).bind fun υ b b' hυ hb => ?_
   exact .pure hb.ptr
  ·exact sr_stuck _ _
 ·exact sr_stuck _ _
theorem sr_extract {v v' : Value} (h : VR N ρ v v') (i : Nat) : SR P N ok Poi (RV N) ρ (Instr.extract v i) (Instr.extract v' i) := by
 cases h with
 | @tuple xs xs' sx hx =>
  unfold Instr.extract
  cases e : xs[i]? with
  | none =>
   simp only [e]
   exact sr_stuck _ _
  | some x =>
   obtain ⟨y, h1, h2⟩ := AR.getSome ⟨sx, hx⟩ e
   simp only [e, h1]
   exact .pure h2
 | _ => exact .halt trivial
theorem sr_field (t : TypeId) {v v' : Value} (h : VR N ρ v v') (f : Nat) : SR P N ok Poi (RV N) ρ (Instr.field t v f) (Instr.field t v' f) := by
 unfold Instr.field
 refine (sr_underlying t).bind fun σ d d' hσ e => ?_
 obtain ⟨rfl, _⟩ := e
 split
 ·split
  ·refine (sr_asAgg (h.mono hσ)).bind fun τ a a' hτ ha => ?_
   exact sr_part _ ha _
  ·exact sr_stuck _ _
 ·exact sr_stuck _ _
def tailI (t : TypeId) (k : IntKind) (n : Int) (x : Option Addr × Nat × TypeId) : Sem Value := do
 let d ← underlying t
 match x.1 with
 | some a =>
  if 0 ≤ n ∧ n < x.2.1 then (do pure (.pointer (some (a.add (n.toNat * (← sizeOf x.2.2))))))
  else if (decide (x.2.1 ≤ 1) && (match d with | .array .. => true | _ => false)) = true then unsupported (.noEntry "op/indexAddr.an index out of range at an array of length 0 or 1 (ledger 616)")
  else boundsPanic k n x.2.1 .index
 | none => boundsPanic k n 0 .index
theorem sr_tailI (t : TypeId) (k : IntKind) (n : Int) (x y : Option Addr × Nat × TypeId) (h2 : x.2 = y.2) (h1 : (x.1 = none ∧ y.1 = none) ∨ ∃ a b, x.1 = some a ∧ y.1 = some b ∧ AdR N ρ a b) : SR P N ok Poi (RV N) ρ (tailI t k n x) (tailI t k n y) := by
 unfold tailI
 refine (sr_underlying t).bind fun σ d d' hσ e => ?_
 obtain ⟨rfl, _⟩ := e
 rw [← h2]
 rcases h1 with ⟨e1, e2⟩ | ⟨a, b, e1, e2, hab⟩ <;> rw [e1, e2]
 ·exact sr_boundsPanic _ _ _ _ _
 ·dsimp only
  split
  ·refine (sr_sizeOf _).bind fun υ s s' hυ e => ?_
   subst e
   exact .pure (((hab.mono (hσ.trans hυ)).add _).ptr)
  ·repeat' split
   all_goals first | exact SR.halt trivial | exact sr_boundsPanic _ _ _ _ _
theorem sr_indexAt (t : TypeId) {v v' i i' : Value} (h : VR N ρ v v') (hi : VR N ρ i i') : SR P N ok Poi (RV N) ρ (Instr.indexAt t v i) (Instr.indexAt t v' i') := by
 unfold Instr.indexAt
 refine (sr_asIntOf hi).bind fun σ ki ki' hσ e => ?_
 subst e
 obtain ⟨k, n⟩ := ki
 dsimp only
 refine (sr_underlying t).bind fun τ d d' hτ e => ?_
 obtain ⟨rfl, _⟩ := e
 cases d with
 | array len elem =>
  dsimp only
  refine (sr_sureAddr (h.mono (hσ.trans hτ))).bind fun υ a a' _ ha => ?_
  exact sr_tailI t k n (some a, len, elem) (some a', len, elem) rfl (.inr ⟨_, _, rfl, rfl, ha⟩)
 | slice elem =>
  cases h.mono (hσ.trans hτ) with
  | nilSlice l c => exact sr_tailI t k n (none, l, elem) (none, l, elem) rfl (.inl ⟨rfl, rfl⟩)
  | @slice a b x g l c => exact sr_tailI t k n (some a, l, elem) (some ⟨b, a.off, a.spot⟩, l, elem) rfl (.inr ⟨_, _, rfl, rfl, x, rfl, rfl, g⟩)
  | _ => exact sr_stuck _ _
 | _ => exact sr_stuck _ _
theorem sr_index (t : TypeId) {v v' i i' : Value} (h : VR N ρ v v') (hi : VR N ρ i i') : SR P N ok Poi (RV N) ρ (Instr.index t v i) (Instr.index t v' i') := by
 unfold Instr.index
 refine (sr_asIntOf hi).bind fun σ ki ki' hσ e => ?_
 subst e
 obtain ⟨k, n⟩ := ki
 dsimp only
 refine (sr_underlying t).bind fun τ d d' hτ e => ?_
 obtain ⟨rfl, _⟩ := e
 cases d with
 | array len elem =>
  cases h.mono (hσ.trans hτ) with
  | agg sx hx =>
   dsimp only
   split
   ·refine (sr_sizeOf elem).bind fun υ s s' hυ e => ?_
    subst e
    exact sr_part elem (AR.mono ⟨sx, hx⟩ fun _ _ x => x.mono hυ) _
   ·exact sr_boundsPanic _ _ _ _ _
  | _ => exact sr_stuck _ _
 | string =>
  cases h.mono (hσ.trans hτ) with
  | string s =>
   dsimp only
   split
   ·exact .pure (.int _ _)
   ·exact sr_boundsPanic _ _ _ _ _
  | _ => exact sr_stuck _ _
 | _ => exact sr_stuck _ _
theorem sr_unary (op : UnOp) {v v' : Value} (h : VR N ρ v v') : SR P N ok Poi (RV N) ρ (Op.unary op v) (Op.unary op v') := by
 unfold Op.unary
 cases h with
 | int k n => cases op <;> first | exact .pure (.int _ _) | exact sr_stuck _ _
 | bool b => cases op <;> first | exact .pure (.bool _) | exact sr_stuck _ _
 | ptr => cases op <;> first | exact .halt trivial | exact sr_stuck _ _
 | _ => cases op <;> exact sr_stuck _ _
def intType (P : Program) (t : TypeId) : Bool := match P.underlying t with | some (.int _) => true | _ => false
theorem sr_convertInt {s d : TypeId} (hs : intType P s = true) (hd : intType P d = true) {v v' : Value} (h : VR N ρ v v') : SR P N ok Poi (RV N) ρ (convert s d v) (convert s d v') := by
 unfold convert
 unfold intType at hs hd
 refine (sr_underlying s).bind fun σ x x' hσ e => ?_
 obtain ⟨rfl, e1⟩ := e
 refine (sr_underlying d).bind fun τ y y' hτ e => ?_
 obtain ⟨rfl, e2⟩ := e
 rw [e1] at hs
 rw [e2] at hd
 cases x <;> first | (simp at hs; done) | skip
 cases y <;> first | (simp at hd; done) | skip
 cases h.mono (hσ.trans hτ) <;> first | exact .pure (.int _ _) | exact SR.halt trivial
theorem sr_makeInterface (t : TypeId) (ht : N.T t) {v v' : Value} (h : VR N ρ v v') : SR P N ok Poi (RV N) ρ (Instr.makeInterface t v) (Instr.makeInterface t v') := by
 unfold Instr.makeInterface
 refine (sr_underlying t).bind fun σ x x' hσ e => ?_
 obtain ⟨rfl, _⟩ := e
 cases x <;> first | exact .pure (.iface ht (h.mono hσ)) | exact sr_stuck _ _
theorem sr_makeFunc {f : FuncId} (hf : N.N f) {xs xs' ys ys' : Array Value} (hx : AR (VR N ρ) xs xs') (hy : AR (VR N ρ) ys ys') : SR P N ok Poi (RV N) ρ (Instr.makeFunc (.func f) xs ys) (Instr.makeFunc (.func f) xs' ys') :=
 .pure (.func hf hx.1 hx.2 hy.1 hy.2)
end
end Go.Proofs.Ytjgleaakgbnjgaa.Par
end

section
namespace Go.Proofs.Ytjgleaakgbnjgaa.Par
open Go
section
variable {P : Program} {N : Cfg} {ok : Code → Prop} {Poi : Nat → Prop} {ρ : Emb}
def simpleEq (P : Program) (t : TypeId) : Bool :=
 match P.underlying t with
 | some .bool | some .string => true
 | some (.int _) => match P.info? t with | some { desc := .named "sync.copyChecker" _, .. } => false | _ => true
 | _ => false
theorem sr_typeInfoL {α β : Type} {A : Emb → α → β → Prop} (t : TypeId) {f : TypeInfo → Sem α} {t' : Sem β} (h : ∀ i, P.info? t = some i → SR P N ok Poi A ρ (f i) t') : SR P N ok Poi A ρ (typeInfo t >>= f) t' := by
 unfold typeInfo
 refine .progL ?_
 show SR _ _ _ _ A ρ ((match P.info? t with | some i => pure i | none => stuck "no such type") >>= f) t'
 cases hi : P.info? t with
 | none => exact .halt trivial
 | some i => exact h i hi
theorem sr_underlyingL {α β : Type} {A : Emb → α → β → Prop} (t : TypeId) {f : TypeDesc → Sem α} {t' : Sem β} (h : ∀ d, P.underlying t = some d → SR P N ok Poi A ρ (f d) t') : SR P N ok Poi A ρ (underlying t >>= f) t' := by
 unfold underlying
 refine .progL ?_
 show SR P N ok Poi A ρ ((match P.underlying t with | some i => pure i | none => stuck "no such type") >>= f) t'
 cases hi : P.underlying t with
 | none => exact .halt trivial
 | some i => exact h i hi
theorem sr_equal_dead {α β : Type} {A : Emb → α → β → Prop} {t : TypeId} (ht : simpleEq P t = true) {v u : Value} (hd : v = .tuple #[] ∨ u = .tuple #[]) {f : Bool → Sem α} (t' : Sem β) : SR P N ok Poi A ρ (Op.equal t v u >>= f) t' := by
 unfold Op.equal
 obtain ⟨d, hd2⟩ : ∃ d, Op.maxDepth = d + 1 := ⟨9999, rfl⟩
 rw [hd2]
 unfold Op.equalIn
 rw [bind_assoc]
 refine sr_underlyingL t fun x e1 => ?_
 unfold simpleEq at ht
 rw [e1] at ht
 cases x <;> first | (simp at ht; done) | skip
 all_goals
  rcases hd with rfl | rfl
  ·first | exact .halt trivial | (cases u <;> exact .halt trivial)
  ·cases v <;> first | exact .halt trivial | (rename_i p; cases p <;> exact .halt trivial)
theorem sr_equal {t : TypeId} (ht : simpleEq P t = true) (hG : N.G = P.globals.size) {v v' u u' : Value} (h : VR N ρ v v') (h' : VR N ρ u u') : SR P N ok Poi RE ρ (Op.equal t v u) (Op.equal t v' u') := by
 unfold Op.equal
 obtain ⟨d, hd⟩ : ∃ d, Op.maxDepth = d + 1 := ⟨9999, rfl⟩
 rw [hd]
 unfold Op.equalIn
 refine (sr_underlying t).bind fun σ x x' hσ e => ?_
 obtain ⟨rfl, e1⟩ := e
 unfold simpleEq at ht
 rw [e1] at ht
 replace h := h.mono hσ
 replace h' := h'.mono hσ
 cases x with
 | bool =>
  cases h <;> first | exact sr_stuck _ _ | (cases h' <;> first | exact sr_stuck _ _ | exact .pure rfl)
 | string =>
  cases h <;> first | exact sr_stuck _ _ | (cases h' <;> first | exact sr_stuck _ _ | exact .pure rfl)
 | int k =>
  cases h with
  | int k n =>
   cases h' with
   | int k' m =>
    dsimp only
    split
    ·exact .pure rfl
    ·exact sr_stuck _ _
   | ptr x g =>
    by_cases z : n = 0
    ·subst z
     exact .pure rfl
    ·split <;> first | exact .pure rfl | exact .halt trivial | (rename_i a; simp_all; done) | (simp_all; done)
   | nilPtr => split <;> first | exact .halt trivial | (simp_all; done)
   | _ => exact sr_stuck _ _
  | @ptr a b x g =>
   cases h' with
   | int k' m =>
    by_cases z : m = 0
    ·subst z
     exact .pure rfl
    ·split <;> first | exact .pure rfl | exact .halt trivial | (rename_i a; simp_all; done) | (simp_all; done)
   | @ptr c d' x' g' =>
    dsimp only
    refine (sr_behind (show AdR N σ a ⟨b, a.off, a.spot⟩ from ⟨x, rfl, rfl, g⟩)).bind fun τ p p' hτ hp => ?_
    refine (sr_behind (show AdR N τ c ⟨d', c.off, c.spot⟩ from ⟨hτ _ _ x', rfl, rfl, g'⟩)).bind fun υ q q' hυ hq => ?_
    refine .progL ?_
    have c : (p.1.block == q.1.block && decide (p.1.block < P.globals.size)) = false := by
     have := hp.1.2.2.2
     rw [decide_eq_false (by omega), Bool.and_false]
    show SR _ _ _ _ _ _ (if (p.1.block == q.1.block && decide (p.1.block < P.globals.size)) = true then _ else _) _
    rw [c, if_neg (by simp)]
    refine sr_typeInfoL t fun i hi => ?_
    rw [hi] at ht
    obtain ⟨desc, str, size, bytes, hpt, al, fa, zero, cmp, methods⟩ := i
    dsimp only
    split
    ·simp at ht
    ·exact .halt trivial
   | nilPtr => exact .halt trivial
   | _ => exact .halt trivial
  | nilPtr =>
   cases h' <;> exact .halt trivial
  | _ =>
   cases h' <;> first | exact sr_stuck _ _ | exact SR.halt trivial
 | _ => simp at ht
end
end Go.Proofs.Ytjgleaakgbnjgaa.Par
end

section
namespace Go.Proofs.Ytjgleaakgbnjgaa.Par
open Go
section
variable {P : Program} {N : Cfg} {ok : Code → Prop} {Poi : Nat → Prop} {ρ : Emb}
theorem sr_program {α β : Type} {A : Emb → α → β → Prop} {f : Program → Sem α} {f' : Program → Sem β} (h : SR P N ok Poi A ρ (f P) (f' (N.here P))) : SR P N ok Poi A ρ (program >>= f) (program >>= f') := .program h
theorem here_eqGuardType (N : Cfg) (P : Program) : ∀ (d : Nat) (t : TypeId), (N.here P).eqGuardType d t = P.eqGuardType d t
  | 0, _ => rfl
  | d + 1, t => by
    unfold Program.eqGuardType
    simp only [here_underlying, here_eqGuardType N P d]
theorem sr_guardIn {t : TypeId} (ht : simpleEq P t = true) (v v' u u' : Value) : SR P N ok Poi (fun _ a b => a = false ∧ b = false) ρ (Op.eqGuardIn Op.maxDepth t v u) (Op.eqGuardIn Op.maxDepth t v' u') := by
  obtain ⟨d, hd⟩ : ∃ d, Op.maxDepth = d + 1 := ⟨9999, rfl⟩
  rw [hd]
  unfold Op.eqGuardIn
  refine (sr_underlying t).bind fun σ x x' hσ e => ?_
  obtain ⟨rfl, e1⟩ := e
  unfold simpleEq at ht
  rw [e1] at ht
  cases x <;> first | exact .pure ⟨rfl, rfl⟩ | (simp at ht; done)
theorem sr_eqGuard {op : BinOp} {t : TypeId} (ht : (op = .eql ∨ op = .neq) → simpleEq P t = true) (x y : Operand) {v v' u u' : Value} (h : VR N ρ v v') (h' : VR N ρ u u') (hd : v ≠ .tuple #[] ∧ u ≠ .tuple #[]) : SR P N ok Poi (fun _ _ _ => True) ρ (eqGuard op t x y v u) (eqGuard op t x y v' u') := by
  unfold eqGuard
  by_cases ho : op = .eql ∨ op = .neq
  · have hs := ht ho
    have agg : ∀ a b a' b' : Value, SR P N ok Poi (fun _ _ _ => True) ρ (do
        if !(← program).eqGuardType (← program).depth t then return
        if ← Op.eqGuardIn Op.maxDepth t a b then unsupported (.noEntry "binop/eql: two nil values of an interface type with methods, in a part of a struct or an array")) (do
        if !(← program).eqGuardType (← program).depth t then return
        if ← Op.eqGuardIn Op.maxDepth t a' b' then unsupported (.noEntry "binop/eql: two nil values of an interface type with methods, in a part of a struct or an array")) := by
      intro a b a' b'
      refine sr_program (sr_program ?_)
      simp only [here_eqGuardType, here_depth]
      split
      · exact .pure trivial
      · refine (sr_guardIn hs a a' b b').bind fun σ p q _ hpq => ?_
        obtain ⟨rfl, rfl⟩ := hpq
        exact .pure trivial
    have nil : ∀ a b a' b' : Value, SR P N ok Poi (fun _ _ _ => True) ρ (do
        if (x matches .const _) || (y matches .const _) then return
        if ← Op.eqGuardIn Op.maxDepth t a b then unsupported (.noEntry "binop/eql: two nil values of an interface type with methods, neither of them the literal nil")) (do
        if (x matches .const _) || (y matches .const _) then return
        if ← Op.eqGuardIn Op.maxDepth t a' b' then unsupported (.noEntry "binop/eql: two nil values of an interface type with methods, neither of them the literal nil")) := by
      intro a b a' b'
      repeat' split
      all_goals first
        | exact .pure trivial
        | (refine (sr_guardIn hs a a' b b').bind fun σ p q _ hpq => ?_
           obtain ⟨rfl, rfl⟩ := hpq
           exact .pure trivial)
    rcases ho with rfl | rfl <;> (change SR _ _ _ _ _ ρ (if (!true) = true then _ else _) (if (!true) = true then _ else _); rw [if_neg (show ¬((!true) = true) by decide), if_neg (show ¬((!true) = true) by decide)])
    all_goals
      cases h with
      | dead => exact absurd rfl hd.1
      | agg => cases h' <;> first | exact agg _ _ _ _ | exact .pure trivial | exact absurd rfl hd.2
      | nilIface => cases h' <;> first | exact nil _ _ _ _ | exact .pure trivial | exact absurd rfl hd.2
      | _ => cases h' <;> first | exact .pure trivial | exact absurd rfl hd.2
  · cases op <;> first | exact absurd (Or.inl rfl) ho | exact absurd (Or.inr rfl) ho | exact .pure trivial
end
end Go.Proofs.Ytjgleaakgbnjgaa.Par
end

section
namespace Go.Proofs.Ytjgleaakgbnjgaa.Par
open Go
section
theorem here_cellOfByte (N : Cfg) (P : Program) : ∀ (d : Nat) (t : TypeId) (b : Nat), cellOfByte (N.here P) d t b = cellOfByte P d t b
 | 0, _, _ => rfl
 | d + 1, t, b => by
  unfold cellOfByte
  simp only [here_underlying, here_cellsOf, here_bytesOf, here_cellOfByte N P d]
  rfl
theorem here_cellAtBytes (N : Cfg) (P : Program) (e : TypeId) (x y : Nat) (n : Int) : cellAtBytes (N.here P) (N.here P).depth e (x / (N.here P).cellsOf e) y n = cellAtBytes P P.depth e (x / P.cellsOf e) y n := by
 unfold cellAtBytes
 simp only [here_cellsOf, here_bytesOf, here_depth, here_byteOfCell, here_cellOfByte]
 rfl
variable {P : Program} {N : Cfg} {ok : Code → Prop} {Poi : Nat → Prop} {ρ : Emb}
theorem sr_intArith (op : BinOp) (k : IntKind) (x y : Int) : SR P N ok Poi (RV N) ρ (Op.intArith op k x y) (Op.intArith op k x y) := by
 unfold Op.intArith
 cases op <;> first | exact .pure (.int _ _) | exact sr_stuck _ _
theorem sr_intDiv (op : BinOp) (k : IntKind) (x y : Int) : SR P N ok Poi (RV N) ρ (Op.intDiv op k x y) (Op.intDiv op k x y) := by
 unfold Op.intDiv
 split
 ·exact sr_runtimePanic _ _
 ·cases op <;> first | exact .pure (.int _ _) | exact sr_stuck _ _
theorem sr_intBits (op : BinOp) (k : IntKind) (x y : Int) : SR P N ok Poi (RV N) ρ (Op.intBits op k x y) (Op.intBits op k x y) := by
 unfold Op.intBits
 cases op <;> first | exact .pure (.int _ _) | exact sr_stuck _ _
theorem sr_intCmp (op : BinOp) (x y : Int) : SR P N ok Poi (RV N) ρ (Op.intCmp op x y) (Op.intCmp op x y) := by
 unfold Op.intCmp
 cases op <;> first | exact .pure (.bool _) | exact sr_stuck _ _
theorem sr_shift (op : BinOp) (k : IntKind) (x : Int) (yk : IntKind) (y : Int) : SR P N ok Poi (RV N) ρ (Op.shift op k x yk y) (Op.shift op k x yk y) := by
 unfold Op.shift
 split
 ·exact sr_runtimePanic _ _
 ·cases op <;> first | exact .pure (.int _ _) | exact sr_stuck _ _
theorem sr_stringOp (op : BinOp) (x y : ByteArray) : SR P N ok Poi (RV N) ρ (Op.stringOp op x y) (Op.stringOp op x y) := by
 unfold Op.stringOp
 cases op with
 | add =>
  dsimp only
  split
  ·exact .halt trivial
  ·exact .pure (.string _)
 | _ => first | exact .pure (.bool _) | exact sr_stuck _ _
theorem sr_unsafeAddS {a t b s} {v v' u u' : Value} (h : VR N ρ v v') (h' : VR N ρ u u') : SR P N ok Poi (fun σ r q => VR N σ r q ∧ r ≠ .tuple #[]) ρ (Builtin.unsafeAdd_ a t #[v, u]) (Builtin.unsafeAdd_ b s #[v', u']) := by
 unfold Builtin.unsafeAdd_
 cases h with
 | nilPtr =>
  dsimp only
  refine (sr_asInt h').bind fun σ n n' hσ e => ?_
  subst e
  split
  ·exact .halt trivial
  ·split
   ·exact .halt trivial
   ·exact .halt trivial
 | @ptr a b x g =>
  dsimp only
  refine (sr_asInt h').bind fun σ n n' hσ e => ?_
  subst e
  have hx : AdR N σ a ⟨b, a.off, a.spot⟩ := ⟨hσ _ _ x, rfl, rfl, g⟩
  split
  ·refine (sr_viewAt hx.1).bind fun τ p q hτ e => ?_
   obtain ⟨rfl, rfl⟩ := e
   exact .pure ⟨(hx.mono hτ).ptr, fun h => by cases h⟩
  ·split
   ·exact .halt trivial
   ·refine (sr_shape hx.1).bind fun τ p q hτ e => ?_
    subst e
    split
    ·rename_i e cells
     refine sr_program ?_
     dsimp only
     rw [here_cellAtBytes]
     cases hc : cellAtBytes P P.depth e (cells / P.cellsOf e) a.off n with
     | none => exact .halt trivial
     | some o => exact .pure ⟨VR.ptr (hx.mono hτ).1 g, fun h => by cases h⟩
    ·exact .halt trivial
 | _ => exact sr_stuck _ _
theorem sr_unsafeAdd {a t b s} {v v' u u' : Value} (h : VR N ρ v v') (h' : VR N ρ u u') : SR P N ok Poi (RV N) ρ (Builtin.unsafeAdd_ a t #[v, u]) (Builtin.unsafeAdd_ b s #[v', u']) := (sr_unsafeAddS h h').mono fun _ _ _ x => x.1
theorem sr_movedNumber (t : TypeId) {v v' u u' : Value} (h : VR N ρ v v') (h' : VR N ρ u u') : SR P N ok Poi (RV N) ρ (movedNumber t v u) (movedNumber t v' u') := by
 unfold movedNumber
 refine (sr_underlying t).bind fun σ d d' hσ e => ?_
 obtain ⟨rfl, _⟩ := e
 replace h := h.mono hσ
 replace h' := h'.mono hσ
 have rest : ∀ {x x' : Value}, VR N σ x x' → SR P N ok Poi (RV N) σ (do
   let .pointer (some n) := x | Builtin.unsafeAdd_ #[] t #[x, u]
   let (a, lost) ← behindNumber n
   match ← Builtin.unsafeAdd_ #[] t #[.pointer (some a), u] with
   | .pointer (some b) => asNumber b lost
   | v => pure v) (do
   let .pointer (some n) := x' | Builtin.unsafeAdd_ #[] t #[x', u']
   let (a, lost) ← behindNumber n
   match ← Builtin.unsafeAdd_ #[] t #[.pointer (some a), u'] with
   | .pointer (some b) => asNumber b lost
   | v => pure v) := by
  intro x x' hx
  cases hx with
  | @ptr a b y g =>
   refine (sr_behind (show AdR N σ a ⟨b, a.off, a.spot⟩ from ⟨y, rfl, rfl, g⟩)).bind fun τ p q hτ e => ?_
   obtain ⟨p1, p2⟩ := p
   obtain ⟨q1, q2⟩ := q
   obtain ⟨e, rfl⟩ := e
   dsimp only at e ⊢
   refine (sr_unsafeAddS e.ptr (h'.mono hτ)).bind fun υ r s hυ hrs => ?_
   obtain ⟨hrs, hnt⟩ := hrs
   cases hrs with
   | dead => exact absurd rfl hnt
   | @ptr a b y g =>
    show SR _ _ _ _ _ _ (asNumber a p2) (asNumber ⟨b, a.off, a.spot⟩ p2)
    unfold asNumber
    refine SR.bind (A := fun σ n r => σ n = some r ∧ N.G ≤ n) (.new (.number y g p2) fun n r hn hg => .pure ⟨Emb.add_new _ _ _, hg⟩) fun σ n r hσ hn => ?_
    exact .pure (AdR.ptr ⟨hn.1, rfl, rfl, hn.2⟩)
   | nilPtr => exact .pure .nilPtr
   | bool b => exact .pure (.bool b)
   | int k n => exact .pure (.int k n)
   | string s => exact .pure (.string s)
   | nilSlice n c => exact .pure (.nilSlice n c)
   | slice h g n c => exact .pure (.slice h g n c)
   | nilMap => exact .pure .nilMap
   | nilChan => exact .pure .nilChan
   | func h sx hx sy hy => exact .pure (.func h sx hx sy hy)
   | yield h => exact .pure (.yield h)
   | nilFunc => exact .pure .nilFunc
   | iface ht h => exact .pure (.iface ht h)
   | nilIface => exact .pure .nilIface
   | agg sx hx => exact .pure (.agg sx hx)
   | tuple sx hx => exact .pure (.tuple sx hx)
   | meth n xs ys => exact .pure (.meth n xs ys)
  | nilPtr => exact sr_unsafeAdd .nilPtr h'
  | bool b => exact sr_unsafeAdd (.bool b) h'
  | int k n => exact sr_unsafeAdd (.int k n) h'
  | string s => exact sr_unsafeAdd (.string s) h'
  | nilSlice n c => exact sr_unsafeAdd (.nilSlice n c) h'
  | slice x g n c => exact sr_unsafeAdd (.slice x g n c) h'
  | nilMap => exact sr_unsafeAdd .nilMap h'
  | nilChan => exact sr_unsafeAdd .nilChan h'
  | func x sx hx sy hy => exact sr_unsafeAdd (.func x sx hx sy hy) h'
  | yield x => exact sr_unsafeAdd (.yield x) h'
  | nilFunc => exact sr_unsafeAdd .nilFunc h'
  | iface ht x => exact sr_unsafeAdd (.iface ht x) h'
  | nilIface => exact sr_unsafeAdd .nilIface h'
  | agg sx hx => exact sr_unsafeAdd (.agg sx hx) h'
  | tuple sx hx => exact sr_unsafeAdd (.tuple sx hx) h'
  | meth n xs ys => exact sr_unsafeAdd (.meth n xs ys) h'
  | dead => exact .halt trivial
 cases d <;> first | exact .halt trivial | exact rest h
theorem sr_movedPointer (t : TypeId) {v v' u u' : Value} (h : VR N ρ v v') (h' : VR N ρ u u') : SR P N ok Poi (RV N) ρ (movedPointer t v u) (movedPointer t v' u') := by
 unfold movedPointer
 cases h with
 | @ptr a b x g =>
  dsimp only
  refine (sr_numberAt x).bind fun σ p q hσ e => ?_
  rcases e with ⟨rfl, rfl⟩ | ⟨_, _, _, rfl, rfl, _⟩
  ·exact sr_unsafeAdd (a := #[]) (b := #[]) (t := t) (s := t) ((VR.ptr x g).mono hσ) (h'.mono hσ)
  ·exact .halt trivial
 | bool b => exact sr_unsafeAdd (.bool b) h'
 | int k n => exact sr_unsafeAdd (.int k n) h'
 | string s => exact sr_unsafeAdd (.string s) h'
 | nilPtr => exact sr_unsafeAdd .nilPtr h'
 | nilSlice n c => exact sr_unsafeAdd (.nilSlice n c) h'
 | slice x g n c => exact sr_unsafeAdd (.slice x g n c) h'
 | nilMap => exact sr_unsafeAdd .nilMap h'
 | nilChan => exact sr_unsafeAdd .nilChan h'
 | func x sx hx sy hy => exact sr_unsafeAdd (.func x sx hx sy hy) h'
 | yield x => exact sr_unsafeAdd (.yield x) h'
 | nilFunc => exact sr_unsafeAdd .nilFunc h'
 | iface ht x => exact sr_unsafeAdd (.iface ht x) h'
 | nilIface => exact sr_unsafeAdd .nilIface h'
 | agg sx hx => exact sr_unsafeAdd (.agg sx hx) h'
 | tuple sx hx => exact sr_unsafeAdd (.tuple sx hx) h'
 | meth n xs ys => exact sr_unsafeAdd (.meth n xs ys) h'
 | dead => exact .halt trivial
theorem sr_twoPlaces {α β : Type} {A : Emb → α → β → Prop} (hG : N.G = P.globals.size) {a b : Addr} (ha : N.G ≤ a.block) (f : Nat × Nat → Sem α) (t' : Sem β) : SR P N ok Poi A ρ (Op.twoPlaces a b >>= f) t' := by
 unfold Op.twoPlaces
 have e : ∀ w, ∃ x w', ((do
   if a.block != b.block || a.block ≥ (← program).globals.size then unsupported .addressObserved
   pure (← byteOf a, ← byteOf b) : Sem (Nat × Nat)) >>= f).run P w = .halt x w' ∧ HaltOk x ∧ Grow w w' := by
  intro w
  refine ⟨.unsupported .addressObserved, w, ?_, trivial, Grow.refl _⟩
  unfold program
  simp only [Sem.run_bind, Sem.run, Result.andThen_ok, Sem.run_ite]
  have c : (a.block != b.block || decide (a.block ≥ P.globals.size)) = true := by
   rw [decide_eq_true (by omega), Bool.or_true]
  simp [c, unsupported]
 exact .doom e
theorem sr_addrMod (k : IntKind) {a a' : Addr} (h : AdR N ρ a a') (n : Int) : SR P N ok Poi (RV N) ρ (Op.addrMod k a n) (Op.addrMod k a' n) := by
 unfold Op.addrMod
 refine (sr_shape h.1).bind fun σ x y hσ e => ?_
 subst e
 split
 ·refine (sr_typeInfo _).bind fun τ i j hτ e => ?_
  subst e
  dsimp only
  split
  ·exact .halt trivial
  ·refine (sr_byteOf (h.mono (hσ.trans hτ))).bind fun υ p q _ e => ?_
   subst e
   exact .pure (.int _ _)
 ·exact .halt trivial
theorem sr_binOpPI {op : BinOp} (h1 : op ≠ .eql) (h2 : op ≠ .neq) (t : TypeId) {a a' : Addr} (ha : AdR N ρ a a') (k : IntKind) (n : Int) : SR P N ok Poi (RV N) ρ (binOp op t (.pointer (some a)) (.int k n)) (binOp op t (.pointer (some a')) (.int k n)) := by
 cases op
 case eql => exact absurd rfl h1
 case neq => exact absurd rfl h2
 case add =>
  show SR P N ok Poi (RV N) ρ (do if (← underlying t) matches .unsafePointer then movedPointer t (.pointer (some a)) (.int k n) else movedNumber t (.pointer (some a)) (.int k n)) (do if (← underlying t) matches .unsafePointer then movedPointer t (.pointer (some a')) (.int k n) else movedNumber t (.pointer (some a')) (.int k n))
  refine (sr_underlying t).bind fun σ d d' hσ e => ?_
  obtain ⟨rfl, _⟩ := e
  have hp := (ha.mono hσ).ptr (N := N)
  have key : ∀ b : Bool, SR P N ok Poi (RV N) σ (if b = true then movedPointer t (.pointer (some a)) (.int k n) else movedNumber t (.pointer (some a)) (.int k n)) (if b = true then movedPointer t (.pointer (some a')) (.int k n) else movedNumber t (.pointer (some a')) (.int k n)) := fun b => by
   cases b
   ·exact sr_movedNumber t hp (.int _ _)
   ·exact sr_movedPointer t hp (.int _ _)
  exact key _
 case sub => exact sr_movedNumber t ha.ptr (.int k (-n))
 case rem =>
  show SR P N ok Poi (RV N) ρ (do Op.addrMod k (← behindNumber a).1 n) (do Op.addrMod k (← behindNumber a').1 n)
  exact (sr_behind ha).bind fun σ p q hσ e => sr_addrMod _ e.1 _
 case and =>
  show SR P N ok Poi (RV N) ρ (do Op.addrMod k (← behindNumber a).1 (n + 1)) (do Op.addrMod k (← behindNumber a').1 (n + 1))
  exact (sr_behind ha).bind fun σ p q hσ e => sr_addrMod _ e.1 _
 all_goals exact SR.halt trivial
theorem sr_binOpPP {op : BinOp} (h1 : op ≠ .eql) (h2 : op ≠ .neq) (hG : N.G = P.globals.size) (t : TypeId) {a a' b b' : Addr} (ha : AdR N ρ a a') (hb : AdR N ρ b b') : SR P N ok Poi (RV N) ρ (binOp op t (.pointer (some a)) (.pointer (some b))) (binOp op t (.pointer (some a')) (.pointer (some b'))) := by
 have cmp : ∀ (o : BinOp), SR P N ok Poi (RV N) ρ (do Op.addrCmp o (← behindNumber a).1 (← behindNumber b).1) (do Op.addrCmp o (← behindNumber a').1 (← behindNumber b').1) := fun o => by
  refine (sr_behind ha).bind fun σ p q hσ e => ?_
  refine (sr_behind (hb.mono hσ)).bind fun τ p' q' hτ e' => ?_
  unfold Op.addrCmp
  exact sr_twoPlaces hG e.1.2.2.2 _ _
 cases op
 case eql => exact absurd rfl h1
 case neq => exact absurd rfl h2
 case sub =>
  show SR P N ok Poi (RV N) ρ (do Op.addrSub .u64 (← behindNumber a).1 (← behindNumber b).1) (do Op.addrSub .u64 (← behindNumber a').1 (← behindNumber b').1)
  refine (sr_behind ha).bind fun σ p q hσ e => ?_
  refine (sr_behind (hb.mono hσ)).bind fun τ p' q' hτ e' => ?_
  unfold Op.addrSub
  exact sr_twoPlaces hG e.1.2.2.2 _ _
 case lss => exact cmp .lss
 case leq => exact cmp .leq
 case gtr => exact cmp .gtr
 case geq => exact cmp .geq
 all_goals exact SR.halt trivial
theorem sr_binOpIP {op : BinOp} (h1 : op ≠ .eql) (h2 : op ≠ .neq) (t : TypeId) {a a' : Addr} (ha : AdR N ρ a a') (k : IntKind) (n : Int) : SR P N ok Poi (RV N) ρ (binOp op t (.int k n) (.pointer (some a))) (binOp op t (.int k n) (.pointer (some a'))) := by
 cases op
 case eql => exact absurd rfl h1
 case neq => exact absurd rfl h2
 case add => exact sr_movedNumber t ha.ptr (.int k n)
 case and =>
  show SR P N ok Poi (RV N) ρ (do Op.addrMod k (← behindNumber a).1 (n + 1)) (do Op.addrMod k (← behindNumber a').1 (n + 1))
  exact (sr_behind ha).bind fun σ p q hσ e => sr_addrMod _ e.1 _
 all_goals exact SR.halt trivial
theorem sr_binOpNI {op : BinOp} (h1 : op ≠ .eql) (h2 : op ≠ .neq) (t : TypeId) (k : IntKind) (n : Int) : SR P N ok Poi (RV N) ρ (binOp op t (.pointer none) (.int k n)) (binOp op t (.pointer none) (.int k n)) := by
 cases op
 case eql => exact absurd rfl h1
 case neq => exact absurd rfl h2
 case add =>
  show SR P N ok Poi (RV N) ρ (do if (← underlying t) matches .unsafePointer then movedPointer t (.pointer none) (.int k n) else movedNumber t (.pointer none) (.int k n)) (do if (← underlying t) matches .unsafePointer then movedPointer t (.pointer none) (.int k n) else movedNumber t (.pointer none) (.int k n))
  refine (sr_underlying t).bind fun σ d d' hσ e => ?_
  obtain ⟨rfl, _⟩ := e
  have key : ∀ b : Bool, SR P N ok Poi (RV N) σ (if b = true then movedPointer t (.pointer none) (.int k n) else movedNumber t (.pointer none) (.int k n)) (if b = true then movedPointer t (.pointer none) (.int k n) else movedNumber t (.pointer none) (.int k n)) := fun b => by
   cases b
   ·exact sr_movedNumber t .nilPtr (.int k n)
   ·rw [if_pos rfl]
    exact sr_movedPointer t .nilPtr (.int k n)
  exact key _
 case sub => exact sr_movedNumber t .nilPtr (.int k (-n))
 all_goals exact SR.halt trivial
theorem sr_binOpIN {op : BinOp} (h1 : op ≠ .eql) (h2 : op ≠ .neq) (t : TypeId) (k : IntKind) (n : Int) : SR P N ok Poi (RV N) ρ (binOp op t (.int k n) (.pointer none)) (binOp op t (.int k n) (.pointer none)) := by
 cases op
 case eql => exact absurd rfl h1
 case neq => exact absurd rfl h2
 case add => exact sr_movedNumber t .nilPtr (.int k n)
 all_goals exact SR.halt trivial
theorem sr_binOpII {op : BinOp} (h1 : op ≠ .eql) (h2 : op ≠ .neq) (t : TypeId) (k k' : IntKind) (n m : Int) : SR P N ok Poi (RV N) ρ (binOp op t (.int k n) (.int k' m)) (binOp op t (.int k n) (.int k' m)) := by
 cases op
 case eql => exact absurd rfl h1
 case neq => exact absurd rfl h2
 case shl => exact (sr_shift .shl k n k' m : SR P N ok Poi (RV N) ρ (Op.shift .shl k n k' m) (Op.shift .shl k n k' m))
 case shr => exact (sr_shift .shr k n k' m : SR P N ok Poi (RV N) ρ (Op.shift .shr k n k' m) (Op.shift .shr k n k' m))
 all_goals
  unfold binOp
  dsimp only
  split
  ·exact sr_stuck _ _
  ·first | exact sr_intArith _ _ _ _ | exact sr_intDiv _ _ _ _ | exact sr_intBits _ _ _ _ | exact sr_intCmp _ _ _
set_option maxHeartbeats 2000000 in
theorem sr_binOp {op : BinOp} {t : TypeId} (ht : (op = .eql ∨ op = .neq) → simpleEq P t = true) (hG : N.G = P.globals.size) {v v' u u' : Value} (h : VR N ρ v v') (h' : VR N ρ u u') (hd : v ≠ .tuple #[] ∧ u ≠ .tuple #[]) : SR P N ok Poi (RV N) ρ (binOp op t v u) (binOp op t v' u') := by
 by_cases h1 : op = .eql
 ·subst h1
  have e1 : SR P N ok Poi (RV N) ρ (do pure (.bool (← Op.equal t v u))) (do pure (.bool (← Op.equal t v' u'))) := (sr_equal (ht (.inl rfl)) hG h h').bind fun σ x y _ e => by
   subst e
   exact .pure (.bool _)
  cases h <;> first | exact e1 | exact absurd rfl hd.1 | (cases h' <;> first | exact e1 | exact absurd rfl hd.2 | (unfold binOp; dsimp only; first | exact sr_stringOp _ _ _ | (split; exact sr_stuck _ _; exact sr_intCmp _ _ _)))
 ·by_cases h2 : op = .neq
  ·subst h2
   have e2 : SR P N ok Poi (RV N) ρ (do pure (.bool (!(← Op.equal t v u)))) (do pure (.bool (!(← Op.equal t v' u')))) := (sr_equal (ht (.inr rfl)) hG h h').bind fun σ x y _ e => by
    subst e
    exact .pure (.bool _)
   cases h <;> first | exact e2 | exact absurd rfl hd.1 | (cases h' <;> first | exact e2 | exact absurd rfl hd.2 | (unfold binOp; dsimp only; first | exact sr_stringOp _ _ _ | (split; exact sr_stuck _ _; exact sr_intCmp _ _ _)))
  ·clear ht
   cases h with
   | @ptr a b x g =>
    cases h' with
    | @ptr c d x' g' => exact sr_binOpPP h1 h2 hG t (a' := ⟨b, a.off, a.spot⟩) (b' := ⟨d, c.off, c.spot⟩) ⟨x, rfl, rfl, g⟩ ⟨x', rfl, rfl, g'⟩
    | int k n => exact sr_binOpPI h1 h2 t (a' := ⟨b, a.off, a.spot⟩) ⟨x, rfl, rfl, g⟩ k n
    | _ => cases op <;> first | exact absurd rfl h1 | exact absurd rfl h2 | exact SR.halt trivial | exact sr_stuck _ _
   | nilPtr =>
    cases h' with
    | int k n => exact sr_binOpNI h1 h2 t k n
    | _ => cases op <;> first | exact absurd rfl h1 | exact absurd rfl h2 | exact SR.halt trivial | exact sr_stuck _ _
   | int k n =>
    cases h' with
    | int k' m => exact sr_binOpII h1 h2 t k k' n m
    | nilPtr => exact sr_binOpIN h1 h2 t k n
    | @ptr a b x g => exact sr_binOpIP h1 h2 t (a' := ⟨b, a.off, a.spot⟩) ⟨x, rfl, rfl, g⟩ k n
    | _ => cases op <;> first | exact absurd rfl h1 | exact absurd rfl h2 | exact SR.halt trivial | exact sr_stuck _ _
   | string s =>
    cases h' with
    | string s' => cases op <;> first | exact absurd rfl h1 | exact absurd rfl h2 | (unfold binOp; exact sr_stringOp _ _ _)
    | _ => cases op <;> first | exact absurd rfl h1 | exact absurd rfl h2 | exact SR.halt trivial | exact sr_stuck _ _
   | _ => cases h' <;> cases op <;> first | exact absurd rfl h1 | exact absurd rfl h2 | exact SR.halt trivial | exact sr_stuck _ _
theorem sr_bin_dead {α β : Type} {A : Emb → α → β → Prop} {op : BinOp} {t : TypeId} (ht : (op = .eql ∨ op = .neq) → simpleEq P t = true) (x y : Operand) {v u : Value} (hd : v = .tuple #[] ∨ u = .tuple #[]) {f : Value → Sem α} (t' : Sem β) : SR P N ok Poi A ρ ((do eqGuard op t x y v u; binOp op t v u) >>= f) t' := by
 by_cases ho : op = .eql ∨ op = .neq
 ·have hs := ht ho
  rcases ho with rfl | rfl
  ·have key : SR P N ok Poi A ρ ((do pure (.bool (← Op.equal t v u)) : Sem Value) >>= f) t' := by
    rw [bind_assoc]
    exact sr_equal_dead hs hd _
   rcases hd with rfl | rfl
   ·cases u <;> exact key
   ·cases v <;> exact key
  ·have key : SR P N ok Poi A ρ ((do pure (.bool (!(← Op.equal t v u))) : Sem Value) >>= f) t' := by
    rw [bind_assoc]
    exact sr_equal_dead hs hd _
   rcases hd with rfl | rfl
   ·cases u <;> exact key
   ·cases v <;> exact key
 ·rcases hd with rfl | rfl
  ·cases op <;> first | exact absurd (Or.inl rfl) ho | exact absurd (Or.inr rfl) ho | (cases u <;> first | exact .halt trivial | (rename_i p; cases p <;> exact .halt trivial))
  ·cases op <;> first | exact absurd (Or.inl rfl) ho | exact absurd (Or.inr rfl) ho | (cases v <;> first | exact .halt trivial | (rename_i p; cases p <;> exact .halt trivial))
end
end Go.Proofs.Ytjgleaakgbnjgaa.Par
end

section
namespace Go.Proofs.Ytjgleaakgbnjgaa.Par
open Go
inductive NR (P : Program) (N : Cfg) (ok : Code → Prop) (ρ : Emb) : Next → Next → Prop
 | value {v v' : Value} (h : VR N ρ v v') : NR P N ok ρ (.value v) (.value v')
 | skip : NR P N ok ρ .skip .skip
 | enter {f : FuncId} (hf : N.N f) {fn : Func} {c : Code} (h1 : P.funcs[f]? = some fn) (h1' : N.F[f]? = some fn) (h2 : fn.body = some c) (h3 : ok c) {a a' : Array Value} (ha : AR (VR N ρ) a a') : NR P N ok ρ (.enter f a) (.enter f a')
 | spec {f : FuncId} {a a' : Array Value} (hf : N.S f a.size) {fn fn' : Func} {c c' : Code} (h1 : P.funcs[f]? = some fn) (h1' : N.F[f]? = some fn') (h2 : fn.body = some c) (h2' : fn'.body = some c') (ha : AR (VR N ρ) a a') : NR P N ok ρ (.enter f a) (.enter f a')
 | round {l l' : Nat} (h : ρ l = some l') {fn : FuncId} {t t' : Array Value} (ht : AR (VR N ρ) t t') {a b : Code} (ha : ok a) (hb : ok b) : NR P N ok ρ (.round l fn t a b) (.round l' fn t' a b)
def FnOk (P : Program) (N : Cfg) (ok : Code → Prop) (Poi : Nat → Prop) (f : FuncId) : Prop :=
 ∃ fn, P.funcs[f]? = some fn ∧ N.F[f]? = some fn ∧ (fn.name == "runtime.NumGoroutine") = false ∧
  ((∃ c, fn.body = some c ∧ ok c) ∨ (fn.body.isNone = true ∧ Extern.findNext fn = none ∧ ∃ e, Extern.find fn = some e ∧ ∀ (ρ : Emb) (a a' : Array Value), AR (VR N ρ) a a' → SR P N ok Poi (RV N) ρ (e a) (e a')))
def MethOk (P : Program) (N : Cfg) (t : TypeId) : Prop :=
 (∀ i, P.info? t = some i → ∀ m ∈ i.methods, m.path = #[] ∧ ∃ f, m.func = some (f, false) ∧ N.N f) ∧ ∀ e, P.underlying t ≠ some (.pointer e)
section
variable {P : Program} {N : Cfg} {ok : Code → Prop} {Poi : Nat → Prop} {ρ : Emb}
def SpecFn (P : Program) (F : Array Func) (f : FuncId) : Prop := ∃ fn fn' c c', P.funcs[f]? = some fn ∧ F[f]? = some fn' ∧ (fn.name == "runtime.NumGoroutine") = false ∧ (fn'.name == "runtime.NumGoroutine") = false ∧ fn.body = some c ∧ fn'.body = some c'
theorem sr_callSpec {f : FuncId} {a a' : Array Value} (hf : N.S f a.size) (hs : SpecFn P N.F f) (ha : AR (VR N ρ) a a') : SR P N ok Poi (NR P N ok) ρ (callFunc f a) (callFunc f a') := by
 obtain ⟨fn, fn', c, c', h1, h1', h2, h2', h3, h3'⟩ := hs
 unfold callFunc
 refine sr_program ?_
 rw [h1, show (N.here P).funcs[f]? = some fn' from h1']
 dsimp only
 have n1 : ¬((false : Bool) = true) := by decide
 rw [h2, h2', if_neg n1, if_neg n1, h3, h3']
 exact .pure (.spec hf h1 h1' h3 h3' ha)
theorem sr_callFunc (hN : ∀ f, N.N f → FnOk P N ok Poi f) {f : FuncId} (hf : N.N f) {a a' : Array Value} (ha : AR (VR N ρ) a a') : SR P N ok Poi (NR P N ok) ρ (callFunc f a) (callFunc f a') := by
 obtain ⟨fn, h1, h1', h2, h3⟩ := hN f hf
 unfold callFunc
 refine sr_program ?_
 rw [h1, show (N.here P).funcs[f]? = some fn from h1']
 dsimp only
 have n1 : ¬((false : Bool) = true) := by decide
 rw [h2, if_neg n1, if_neg n1]
 rcases h3 with ⟨c, hc, ho⟩ | ⟨h3, h4, e, h5, h6⟩
 ·rw [show fn.body.isNone = false by rw [hc]; rfl, if_neg n1, if_neg n1]
  exact .pure (.enter hf h1 h1' hc ho ha)
 ·have y1 : (true : Bool) = true := rfl
  rw [h3, if_pos y1, if_pos y1, h4, h5]
  dsimp only
  refine .mark (.inr ⟨f, rfl⟩) ?_
  exact (h6 ρ a a' ha).bind fun σ x y _ h => .pure (.value h)
theorem sr_typeInfoB {α β : Type} {A : Emb → α → β → Prop} (t : TypeId) {f : TypeInfo → Sem α} {f' : TypeInfo → Sem β} (h : ∀ i, P.info? t = some i → SR P N ok Poi A ρ (f i) (f' i)) : SR P N ok Poi A ρ (typeInfo t >>= f) (typeInfo t >>= f') := by
 unfold typeInfo
 refine .program ?_
 show SR P N ok Poi A ρ ((match P.info? t with | some i => pure i | none => stuck "no such type") >>= f) ((match P.info? t with | some i => pure i | none => stuck "no such type") >>= f')
 cases hi : P.info? t with
 | none => exact .halt trivial
 | some i => exact h i hi
theorem sr_method (hT : ∀ t, N.T t → MethOk P N t) {t : TypeId} (ht : N.T t) {v v' : Value} (hv : VR N ρ v v') (name : String) (fuel : Nat) : SR P N ok Poi (fun σ a b => a.1 = b.1 ∧ N.N a.1 ∧ VR N σ a.2 b.2) ρ (method fuel t v name) (method fuel t v' name) := by
 obtain ⟨m1, m2⟩ := hT t ht
 cases fuel with
 | zero => exact .halt trivial
 | succ n =>
  unfold method
  refine sr_typeInfoB t fun i hi => ?_
  cases hm : i.methods.find? (·.name == name) with
  | none => exact sr_stuck _ _
  | some m =>
   obtain ⟨hp, f, hf, hN⟩ := m1 i hi m (Array.mem_of_find?_eq_some hm)
   dsimp only
   rw [hp, hf]
   show SR _ _ _ _ _ _ (do pure (f, ← receiverAt t (.val v) false (if (#[] : Array FieldStep).isEmpty then some ((name.splitOn ".").getLastD name) else none))) (do pure (f, ← receiverAt t (.val v') false (if (#[] : Array FieldStep).isEmpty then some ((name.splitOn ".").getLastD name) else none)))
   unfold receiverAt
   simp only [bind_assoc]
   refine (sr_underlying t).bind fun σ d d' hσ e => ?_
   obtain ⟨rfl, he⟩ := e
   cases d with
   | pointer e => exact absurd he (m2 e)
   | _ => exact .pure ⟨rfl, hN, hv.mono hσ⟩
theorem sr_callMethod (hN : ∀ f, N.N f → FnOk P N ok Poi f) (hT : ∀ t, N.T t → MethOk P N t) {v v' : Value} (hv : VR N ρ v v') (name : String) {a a' : Array Value} (ha : AR (VR N ρ) a a') : SR P N ok Poi (NR P N ok) ρ (callMethod v name a) (callMethod v' name a') := by
 unfold callMethod
 cases hv with
 | iface ht h =>
  dsimp only
  refine sr_program ?_
  refine (sr_method hT ht h name _).bind fun σ p q hσ e => ?_
  obtain ⟨p1, p2⟩ := p
  obtain ⟨q1, q2⟩ := q
  obtain ⟨rfl, hn, hv⟩ := e
  exact sr_callFunc hN hn ((AR.empty.push hv).append (ha.mono fun _ _ x => x.mono hσ))
 | nilIface => exact sr_runtimePanic _ _
 | _ => exact sr_stuck _ _
theorem sr_getLoop {l l' : Nat} (h : ρ l = some l') : SR P N ok Poi (fun σ a b => OR N ok σ (.loop a) (.loop b)) ρ (Instr.getLoop l) (Instr.getLoop l') := by
 unfold Instr.getLoop
 refine SR.bind (A := fun τ o o' => OR N ok τ o o') (.getObj h fun o o' ho => .pure ho) fun τ o o' _ ho => ?_
 cases ho with
 | loop hs hp hpo hfn ht hpa has hao hbo hbk hd => exact .pure (.loop hs hp hpo hfn ht hpa has hao hbo hbk hd)
 | _ => exact sr_stuck _ _
theorem AR.setParams {t t' : Array Value} (ht : AR (VR N ρ) t t') (ps : Array Tmp) {a a' : Array Value} (ha : AR (VR N ρ) a a') : AR (VR N ρ) ((ps.zip a).foldl (fun tmps (t, a) => tmps.setIfInBounds t a) t) ((ps.zip a').foldl (fun tmps (t, a) => tmps.setIfInBounds t a) t') := by
 rw [← Array.foldl_toList, ← Array.foldl_toList, Array.toList_zip, Array.toList_zip]
 have key : ∀ (l l' : List Value), LR (VR N ρ) l l' → ∀ (qs : List Tmp) (t t' : Array Value), AR (VR N ρ) t t' → AR (VR N ρ) ((qs.zip l).foldl (fun tmps (t, a) => tmps.setIfInBounds t a) t) ((qs.zip l').foldl (fun tmps (t, a) => tmps.setIfInBounds t a) t') := by
  intro l l' hl
  induction hl with
  | nil => intro qs t t' h; cases qs <;> exact h
  | cons h1 _ ih =>
   intro qs t t' h
   cases qs with
   | nil => exact h
   | cons q qs => exact ih qs _ _ (h.set q h1)
 exact key _ _ ha.toList _ _ _ ht
theorem sr_yield {l l' : Nat} (h : ρ l = some l') {a a' : Array Value} (ha : AR (VR N ρ) a a') : SR P N ok Poi (NR P N ok) ρ (Instr.yield l a) (Instr.yield l' a') := by
 unfold Instr.yield
 refine (sr_getLoop h).bind fun σ r r' hσ e => ?_
 cases e with
 | loop hs hp hpo hfn ht hpa has hao hbo hbk hd =>
  rw [← ha.1, hpa, hfn, has, hbo]
  dsimp only
  split
  ·exact sr_stuck _ _
  ·exact .pure (.round (hσ _ _ h) (ht.setParams _ (ha.mono fun _ _ x => x.mono hσ)) hao hbk)
theorem sr_callValue (hN : ∀ f, N.N f → FnOk P N ok Poi f) {v v' : Value} (hv : VR N ρ v v') {a a' : Array Value} (ha : AR (VR N ρ) a a') : SR P N ok Poi (NR P N ok) ρ (do let d ← Deferred.ofValue v a; invoke d.target d.args) (do let d ← Deferred.ofValue v' a'; invoke d.target d.args) := by
 unfold Deferred.ofValue
 cases hv with
 | @func f hf xs xs' ys ys' sx hx sy hy =>
  show SR _ _ _ _ _ _ (callFunc f (xs ++ a ++ ys)) (callFunc f (xs' ++ a' ++ ys'))
  exact sr_callFunc hN hf ((AR.append ⟨sx, hx⟩ ha).append ⟨sy, hy⟩)
 | @yield l l' h =>
  show SR _ _ _ _ _ _ (Instr.yield l (#[] ++ a)) (Instr.yield l' (#[] ++ a'))
  exact sr_yield h (AR.empty.append ha)
 | nilFunc =>
  show SR _ _ _ _ _ _ (runtimePanic .nilDeref) (runtimePanic .nilDeref)
  exact sr_runtimePanic _ _
 | meth n xs ys =>
  refine .doom fun w => ?_
  obtain ⟨x, w', h, h1, h2⟩ := run_runtimePanic (P := P) (α := Next) .nilDeref w
  refine ⟨x, w', ?_, h1, h2⟩
  rw [← h]
  have e : (#[Value.nilIface] ++ a)[0]? = some .nilIface := by
   rw [Array.getElem?_append]
   rfl
  show (invoke (.fn (.method n) #[]) (#[Value.nilIface] ++ a)).run P w = _
  unfold invoke
  simp only [e]
  rfl
 | _ => exact sr_stuck _ _
theorem ask_grow {α : Type} (x : Ask α) : ∀ w : World, Grow w (w.ask x).2 := by
 induction x with
 | done a => intro w; exact Grow.refl w
 | ask what range k ih =>
  intro w
  unfold World.ask
  dsimp only
  split
  ·exact ih 0 w
  ·have h := ih ((Question.extern what range).cut (w.tape w.drawn (Question.extern what range))) { w with drawn := w.drawn + 1 }
   exact ⟨h.1, h.2.1, h.2.2⟩
theorem sys_grow (w : World) (c : Sys) : Grow w (w.sys c).2 := by
 have h := ask_grow (Kernel.perform c w.os) w
 unfold World.sys
 generalize w.ask (Kernel.perform c w.os) = p at h
 obtain ⟨⟨r, os⟩, w'⟩ := p
 cases r <;> first | exact Grow.refl w | exact h
theorem Grow.trans {a b c : World} (h : Grow a b) (h' : Grow b c) : Grow a c := ⟨Nat.le_trans h.1 h'.1, fun i hi => (h'.2.1 i (Nat.lt_of_lt_of_le hi h.1)).trans (h.2.1 i hi), h'.2.2.trans h.2.2⟩
theorem sr_panicOp {v v' : Value} (hv : VR N ρ v v') : SR P N ok Poi (RV N) ρ (Instr.panic v) (Instr.panic v') := by
 cases hv with
 | iface ht h => exact .halt trivial
 | nilIface =>
  refine .doom fun w => ?_
  have g := sys_grow w .env
  unfold Instr.panic Instr.panicnil sys
  simp only [Sem.run_bind, Sem.run, Result.andThen_ok]
  generalize w.sys .env = p at g
  obtain ⟨r, w'⟩ := p
  cases r with
  | strings l =>
   simp only [Result.andThen_ok, program, Sem.run_bind, Sem.run, Sem.run_pure]
   split
   ·exact ⟨_, _, rfl, trivial, g⟩
   ·obtain ⟨x, w2, h1, h2, h3⟩ := run_runtimePanic (P := P) (α := Value) .panicNil w'
    exact ⟨x, w2, h1, h2, g.trans h3⟩
  | _ => exact ⟨_, _, rfl, trivial, g⟩
 | _ => exact sr_stuck _ _
theorem sr_len {ts : Array TypeId} {t : TypeId} {a a' : Array Value} (ha : AR (VR N ρ) a a') : SR P N ok Poi (RV N) ρ (Builtin.len_ ts t a) (Builtin.len_ ts t a') := by
 unfold Builtin.len_
 cases ht : ts[0]? with
 | none => exact sr_stuck _ _
 | some u =>
  cases hx : a[0]? with
  | none =>
   rw [ha.getNone hx]
   exact sr_stuck _ _
  | some x =>
   obtain ⟨y, h1, h2⟩ := ha.getSome hx
   rw [h1]
   dsimp only
   refine (sr_underlying u).bind fun σ d d' hσ e => ?_
   obtain ⟨rfl, _⟩ := e
   have h2 := h2.mono hσ
   cases d with
   | pointer e =>
    have key : SR P N ok Poi (RV N) σ (underlying e >>= fun d => match d with | .array n _ => pure (goInt n) | _ => stuck "len: pointer to array expected") (underlying e >>= fun d => match d with | .array n _ => pure (goInt n) | _ => stuck "len: pointer to array expected") :=
     (sr_underlying e).bind fun τ d d' _ e => by
      obtain ⟨rfl, _⟩ := e
      cases d <;> first | exact .pure (.int _ _) | exact sr_stuck _ _
    cases h2 <;> exact key
   | array n e => cases h2 <;> exact .pure (.int _ _)
   | _ => cases h2 <;> first | exact .pure (.int _ _) | exact sr_stuck _ _
end
end Go.Proofs.Ytjgleaakgbnjgaa.Par
end
