/- The statement DayAgesSaid: for every input the law returns true, and each argument reads afterwards as it read before. Conditions: none. -/
import Derived.Test.YtdfaedikjfbbjaaRows
import Derived.Test.YtdfaedikjfbbjaaSxLombardlaw04DayAges
import Derived.Test.YtdfaedikjfbbjaaPureDayAges
import Derived.Test.YtdfaedikjfbbjaaXOpen
import Derived.WalkKit
import Derived.ProofKit
import Derived.OpenShut
import Derived.ShutString
import Derived.ChangeOld
import Derived.Below
import Derived.SizedLaws
import Derived.Carry
namespace Go.Proofs.Ytdfaedikjfbbjaa.dayAges
open Go.ChangeShapes Go.WideShapes Go.ChangeAt Go.RowKit Go.Proofs.Ytdfaedikjfbbjaa.S Go.Proofs.YtdfaedikjfbbjaaW.PrintWords Go.Proofs.Ytdfaedikjfbbjaa.XOpen
open Go.ChangeMaps (open_string shut_string)
set_option linter.unusedVariables false
theorem own : ownKnob Try.prog.godebug = none := by kernel_rfl
theorem laidOut : laidOutB Try.prog = true := by kernel_rfl
theorem opens_S23 {H : Type} {enc : TypeId × Value → H} {w : World} {base : Nat} {spare : Nat → Bool} {held : Bool} : Opens enc Try.prog w base spare held 23 k23 (fun a => ((Lit.int .i64 a.f0).wf = true ∧ (Lit.int .i64 a.f1).wf = true ∧ (Lit.int .i64 a.f2).wf = true)) := by
  intro fuel cs x h
  have hl : cs.length = 3 := (cells_len Try.underlying23 h).trans (by kernel_rfl)
  obtain ⟨a0, h0, g0⟩ := field_of Try.underlying23 h 0 _ rfl (opens_int Try.underlying3) 0 1 rfl (by kernel_rfl)
  obtain ⟨a1, h1, g1⟩ := field_of Try.underlying23 h 1 _ rfl (opens_int Try.underlying3) 1 1 rfl (by kernel_rfl)
  obtain ⟨a2, h2, g2⟩ := field_of Try.underlying23 h 2 _ rfl (opens_int Try.underlying3) 2 1 rfl (by kernel_rfl)
  refine ⟨⟨a0, a1, a2⟩, ?_, ⟨g0, g1, g2⟩⟩
  exact K_all (K_pair' 0 1 h0 (K_pair' 1 1 h1 (K_last 2 1 h2 (by omega))))
set_option maxRecDepth 100000 in
theorem lifted (os : Os) (started : os.Started) (H : Type) (enc : TypeId × Value → H) :
    ReturnsInHanded {} Try.checked os 6 .any (Rows.dayAgesSpec.pre6 enc Try.prog Try.f6 Rows.dayAgesRow.domain false) (Rows.dayAgesSpec.post enc Try.prog Try.f6 false true false false) := by
  refine returnsInHanded_of_change_sized (C := Try.checked) own started (by kernel_rfl) Try.func6
    (ChangeSpec.witness6 (enc := enc) (C := Try.checked) false ⟨#[], #[.agg #[.int .i64 0, .int .i64 0, .int .i64 0], .agg #[.int .i64 0, .int .i64 0, .int .i64 0]], []⟩ 8 (by kernel_rfl) (by kernel_rfl) (by kernel_rfl) (by kernel_rfl)) ?_
  intro W base args ds gs before hval0 hW hcnd hsz0 _
  have hval : ∀ (j : Nat) t v, Try.f6.params[j]? = some t → args[j]? = some v → Value.okWide Try.prog W .any base t v := hval0
  have hW' := hW
  obtain ⟨p, q, hA0, hV, rfl, hfz, hnd⟩ := hW
  have hA : DataW.TrodAll enc Try.prog W 0 (fun _ => true) true Try.f6.params.toList args.toList ds p := hA0
  rw [Try.params6] at hA hval
  obtain ⟨v0, vs0, d0, ds0, p0, q0, hargs, rfl, rfl, h0, r0⟩ := trodAll_cons hA
  obtain ⟨v1, vs1, d1, ds1, p1, q1, rfl, rfl, rfl, h1, r1⟩ := trodAll_cons r0
  obtain ⟨rfl, rfl, rfl⟩ := trodAll_nil r1
  obtain rfl : args = #[v0, v1] := by cases args; simp_all
  obtain ⟨rfl, rfl⟩ := trodVars_none hV
  clear hA0 hsz0
  have k0 := h0
  have lt0 : ∀ x ∈ p0, x.block < W.heap.size := by obtain ⟨m, hm⟩ := k0; exact DataW.trod_lt m _ _ _ hm
  obtain ⟨u0, hf0⟩ := h0
  obtain ⟨s0, hk0, hg0⟩ := opens_S23 _ _ _ hf0
  have he0 := k23_open hk0
  obtain ⟨b0, rfl⟩ := okWide_agg Try.underlying23 (hval 0 23 v0 rfl rfl)
  obtain rfl := agg_of he0
  have k1 := h1
  have lt1 : ∀ x ∈ p1, x.block < W.heap.size := by obtain ⟨m, hm⟩ := k1; exact DataW.trod_lt m _ _ _ hm
  obtain ⟨u1, hf1⟩ := h1
  obtain ⟨s1, hk1, hg1⟩ := opens_S23 _ _ _ hf1
  have he1 := k23_open hk1
  obtain ⟨b1, rfl⟩ := okWide_agg Try.underlying23 (hval 1 23 v1 rfl rfl)
  obtain rfl := agg_of he1
  refine (S.lombardlaw04_DayAges.walk Pure.DayAges s0.f0 s0.f1 s0.f2 s1.f0 s1.f1 s1.f2 W  hg0.1 hg0.2.1 hg0.2.2 hg1.1 hg1.2.1 hg1.2.2).mono fun e W' ⟨he, bel⟩ => ?_
  subst he
  exact ⟨_, rfl, _, _, _, [], _, [], hW', trodAll_mk1 (shut_bool Try.underlying4 _), (trodAll_cons_mk (Below.trod laidOut (by kernel_rfl) (of_decide_eq_true (by kernel_rfl)) k0 bel lt0) (trodAll_cons_mk (Below.trod laidOut (by kernel_rfl) (of_decide_eq_true (by kernel_rfl)) k1 bel lt1) trodAll_mk0)), rfl, bel.frame _, fun h => by cases h⟩
theorem over : Rows.dayAgesRow.holds Try.pinned (OpenSpec.ofChange Rows.dayAgesSpec) :=
  OpenClaim.holds_of_wide 6 Try.f6 rfl rfl rfl rfl rfl rfl rfl ⟨rfl, rfl, rfl, rfl, rfl⟩ rfl rfl rfl rfl rfl (by kernel_rfl) Try.func6 (by kernel_rfl)
    (of_decide_eq_true (by kernel_rfl)) (by unfold Func.isWrapper; first | (rw [if_pos (by decide +kernel)]; kernel_rfl) | (rw [if_neg (by decide +kernel)]; exact ⟨rfl, rfl⟩))
    (fun os started H enc _ => lifted os started H enc)
theorem proved : Rows.DayAgesSaid := over
#print axioms proved
end Go.Proofs.Ytdfaedikjfbbjaa.dayAges
namespace Go.Proofs.Ytdfaedikjfbbjaa
/-- The row, under a short name, for the claim. -/
theorem dayAges_holds : Rows.DayAgesSaid := dayAges.proved
end Go.Proofs.Ytdfaedikjfbbjaa
