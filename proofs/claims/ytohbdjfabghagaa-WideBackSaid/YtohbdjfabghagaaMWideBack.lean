/- The statement WideBackSaid: for every input the law returns true, and each argument reads afterwards as it read before. Conditions: none. -/
import Derived.Test.YtohbdjfabghagaaXNeg
import Derived.Test.YtohbdjfabghagaaSxLombardlaw02WideBack
import Derived.Test.YtohbdjfabghagaaRows
import Derived.WalkKit
import Derived.ProofKit
import Derived.OpenShut
import Derived.ShutString
import Derived.ChangeOld
import Derived.Below
import Derived.SizedLaws
section
namespace Go.Proofs.Ytohbdjfabghagaa.Pure
set_option linter.unusedVariables false
set_option linter.unusedSimpArgs false
open Go.RowKit Go.Proofs.Ytohbdjfabghagaa.S Go.Proofs.Ytohbdjfabghagaa.XNum Go.Proofs.Ytohbdjfabghagaa.XWide Go.Proofs.Ytohbdjfabghagaa.Rnd Go.Proofs.Ytohbdjfabghagaa.WideAlive Go.Proofs.Ytohbdjfabghagaa.XNeg Go.Proofs.YtohbdjfabghagaaW.PrintWords Go.Proofs.YtohbdjfabghagaaW.PrintLast

theorem WideBack : lombardlaw02_WideBack.Pure := by
  intro a c ha hc
  rw [wf64] at ha hc
  refine ⟨100, ?_⟩
  unfold lombardlaw02_WideBack.f
  rw [alive (by omega)]
  simp only [Option.bind_some, if_true]
  have last : ∀ k, lombardlaw02_WideBack.l0 (k + 1) a c 2 = some true := by
    intro k
    rw [lombardlaw02_WideBack.l0, if_neg (by omega), of ha]
    simp only [Option.bind_some]
    rw [neg ⟨by omega, by omega⟩ ⟨by omega, by omega⟩]
    simp only [Option.bind_some]
    rw [mul ha hc, mul hc ha, mul ha ⟨by omega, by omega⟩, mul ha ⟨by omega, by omega⟩, Int.mul_comm c a, show a / 18446744073709551616 * 18446744073709551616 + a % 18446744073709551616 = a by omega, Int.mul_one, show a * -1 = -a by omega]
    have T : toldW (-a) = (-a / 18446744073709551616, -a % 18446744073709551616, 0) := by
      unfold toldW
      rw [if_pos (by omega)]
    rw [T]
    simp
  have step : ∀ (way : Int) (k : Nat), way = 0 ∨ way = 1 → 30 ≤ k → lombardlaw02_WideBack.l0 (k + 1) a c way = lombardlaw02_WideBack.l0 k a c (wrap64 (way + 1)) := by
    intro way k hw hk
    rw [lombardlaw02_WideBack.l0, if_pos (by omega), mulDiv ha hc hc hk]
    simp only [Option.bind_some]
    by_cases d : c = 0
    · rw [if_pos d]
    · rw [if_neg d, mdiv_ok hw d, rnd_same a hw d, if_pos ha]
      simp
  rw [step 0 99 (.inl rfl) (by omega), w64 (by omega) (by omega), Int.zero_add, step 1 98 (.inr rfl) (by omega), w64 (by omega) (by omega)]
  exact last 97
end Go.Proofs.Ytohbdjfabghagaa.Pure
end

section
namespace Go.Proofs.Ytohbdjfabghagaa.wideBack
open Go.ChangeShapes Go.WideShapes Go.ChangeAt Go.RowKit
open Go.ChangeMaps (open_string shut_string)
set_option linter.unusedVariables false
theorem own : ownKnob Try.prog.godebug = none := by kernel_rfl
set_option maxRecDepth 100000 in
theorem lifted (os : Os) (started : os.Started) (H : Type) (enc : TypeId × Value → H) :
    ReturnsInHanded {} Try.checked os 9 .any (Rows.wideBackSpec.pre6 enc Try.prog Try.f9 Rows.wideBackRow.domain false) (Rows.wideBackSpec.post enc Try.prog Try.f9 false true false false) := by
  refine returnsInHanded_of_change_sized (C := Try.checked) own started (by kernel_rfl) Try.func9
    (ChangeSpec.witness6 (enc := enc) (C := Try.checked) false ⟨#[], #[.int .i64 0, .int .i64 0], []⟩ 8 (by kernel_rfl) (by kernel_rfl) (by kernel_rfl) (by kernel_rfl)) ?_
  intro W base args ds gs before hval0 hW hcnd hsz0 _
  have hsz : (DataW.weightsEach Try.prog (Try.f9.params.toList ++ Rows.wideBackSpec.plain.varTypes Try.prog) (ds ++ gs)).all (· ≤ reachBytes) = true := hsz0
  have hval : ∀ (j : Nat) t v, Try.f9.params[j]? = some t → args[j]? = some v → Value.okWide Try.prog W .any base t v := hval0
  have hW' := hW
  obtain ⟨p, q, hA0, hV, rfl, hfz, hnd⟩ := hW
  have hA : DataW.TrodAll enc Try.prog W 0 (fun _ => true) true Try.f9.params.toList args.toList ds p := hA0
  rw [Try.params9] at hA hval hsz
  obtain ⟨v0, vs0, d0, ds0, p0, q0, hargs, rfl, rfl, h0, r0⟩ := trodAll_cons hA
  obtain ⟨v1, vs1, d1, ds1, p1, q1, rfl, rfl, rfl, h1, r1⟩ := trodAll_cons r0
  obtain ⟨rfl, rfl, rfl⟩ := trodAll_nil r1
  obtain rfl : args = #[v0, v1] := by cases args; simp_all
  obtain ⟨rfl, rfl⟩ := trodVars_none hV
  obtain ⟨a0, rfl, rfl, rfl, w0⟩ := open_int Try.underlying2 (hval 0 2 v0 rfl rfl) h0
  obtain ⟨a1, rfl, rfl, rfl, w1⟩ := open_int Try.underlying2 (hval 1 2 v1 rfl rfl) h1
  clear hA0 hval0 hsz0 hsz
  refine (S.lombardlaw02_WideBack.walk Pure.WideBack a0 a1 W w0 w1).mono fun e W' ⟨he, bel⟩ => ?_
  subst he
  exact ⟨_, rfl, _, _, _, [], _, [], hW', trodAll_mk1 (shut_bool Try.underlying4 _), (trodAll_cons_mk (shut_int Try.underlying2 w0) (trodAll_cons_mk (shut_int Try.underlying2 w1) trodAll_mk0)), rfl, bel.frame _, fun h => by cases h⟩
theorem over : Rows.wideBackRow.holds Try.pinned (OpenSpec.ofChange Rows.wideBackSpec) :=
  OpenClaim.holds_of_wide 9 Try.f9 rfl rfl rfl rfl rfl rfl rfl ⟨rfl, rfl, rfl, rfl, rfl⟩ rfl rfl rfl rfl rfl (by kernel_rfl) Try.func9 (by kernel_rfl)
    (of_decide_eq_true (by kernel_rfl)) (by unfold Func.isWrapper; first | (rw [if_pos (by decide +kernel)]; kernel_rfl) | (rw [if_neg (by decide +kernel)]; exact ⟨rfl, rfl⟩))
    (fun os started H enc _ => lifted os started H enc)
theorem proved : Rows.WideBackSaid := over
#print axioms proved
end Go.Proofs.Ytohbdjfabghagaa.wideBack
namespace Go.Proofs.Ytohbdjfabghagaa
/-- The row, under a short name, for the claim. -/
theorem wideBack_holds : Rows.WideBackSaid := wideBack.proved
end Go.Proofs.Ytohbdjfabghagaa
end
