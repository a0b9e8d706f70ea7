/- The statement EirMoreSaid: for every input the law returns true, and each argument reads afterwards as it read before. Conditions: none. -/
import Derived.Test.YtjgleaakgbnjgaaMEirMore1
import Derived.Conc.CompanyDraw
import Derived.Test.YtjgleaakgbnjgaaProg
import Derived.KernelRfl
import Derived.IntWalk
import Derived.Conc.AppendEvents
import Derived.Conc.SmallLaws
import Derived.Test.YtjgleaakgbnjgaaMEirMore3
import Derived.Test.YtjgleaakgbnjgaaMEirMore2
import Derived.Test.YtjgleaakgbnjgaaWWords
import Derived.ChangeArms
import Derived.DataReads
import Derived.WideShapes
import Derived.Deep.Slices
import Derived.Conc.LeavingOf
import Derived.Test.YtjgleaakgbnjgaaStar
import Derived.Below
import Derived.Test.YtjgleaakgbnjgaaRows
import Derived.WalkKit
import Derived.ProofKit
import Derived.OpenShut
import Derived.ShutString
import Derived.ChangeOld
import Derived.SizedLaws
import Derived.Carry
set_option linter.unusedSimpArgs false
set_option linter.unusedVariables false
section
namespace Go.Proofs.Ytjgleaakgbnjgaa.Par
open Go Go.Conc
section
variable {P : Program} {m : Bool} {Ro own : Nat → Prop} {Stop : (Nat → Prop) → Goroutine → World → Prop} {F F' : World → Prop} {g g' : Goroutine} {b : Frame} {a : Act} {k : List Item} {cs : List Frame}
theorem keeps_cell {w w₁ : World} {ad : Addr} {v : Value} (h : Keeps own Ro w w₁) (hb : own ad.block ∨ Ro ad.block) (hv : w.cell? ad = some v) : w₁.cell? ad = some v := by
 rw [← hv]
 unfold World.cell?
 rw [h.keep _ hb]
theorem run_enter {f : FuncId} {fn : Func} (hf : P.funcs[f]? = some fn) (hname : (fn.name == "runtime.NumGoroutine") = false) (hb : fn.body.isSome = true) (args : Array Value) (w : World) : (callFunc f args).run P w = .ok (.enter f args) w := by
 have h1 : ¬fn.name = "runtime.NumGoroutine" := by simpa using hname
 have h2 : ¬fn.body = none := by cases hx : fn.body <;> simp_all
 simp [callFunc, hf, h1, h2]
theorem events_enter {f : FuncId} {fn : Func} (hf : P.funcs[f]? = some fn) (hname : (fn.name == "runtime.NumGoroutine") = false) (hb : fn.body.isSome = true) (args : Array Value) (w : World) (es : Array Event) : (callFunc f args).events P w es = es := by
 have h1 : ¬fn.name = "runtime.NumGoroutine" := by simpa using hname
 have h2 : ¬fn.body = none := by cases hx : fn.body <;> simp_all
 simp [callFunc, hf, h1, h2]
def under (P : Program) : Frame := { (default : Frame) with fn := P.funcs.size, defers := [], mode := .panicking [goexitEntry] }
theorem born_go {f : FuncId} {fn : Func} (hf : P.funcs[f]? = some fn) (hname : (fn.name == "runtime.NumGoroutine") = false) (hb : fn.body.isSome = true) (caps args : Array Value) (w : World) :
  stepG P m (born P { target := .fn (.func f) caps, args }) w = .go { frame := Frame.enter P f (args ++ caps) .deferred, callers := [under P], status := .running, dying := none } w := by
 have h1 := run_enter hf hname hb (args ++ caps) w
 have h2 := events_enter hf hname hb (args ++ caps) w #[]
 simp only [stepG, born, unwind, callDeferred]
 rw [if_neg (by simp)]
 have e : (invoke (.fn (.func f) caps) args : Sem Next) = callFunc f (args ++ caps) := rfl
 rw [e, Sem.runT_eq, h1, h2]
 simp [seen_none, GStep.after, under]
def kidBase (f : FuncId) : Frame := { (default : Frame) with fn := f, kind := .deferred }
theorem kidBase_kind (f : FuncId) : (kidBase f).kind ≠ .early := nofun
theorem base_kind (f : FuncId) : (base f).kind ≠ .early := nofun
theorem lw_born (hc : Cl Ro own F) {f : FuncId} {fn : Func} {c : Code} (hf : P.funcs[f]? = some fn) (hname : (fn.name == "runtime.NumGoroutine") = false) (hb : fn.body = some c) {caps args : Array Value}
  (hl : LW P m Ro Stop F own (G ((kidBase f).at { tmps := (args ++ caps) ++ Array.replicate (fn.ntmps - (args ++ caps).size) undef, defers := [] } [.code c]) [under P])) : LW P m Ro Stop F own (born P { target := .fn (.func f) caps, args }) := by
 refine lw_ctl hc ⟨rfl, rfl⟩ (fun w => born_go hf hname (by rw [hb]; rfl) caps args w) ?_
 have e : Frame.enter P f (args ++ caps) .deferred = (kidBase f).at { tmps := (args ++ caps) ++ Array.replicate (fn.ntmps - (args ++ caps).size) undef, defers := [] } [.code c] := by
  simp [Frame.enter, Frame.at, hf, hb, kidBase]
 rw [e]
 exact hl
theorem quits_kid {fn : Func} {f : FuncId} {t : Array Value} {todo : List Item} (hf : P.funcs[f]? = some fn) (hr : fn.results = #[]) : QuitsD P 2 0 (G { (kidBase f).at ⟨t, []⟩ todo with mode := .returning } [under P]) := by
 refine QuitsD.ctl (g' := G (under P) []) rfl (fun w => ?_) ?_
 ·have h1 := results_none hr t P w
  have h2 := events_results_none (P := P) (w := w) hr t #[]
  simp [G, stepG, unwind, doReturn, Frame.at, hf, h1, h2, seen, GStep.after, under, goexitEntry, kidBase]
 refine QuitsD.ctl (g' := { G (under P) [] with status := .finished }) rfl (fun w => ?_) ⟨rfl, rfl⟩
 simp [G, stepG, unwind, under, goexitEntry, Frame.catches]
 rfl
section
variable {ops : Array Oper} {i : Nat} {rest : List Nat} {o : Oper}
theorem finishComm_G {cases : Array CommCase} {sh : CommShape} {n : Int} {v : Value} {ok : Bool} : (G (b.at a (.inRegion ops (i :: rest) :: k)) cs).finishComm P cases sh n v ok = G (b.at (a.put ((ops[i]?).bind (·.dst)) (commResult cases sh n v ok)) (.inRegion ops rest :: k)) cs := by
 simp only [Goroutine.finishComm, G, Frame.finish_at]
theorem lw_callf (hc : Cl Ro own F) (hk : b.kind ≠ .early) (ho : ops[i]? = some o) (hw : Region.wanted o (yielded ops a.tmps) = true) {f : FuncId} {az : Array Operand} {ts : Array TypeId} (hop : o.op = .call { callee := .value (.func f), args := az, argTypes := ts })
  {fn : Func} (hf : P.funcs[f]? = some fn) (hname : (fn.name == "runtime.NumGoroutine") = false) (hb : fn.body.isNone = false)
  (hl : LW P m Ro Stop F own (G (Frame.enter P f (az.map a.eval) .normal) (b.at a (.inRegion ops (i :: rest) :: k) :: cs))) : LW P m Ro Stop F own (G (b.at a (.inRegion ops (i :: rest) :: k)) cs) :=
 lw_enter hc hk ho hw (fun w _ => run_call_body hop hf hname hb) (fun w _ => events_call_body hop hf hname hb _) hl
theorem lw_draw {id : Nat} (hc : Cl Ro own F) (hd : ∀ w, F w → F { w with drawn := w.drawn + 1 }) (hm : P.follows .mixedOrders = true) (hl : ∀ t, LW P m Ro Stop F own (G (b.at a (.inRegion ops (Region.schedule true ops t) :: k)) cs)) : LW P m Ro Stop F own (G (b.at a (.code (.region id ops true) :: k)) cs) :=
 lw_one hc ⟨rfl, rfl⟩ fun w hF => by
  refine ⟨_, _, _, stepG_region_draw, ⟨Nat.le_refl _, fun _ _ _ => rfl, rfl, rfl, rfl, by simp⟩, ?_⟩
  show Live P m Ro Stop (grown own w w) _ _
  rw [grown_self, hm]
  exact hl _ _ (hd w hF)
theorem go_step {md : Region.Mode} {fuel t : Nat} {listed : Array Bool} {acc rs : List Nat} (h : Region.ready md ops listed = rs) : Region.linearise.go md ops (fuel + 1) t listed acc = match rs[t % rs.length]? with
  | some i => Region.linearise.go md ops fuel (t / rs.length) (listed.setIfInBounds i true) (i :: acc)
  | none => acc.reverse := by
 subst h
 rfl
theorem sched2 (ops : Array Oper) (t : Nat) (h4 : ops.size = 4) (r0 : Region.ready .any ops #[false, false, false, false] = [0, 1]) (r1 : Region.ready .any ops #[true, false, false, false] = [1, 2]) (r2 : Region.ready .any ops #[false, true, false, false] = [0])
  (r3 : Region.ready .any ops #[true, true, false, false] = [2]) (r4 : Region.ready .any ops #[true, false, true, false] = [1]) (r5 : Region.ready .any ops #[true, true, true, false] = [3]) : Region.schedule true ops t = [0, 1, 2, 3] ∨ Region.schedule true ops t = [0, 2, 1, 3] ∨ Region.schedule true ops t = [1, 0, 2, 3] := by
 unfold Region.schedule
 simp only [Bool.true_or, if_true]
 unfold Region.linearise
 rw [h4]
 have e : Array.replicate 4 false = #[false, false, false, false] := rfl
 rw [e, go_step r0]
 rcases Nat.mod_two_eq_zero_or_one t with h | h
 ·simp only [List.length_cons, List.length_nil, Nat.reduceAdd, h, List.getElem?_cons_zero]
  have e1 : (#[false, false, false, false] : Array Bool).setIfInBounds 0 true = #[true, false, false, false] := rfl
  rw [e1, go_step r1]
  rcases Nat.mod_two_eq_zero_or_one (t / 2) with h' | h'
  ·simp only [List.length_cons, List.length_nil, Nat.reduceAdd, h', List.getElem?_cons_zero]
   have e2 : (#[true, false, false, false] : Array Bool).setIfInBounds 1 true = #[true, true, false, false] := rfl
   rw [e2, go_step r3]
   simp only [List.length_cons, List.length_nil, Nat.reduceAdd, Nat.mod_one, List.getElem?_cons_zero]
   have e3 : (#[true, true, false, false] : Array Bool).setIfInBounds 2 true = #[true, true, true, false] := rfl
   rw [e3, go_step r5]
   simp only [List.length_cons, List.length_nil, Nat.reduceAdd, Nat.mod_one, List.getElem?_cons_zero]
   exact .inl rfl
  ·simp only [List.length_cons, List.length_nil, Nat.reduceAdd, h', List.getElem?_cons_succ, List.getElem?_cons_zero]
   have e2 : (#[true, false, false, false] : Array Bool).setIfInBounds 2 true = #[true, false, true, false] := rfl
   rw [e2, go_step r4]
   simp only [List.length_cons, List.length_nil, Nat.reduceAdd, Nat.mod_one, List.getElem?_cons_zero]
   have e3 : (#[true, false, true, false] : Array Bool).setIfInBounds 1 true = #[true, true, true, false] := rfl
   rw [e3, go_step r5]
   simp only [List.length_cons, List.length_nil, Nat.reduceAdd, Nat.mod_one, List.getElem?_cons_zero]
   exact .inr (.inl rfl)
 ·simp only [List.length_cons, List.length_nil, Nat.reduceAdd, h, List.getElem?_cons_succ, List.getElem?_cons_zero]
  have e1 : (#[false, false, false, false] : Array Bool).setIfInBounds 1 true = #[false, true, false, false] := rfl
  rw [e1, go_step r2]
  simp only [List.length_cons, List.length_nil, Nat.reduceAdd, Nat.mod_one, List.getElem?_cons_zero]
  have e2 : (#[false, true, false, false] : Array Bool).setIfInBounds 0 true = #[true, true, false, false] := rfl
  rw [e2, go_step r3]
  simp only [List.length_cons, List.length_nil, Nat.reduceAdd, Nat.mod_one, List.getElem?_cons_zero]
  have e3 : (#[true, true, false, false] : Array Bool).setIfInBounds 2 true = #[true, true, true, false] := rfl
  rw [e3, go_step r5]
  simp only [List.length_cons, List.length_nil, Nat.reduceAdd, Nat.mod_one, List.getElem?_cons_zero]
  exact .inr (.inr rfl)
theorem lw_send (hc : Cl Ro own F) (hk : b.kind ≠ .early) (ho : ops[i]? = some o) (hw : Region.wanted o (yielded ops a.tmps) = true) {ch n : Nat} {x : Value} (hr : ∀ w, F w → (execOp a.eval o).run P w = .ok (.comm #[scase ch x undef] true .send) w) (he : ∀ w, F w → (execOp a.eval o).events P w #[] = #[])
  (hq : QuitsD P n 0 (G (b.at (a.put o.dst undef) (.inRegion ops rest :: k)) cs)) : LW P false Ro (SendStop P Ro ch x) F own (G (b.at a (.inRegion ops (i :: rest) :: k)) cs) :=
 lw_stop fun w hF => ⟨rfl, fun w₁ h1 => ⟨_, undef, _, stepG_comm ho hw hk (hr w₁ (hc _ _ hF h1)), fun e h => by
  have := mem_listed h
  rw [he w₁ (hc _ _ hF h1)] at this
  simp at this, n, by
  rw [served_G, ho]
  exact hq⟩⟩
theorem lw_callv (hc : Cl Ro own F) (hk : b.kind ≠ .early) (ho : ops[i]? = some o) (hw : Region.wanted o (yielded ops a.tmps) = true) {c : Operand} {az : Array Operand} {ts : Array TypeId} (hop : o.op = .call { callee := .value c, args := az, argTypes := ts }) {f : FuncId} {caps : Array Value} (hcv : a.eval c = .func (.func f) #[] caps)
  {fn : Func} (hf : P.funcs[f]? = some fn) (hname : (fn.name == "runtime.NumGoroutine") = false) (hb : fn.body.isSome = true)
  (hl : LW P m Ro Stop F own (G (Frame.enter P f (az.map a.eval ++ caps) .normal) (b.at a (.inRegion ops (i :: rest) :: k) :: cs))) : LW P m Ro Stop F own (G (b.at a (.inRegion ops (i :: rest) :: k)) cs) := by
 refine lw_enter hc hk ho hw (fun w _ => ?_) (fun w _ => ?_) hl
 ·have := run_enter hf hname hb (az.map a.eval ++ caps) w
  unfold execOp
  simp [hop, resolve, Deferred.ofValue, invoke, hcv, this]
 ·have := events_enter hf hname hb (az.map a.eval ++ caps) w #[]
  unfold execOp
  simp [hop, resolve, Deferred.ofValue, invoke, hcv, this]
end
end
end Go.Proofs.Ytjgleaakgbnjgaa.Par
end

section
namespace Go.Proofs.Ytjgleaakgbnjgaa.Par
open Go Go.Conc
section
variable {Ro : Nat → Prop}
structure Holds (P : Program) (m : Bool) (Ro : Nat → Prop) (hb : Nat) (hv : Value) (fh : FuncId) (caps : Array Value) (x : Int) (p : Bool) (F : World → Prop) : Prop where
 ro : Ro hb
 lt : ∀ w, F w → ∀ b, Ro b → b < w.heap.size
 cell : ∀ w, F w → w.cell? ⟨hb, 0, none⟩ = some hv
 cl : ∀ own, Cl Ro own F
 live : ∀ (c : Frame) (cs : List Frame) (w : World), F w → Live P m Ro (fun own g w => g = G (c.finish (.bool p)) cs) (fun _ => False) (G (Frame.enter P fh (#[.int .i64 x] ++ caps) .normal) (c :: cs)) w
theorem built87 (x : Int) (p : Bool) : Try.prog.built 87 [(0, .int .i64 x), (1, .bool p)] = some #[.int .i64 x, .bool p] := by kernel_rfl
theorem evBuild87 (x : Int) (p : Bool) (w : World) : (Instr.build 87 #[(0, .int .i64 x), (1, .bool p)]).events Try.prog w #[] = #[] := by kernel_rfl
def askVal (x : Int) (p : Bool) : Value := .agg #[.int .i64 x, .bool p]
set_option maxRecDepth 100000 in
set_option maxHeartbeats 4000000 in
theorem ask_live {F : World → Prop} {ch hb : Nat} {x : Int} {p : Bool} {fh : FuncId} {fn : Func} {caps : Array Value} (hH : Holds Try.prog false Ro hb (.func (.func fh) #[] caps) fh caps x p F) (hf : Try.prog.funcs[fh]? = some fn) (hname : (fn.name == "runtime.NumGoroutine") = false) (hbody : fn.body.isSome = true) :
  LW Try.prog false Ro (SendStop Try.prog Ro ch (askVal x p)) F (fun _ => False) (born Try.prog { target := .fn (.func 51) #[.pointer (some ⟨hb, 0, none⟩)], args := #[.chan (some ch), .int .i64 x] }) := by
 have hc := hH.cl (fun _ => False)
 refine lw_born hc Try.func51 rfl rfl ?_
 have hkb := kidBase_kind 51
 generalize hkd : kidBase 51 = kb at *
 simp only [Try.ntmps51, List.size_toArray, List.length_cons, List.length_nil, Nat.reduceAdd, Nat.reduceSub, Array.replicate_succ, Array.replicate_zero, List.push_toArray, List.append_toArray, List.nil_append, List.cons_append]
 refine lw_region hc ?_
 simp only [List.size_toArray, List.length_cons, List.length_nil, Nat.reduceAdd, Nat.zero_add, List.range, List.range.loop]
 iterate 2
  refine lw_op hc hkb rfl rfl fun w hF K hK => ?_
  go_simp
  refine hK _ (by rw [listed_nil (by simp [go_sem])]; simp) ?_
  clear hK K hF w
  try walk_nrm
 ·refine lw_op hc hkb rfl rfl fun w hF K hK => ?_
  have hcell := hH.cell w hF
  go_simp
  refine hK _ (fun e he => ?_) ?_
  ·have hm := mem_listed he
   simp [go_sem, *] at hm
   subst hm
   exact .inr ⟨hH.ro, rfl⟩
  clear hK K hF hcell w
  try walk_nrm
  refine lw_op hc hkb rfl rfl fun w hF K hK => ?_
  go_simp
  refine hK _ (by rw [listed_nil (by simp [go_sem])]; simp) ?_
  clear hK K hF w
  try walk_nrm
  refine lw_callv hc hkb rfl rfl rfl rfl hf hname hbody ?_
  walk_nrm
  intro w hF
  refine (hH.live _ _ w hF).weaken (own := fun _ => False) (fun _ h => h) (fun _ h => .inr h) (fun b hb => hb.elim False.elim (hH.lt w hF b)) (fun own' g' w' hst ho hlt hk => ?_) (fun _ h => h.elim)
  obtain ⟨o', rfl⟩ := hst
  have hF' : F w' := hH.cl _ _ _ hF hk
  clear hF ho hk hlt
  revert w'
  have hc' := hH.cl own'
  show LW Try.prog false Ro _ F own' _
  rw [Frame.finish_at]
  walk_nrm
  refine lw_op hc' hkb rfl rfl fun w hF K hK => ?_
  have hbl := run_build (P := Try.prog) w 87 #[(0, .int .i64 x), (1, .bool p)] _ (built87 x p)
  have hbe := evBuild87 x p w
  go_simp
  refine hK _ (by rw [listed_nil (by simp [go_sem, hbe])]; simp) ?_
  clear hK K hF hbl hbe w
  try walk_nrm
  refine lw_send (n := 4) hc' hkb rfl rfl (fun w hF => ?_) (fun w hF => ?_) ?_
  ·simp [go_sem]
   rfl
  ·simp [go_sem]
  walk_nrm
  refine .ctl rfl (fun w => stepG_region_end) (.ctl rfl (fun w => stepG_end) ?_)
  rw [← hkd]
  exact quits_kid Try.func51 rfl
end
end Go.Proofs.Ytjgleaakgbnjgaa.Par
end

section
namespace Go.Proofs.Ytjgleaakgbnjgaa.Par
open Go Go.Conc
section
variable {m : Bool} {Ro own : Nat → Prop} {Stop : (Nat → Prop) → Goroutine → World → Prop} {F : World → Prop}
def thirdAt (lo hi n : Int) : Int := lo + (hi - lo) / 3 * n
def Fair (lo hi : Int) : Prop := -4000000000000000000 ≤ lo ∧ lo ≤ 4000000000000000000 ∧ -4000000000000000000 ≤ hi ∧ hi ≤ 4000000000000000000
theorem wrap_in (n : Int) (h : -9223372036854775808 ≤ n) (h' : n ≤ 9223372036854775807) : IntKind.i64.wrap n = n := by rw [IntKind.wrap_i64]; omega
set_option maxRecDepth 100000 in
set_option maxHeartbeats 4000000 in
theorem third_live (hc : Cl Ro own F) {lo hi n : Int} (hb : Fair lo hi) (hd : 0 ≤ hi - lo) (hn : n = 1 ∨ n = 2) {c : Frame} {cs : List Frame} (hl : LW Try.prog m Ro Stop F own (G (c.finish (.int .i64 (thirdAt lo hi n))) cs)) :
  LW Try.prog m Ro Stop F own (G (Frame.enter Try.prog 52 #[.int .i64 lo, .int .i64 hi, .int .i64 n] .normal) (c :: cs)) := by
 obtain ⟨b1, b2, b3, b4⟩ := hb
 have w1 : IntKind.wrap .i64 (hi - lo) = hi - lo := wrap_in _ (by omega) (by omega)
 have w2 : IntKind.wrap .i64 ((hi - lo).tdiv 3) = (hi - lo) / 3 := by
  rw [Int.tdiv_eq_ediv_of_nonneg hd]
  exact wrap_in _ (by omega) (by omega)
 have w3 : IntKind.wrap .i64 ((hi - lo) / 3 * n) = (hi - lo) / 3 * n := by
  rcases hn with rfl | rfl <;> exact wrap_in _ (by omega) (by omega)
 have w4 : IntKind.wrap .i64 (lo + (hi - lo) / 3 * n) = thirdAt lo hi n := by
  rcases hn with rfl | rfl <;> exact wrap_in _ (by omega) (by omega)
 rw [enter_at _ Try.func52 rfl]
 have hkb := base_kind 52
 have hfn : (base 52).fn = 52 := rfl
 have hkn : (base 52).kind = .normal := rfl
 generalize hkd : base 52 = kb at *
 simp only [Try.ntmps52, List.size_toArray, List.length_cons, List.length_nil, Nat.reduceAdd, Nat.reduceSub, Array.replicate_succ, Array.replicate_zero, List.push_toArray, List.append_toArray, List.nil_append, List.cons_append]
 refine lw_seq hc (lw_region hc ?_)
 simp only [List.size_toArray, List.length_cons, List.length_nil, Nat.reduceAdd, Nat.zero_add, List.range, List.range.loop]
 iterate 1
  refine lw_op hc hkb rfl rfl fun w hF K hK => ?_
  go_simp
  refine hK _ (by rw [listed_nil (by simp [go_sem])]; simp) ?_
  clear hK K hF w
  try walk_nrm
 refine lw_region_end hc (lw_seq hc (lw_region hc ?_))
 simp only [List.size_toArray, List.length_cons, List.length_nil, Nat.reduceAdd, Nat.zero_add, List.range, List.range.loop]
 iterate 9
  refine lw_op hc hkb rfl rfl fun w hF K hK => ?_
  go_simp
  refine hK _ (by rw [listed_nil (by simp [go_sem])]; simp) ?_
  clear hK K hF w
  try walk_nrm
 refine lw_region_end hc (lw_ret hc (lw_leave1 (fn := Try.f52) (t := 6) hc hkn rfl (hfn ▸ Try.func52) rfl ?_))
 exact hl
end
end Go.Proofs.Ytjgleaakgbnjgaa.Par
end

section
namespace Go.Proofs.Ytjgleaakgbnjgaa.Par
open Go Go.Conc
section
variable {P : Program} {w : World} {n : Nat} {ty : TypeId} {a b x y : Value}
def lay2 (w : World) (n : Nat) (ty : TypeId) (x y : Value) : World := { w with heap := w.heap.setIfInBounds n (.cells #[x, y] ty (0, 0)) }
theorem lay2_size : (lay2 w n ty x y).heap.size = w.heap.size := by simp [lay2]
theorem lay2_off {k : Nat} (h : k ≠ n) : (lay2 w n ty x y).heap[k]? = w.heap[k]? := by
 unfold lay2
 simp only
 rw [Array.getElem?_setIfInBounds_ne (Ne.symm h)]
theorem lay2_at (h : n < w.heap.size) : (lay2 w n ty x y).heap[n]? = some (.cells #[x, y] ty (0, 0)) := by
 unfold lay2
 simp only
 rw [Array.getElem?_setIfInBounds_self_of_lt h]
theorem two_cell0 (h : w.heap[n]? = some (.cells #[a, b] ty (0, 0))) : w.cell? ⟨n, 0, none⟩ = some a := by simp [World.cell?, h]
theorem two_cell1 (h : w.heap[n]? = some (.cells #[a, b] ty (0, 0))) : w.cell? ⟨n, 1, none⟩ = some b := by simp [World.cell?, h]
theorem run_store2 (h : w.heap[n]? = some (.cells #[a, b] ty (0, 0))) (hx : x.oneCell' = true) (hy : y.oneCell' = true) : (storeCells ⟨n, 0, none⟩ [x, y]).run P w = .ok () (lay2 w n ty x y) := by
 have hlt : n < w.heap.size := (Array.getElem?_eq_some_iff.1 h).1
 have s1 : ∀ m, (store ⟨n, 0, none⟩ x m).run P w = .ok () (lay2 w n ty x b) := by
  intro m
  rw [run_store _ _ _ _ _ hx, two_cell0 h]
  have hf : w.frozen? ⟨n, 0, none⟩ = false := by simp [World.frozen?, h]
  simp only [hf, Bool.false_eq_true, if_false]
  congr 1
  unfold World.setCell lay2
  congr 1
  apply Array.ext_getElem?
  intro i
  by_cases hi : n = i
  ·subst hi
   rw [Array.getElem?_setIfInBounds_self_of_lt hlt, Array.getElem?_modify, h]
   simp
  ·rw [Array.getElem?_setIfInBounds_ne hi, Array.getElem?_modify]
   simp [hi]
 have h' := lay2_at (w := w) (ty := ty) (x := x) (y := b) hlt
 have s2 : ∀ m, (store ⟨n, 1, none⟩ y m).run P (lay2 w n ty x b) = .ok () (lay2 w n ty x y) := by
  intro m
  rw [run_store _ _ _ _ _ hy, two_cell1 h']
  have hf : (lay2 w n ty x b).frozen? ⟨n, 1, none⟩ = false := by simp [World.frozen?, h']
  simp only [hf, Bool.false_eq_true, if_false]
  congr 1
  unfold World.setCell lay2
  congr 1
  apply Array.ext_getElem?
  intro i
  by_cases hi : n = i
  ·subst hi
   rw [Array.getElem?_setIfInBounds_self_of_lt hlt, Array.getElem?_modify, Array.getElem?_setIfInBounds_self_of_lt hlt]
   simp
  ·rw [Array.getElem?_setIfInBounds_ne hi, Array.getElem?_modify, Array.getElem?_setIfInBounds_ne hi]
   simp [hi]
 simp only [storeCells, Sem.run_bind]
 have e1 : (⟨n, 0, none⟩ : Addr).add 0 = ⟨n, 0, none⟩ := rfl
 have e2 : (⟨n, 0, none⟩ : Addr).add (0 + 1) = ⟨n, 1, none⟩ := rfl
 rw [e1, e2, s1]
 simp only [Result.andThen_ok, Sem.run_bind, s2]
 rfl
theorem events_store2 (h : w.heap[n]? = some (.cells #[a, b] ty (0, 0))) (hx : x.oneCell' = true) (hy : y.oneCell' = true) : ∀ e ∈ (storeCells ⟨n, 0, none⟩ [x, y]).events P w #[], ∃ ad, e.loc = .cell ad ∧ ad.block = n := by
 intro e he
 have := events_storeCells_at (P := P) n 0 ty [x, y] 0 #[a, b] w #[] h (by simp) (by simp [hx, hy]) e he
 simpa using this
end
end Go.Proofs.Ytjgleaakgbnjgaa.Par
end

section
/- -/
namespace Go.Proofs.Ytjgleaakgbnjgaa.Par
open Go Go.Conc
noncomputable def code25 : Code := Try.f25.body.getD .skip
noncomputable def body25 : Code := match code25 with | .seq _ (.seq (.block _ (.loop c)) _) => c | _ => .skip
noncomputable def tail25 : Code := match code25 with | .seq _ (.seq _ c) => c | _ => .skip
noncomputable def mid25 : Code := match body25 with | .seq _ (.block _ (.seq _ c)) => c | _ => .skip
noncomputable def inner25 : Code := match mid25 with | .seq _ (.seq _ (.seq _ (.seq _ (.block _ (.loop c))))) => c | _ => .skip
noncomputable def blk3 : Code := match inner25 with | .seq _ (.seq _ (.seq (.block _ c) _)) => c | _ => .skip
noncomputable def reg17 : Code := match inner25 with | .seq _ (.seq _ (.seq _ c)) => c | _ => .skip
noncomputable def sel25 : Code := match blk3 with | .seq _ (.seq c _) => c | _ => .skip
noncomputable def got25 : Code := match blk3 with | .seq _ (.seq _ c) => c | _ => .skip
noncomputable def ops11 : Array Oper := match sel25 with | .seq _ (.seq (.region _ o _) _) => o | _ => #[]
noncomputable def blk4 : Code := match sel25 with | .seq _ (.seq _ c) => c | _ => .skip
theorem array62 (T : Array Value) (h : T.size = 62) : ∃ v0 v1 v2 v3 v4 v5 v6 v7 v8 v9 v10 v11 v12 v13 v14 v15 v16 v17 v18 v19 v20 v21 v22 v23 v24 v25 v26 v27 v28 v29 v30 v31 v32 v33 v34 v35 v36 v37 v38 v39 v40 v41 v42 v43 v44 v45 v46 v47 v48 v49 v50 v51 v52 v53 v54 v55 v56 v57 v58 v59 v60 v61 : Value, T = #[v0, v1, v2, v3, v4, v5, v6, v7, v8, v9, v10, v11, v12, v13, v14, v15, v16, v17, v18, v19, v20, v21, v22, v23, v24, v25, v26, v27, v28, v29, v30, v31, v32, v33, v34, v35, v36, v37, v38, v39, v40, v41, v42, v43, v44, v45, v46, v47, v48, v49, v50, v51, v52, v53, v54, v55, v56, v57, v58, v59, v60, v61] := by
 obtain ⟨l⟩ := T
 simp only [List.size_toArray] at h
 rcases l with _ | ⟨v0, l⟩
 ·simp at h
 rcases l with _ | ⟨v1, l⟩
 ·simp at h
 rcases l with _ | ⟨v2, l⟩
 ·simp at h
 rcases l with _ | ⟨v3, l⟩
 ·simp at h
 rcases l with _ | ⟨v4, l⟩
 ·simp at h
 rcases l with _ | ⟨v5, l⟩
 ·simp at h
 rcases l with _ | ⟨v6, l⟩
 ·simp at h
 rcases l with _ | ⟨v7, l⟩
 ·simp at h
 rcases l with _ | ⟨v8, l⟩
 ·simp at h
 rcases l with _ | ⟨v9, l⟩
 ·simp at h
 rcases l with _ | ⟨v10, l⟩
 ·simp at h
 rcases l with _ | ⟨v11, l⟩
 ·simp at h
 rcases l with _ | ⟨v12, l⟩
 ·simp at h
 rcases l with _ | ⟨v13, l⟩
 ·simp at h
 rcases l with _ | ⟨v14, l⟩
 ·simp at h
 rcases l with _ | ⟨v15, l⟩
 ·simp at h
 rcases l with _ | ⟨v16, l⟩
 ·simp at h
 rcases l with _ | ⟨v17, l⟩
 ·simp at h
 rcases l with _ | ⟨v18, l⟩
 ·simp at h
 rcases l with _ | ⟨v19, l⟩
 ·simp at h
 rcases l with _ | ⟨v20, l⟩
 ·simp at h
 rcases l with _ | ⟨v21, l⟩
 ·simp at h
 rcases l with _ | ⟨v22, l⟩
 ·simp at h
 rcases l with _ | ⟨v23, l⟩
 ·simp at h
 rcases l with _ | ⟨v24, l⟩
 ·simp at h
 rcases l with _ | ⟨v25, l⟩
 ·simp at h
 rcases l with _ | ⟨v26, l⟩
 ·simp at h
 rcases l with _ | ⟨v27, l⟩
 ·simp at h
 rcases l with _ | ⟨v28, l⟩
 ·simp at h
 rcases l with _ | ⟨v29, l⟩
 ·simp at h
 rcases l with _ | ⟨v30, l⟩
 ·simp at h
 rcases l with _ | ⟨v31, l⟩
 ·simp at h
 rcases l with _ | ⟨v32, l⟩
 ·simp at h
 rcases l with _ | ⟨v33, l⟩
 ·simp at h
 rcases l with _ | ⟨v34, l⟩
 ·simp at h
 rcases l with _ | ⟨v35, l⟩
 ·simp at h
 rcases l with _ | ⟨v36, l⟩
 ·simp at h
 rcases l with _ | ⟨v37, l⟩
 ·simp at h
 rcases l with _ | ⟨v38, l⟩
 ·simp at h
 rcases l with _ | ⟨v39, l⟩
 ·simp at h
 rcases l with _ | ⟨v40, l⟩
 ·simp at h
 rcases l with _ | ⟨v41, l⟩
 ·simp at h
 rcases l with _ | ⟨v42, l⟩
 ·simp at h
 rcases l with _ | ⟨v43, l⟩
 ·simp at h
 rcases l with _ | ⟨v44, l⟩
 ·simp at h
 rcases l with _ | ⟨v45, l⟩
 ·simp at h
 rcases l with _ | ⟨v46, l⟩
 ·simp at h
 rcases l with _ | ⟨v47, l⟩
 ·simp at h
 rcases l with _ | ⟨v48, l⟩
 ·simp at h
 rcases l with _ | ⟨v49, l⟩
 ·simp at h
 rcases l with _ | ⟨v50, l⟩
 ·simp at h
 rcases l with _ | ⟨v51, l⟩
 ·simp at h
 rcases l with _ | ⟨v52, l⟩
 ·simp at h
 rcases l with _ | ⟨v53, l⟩
 ·simp at h
 rcases l with _ | ⟨v54, l⟩
 ·simp at h
 rcases l with _ | ⟨v55, l⟩
 ·simp at h
 rcases l with _ | ⟨v56, l⟩
 ·simp at h
 rcases l with _ | ⟨v57, l⟩
 ·simp at h
 rcases l with _ | ⟨v58, l⟩
 ·simp at h
 rcases l with _ | ⟨v59, l⟩
 ·simp at h
 rcases l with _ | ⟨v60, l⟩
 ·simp at h
 rcases l with _ | ⟨v61, l⟩
 ·simp at h
 rcases l with _ | ⟨x, l⟩
 ·exact ⟨_, _, _, _, _, _, _, _, _, _, _, _, _, _, _, _, _, _, _, _, _, _, _, _, _, _, _, _, _, _, _, _, _, _, _, _, _, _, _, _, _, _, _, _, _, _, _, _, _, _, _, _, _, _, _, _, _, _, _, _, _, _, rfl⟩
 ·simp at h
theorem run_sel25 (ev : Operand → Value) (w : World) (c1 c2 : Nat) (h1 : ev (.tmp 30) = .chan (some c1)) (h2 : ev (.tmp 31) = .chan (some c2)) : (execOp ev { dst := some 32, op := Op.select #[{ chan := Operand.tmp 30, send := none, elem := 87 }, { chan := Operand.tmp 31, send := none, elem := 87 }] true, type := 0, pos := "eir.go:53", after := #[], guard := none }).run Try.prog w =
  .ok (.comm #[rcase c1 (askVal 0 false), rcase c2 (askVal 0 false)] true .select) w := by
 unfold execOp
 simp [h1, h2]
 exact ⟨rfl, rfl⟩
theorem run_store87 (w : World) (n : Nat) (x : Int) (p : Bool) (a b : Value) (h : w.heap[n]? = some (.cells #[a, b] 87 (0, 0))) : (Instr.storeAt 87 (.pointer (some ⟨n, 0, none⟩)) (askVal x p)).run Try.prog w = .ok () (lay2 w n 87 (.int .i64 x) (.bool p)) := by
 have := run_store2 (P := Try.prog) h (x := .int .i64 x) (y := .bool p) rfl rfl
 have hi : (Try.prog.info? 87).map (·.size) = some 2 := by kernel_rfl
 cases hq : Try.prog.info? 87 with
 | none => simp [hq] at hi
 | some i =>
  have hs : i.size = 2 := by simpa [hq] using hi
  simp [Instr.storeAt, Instr.sureAddr, storeVar, sizeOf, typeInfo, hq, hs, askVal, Value.cells, this]
theorem events_store87 (w : World) (n : Nat) (x : Int) (p : Bool) (a b : Value) (h : w.heap[n]? = some (.cells #[a, b] 87 (0, 0))) : ∀ e ∈ (Instr.storeAt 87 (.pointer (some ⟨n, 0, none⟩)) (askVal x p)).events Try.prog w #[], ∃ ad, e.loc = .cell ad ∧ ad.block = n := by
 have := events_store2 (P := Try.prog) h (x := .int .i64 x) (y := .bool p) rfl rfl
 have hi : (Try.prog.info? 87).map (·.size) = some 2 := by kernel_rfl
 cases hq : Try.prog.info? 87 with
 | none => simp [hq] at hi
 | some i =>
  have hs : i.size = 2 := by simpa [hq] using hi
  simpa [Instr.storeAt, Instr.sureAddr, storeVar, sizeOf, typeInfo, hq, hs, askVal, Value.cells] using this
theorem run_st87 (ev : Operand → Value) (o : Oper) (s t : Operand) (hop : o.op = .store 87 s t) (w : World) (n : Nat) (x : Int) (p : Bool) (a b : Value) (h1 : ev s = .pointer (some ⟨n, 0, none⟩)) (h2 : ev t = askVal x p) (h : w.heap[n]? = some (.cells #[a, b] 87 (0, 0))) :
  (execOp ev o).run Try.prog w = .ok .skip (lay2 w n 87 (.int .i64 x) (.bool p)) := by
 unfold execOp
 simp only [hop, h1, h2, Sem.run_bind, run_store87 w n x p a b h]
 rfl
theorem ev_st87 (ev : Operand → Value) (o : Oper) (s t : Operand) (hop : o.op = .store 87 s t) (w : World) (n : Nat) (x : Int) (p : Bool) (a b : Value) (h1 : ev s = .pointer (some ⟨n, 0, none⟩)) (h2 : ev t = askVal x p) (h : w.heap[n]? = some (.cells #[a, b] 87 (0, 0))) :
  ∀ e ∈ (execOp ev o).events Try.prog w #[], ∃ ad, e.loc = .cell ad ∧ ad.block = n := by
 intro e he
 have hh := events_store87 w n x p a b h e
 have hr := run_store87 w n x p a b h
 unfold execOp at he
 simp only [hop, h1, h2] at he
 apply hh
 simpa [Sem.events_bind, hr] using he
theorem ev_min2 (x y : Int) (w : World) : (Builtin.min_ #[2, 2] 2 #[.int .i64 x, .int .i64 y]).events Try.prog w #[] = #[] := by kernel_rfl
theorem ev_max2 (x y : Int) (w : World) : (Builtin.max_ #[2, 2] 2 #[.int .i64 x, .int .i64 y]).events Try.prog w #[] = #[] := by kernel_rfl
def gotOf (x : Int) (p : Bool) (lo hi : Int) : Int × Int := if p then (if lo < x then x else lo, hi) else (lo, if x < hi then x else hi)
section
variable {m : Bool} {Ro own : Nat → Prop} {Stop : (Nat → Prop) → Goroutine → World → Prop} {F : World → Prop}
theorem afterMono {F' : World → Prop} {g : Goroutine} (h : LW Try.prog m Ro Stop F own g) (hF : ∀ w, F' w → F w) : LW Try.prog m Ro Stop F' own g := fun w hw => h w (hF w hw)
set_option maxRecDepth 100000 in
set_option maxHeartbeats 16000000 in
theorem after_sel {b : Frame} (hkb : b.kind ≠ .early) {c : Bool → Nat} {j : Bool} {n : Nat} {x lo hi i : Int} {p : Bool} (hi0 : i = 0 ∨ i = 1) (hn : own n) (hc : Cl Ro own F) {fr : World → Prop} (hfr : Cl Ro own fr) (hput : ∀ w, fr w → fr (lay2 w n 87 (.int .i64 x) (.bool p)))
  (hF : ∀ w, F w → fr w ∧ ∃ a b, w.heap[n]? = some (.cells #[a, b] 87 (0, 0))) {k : List Item} {cs : List Frame} {v2 v3 v4 v5 v6 v7 v8 v9 v11 v12 v13 v14 v15 v16 v17 v18 v19 v20 v21 v22 v23 v24 v25 v26 v27 v29 v30 v31 v33 v34 v35 v36 v37 v38 v39 v40 v41 v42 v43 v44 v45 v46 v47 v48 v49 v50 v51 v52 v53 v54 v55 v56 v57 v58 v59 v60 v61 : Value}
  (hl : ∀ T : Array Value, T.size = 62 → T[0]? = some (.int .i64 (gotOf x p lo hi).1) → T[1]? = some (.int .i64 (gotOf x p lo hi).2) → T[5]? = some v5 → T[7]? = some v7 → T[8]? = some v8 → T[28]? = some (.int .i64 (i + 1)) → LW Try.prog m Ro Stop fr own (G (b.at ⟨T, []⟩ k) cs)) :
  LW Try.prog m Ro Stop F own (G (b.at ⟨#[.int .i64 lo, .int .i64 hi, v2, v3, v4, v5, v6, v7, v8, v9, .pointer (some ⟨n, 0, none⟩), v11, v12, v13, v14, v15, v16, v17, v18, v19, v20, v21, v22, v23, v24, v25, v26, v27, .int .i64 i, v29, v30, v31, commResult (cases2 c (askVal 0 false)) .select (j.toNat : Int) (askVal x p) true, v33, v34, v35, v36, v37, v38, v39, v40, v41, v42, v43, v44, v45, v46, v47, v48, v49, v50, v51, v52, v53, v54, v55, v56, v57, v58, v59, v60, v61], []⟩ (.inRegion ops11 [1, 2, 3] :: .code blk4 :: .code got25 :: .inBlock 3 :: .code reg17 :: k)) cs) := by
 delta ops11 blk4 got25 reg17 sel25 blk3 inner25 mid25 body25 code25
 dsimp only [Try.f25, Option.getD]
 have hcr : commResult (cases2 c (askVal 0 false)) .select (j.toNat : Int) (askVal x p) true = .tuple #[.int .i64 (j.toNat : Int), .bool true, if j then askVal 0 false else askVal x p, if j then askVal x p else askVal 0 false] := by
  cases j <;> simp [commResult, rcase, goInt]
 rw [hcr]
 have hwi : IntKind.i64.wrap (i + 1) = i + 1 := by rcases hi0 with rfl | rfl <;> rfl
 -- the cell behind the store
 have key : ∀ T : Array Value, LW Try.prog m Ro Stop (fun w => fr w ∧ w.heap[n]? = some (.cells #[.int .i64 x, .bool p] 87 (0, 0))) own (G (b.at ⟨T, []⟩ k) cs) → True := fun _ _ => trivial
 have hc2 : Cl Ro own (fun w => fr w ∧ w.heap[n]? = some (.cells #[.int .i64 x, .bool p] 87 (0, 0))) := fun w w₁ h hk => ⟨hfr _ _ h.1 hk, by rw [hk.keep n (.inl hn)]; exact h.2⟩
 cases j
 ·simp only [Bool.toNat_false, Bool.toNat_true, Bool.false_eq_true, if_false, if_true, Int.ofNat_zero, Int.ofNat_one, Int.ofNat_eq_natCast, Int.cast_ofNat_Int]
  iterate 3
   refine lw_op hc hkb rfl rfl fun w hF K hK => ?_
   go_simp
   refine hK _ (by rw [listed_nil (by simp [go_sem])]; simp) ?_
   clear hK K hF w
   try walk_nrm
  refine lw_region_end hc (lw_block hc ?_)
  refine lw_cond hc rfl ?_
  simp only [if_true]
  refine lw_region hc ?_
  simp only [List.size_toArray, List.length_cons, List.length_nil, Nat.reduceAdd, Nat.zero_add, List.range, List.range.loop]
  refine lw_op hc hkb rfl rfl fun w hF K hK => ?_
  go_simp
  refine hK _ (by rw [listed_nil (by simp [go_sem])]; simp) ?_
  clear hK K hF w
  try walk_nrm
  refine lw_put (n := n) (v := undef) hc hkb rfl rfl hn (F' := fun w => fr w ∧ w.heap[n]? = some (.cells #[.int .i64 x, .bool p] 87 (0, 0))) (fun w hw => ?_) (fun w hw e he => ?_) ?_
  ·obtain ⟨h1, a, b, h2⟩ := hF w hw
   refine ⟨lay2 w n 87 (.int .i64 x) (.bool p), .inl ⟨run_st87 _ _ _ _ rfl w n x p a b rfl rfl h2, rfl⟩, lay2_size, fun b hb => lay2_off hb, rfl, rfl, rfl, hput w h1, lay2_at (Array.getElem?_eq_some_iff.1 h2).1⟩
  ·obtain ⟨h1, a, b, h2⟩ := hF w hw
   obtain ⟨ad, h3, h4⟩ := ev_st87 _ _ _ _ rfl w n x p a b rfl rfl h2 e he
   unfold EvMine
   rw [h3]
   exact .inl (h4 ▸ hn)
  clear hc
  walk_nrm
  refine lw_region_end hc2 (lw_inBlock hc2 (lw_seq hc2 (lw_region hc2 ?_)))
  simp only [List.size_toArray, List.length_cons, List.length_nil, Nat.reduceAdd, Nat.zero_add, List.range, List.range.loop]
  refine lw_op hc2 hkb rfl rfl fun w hF K hK => ?_
  go_simp
  refine hK _ (by rw [listed_nil (by simp [go_sem])]; simp) ?_
  clear hK K hF w
  try walk_nrm
  refine lw_op hc2 hkb rfl rfl fun w hF K hK => ?_
  have hcell := two_cell1 hF.2
  go_simp
  refine hK _ (fun e he => ?_) ?_
  ·have hm := mem_listed he
   simp [go_sem, *] at hm
   subst hm
   exact .inl hn
  clear hK K hF hcell w
  try walk_nrm
  refine lw_region_end hc2 (lw_cond hc2 rfl ?_)
  cases p
  ·simp only [Bool.false_eq_true, if_false]
   refine lw_region hc2 ?_
   simp only [List.size_toArray, List.length_cons, List.length_nil, Nat.reduceAdd, Nat.zero_add, List.range, List.range.loop]
   iterate 2
    refine lw_op hc2 hkb rfl rfl fun w hF K hK => ?_
    go_simp
    refine hK _ (by rw [listed_nil (by simp [go_sem])]; simp) ?_
    clear hK K hF w
    try walk_nrm
   refine lw_op hc2 hkb rfl rfl fun w hF K hK => ?_
   have hcell := two_cell0 hF.2
   go_simp
   refine hK _ (fun e he => ?_) ?_
   ·have hm := mem_listed he
    simp [go_sem, *] at hm
    subst hm
    exact .inl hn
   clear hK K hF hcell w
   try walk_nrm
   iterate 2
    refine lw_op hc2 hkb rfl rfl fun w hF K hK => ?_
    go_simp
    refine hK _ (by rw [listed_nil (by simp [go_sem, ev_min2, ev_max2])]; simp) ?_
    clear hK K hF w
    try walk_nrm
   refine lw_region_end hc2 (lw_inBlock hc2 (lw_region hc2 ?_))
   simp only [List.size_toArray, List.length_cons, List.length_nil, Nat.reduceAdd, Nat.zero_add, List.range, List.range.loop]
   iterate 2
    refine lw_op hc2 hkb rfl rfl fun w hF K hK => ?_
    go_simp
    refine hK _ (by rw [listed_nil (by simp [go_sem])]; simp) ?_
    clear hK K hF w
    try walk_nrm
   refine lw_region_end hc2 ?_
   refine afterMono (hl _ ?_ ?_ ?_ rfl rfl rfl ?_) fun w hw => hw.1 <;> simp [gotOf]
  ·simp only [if_true]
   refine lw_region hc2 ?_
   simp only [List.size_toArray, List.length_cons, List.length_nil, Nat.reduceAdd, Nat.zero_add, List.range, List.range.loop]
   iterate 2
    refine lw_op hc2 hkb rfl rfl fun w hF K hK => ?_
    go_simp
    refine hK _ (by rw [listed_nil (by simp [go_sem])]; simp) ?_
    clear hK K hF w
    try walk_nrm
   refine lw_op hc2 hkb rfl rfl fun w hF K hK => ?_
   have hcell := two_cell0 hF.2
   go_simp
   refine hK _ (fun e he => ?_) ?_
   ·have hm := mem_listed he
    simp [go_sem, *] at hm
    subst hm
    exact .inl hn
   clear hK K hF hcell w
   try walk_nrm
   iterate 2
    refine lw_op hc2 hkb rfl rfl fun w hF K hK => ?_
    go_simp
    refine hK _ (by rw [listed_nil (by simp [go_sem, ev_min2, ev_max2])]; simp) ?_
    clear hK K hF w
    try walk_nrm
   refine lw_region_end hc2 (lw_inBlock hc2 (lw_region hc2 ?_))
   simp only [List.size_toArray, List.length_cons, List.length_nil, Nat.reduceAdd, Nat.zero_add, List.range, List.range.loop]
   iterate 2
    refine lw_op hc2 hkb rfl rfl fun w hF K hK => ?_
    go_simp
    refine hK _ (by rw [listed_nil (by simp [go_sem])]; simp) ?_
    clear hK K hF w
    try walk_nrm
   refine lw_region_end hc2 ?_
   refine afterMono (hl _ ?_ ?_ ?_ rfl rfl rfl ?_) fun w hw => hw.1 <;> simp [gotOf]
 ·simp only [Bool.toNat_false, Bool.toNat_true, Bool.false_eq_true, if_false, if_true, Int.ofNat_zero, Int.ofNat_one, Int.ofNat_eq_natCast, Int.cast_ofNat_Int]
  iterate 3
   refine lw_op hc hkb rfl rfl fun w hF K hK => ?_
   go_simp
   refine hK _ (by rw [listed_nil (by simp [go_sem])]; simp) ?_
   clear hK K hF w
   try walk_nrm
  refine lw_region_end hc (lw_block hc ?_)
  refine lw_cond hc rfl ?_
  simp only [Bool.false_eq_true, if_false]
  refine lw_cond hc rfl ?_
  simp only [if_true]
  refine lw_region hc ?_
  simp only [List.size_toArray, List.length_cons, List.length_nil, Nat.reduceAdd, Nat.zero_add, List.range, List.range.loop]
  refine lw_op hc hkb rfl rfl fun w hF K hK => ?_
  go_simp
  refine hK _ (by rw [listed_nil (by simp [go_sem])]; simp) ?_
  clear hK K hF w
  try walk_nrm
  refine lw_put (n := n) (v := undef) hc hkb rfl rfl hn (F' := fun w => fr w ∧ w.heap[n]? = some (.cells #[.int .i64 x, .bool p] 87 (0, 0))) (fun w hw => ?_) (fun w hw e he => ?_) ?_
  ·obtain ⟨h1, a, b, h2⟩ := hF w hw
   refine ⟨lay2 w n 87 (.int .i64 x) (.bool p), .inl ⟨run_st87 _ _ _ _ rfl w n x p a b rfl rfl h2, rfl⟩, lay2_size, fun b hb => lay2_off hb, rfl, rfl, rfl, hput w h1, lay2_at (Array.getElem?_eq_some_iff.1 h2).1⟩
  ·obtain ⟨h1, a, b, h2⟩ := hF w hw
   obtain ⟨ad, h3, h4⟩ := ev_st87 _ _ _ _ rfl w n x p a b rfl rfl h2 e he
   unfold EvMine
   rw [h3]
   exact .inl (h4 ▸ hn)
  clear hc
  walk_nrm
  refine lw_region_end hc2 (lw_inBlock hc2 (lw_seq hc2 (lw_region hc2 ?_)))
  simp only [List.size_toArray, List.length_cons, List.length_nil, Nat.reduceAdd, Nat.zero_add, List.range, List.range.loop]
  refine lw_op hc2 hkb rfl rfl fun w hF K hK => ?_
  go_simp
  refine hK _ (by rw [listed_nil (by simp [go_sem])]; simp) ?_
  clear hK K hF w
  try walk_nrm
  refine lw_op hc2 hkb rfl rfl fun w hF K hK => ?_
  have hcell := two_cell1 hF.2
  go_simp
  refine hK _ (fun e he => ?_) ?_
  ·have hm := mem_listed he
   simp [go_sem, *] at hm
   subst hm
   exact .inl hn
  clear hK K hF hcell w
  try walk_nrm
  refine lw_region_end hc2 (lw_cond hc2 rfl ?_)
  cases p
  ·simp only [Bool.false_eq_true, if_false]
   refine lw_region hc2 ?_
   simp only [List.size_toArray, List.length_cons, List.length_nil, Nat.reduceAdd, Nat.zero_add, List.range, List.range.loop]
   iterate 2
    refine lw_op hc2 hkb rfl rfl fun w hF K hK => ?_
    go_simp
    refine hK _ (by rw [listed_nil (by simp [go_sem])]; simp) ?_
    clear hK K hF w
    try walk_nrm
   refine lw_op hc2 hkb rfl rfl fun w hF K hK => ?_
   have hcell := two_cell0 hF.2
   go_simp
   refine hK _ (fun e he => ?_) ?_
   ·have hm := mem_listed he
    simp [go_sem, *] at hm
    subst hm
    exact .inl hn
   clear hK K hF hcell w
   try walk_nrm
   iterate 2
    refine lw_op hc2 hkb rfl rfl fun w hF K hK => ?_
    go_simp
    refine hK _ (by rw [listed_nil (by simp [go_sem, ev_min2, ev_max2])]; simp) ?_
    clear hK K hF w
    try walk_nrm
   refine lw_region_end hc2 (lw_inBlock hc2 (lw_region hc2 ?_))
   simp only [List.size_toArray, List.length_cons, List.length_nil, Nat.reduceAdd, Nat.zero_add, List.range, List.range.loop]
   iterate 2
    refine lw_op hc2 hkb rfl rfl fun w hF K hK => ?_
    go_simp
    refine hK _ (by rw [listed_nil (by simp [go_sem])]; simp) ?_
    clear hK K hF w
    try walk_nrm
   refine lw_region_end hc2 ?_
   refine afterMono (hl _ ?_ ?_ ?_ rfl rfl rfl ?_) fun w hw => hw.1 <;> simp [gotOf]
  ·simp only [if_true]
   refine lw_region hc2 ?_
   simp only [List.size_toArray, List.length_cons, List.length_nil, Nat.reduceAdd, Nat.zero_add, List.range, List.range.loop]
   iterate 2
    refine lw_op hc2 hkb rfl rfl fun w hF K hK => ?_
    go_simp
    refine hK _ (by rw [listed_nil (by simp [go_sem])]; simp) ?_
    clear hK K hF w
    try walk_nrm
   refine lw_op hc2 hkb rfl rfl fun w hF K hK => ?_
   have hcell := two_cell0 hF.2
   go_simp
   refine hK _ (fun e he => ?_) ?_
   ·have hm := mem_listed he
    simp [go_sem, *] at hm
    subst hm
    exact .inl hn
   clear hK K hF hcell w
   try walk_nrm
   iterate 2
    refine lw_op hc2 hkb rfl rfl fun w hF K hK => ?_
    go_simp
    refine hK _ (by rw [listed_nil (by simp [go_sem, ev_min2, ev_max2])]; simp) ?_
    clear hK K hF w
    try walk_nrm
   refine lw_region_end hc2 (lw_inBlock hc2 (lw_region hc2 ?_))
   simp only [List.size_toArray, List.length_cons, List.length_nil, Nat.reduceAdd, Nat.zero_add, List.range, List.range.loop]
   iterate 2
    refine lw_op hc2 hkb rfl rfl fun w hF K hK => ?_
    go_simp
    refine hK _ (by rw [listed_nil (by simp [go_sem])]; simp) ?_
    clear hK K hF w
    try walk_nrm
   refine lw_region_end hc2 ?_
   refine afterMono (hl _ ?_ ?_ ?_ rfl rfl rfl ?_) fun w hw => hw.1 <;> simp [gotOf]
end
end Go.Proofs.Ytjgleaakgbnjgaa.Par
end

section
/- -/
namespace Go.Proofs.Ytjgleaakgbnjgaa.Par
open Go Go.Conc
noncomputable def mid4 : Code := match mid25 with | .seq _ (.seq _ c) => c | _ => .skip
noncomputable def mid5 : Code := match mid4 with | .seq _ c => c | _ => .skip
noncomputable def ops4 : Array Oper := match mid25 with | .seq _ (.seq (.region _ o _) _) => o | _ => #[]
noncomputable def ops5 : Array Oper := match mid4 with | .seq (.region _ o _) _ => o | _ => #[]
theorem chan84 : (Try.prog.underlying 84).bind (fun t => match t with | .chan _ e => some e | _ => none) = some 87 := by kernel_rfl
theorem info87b : (Try.prog.info? 87).map (·.bytes) = some 16 := by kernel_rfl
theorem mk84 (w : World) : (Instr.makeChan 84 (.int .i64 1)).run Try.prog w = .ok (.chan (some w.heap.size)) (w.alloc (.chan 1 #[] false 0 0 false)) ∧ (Instr.makeChan 84 (.int .i64 1)).events Try.prog w #[] = #[] := by
 have h1 := chan84
 have h2 := info87b
 cases hu : Try.prog.underlying 84 with
 | none => rw [hu] at h1; cases h1
 | some t =>
  rw [hu] at h1
  cases t <;> simp at h1
  subst h1
  cases hi : Try.prog.info? 87 with
  | none => rw [hi] at h2; cases h2
  | some i =>
   rw [hi] at h2
   simp at h2
   exact ⟨run_makeChan hu hi .i64 1 (by omega) (by omega), events_makeChan hu hi .i64 1 (by omega) (by omega) _⟩
theorem run_mk25 (ev : Operand → Value) (o : Oper) (hop : o.op = .makeChan 84 (.const (.int .i64 1))) (hev : ev (.const (.int .i64 1)) = .int .i64 1) (w : World) : (execOp ev o).run Try.prog w = .ok (.value (.chan (some w.heap.size))) (w.alloc (.chan 1 #[] false 0 0 false)) := by
 obtain ⟨dst, op, type, pos, after, guard⟩ := o
 simp only at hop
 subst hop
 have h := (mk84 w).1
 unfold execOp
 simp only [hev, Sem.run_bind, h]
 rfl
theorem ev_mk25 (ev : Operand → Value) (o : Oper) (hop : o.op = .makeChan 84 (.const (.int .i64 1))) (hev : ev (.const (.int .i64 1)) = .int .i64 1) (w : World) : (execOp ev o).events Try.prog w #[] = #[] := by
 obtain ⟨dst, op, type, pos, after, guard⟩ := o
 simp only at hop
 subst hop
 have h := (mk84 w).1
 have h' := (mk84 w).2
 unfold execOp
 simp only [hev, Sem.events_bind, h, h']
 rfl
theorem run_al25 (ev : Operand → Value) (o : Oper) (hop : o.op = .alloc 87) (w : World) : (execOp ev o).run Try.prog w = .ok (.value (.pointer (some ⟨w.heap.size, 0, none⟩))) (w.alloc (.cells #[.int .i64 0, .bool false] 87 (0, 0))) := by
 obtain ⟨dst, op, type, pos, after, guard⟩ := o
 simp only at hop
 subst hop
 kernel_rfl
theorem ev_al25 (ev : Operand → Value) (o : Oper) (hop : o.op = .alloc 87) (w : World) : (execOp ev o).events Try.prog w #[] = #[] := by
 obtain ⟨dst, op, type, pos, after, guard⟩ := o
 simp only at hop
 subst hop
 kernel_rfl
theorem ev_mf25 (v : Value) (w : World) : (Instr.makeFunc (.func 51) #[] #[v]).events Try.prog w #[] = #[] := by kernel_rfl
theorem ev_sel25 (ev : Operand → Value) (o : Oper) (hop : o.op = .select #[{ chan := Operand.tmp 30, send := none, elem := 87 }, { chan := Operand.tmp 31, send := none, elem := 87 }] true) (w : World) (c1 c2 : Nat) (h1 : ev (.tmp 30) = .chan (some c1)) (h2 : ev (.tmp 31) = .chan (some c2)) : (execOp ev o).events Try.prog w #[] = #[] := by
 obtain ⟨dst, op, type, pos, after, guard⟩ := o
 simp only at hop
 subst hop
 unfold execOp
 simp [h1, h2]
section
variable {m : Bool} {Ro own : Nat → Prop} {Stop : (Nat → Prop) → Goroutine → World → Prop} {F : World → Prop} {b : Frame} {k : List Item} {cs : List Frame} {lo hi : Int} {T : Array Value} {v5 : Value}
set_option maxRecDepth 100000 in
set_option maxHeartbeats 8000000 in
theorem body_exit (hkb : b.kind ≠ .early) (hc : Cl Ro own F) (hb : Fair lo hi) (hle : ¬3 < hi - lo) {C : Code} (hT : T.size = 62) (h0 : T[0]? = some (.int .i64 lo)) (h1 : T[1]? = some (.int .i64 hi)) (h5 : T[5]? = some v5)
  (hl : ∀ T : Array Value, T.size = 62 → T[0]? = some (.int .i64 lo) → T[1]? = some (.int .i64 hi) → T[5]? = some v5 → LW Try.prog m Ro Stop F own (G (b.at ⟨T, []⟩ k) cs)) : LW Try.prog m Ro Stop F own (G (b.at ⟨T, []⟩ (.code body25 :: .inLoop C :: .inBlock 0 :: k)) cs) := by
 obtain ⟨v0, v1, v2, v3, v4, v5, v6, v7, v8, v9, v10, v11, v12, v13, v14, v15, v16, v17, v18, v19, v20, v21, v22, v23, v24, v25, v26, v27, v28, v29, v30, v31, v32, v33, v34, v35, v36, v37, v38, v39, v40, v41, v42, v43, v44, v45, v46, v47, v48, v49, v50, v51, v52, v53, v54, v55, v56, v57, v58, v59, v60, v61, rfl⟩ := array62 T hT
 simp only [List.getElem?_toArray, List.getElem?_cons_succ, List.getElem?_cons_zero, Option.some.injEq] at h0 h1 h5
 subst h0 h1 h5
 obtain ⟨b1, b2, b3, b4⟩ := hb
 have w1 : IntKind.wrap .i64 (hi - lo) = hi - lo := wrap_in _ (by omega) (by omega)
 delta body25 code25
 dsimp only [Try.f25, Option.getD]
 refine lw_seq hc (lw_seq hc (lw_region hc ?_))
 simp only [List.size_toArray, List.length_cons, List.length_nil, Nat.reduceAdd, Nat.zero_add, List.range, List.range.loop]
 iterate 4
  refine lw_op hc hkb rfl rfl fun w hF K hK => ?_
  go_simp
  refine hK _ (by rw [listed_nil (by simp [go_sem])]; simp) ?_
  clear hK K hF w
  try walk_nrm
 refine lw_region_end hc (lw_cond hc rfl ?_)
 have hd : decide (3 < hi - lo) = false := decide_eq_false hle
 simp only [hd, Bool.false_eq_true, if_false]
 refine lw_exit hc rfl ?_
 exact hl _ rfl rfl rfl rfl
set_option maxRecDepth 100000 in
set_option maxHeartbeats 8000000 in
theorem body_in (hkb : b.kind ≠ .early) (hc : Cl Ro own F) (hb : Fair lo hi) (hle : 3 < hi - lo) {C : Code} (hT : T.size = 62) (h0 : T[0]? = some (.int .i64 lo)) (h1 : T[1]? = some (.int .i64 hi)) (h5 : T[5]? = some v5)
  (hdr : ∀ w, F w → F { w with drawn := w.drawn + 1 }) {F1 : Nat → World → Prop} {F2 : Nat → Nat → World → Prop} (hc1 : ∀ n, Cl Ro (fun b => own b ∨ b = n) (F1 n)) (hc2 : ∀ n n', Cl Ro (fun b => (own b ∨ b = n) ∨ b = n') (F2 n n'))
  (hF1 : ∀ w, F w → F1 w.heap.size (w.alloc (.chan 1 #[] false 0 0 false))) (hF2 : ∀ n w, F1 n w → F2 n w.heap.size (w.alloc (.chan 1 #[] false 0 0 false)))
  (hl : ∀ (n n' : Nat) (c : Bool → Nat), (c = fun j => if j then n' else n) ∨ (c = fun j => if j then n else n') → ∀ T : Array Value, T.size = 62 → T[0]? = some (.int .i64 lo) → T[1]? = some (.int .i64 hi) → T[5]? = some v5 → T[7]? = some (.chan (some (c false))) → T[8]? = some (.chan (some (c true))) →
   LW Try.prog m Ro Stop (F2 n n') (fun b => (own b ∨ b = n) ∨ b = n') (G (b.at ⟨T, []⟩ (.code mid25 :: .inBlock 1 :: k)) cs)) : LW Try.prog m Ro Stop F own (G (b.at ⟨T, []⟩ (.code body25 :: k)) cs) := by
 obtain ⟨v0, v1, v2, v3, v4, v5, v6, v7, v8, v9, v10, v11, v12, v13, v14, v15, v16, v17, v18, v19, v20, v21, v22, v23, v24, v25, v26, v27, v28, v29, v30, v31, v32, v33, v34, v35, v36, v37, v38, v39, v40, v41, v42, v43, v44, v45, v46, v47, v48, v49, v50, v51, v52, v53, v54, v55, v56, v57, v58, v59, v60, v61, rfl⟩ := array62 T hT
 simp only [List.getElem?_toArray, List.getElem?_cons_succ, List.getElem?_cons_zero, Option.some.injEq] at h0 h1 h5
 subst h0 h1 h5
 obtain ⟨b1, b2, b3, b4⟩ := hb
 have w1 : IntKind.wrap .i64 (hi - lo) = hi - lo := wrap_in _ (by omega) (by omega)
 delta body25 code25
 dsimp only [Try.f25, Option.getD]
 refine lw_seq hc (lw_seq hc (lw_region hc ?_))
 simp only [List.size_toArray, List.length_cons, List.length_nil, Nat.reduceAdd, Nat.zero_add, List.range, List.range.loop]
 iterate 4
  refine lw_op hc hkb rfl rfl fun w hF K hK => ?_
  go_simp
  refine hK _ (by rw [listed_nil (by simp [go_sem])]; simp) ?_
  clear hK K hF w
  try walk_nrm
 refine lw_region_end hc (lw_cond hc rfl ?_)
 have hd : decide (3 < hi - lo) = true := decide_eq_true hle
 simp only [hd, if_true]
 refine lw_skip hc (lw_block hc (lw_seq hc ?_))
 refine lw_draw hc hdr (by kernel_rfl) fun t => ?_
 rcases sched2 _ t (by kernel_rfl) (by kernel_rfl) (by kernel_rfl) (by kernel_rfl) (by kernel_rfl) (by kernel_rfl) (by kernel_rfl) with e | e | e <;> rw [e] <;> clear e
 ·refine lw_new (v := fun n => .chan (some n)) (ob := .chan 1 #[] false 0 0 false) (F' := F1) hc hkb rfl rfl (fun w _ => run_mk25 _ _ rfl rfl w) (fun w _ e he => by rw [ev_mk25 _ _ rfl rfl w] at he; simp at he) hF1 ?_
  intro n
  walk_nrm
  refine lw_new (v := fun n => .chan (some n)) (ob := .chan 1 #[] false 0 0 false) (F' := F2 n) (hc1 n) hkb rfl rfl (fun w _ => run_mk25 _ _ rfl rfl w) (fun w _ e he => by rw [ev_mk25 _ _ rfl rfl w] at he; simp at he) (hF2 n) ?_
  intro n'
  walk_nrm
  iterate 2
   refine lw_op (hc2 n n') hkb rfl rfl fun w hF K hK => ?_
   go_simp
   refine hK _ (by rw [listed_nil (by simp [go_sem])]; simp) ?_
   clear hK K hF w
   try walk_nrm
  refine lw_region_end (hc2 n n') ?_
  exact hl n n' (fun j => if j then n' else n) (.inl rfl) _ rfl rfl rfl rfl rfl rfl
 ·refine lw_new (v := fun n => .chan (some n)) (ob := .chan 1 #[] false 0 0 false) (F' := F1) hc hkb rfl rfl (fun w _ => run_mk25 _ _ rfl rfl w) (fun w _ e he => by rw [ev_mk25 _ _ rfl rfl w] at he; simp at he) hF1 ?_
  intro n
  walk_nrm
  refine lw_op (hc1 n) hkb rfl rfl fun w hF K hK => ?_
  go_simp
  refine hK _ (by rw [listed_nil (by simp [go_sem])]; simp) ?_
  clear hK K hF w
  try walk_nrm
  refine lw_new (v := fun n => .chan (some n)) (ob := .chan 1 #[] false 0 0 false) (F' := F2 n) (hc1 n) hkb rfl rfl (fun w _ => run_mk25 _ _ rfl rfl w) (fun w _ e he => by rw [ev_mk25 _ _ rfl rfl w] at he; simp at he) (hF2 n) ?_
  intro n'
  walk_nrm
  refine lw_op (hc2 n n') hkb rfl rfl fun w hF K hK => ?_
  go_simp
  refine hK _ (by rw [listed_nil (by simp [go_sem])]; simp) ?_
  clear hK K hF w
  try walk_nrm
  refine lw_region_end (hc2 n n') ?_
  exact hl n n' (fun j => if j then n' else n) (.inl rfl) _ rfl rfl rfl rfl rfl rfl
 ·refine lw_new (v := fun n => .chan (some n)) (ob := .chan 1 #[] false 0 0 false) (F' := F1) hc hkb rfl rfl (fun w _ => run_mk25 _ _ rfl rfl w) (fun w _ e he => by rw [ev_mk25 _ _ rfl rfl w] at he; simp at he) hF1 ?_
  intro n
  walk_nrm
  refine lw_new (v := fun n => .chan (some n)) (ob := .chan 1 #[] false 0 0 false) (F' := F2 n) (hc1 n) hkb rfl rfl (fun w _ => run_mk25 _ _ rfl rfl w) (fun w _ e he => by rw [ev_mk25 _ _ rfl rfl w] at he; simp at he) (hF2 n) ?_
  intro n'
  walk_nrm
  iterate 2
   refine lw_op (hc2 n n') hkb rfl rfl fun w hF K hK => ?_
   go_simp
   refine hK _ (by rw [listed_nil (by simp [go_sem])]; simp) ?_
   clear hK K hF w
   try walk_nrm
  refine lw_region_end (hc2 n n') ?_
  exact hl n n' (fun j => if j then n else n') (.inr rfl) _ rfl rfl rfl rfl rfl rfl
set_option maxRecDepth 100000 in
set_option maxHeartbeats 8000000 in
theorem mid_a (hkb : b.kind ≠ .early) (hc : Cl Ro own F) (hb : Fair lo hi) (hd : 0 ≤ hi - lo) {hbx : Nat} {c1 c2 : Value} (hT : T.size = 62) (h0 : T[0]? = some (.int .i64 lo)) (h1 : T[1]? = some (.int .i64 hi)) (h5 : T[5]? = some (.pointer (some ⟨hbx, 0, none⟩))) (h7 : T[7]? = some c1) (h8 : T[8]? = some c2)
  (hl : ∀ T : Array Value, T.size = 62 → T[0]? = some (.int .i64 lo) → T[1]? = some (.int .i64 hi) → T[5]? = some (.pointer (some ⟨hbx, 0, none⟩)) → T[7]? = some c1 → T[8]? = some c2 → T[9]? = some (.func (.func 51) #[] #[.pointer (some ⟨hbx, 0, none⟩)]) → T[18]? = some (.func (.func 51) #[] #[.pointer (some ⟨hbx, 0, none⟩)]) → T[19]? = some c1 → T[22]? = some (.int .i64 (thirdAt lo hi 1)) →
   LW Try.prog m Ro Stop F own (G (b.at ⟨T, []⟩ (.inRegion ops4 [5] :: .code mid4 :: k)) cs)) : LW Try.prog m Ro Stop F own (G (b.at ⟨T, []⟩ (.code mid25 :: k)) cs) := by
 obtain ⟨v0, v1, v2, v3, v4, v5, v6, v7, v8, v9, v10, v11, v12, v13, v14, v15, v16, v17, v18, v19, v20, v21, v22, v23, v24, v25, v26, v27, v28, v29, v30, v31, v32, v33, v34, v35, v36, v37, v38, v39, v40, v41, v42, v43, v44, v45, v46, v47, v48, v49, v50, v51, v52, v53, v54, v55, v56, v57, v58, v59, v60, v61, rfl⟩ := array62 T hT
 simp only [List.getElem?_toArray, List.getElem?_cons_succ, List.getElem?_cons_zero, Option.some.injEq] at h0 h1 h5 h7 h8
 subst h0 h1 h5 h7 h8
 delta mid25 body25 code25
 dsimp only [Try.f25, Option.getD]
 refine lw_seq hc (lw_region hc ?_)
 simp only [List.size_toArray, List.length_cons, List.length_nil, Nat.reduceAdd, Nat.zero_add, List.range, List.range.loop]
 iterate 2
  refine lw_op hc hkb rfl rfl fun w hF K hK => ?_
  go_simp
  refine hK _ (by rw [listed_nil (by simp [go_sem, ev_mf25])]; simp) ?_
  clear hK K hF w
  try walk_nrm
 refine lw_region_end hc (lw_seq hc (lw_region hc ?_))
 simp only [List.size_toArray, List.length_cons, List.length_nil, Nat.reduceAdd, Nat.zero_add, List.range, List.range.loop]
 iterate 4
  refine lw_op hc hkb rfl rfl fun w hF K hK => ?_
  go_simp
  refine hK _ (by rw [listed_nil (by simp [go_sem])]; simp) ?_
  clear hK K hF w
  try walk_nrm
 refine lw_callf hc hkb rfl rfl rfl Try.func52 rfl rfl ?_
 walk_nrm
 refine third_live hc hb hd (.inl rfl) ?_
 rw [Frame.finish_at]
 walk_nrm
 exact hl _ rfl rfl rfl rfl rfl rfl rfl rfl rfl rfl
set_option maxRecDepth 100000 in
set_option maxHeartbeats 8000000 in
theorem mid_b (hkb : b.kind ≠ .early) (hc : Cl Ro own F) (hb : Fair lo hi) (hd : 0 ≤ hi - lo) {hbx : Nat} {c1 c2 : Value} (hT : T.size = 62) (h0 : T[0]? = some (.int .i64 lo)) (h1 : T[1]? = some (.int .i64 hi)) (h5 : T[5]? = some (.pointer (some ⟨hbx, 0, none⟩))) (h7 : T[7]? = some c1) (h8 : T[8]? = some c2) (h9 : T[9]? = some (.func (.func 51) #[] #[.pointer (some ⟨hbx, 0, none⟩)]))
  (hl : ∀ T : Array Value, T.size = 62 → T[0]? = some (.int .i64 lo) → T[1]? = some (.int .i64 hi) → T[5]? = some (.pointer (some ⟨hbx, 0, none⟩)) → T[7]? = some c1 → T[8]? = some c2 → T[23]? = some (.func (.func 51) #[] #[.pointer (some ⟨hbx, 0, none⟩)]) → T[24]? = some c2 → T[27]? = some (.int .i64 (thirdAt lo hi 2)) →
   LW Try.prog m Ro Stop F own (G (b.at ⟨T, []⟩ (.inRegion ops5 [5] :: .code mid5 :: k)) cs)) : LW Try.prog m Ro Stop F own (G (b.at ⟨T, []⟩ (.inRegion ops4 [] :: .code mid4 :: k)) cs) := by
 obtain ⟨v0, v1, v2, v3, v4, v5, v6, v7, v8, v9, v10, v11, v12, v13, v14, v15, v16, v17, v18, v19, v20, v21, v22, v23, v24, v25, v26, v27, v28, v29, v30, v31, v32, v33, v34, v35, v36, v37, v38, v39, v40, v41, v42, v43, v44, v45, v46, v47, v48, v49, v50, v51, v52, v53, v54, v55, v56, v57, v58, v59, v60, v61, rfl⟩ := array62 T hT
 simp only [List.getElem?_toArray, List.getElem?_cons_succ, List.getElem?_cons_zero, Option.some.injEq] at h0 h1 h5 h7 h8 h9
 subst h0 h1 h5 h7 h8 h9
 delta ops4 mid4 mid25 body25 code25
 dsimp only [Try.f25, Option.getD]
 refine lw_region_end hc (lw_seq hc (lw_region hc ?_))
 simp only [List.size_toArray, List.length_cons, List.length_nil, Nat.reduceAdd, Nat.zero_add, List.range, List.range.loop]
 iterate 4
  refine lw_op hc hkb rfl rfl fun w hF K hK => ?_
  go_simp
  refine hK _ (by rw [listed_nil (by simp [go_sem])]; simp) ?_
  clear hK K hF w
  try walk_nrm
 refine lw_callf hc hkb rfl rfl rfl Try.func52 rfl rfl ?_
 walk_nrm
 refine third_live hc hb hd (.inr rfl) ?_
 rw [Frame.finish_at]
 walk_nrm
 exact hl _ rfl rfl rfl rfl rfl rfl rfl rfl rfl
set_option maxRecDepth 100000 in
set_option maxHeartbeats 8000000 in
theorem mid_c (hkb : b.kind ≠ .early) (hc : Cl Ro own F) {c1 c2 : Value} (hT : T.size = 62) (h0 : T[0]? = some (.int .i64 lo)) (h1 : T[1]? = some (.int .i64 hi)) (h5 : T[5]? = some v5) (h7 : T[7]? = some c1) (h8 : T[8]? = some c2)
  (hl : ∀ T : Array Value, T.size = 62 → T[0]? = some (.int .i64 lo) → T[1]? = some (.int .i64 hi) → T[5]? = some v5 → T[7]? = some c1 → T[8]? = some c2 → T[28]? = some (.int .i64 0) →
   LW Try.prog m Ro Stop F own (G (b.at ⟨T, []⟩ (.code inner25 :: .inLoop inner25 :: .inBlock 2 :: k)) cs)) : LW Try.prog m Ro Stop F own (G (b.at ⟨T, []⟩ (.inRegion ops5 [] :: .code mid5 :: k)) cs) := by
 obtain ⟨v0, v1, v2, v3, v4, v5, v6, v7, v8, v9, v10, v11, v12, v13, v14, v15, v16, v17, v18, v19, v20, v21, v22, v23, v24, v25, v26, v27, v28, v29, v30, v31, v32, v33, v34, v35, v36, v37, v38, v39, v40, v41, v42, v43, v44, v45, v46, v47, v48, v49, v50, v51, v52, v53, v54, v55, v56, v57, v58, v59, v60, v61, rfl⟩ := array62 T hT
 simp only [List.getElem?_toArray, List.getElem?_cons_succ, List.getElem?_cons_zero, Option.some.injEq] at h0 h1 h5 h7 h8
 subst h0 h1 h5 h7 h8
 delta ops5 mid5 mid4 mid25 body25 code25
 dsimp only [Try.f25, Option.getD]
 refine lw_region_end hc (lw_seq hc (lw_region hc ?_))
 simp only [List.size_toArray, List.length_cons, List.length_nil, Nat.reduceAdd, Nat.zero_add, List.range, List.range.loop]
 refine lw_op hc hkb rfl rfl fun w hF K hK => ?_
 go_simp
 refine hK _ (by rw [listed_nil (by simp [go_sem])]; simp) ?_
 clear hK K hF w
 try walk_nrm
 refine lw_region_end hc (lw_block hc (lw_loop hc ?_))
 exact hl _ rfl rfl rfl rfl rfl rfl rfl
set_option maxRecDepth 100000 in
set_option maxHeartbeats 8000000 in
theorem inner_exit (hkb : b.kind ≠ .early) (hc : Cl Ro own F) {C : Code} (hT : T.size = 62) (h0 : T[0]? = some (.int .i64 lo)) (h1 : T[1]? = some (.int .i64 hi)) (h5 : T[5]? = some v5) (h28 : T[28]? = some (.int .i64 2))
  (hl : ∀ T : Array Value, T.size = 62 → T[0]? = some (.int .i64 lo) → T[1]? = some (.int .i64 hi) → T[5]? = some v5 → LW Try.prog m Ro Stop F own (G (b.at ⟨T, []⟩ k) cs)) : LW Try.prog m Ro Stop F own (G (b.at ⟨T, []⟩ (.code inner25 :: .inLoop C :: .inBlock 2 :: k)) cs) := by
 obtain ⟨v0, v1, v2, v3, v4, v5, v6, v7, v8, v9, v10, v11, v12, v13, v14, v15, v16, v17, v18, v19, v20, v21, v22, v23, v24, v25, v26, v27, v28, v29, v30, v31, v32, v33, v34, v35, v36, v37, v38, v39, v40, v41, v42, v43, v44, v45, v46, v47, v48, v49, v50, v51, v52, v53, v54, v55, v56, v57, v58, v59, v60, v61, rfl⟩ := array62 T hT
 simp only [List.getElem?_toArray, List.getElem?_cons_succ, List.getElem?_cons_zero, Option.some.injEq] at h0 h1 h5 h28
 subst h0 h1 h5 h28
 delta inner25 mid25 body25 code25
 dsimp only [Try.f25, Option.getD]
 refine lw_seq hc (lw_region hc ?_)
 simp only [List.size_toArray, List.length_cons, List.length_nil, Nat.reduceAdd, Nat.zero_add, List.range, List.range.loop]
 refine lw_op hc hkb rfl rfl fun w hF K hK => ?_
 go_simp
 refine hK _ (by rw [listed_nil (by simp [go_sem])]; simp) ?_
 clear hK K hF w
 try walk_nrm
 refine lw_region_end hc (lw_seq hc (lw_cond hc rfl ?_))
 simp only [Bool.false_eq_true, if_false]
 refine lw_exit hc rfl ?_
 exact hl _ rfl rfl rfl rfl
set_option maxRecDepth 100000 in
set_option maxHeartbeats 8000000 in
theorem inner_sel {Ro own : Nat → Prop} {F : World → Prop} (hkb : b.kind ≠ .early) (hc : Cl Ro own F) {c : Bool → Nat} {v : Bool → Value} {js : Bool → Prop} {K : Bool → (Nat → Prop) → Goroutine → World → Prop} {i : Int} (hi0 : i = 0 ∨ i = 1) {Fn : Nat → World → Prop} (hcn : ∀ n, Cl Ro (fun b => own b ∨ b = n) (Fn n))
  (hF : ∀ w, F w → Fn w.heap.size (w.alloc (.cells #[.int .i64 0, .bool false] 87 (0, 0)))) (hT : T.size = 62) (h0 : T[0]? = some (.int .i64 lo)) (h1 : T[1]? = some (.int .i64 hi)) (h5 : T[5]? = some v5) (h7 : T[7]? = some (.chan (some (c false)))) (h8 : T[8]? = some (.chan (some (c true)))) (h28 : T[28]? = some (.int .i64 i))
  (hK : ∀ (n : Nat) (v2 v3 v4 v6 v9 v11 v12 v13 v14 v15 v16 v17 v18 v19 v20 v21 v22 v23 v24 v25 v26 v27 v29 v30 v31 v33 v34 v35 v36 v37 v38 v39 v40 v41 v42 v43 v44 v45 v46 v47 v48 v49 v50 v51 v52 v53 v54 v55 v56 v57 v58 v59 v60 v61 : Value) (j : Bool) (w : World), js j → Fn n w → K j (fun b => own b ∨ b = n) (G (b.at ⟨#[.int .i64 lo, .int .i64 hi, v2, v3, v4, v5, v6, .chan (some (c false)), .chan (some (c true)), v9, .pointer (some ⟨n, 0, none⟩), v11, v12, v13, v14, v15, v16, v17, v18, v19, v20, v21, v22, v23, v24, v25, v26, v27, .int .i64 i, v29, v30, v31, commResult (cases2 c (askVal 0 false)) .select (j.toNat : Int) (v j) true, v33, v34, v35, v36, v37, v38, v39, v40, v41, v42, v43, v44, v45, v46, v47, v48, v49, v50, v51, v52, v53, v54, v55, v56, v57, v58, v59, v60, v61], []⟩ (.inRegion ops11 [1, 2, 3] :: .code blk4 :: .code got25 :: .inBlock 3 :: .code reg17 :: k)) cs) w) :
  LW Try.prog true Ro (SelStop Try.prog Ro c v (askVal 0 false) js K) F own (G (b.at ⟨T, []⟩ (.code inner25 :: k)) cs) := by
 obtain ⟨v0, v1, v2, v3, v4, v5, v6, v7, v8, v9, v10, v11, v12, v13, v14, v15, v16, v17, v18, v19, v20, v21, v22, v23, v24, v25, v26, v27, v28, v29, v30, v31, v32, v33, v34, v35, v36, v37, v38, v39, v40, v41, v42, v43, v44, v45, v46, v47, v48, v49, v50, v51, v52, v53, v54, v55, v56, v57, v58, v59, v60, v61, rfl⟩ := array62 T hT
 simp only [List.getElem?_toArray, List.getElem?_cons_succ, List.getElem?_cons_zero, Option.some.injEq] at h0 h1 h5 h7 h8 h28
 subst h0 h1 h5 h7 h8 h28
 delta inner25 mid25 body25 code25
 dsimp only [Try.f25, Option.getD]
 have hlt : decide (i < 2) = true := by rcases hi0 with rfl | rfl <;> rfl
 refine lw_seq hc (lw_region hc ?_)
 simp only [List.size_toArray, List.length_cons, List.length_nil, Nat.reduceAdd, Nat.zero_add, List.range, List.range.loop]
 refine lw_op hc hkb rfl rfl fun w hF K hK => ?_
 go_simp
 refine hK _ (by rw [listed_nil (by simp [go_sem])]; simp) ?_
 clear hK K hF w
 try walk_nrm
 refine lw_region_end hc (lw_seq hc (lw_cond hc rfl ?_))
 simp only [hlt, if_true]
 refine lw_skip hc (lw_seq hc (lw_block hc (lw_seq hc (lw_region hc ?_))))
 simp only [List.size_toArray, List.length_cons, List.length_nil, Nat.reduceAdd, Nat.zero_add, List.range, List.range.loop]
 refine lw_new (v := fun n => .pointer (some ⟨n, 0, none⟩)) (ob := .cells #[.int .i64 0, .bool false] 87 (0, 0)) (F' := Fn) hc hkb rfl rfl (fun w _ => run_al25 _ _ rfl w) (fun w _ e he => by rw [ev_al25 _ _ rfl w] at he; simp at he) hF ?_
 intro n
 walk_nrm
 refine lw_region_end (hcn n) (lw_seq (hcn n) (lw_seq (hcn n) (lw_seq (hcn n) (lw_region (hcn n) ?_))))
 simp only [List.size_toArray, List.length_cons, List.length_nil, Nat.reduceAdd, Nat.zero_add, List.range, List.range.loop]
 refine lw_op (hcn n) hkb rfl rfl fun w hF K hK => ?_
 go_simp
 refine hK _ (by rw [listed_nil (by simp [go_sem])]; simp) ?_
 clear hK K hF w
 try walk_nrm
 refine lw_region_end (hcn n) (lw_region (hcn n) ?_)
 simp only [List.size_toArray, List.length_cons, List.length_nil, Nat.reduceAdd, Nat.zero_add, List.range, List.range.loop]
 refine lw_op (hcn n) hkb rfl rfl fun w hF K hK => ?_
 go_simp
 refine hK _ (by rw [listed_nil (by simp [go_sem])]; simp) ?_
 clear hK K hF w
 try walk_nrm
 refine lw_region_end (hcn n) (lw_seq (hcn n) (lw_region (hcn n) ?_))
 simp only [List.size_toArray, List.length_cons, List.length_nil, Nat.reduceAdd, Nat.zero_add, List.range, List.range.loop]
 refine lw_stop fun w hw => ⟨rfl, fun w₁ hk => ⟨_, stepG_comm rfl rfl hkb (run_sel25 _ w₁ (c false) (c true) rfl rfl), fun e he => ?_, fun j hj => ?_⟩⟩
 ·have := mem_listed he
  rw [ev_sel25 _ _ rfl w₁ (c false) (c true) rfl rfl] at this
  simp at this
 ·have hw₁ := hcn n _ _ hw hk
  rw [core_G, finishComm_G]
  walk_nrm
  exact hK n _ _ _ _ _ _ _ _ _ _ _ _ _ _ _ _ _ _ _ _ _ _ _ _ _ _ _ _ _ _ _ _ _ _ _ _ _ _ _ _ _ _ _ _ _ _ _ _ _ _ _ _ _ _ j w₁ hj hw₁
end
end Go.Proofs.Ytjgleaakgbnjgaa.Par
end

section
/- -/
namespace Go.Proofs.Ytjgleaakgbnjgaa.Par
open Go Go.Conc
noncomputable def loop5 : Code := match tail25 with | .seq (.block _ (.loop c)) _ => c | _ => .skip
noncomputable def ret25 : Code := match tail25 with | .seq _ c => c | _ => .skip
noncomputable def ops18 : Array Oper := match loop5 with | .seq (.seq (.region _ o _) _) _ => o | _ => #[]
noncomputable def cond5 : Code := match loop5 with | .seq (.seq _ c) _ => c | _ => .skip
noncomputable def blk6 : Code := match loop5 with | .seq _ c => c | _ => .skip
theorem run_box25 (ev : Operand → Value) (o : Oper) (hop : o.op = .box 61 (.tmp 2)) (f : FuncId) (caps : Array Value) (hev : ev (.tmp 2) = .func (.func f) #[] caps) (w : World) : (execOp ev o).run Try.prog w = .ok (.value (.pointer (some ⟨w.heap.size, 0, none⟩))) (w.alloc (.cells #[.func (.func f) #[] caps] 61 (0, 0))) := by
 obtain ⟨dst, op, type, pos, after, guard⟩ := o
 simp only at hop
 subst hop
 unfold execOp
 simp only [hev]
 kernel_rfl
theorem ev_box25 (ev : Operand → Value) (o : Oper) (hop : o.op = .box 61 (.tmp 2)) (f : FuncId) (caps : Array Value) (hev : ev (.tmp 2) = .func (.func f) #[] caps) (w : World) : (execOp ev o).events Try.prog w #[] = #[] := by
 obtain ⟨dst, op, type, pos, after, guard⟩ := o
 simp only at hop
 subst hop
 unfold execOp
 simp only [hev]
 kernel_rfl
theorem run_go25 (ev : Operand → Value) (o : Oper) (c : Operand) (xs : Array Operand) (ts : Array TypeId) (hop : o.op = .go { callee := .value c, args := xs, argTypes := ts }) (f : FuncId) (caps : Array Value) (hev : ev c = .func (.func f) #[] caps) (w : World) :
  (execOp ev o).run Try.prog w = .ok (.spawn { target := .fn (.func f) caps, args := xs.map ev }) w ∧ (execOp ev o).events Try.prog w #[] = #[] := by
 obtain ⟨dst, op, type, pos, after, guard⟩ := o
 simp only at hop
 subst hop
 unfold execOp
 constructor
 ·simp [resolve, Deferred.ofValue, hev]
 ·simp [resolve, Deferred.ofValue, hev]
section
variable {m : Bool} {Ro own : Nat → Prop} {Stop : (Nat → Prop) → Goroutine → World → Prop} {F : World → Prop} {b : Frame} {k : List Item} {cs : List Frame} {lo hi : Int} {T : Array Value} {v5 : Value}
set_option maxRecDepth 100000 in
set_option maxHeartbeats 8000000 in
theorem last_in {kb : Frame} {c : Frame} {fh : FuncId} {caps : Array Value} (hkd : base 25 = kb) (hkb : kb.kind ≠ .early) (hc : Cl Ro own F) {F1 : Nat → World → Prop} (hc1 : ∀ n, Cl Ro (fun b => own b ∨ b = n) (F1 n)) (hF1 : ∀ w, F w → F1 w.heap.size (w.alloc (.cells #[.func (.func fh) #[] caps] 61 (0, 0))))
  (hl : ∀ (n : Nat) (T : Array Value), T.size = 62 → T[0]? = some (.int .i64 lo) → T[1]? = some (.int .i64 hi) → T[5]? = some (.pointer (some ⟨n, 0, none⟩)) →
   LW Try.prog m Ro Stop (F1 n) (fun b => own b ∨ b = n) (G (kb.at ⟨T, []⟩ (.code body25 :: .inLoop body25 :: .inBlock 0 :: .code tail25 :: [])) (c :: cs))) :
  LW Try.prog m Ro Stop F own (G (Frame.enter Try.prog 25 #[.int .i64 lo, .int .i64 hi, .func (.func fh) #[] caps] .normal) (c :: cs)) := by
 rw [enter_at _ Try.func25 rfl, hkd]
 simp only [Try.ntmps25, List.size_toArray, List.length_cons, List.length_nil, Nat.reduceAdd, Nat.reduceSub, Array.replicate_succ, Array.replicate_zero, List.push_toArray, List.append_toArray, List.nil_append, List.cons_append]
 refine lw_seq hc (lw_region hc ?_)
 simp only [List.size_toArray, List.length_cons, List.length_nil, Nat.reduceAdd, Nat.zero_add, List.range, List.range.loop]
 refine lw_new (v := fun n => .pointer (some ⟨n, 0, none⟩)) (ob := .cells #[.func (.func fh) #[] caps] 61 (0, 0)) (F' := F1) hc hkb rfl rfl (fun w _ => run_box25 _ _ rfl fh caps rfl w) (fun w _ e he => by rw [ev_box25 _ _ rfl fh caps rfl w] at he; simp at he) hF1 ?_
 intro n
 walk_nrm
 refine lw_op (hc1 n) hkb rfl rfl fun w hF K hK => ?_
 go_simp
 refine hK _ (by rw [listed_nil (by simp [go_sem])]; simp) ?_
 clear hK K hF w
 try walk_nrm
 refine lw_region_end (hc1 n) (lw_seq (hc1 n) (lw_block (hc1 n) (lw_loop (hc1 n) ?_)))
 exact hl n _ rfl rfl rfl rfl
set_option maxRecDepth 100000 in
set_option maxHeartbeats 8000000 in
theorem tail_near (hkb : b.kind ≠ .early) (hc : Cl Ro own F) (hb : Fair lo hi) (hle : ¬1 < hi - lo) {C : Code} (hT : T.size = 62) (h0 : T[0]? = some (.int .i64 lo)) (h1 : T[1]? = some (.int .i64 hi)) (h5 : T[5]? = some v5)
  (hl : ∀ T : Array Value, T.size = 62 → T[0]? = some (.int .i64 lo) → LW Try.prog m Ro Stop F own (G (b.at ⟨T, []⟩ k) cs)) : LW Try.prog m Ro Stop F own (G (b.at ⟨T, []⟩ (.code loop5 :: .inLoop C :: .inBlock 5 :: k)) cs) := by
 obtain ⟨v0, v1, v2, v3, v4, v5, v6, v7, v8, v9, v10, v11, v12, v13, v14, v15, v16, v17, v18, v19, v20, v21, v22, v23, v24, v25, v26, v27, v28, v29, v30, v31, v32, v33, v34, v35, v36, v37, v38, v39, v40, v41, v42, v43, v44, v45, v46, v47, v48, v49, v50, v51, v52, v53, v54, v55, v56, v57, v58, v59, v60, v61, rfl⟩ := array62 T hT
 simp only [List.getElem?_toArray, List.getElem?_cons_succ, List.getElem?_cons_zero, Option.some.injEq] at h0 h1 h5
 subst h0 h1 h5
 obtain ⟨b1, b2, b3, b4⟩ := hb
 have w1 : IntKind.wrap .i64 (hi - lo) = hi - lo := wrap_in _ (by omega) (by omega)
 have hd : decide (1 < hi - lo) = false := decide_eq_false hle
 delta loop5 tail25 code25
 dsimp only [Try.f25, Option.getD]
 refine lw_seq hc (lw_seq hc (lw_region hc ?_))
 simp only [List.size_toArray, List.length_cons, List.length_nil, Nat.reduceAdd, Nat.zero_add, List.range, List.range.loop]
 iterate 5
  refine lw_op hc hkb rfl rfl fun w hF K hK => ?_
  go_simp
  refine hK _ (by rw [listed_nil (by simp [go_sem])]; simp) ?_
  clear hK K hF w
  try walk_nrm
 iterate 4
  refine lw_unwanted hc rfl rfl ?_
  walk_nrm
 refine lw_op hc hkb rfl rfl fun w hF K hK => ?_
 go_simp
 refine hK _ (by rw [listed_nil (by simp [go_sem])]; simp) ?_
 clear hK K hF w
 try walk_nrm
 refine lw_region_end hc (lw_cond hc rfl ?_)
 simp only [Bool.false_eq_true, if_false]
 refine lw_exit hc rfl ?_
 exact hl _ rfl rfl
set_option maxRecDepth 100000 in
set_option maxHeartbeats 8000000 in
theorem tail_ask (hkb : b.kind ≠ .early) (hc : Cl Ro own F) (hb : Fair lo hi) (hle : 1 < hi - lo) {C : Code} {hbx : Nat} {fh : FuncId} {fn : Func} {caps : Array Value} (hf : Try.prog.funcs[fh]? = some fn) (hname : (fn.name == "runtime.NumGoroutine") = false) (hbody : fn.body.isSome = true)
  (hown : own hbx ∨ Ro hbx) (hcell : ∀ w, F w → w.cell? ⟨hbx, 0, none⟩ = some (.func (.func fh) #[] caps)) (hT : T.size = 62) (h0 : T[0]? = some (.int .i64 lo)) (h1 : T[1]? = some (.int .i64 hi)) (h5 : T[5]? = some (.pointer (some ⟨hbx, 0, none⟩)))
  (hl : ∀ T : Array Value, T.size = 62 → T[0]? = some (.int .i64 lo) → T[1]? = some (.int .i64 hi) → T[5]? = some (.pointer (some ⟨hbx, 0, none⟩)) → T[53]? = some (.bool true) →
   LW Try.prog m Ro Stop F own (G (Frame.enter Try.prog fh (#[.int .i64 (lo + 1)] ++ caps) .normal) (b.at ⟨T, []⟩ (.inRegion ops18 [8, 9] :: .code cond5 :: .code blk6 :: .inLoop C :: .inBlock 5 :: k) :: cs))) :
  LW Try.prog m Ro Stop F own (G (b.at ⟨T, []⟩ (.code loop5 :: .inLoop C :: .inBlock 5 :: k)) cs) := by
 obtain ⟨v0, v1, v2, v3, v4, v5, v6, v7, v8, v9, v10, v11, v12, v13, v14, v15, v16, v17, v18, v19, v20, v21, v22, v23, v24, v25, v26, v27, v28, v29, v30, v31, v32, v33, v34, v35, v36, v37, v38, v39, v40, v41, v42, v43, v44, v45, v46, v47, v48, v49, v50, v51, v52, v53, v54, v55, v56, v57, v58, v59, v60, v61, rfl⟩ := array62 T hT
 simp only [List.getElem?_toArray, List.getElem?_cons_succ, List.getElem?_cons_zero, Option.some.injEq] at h0 h1 h5
 subst h0 h1 h5
 obtain ⟨b1, b2, b3, b4⟩ := hb
 have w1 : IntKind.wrap .i64 (hi - lo) = hi - lo := wrap_in _ (by omega) (by omega)
 have w2 : IntKind.wrap .i64 (lo + 1) = lo + 1 := wrap_in _ (by omega) (by omega)
 have hd : decide (1 < hi - lo) = true := decide_eq_true hle
 delta loop5 tail25 code25
 dsimp only [Try.f25, Option.getD]
 refine lw_seq hc (lw_seq hc (lw_region hc ?_))
 simp only [List.size_toArray, List.length_cons, List.length_nil, Nat.reduceAdd, Nat.zero_add, List.range, List.range.loop]
 iterate 5
  refine lw_op hc hkb rfl rfl fun w hF K hK => ?_
  go_simp
  refine hK _ (by rw [listed_nil (by simp [go_sem])]; simp) ?_
  clear hK K hF w
  try walk_nrm
 refine lw_op hc hkb rfl rfl fun w hF K hK => ?_
 have hcl := hcell w hF
 go_simp
 refine hK _ (fun e he => ?_) ?_
 ·have hm := mem_listed he
  simp [go_sem, *] at hm
  subst hm
  exact hown.imp id fun x => ⟨x, rfl⟩
 clear hK K hF hcl w
 try walk_nrm
 iterate 2
  refine lw_op hc hkb rfl rfl fun w hF K hK => ?_
  go_simp
  refine hK _ (by rw [listed_nil (by simp [go_sem])]; simp) ?_
  clear hK K hF w
  try walk_nrm
 refine lw_callv hc hkb rfl rfl rfl rfl hf hname hbody ?_
 walk_nrm
 exact hl _ rfl rfl rfl rfl rfl
set_option maxRecDepth 100000 in
set_option maxHeartbeats 8000000 in
theorem tail_told (hkb : b.kind ≠ .early) (hc : Cl Ro own F) (hb : Fair lo hi) {C : Code} {p : Bool} (hT : T.size = 62) (h0 : T[0]? = some (.int .i64 lo)) (h1 : T[1]? = some (.int .i64 hi)) (h5 : T[5]? = some v5) (h53 : T[53]? = some (.bool true))
  (hf : p = false → ∀ T : Array Value, T.size = 62 → T[0]? = some (.int .i64 lo) → LW Try.prog m Ro Stop F own (G (b.at ⟨T, []⟩ k) cs))
  (ht : p = true → ∀ T : Array Value, T.size = 62 → T[0]? = some (.int .i64 (lo + 1)) → T[1]? = some (.int .i64 hi) → T[5]? = some v5 → LW Try.prog m Ro Stop F own (G (b.at ⟨T, []⟩ (.inLoop C :: .inBlock 5 :: k)) cs)) :
  LW Try.prog m Ro Stop F own (G ((b.at ⟨T, []⟩ (.inRegion ops18 [8, 9] :: .code cond5 :: .code blk6 :: .inLoop C :: .inBlock 5 :: k)).finish (.bool p)) cs) := by
 obtain ⟨v0, v1, v2, v3, v4, v5, v6, v7, v8, v9, v10, v11, v12, v13, v14, v15, v16, v17, v18, v19, v20, v21, v22, v23, v24, v25, v26, v27, v28, v29, v30, v31, v32, v33, v34, v35, v36, v37, v38, v39, v40, v41, v42, v43, v44, v45, v46, v47, v48, v49, v50, v51, v52, v53, v54, v55, v56, v57, v58, v59, v60, v61, rfl⟩ := array62 T hT
 simp only [List.getElem?_toArray, List.getElem?_cons_succ, List.getElem?_cons_zero, Option.some.injEq] at h0 h1 h5 h53
 subst h0 h1 h5 h53
 obtain ⟨b1, b2, b3, b4⟩ := hb
 have w2 : IntKind.wrap .i64 (lo + 1) = lo + 1 := wrap_in _ (by omega) (by omega)
 rw [Frame.finish_at]
 delta ops18 cond5 blk6 loop5 tail25 code25
 dsimp only [Try.f25, Option.getD]
 walk_nrm
 cases p
 ·refine lw_op hc hkb rfl rfl fun w hF K hK => ?_
  go_simp
  refine hK _ (by rw [listed_nil (by simp [go_sem])]; simp) ?_
  clear hK K hF w
  try walk_nrm
  refine lw_region_end hc (lw_cond hc rfl ?_)
  simp only [Bool.false_eq_true, if_false, if_true]
  refine lw_exit hc rfl ?_
  exact hf rfl _ rfl rfl
 ·refine lw_op hc hkb rfl rfl fun w hF K hK => ?_
  go_simp
  refine hK _ (by rw [listed_nil (by simp [go_sem])]; simp) ?_
  clear hK K hF w
  try walk_nrm
  refine lw_region_end hc (lw_cond hc rfl ?_)
  simp only [Bool.false_eq_true, if_false, if_true]
  refine lw_skip hc (lw_block hc (lw_region hc ?_))
  simp only [List.size_toArray, List.length_cons, List.length_nil, Nat.reduceAdd, Nat.zero_add, List.range, List.range.loop]
  iterate 3
   refine lw_op hc hkb rfl rfl fun w hF K hK => ?_
   go_simp
   refine hK _ (by rw [listed_nil (by simp [go_sem])]; simp) ?_
   clear hK K hF w
   try walk_nrm
  refine lw_region_end hc (lw_inBlock hc ?_)
  exact ht rfl _ rfl rfl rfl rfl
set_option maxRecDepth 100000 in
set_option maxHeartbeats 8000000 in
theorem last_out {kb c : Frame} (hkd : base 25 = kb) (hkb : kb.kind ≠ .early) (hc : Cl Ro own F) (hT : T.size = 62) (h0 : T[0]? = some (.int .i64 lo)) (hl : LW Try.prog m Ro Stop F own (G (c.finish (.int .i64 lo)) cs)) :
  LW Try.prog m Ro Stop F own (G (kb.at ⟨T, []⟩ (.code ret25 :: [])) (c :: cs)) := by
 obtain ⟨v0, v1, v2, v3, v4, v5, v6, v7, v8, v9, v10, v11, v12, v13, v14, v15, v16, v17, v18, v19, v20, v21, v22, v23, v24, v25, v26, v27, v28, v29, v30, v31, v32, v33, v34, v35, v36, v37, v38, v39, v40, v41, v42, v43, v44, v45, v46, v47, v48, v49, v50, v51, v52, v53, v54, v55, v56, v57, v58, v59, v60, v61, rfl⟩ := array62 T hT
 simp only [List.getElem?_toArray, List.getElem?_cons_succ, List.getElem?_cons_zero, Option.some.injEq] at h0
 subst h0
 delta ret25 tail25 code25
 dsimp only [Try.f25, Option.getD]
 refine lw_seq hc (lw_region hc ?_)
 simp only [List.size_toArray, List.length_cons, List.length_nil, Nat.reduceAdd, Nat.zero_add, List.range, List.range.loop]
 iterate 2
  refine lw_op hc hkb rfl rfl fun w hF K hK => ?_
  go_simp
  refine hK _ (by rw [listed_nil (by simp [go_sem])]; simp) ?_
  clear hK K hF w
  try walk_nrm
 refine lw_region_end hc (lw_ret hc (lw_leave1 (fn := Try.f25) (t := 6) hc (hkd ▸ rfl) rfl (hkd ▸ Try.func25) rfl ?_))
 exact hl
end
end Go.Proofs.Ytjgleaakgbnjgaa.Par
end

section
/- -/
namespace Go.Proofs.Ytjgleaakgbnjgaa.Par
open Go Go.Conc
section
variable {Q : Machine → Outcome → World → Trace → Prop}
def AllB (w : World) : Nat → Prop := fun b => b < w.heap.size
def NilB : Nat → Prop := fun _ => False
def Old (w₀ w : World) : Prop := Keeps (AllB w₀) NilB w₀ w
def CalmStop (P : Program) (Q : Machine → Outcome → World → Trace → Prop) : (Nat → Prop) → Goroutine → World → Prop := fun _ g w => Calm P Q g w
theorem calm_lw {P : Program} {g : Goroutine} {w : World} (h : LW P true NilB (CalmStop P Q) (Old w) (AllB w) g) : Calm P Q g w :=
 calm_of_live (h w (Keeps.refl _ _ _)) (fun b hb => hb) (fun b hb => hb.elim) fun own' g' w' hC _ _ _ => hC
theorem Keeps.weaken {own Ro own' Ro' : Nat → Prop} {w w' : World} (h : Keeps own Ro w w') (hb : ∀ b, own' b ∨ Ro' b → own b ∨ Ro b) : Keeps own' Ro' w w' := ⟨h.size, fun b x => h.keep b (hb b x), h.os, h.output⟩
theorem Old.trans {a b c : World} (h : Old a b) (h' : Old b c) : Old a c := Keeps.trans h (Keeps.weaken h' fun x hx => hx.imp (fun y => Nat.lt_of_lt_of_le y h.size) id)
theorem cell_lt {w : World} {a : Addr} {v : Value} (h : w.cell? a = some v) : a.block < w.heap.size := by
 unfold World.cell? at h
 cases e : w.heap[a.block]? with
 | none => rw [e] at h; cases h
 | some o => exact (Array.getElem?_eq_some_iff.1 e).1
theorem cell_same {w w' : World} {a : Addr} (h : w'.heap[a.block]? = w.heap[a.block]?) : w'.cell? a = w.cell? a := by
 unfold World.cell?
 rw [h]
theorem keeps_alloc {own Ro : Nat → Prop} {w : World} {o : Obj} (h : ∀ b, own b ∨ Ro b → b < w.heap.size) : Keeps own Ro w (w.alloc o) := by
 refine ⟨?_, fun b hb => ?_, rfl, rfl⟩
 ·show w.heap.size ≤ (w.heap.push _).size
  rw [Array.size_push]
  omega
 ·have := h b hb
  show (w.heap.push _)[b]? = _
  rw [Array.getElem?_push, if_neg (by omega)]
theorem alloc_at {w : World} {o : Obj} : (w.alloc o).heap[w.heap.size]? = some o := by
 show (w.heap.push _)[w.heap.size]? = _
 rw [Array.getElem?_push, if_pos rfl]
theorem keeps_lay2 {own Ro : Nat → Prop} {w : World} {n : Nat} {ty : TypeId} {x y : Value} (h : ∀ b, own b ∨ Ro b → b ≠ n) : Keeps own Ro w (lay2 w n ty x y) := ⟨Nat.le_of_eq lay2_size.symm, fun b hb => lay2_off (h b hb), rfl, rfl⟩
structure HoldsAll (RoH : Nat → Prop) (w₀ : World) (fh : FuncId) (caps : Array Value) (p : Int → Bool) (L H : Int) : Prop where
 lt : ∀ b, RoH b → b < w₀.heap.size
 live : ∀ x, L ≤ x → x ≤ H → ∀ (m : Bool) (c : Frame) (cs : List Frame) (w : World), Keeps NilB RoH w₀ w → Live Try.prog m RoH (fun own g w => g = G (c.finish (.bool (p x))) cs) NilB (G (Frame.enter Try.prog fh (#[.int .i64 x] ++ caps) .normal) (c :: cs)) w
def lastR (p : Int → Bool) : Nat → Int → Int → Int × Int
 | 0, lo, hi => (lo, hi)
 | n + 1, lo, hi => if 3 < hi - lo then
   let g1 := gotOf (thirdAt lo hi 1) (p (thirdAt lo hi 1)) lo hi
   let g2 := gotOf (thirdAt lo hi 2) (p (thirdAt lo hi 2)) g1.1 g1.2
   lastR p n g2.1 g2.2
  else (lo, hi)
theorem got_comm (x y : Int) (a b : Bool) (lo hi : Int) : gotOf x a (gotOf y b lo hi).1 (gotOf y b lo hi).2 = gotOf y b (gotOf x a lo hi).1 (gotOf x a lo hi).2 := by
 unfold gotOf
 cases a <;> cases b <;> simp only [Bool.false_eq_true, if_false, if_true, Prod.mk.injEq, and_true, true_and] <;> (repeat split) <;> first | rfl | omega
theorem thirds {lo hi : Int} (h : 3 < hi - lo) : lo < thirdAt lo hi 1 ∧ thirdAt lo hi 1 < thirdAt lo hi 2 ∧ thirdAt lo hi 2 < hi := by
 unfold thirdAt
 omega
theorem got_in (x : Int) (a : Bool) {lo hi l h : Int} (h1 : l ≤ lo ∧ lo ≤ h) (h2 : l ≤ hi ∧ hi ≤ h) (h3 : l ≤ x ∧ x ≤ h) : (l ≤ (gotOf x a lo hi).1 ∧ (gotOf x a lo hi).1 ≤ h) ∧ l ≤ (gotOf x a lo hi).2 ∧ (gotOf x a lo hi).2 ≤ h := by
 unfold gotOf
 cases a <;> simp only [Bool.false_eq_true, if_false, if_true] <;> split <;> omega
theorem got_less {lo hi : Int} (a b : Bool) (h : 3 < hi - lo) : (gotOf (thirdAt lo hi 2) b (gotOf (thirdAt lo hi 1) a lo hi).1 (gotOf (thirdAt lo hi 1) a lo hi).2).2 - (gotOf (thirdAt lo hi 2) b (gotOf (thirdAt lo hi 1) a lo hi).1 (gotOf (thirdAt lo hi 1) a lo hi).2).1 < hi - lo := by
 obtain ⟨h1, h2, h3⟩ := thirds h
 generalize thirdAt lo hi 1 = x at *
 generalize thirdAt lo hi 2 = y at *
 unfold gotOf
 cases a <;> cases b <;> simp only [Bool.false_eq_true, if_false, if_true] <;> (repeat split) <;> omega
theorem thirdAt_in {lo hi l h : Int} (hd : 3 < hi - lo) (h1 : l ≤ lo) (h2 : hi ≤ h) (i : Bool) : l ≤ thirdAt lo hi (if i then 2 else 1) ∧ thirdAt lo hi (if i then 2 else 1) ≤ h := by
 have := thirds hd
 cases i <;> simp only [Bool.false_eq_true, if_false, if_true] <;> omega
set_option maxRecDepth 100000 in
theorem go1_step {m : Bool} {b : Frame} (hkb : b.kind ≠ .early) {k : List Item} {cs : List Frame} {T : Array Value} {hbx : Nat} {ch : Value} {x : Int} (h1 : T[18]? = some (.func (.func 51) #[] #[.pointer (some ⟨hbx, 0, none⟩)])) (h2 : T[19]? = some ch) (h3 : T[22]? = some (.int .i64 x)) (w : World) :
  stepG Try.prog m (G (b.at ⟨T, []⟩ (.inRegion ops4 [5] :: k)) cs) w = .spawn (G (b.at ⟨T, []⟩ (.inRegion ops4 [] :: k)) cs) (born Try.prog { target := .fn (.func 51) #[.pointer (some ⟨hbx, 0, none⟩)], args := #[ch, .int .i64 x] }) w #[] := by
 delta ops4 mid25 body25 code25
 dsimp only [Try.f25, Option.getD]
 have e1 : (Act.mk T []).eval (.tmp 18) = .func (.func 51) #[] #[.pointer (some ⟨hbx, 0, none⟩)] := by simp [Act.eval, h1]
 have e2 : (Act.mk T []).eval (.tmp 19) = ch := by simp [Act.eval, h2]
 have e3 : (Act.mk T []).eval (.tmp 22) = .int .i64 x := by simp [Act.eval, h3]
 have hm : (#[Operand.tmp 19, Operand.tmp 22] : Array Operand).map (Act.mk T []).eval = #[ch, .int .i64 x] := by simp [e2, e3]
 have hr := fun o hop => run_go25 (Act.mk T []).eval o (.tmp 18) #[.tmp 19, .tmp 22] #[85, 2] hop 51 #[.pointer (some ⟨hbx, 0, none⟩)] e1 w
 rw [hm] at hr
 rw [stepG_spawn rfl rfl hkb (hr _ rfl).1 rfl]
 congr 1
 exact listed_nil (hr _ rfl).2
set_option maxRecDepth 100000 in
theorem go2_step {m : Bool} {b : Frame} (hkb : b.kind ≠ .early) {k : List Item} {cs : List Frame} {T : Array Value} {hbx : Nat} {ch : Value} {x : Int} (h1 : T[23]? = some (.func (.func 51) #[] #[.pointer (some ⟨hbx, 0, none⟩)])) (h2 : T[24]? = some ch) (h3 : T[27]? = some (.int .i64 x)) (w : World) :
  stepG Try.prog m (G (b.at ⟨T, []⟩ (.inRegion ops5 [5] :: k)) cs) w = .spawn (G (b.at ⟨T, []⟩ (.inRegion ops5 [] :: k)) cs) (born Try.prog { target := .fn (.func 51) #[.pointer (some ⟨hbx, 0, none⟩)], args := #[ch, .int .i64 x] }) w #[] := by
 delta ops5 mid4 mid25 body25 code25
 dsimp only [Try.f25, Option.getD]
 have e1 : (Act.mk T []).eval (.tmp 23) = .func (.func 51) #[] #[.pointer (some ⟨hbx, 0, none⟩)] := by simp [Act.eval, h1]
 have e2 : (Act.mk T []).eval (.tmp 24) = ch := by simp [Act.eval, h2]
 have e3 : (Act.mk T []).eval (.tmp 27) = .int .i64 x := by simp [Act.eval, h3]
 have hm : (#[Operand.tmp 24, Operand.tmp 27] : Array Operand).map (Act.mk T []).eval = #[ch, .int .i64 x] := by simp [e2, e3]
 have hr := fun o hop => run_go25 (Act.mk T []).eval o (.tmp 23) #[.tmp 24, .tmp 27] #[85, 2] hop 51 #[.pointer (some ⟨hbx, 0, none⟩)] e1 w
 rw [hm] at hr
 rw [stepG_spawn rfl rfl hkb (hr _ rfl).1 rfl]
 congr 1
 exact listed_nil (hr _ rfl).2
section
variable {RoH : Nat → Prop} {w₀ : World} {fh : FuncId} {fn : Func} {caps : Array Value} {p : Int → Bool} {L H : Int}
theorem HoldsAll.at (hA : HoldsAll RoH w₀ fh caps p L H) {w' : World} {hbx : Nat} (hold : Keeps NilB RoH w₀ w') (hcell : w'.cell? ⟨hbx, 0, none⟩ = some (.func (.func fh) #[] caps)) {x : Int} (h1 : L ≤ x) (h2 : x ≤ H) (m : Bool) :
  Holds Try.prog m (fun b => RoH b ∨ b = hbx) hbx (.func (.func fh) #[] caps) fh caps x (p x) (Keeps NilB (fun b => RoH b ∨ b = hbx) w') := by
 have hlt : ∀ b, RoH b ∨ b = hbx → b < w'.heap.size := fun b hb => by
  rcases hb with hb | rfl
  ·exact Nat.lt_of_lt_of_le (hA.lt b hb) hold.size
  ·exact cell_lt hcell
 refine ⟨.inr rfl, fun w h b hb => Nat.lt_of_lt_of_le (hlt b hb) h.size, fun w h => keeps_cell h (.inr (.inr rfl)) hcell, fun own w w₁ h hk => Keeps.trans h (Keeps.weaken hk fun b hb => hb.elim False.elim .inr), fun c cs w h => ?_⟩
 have hl := hA.live x h1 h2 m c cs w (Keeps.trans hold (Keeps.weaken h fun b hb => hb.elim False.elim fun y => .inr (.inl y)))
 exact hl.weaken (own := NilB) (fun _ h => h) (fun b hb => .inr (.inl hb)) (fun b hb => hb.elim False.elim fun y => Nat.lt_of_lt_of_le (hlt b y) h.size) (fun own' g' w' hst _ _ _ => by
  obtain ⟨o', e⟩ := hst
  exact .stop e) fun _ h => h.elim
set_option maxHeartbeats 4000000 in
theorem last_loop (hA : HoldsAll RoH w₀ fh caps p L H) (hf : Try.prog.funcs[fh]? = some fn) (hname : (fn.name == "runtime.NumGoroutine") = false) (hbody : fn.body.isSome = true) {kb : Frame} (hkb : kb.kind ≠ .early) {k : List Item} {cs : List Frame} :
  ∀ (n : Nat) (lo hi : Int), (hi - lo).toNat ≤ n → Fair lo hi → (L ≤ lo ∧ lo ≤ H) → (L ≤ hi ∧ hi ≤ H) → ∀ (hbx : Nat) (T : Array Value) (w : World), T.size = 62 → T[0]? = some (.int .i64 lo) → T[1]? = some (.int .i64 hi) → T[5]? = some (.pointer (some ⟨hbx, 0, none⟩)) → Old w₀ w → w₀.heap.size ≤ hbx → w.cell? ⟨hbx, 0, none⟩ = some (.func (.func fh) #[] caps) →
   (∀ (T : Array Value) (w : World), T.size = 62 → T[0]? = some (.int .i64 (lastR p n lo hi).1) → T[1]? = some (.int .i64 (lastR p n lo hi).2) → T[5]? = some (.pointer (some ⟨hbx, 0, none⟩)) → Old w₀ w → w.cell? ⟨hbx, 0, none⟩ = some (.func (.func fh) #[] caps) → Calm Try.prog Q (G (kb.at ⟨T, []⟩ k) cs) w) →
   Calm Try.prog Q (G (kb.at ⟨T, []⟩ (.code body25 :: .inLoop body25 :: .inBlock 0 :: k)) cs) w := by
 intro n
 induction n with
 | zero =>
  intro lo hi hn hb hlo hhi hbx T w hT h0 h1 h5 hold hge hcell hK
  have hc : Cl NilB (AllB w) (Old w) := fun a b h hk => Keeps.trans h hk
  refine calm_lw (body_exit hkb hc hb (by omega) hT h0 h1 h5 fun T hT h0 h1 h5 => lw_stop fun w' hw => ?_)
  refine hK T w' hT h0 h1 h5 (hold.trans hw) ?_
  exact keeps_cell hw (.inl (cell_lt hcell)) hcell
 | succ n ih =>
  intro lo hi hn hb hlo hhi hbx T w hT h0 h1 h5 hold hge hcell hK
  have hc : Cl NilB (AllB w) (Old w) := fun a b h hk => Keeps.trans h hk
  have hlth : hbx < w.heap.size := cell_lt hcell
  by_cases hd : 3 < hi - lo
  case neg =>
   refine calm_lw (body_exit hkb hc hb hd hT h0 h1 h5 fun T hT h0 h1 h5 => lw_stop fun w' hw => ?_)
   have e : lastR p (n + 1) lo hi = (lo, hi) := by simp [lastR, hd]
   rw [e] at hK
   refine hK T w' hT h0 h1 h5 (hold.trans hw) ?_
   exact keeps_cell hw (.inl hlth) hcell
  have eR : lastR p (n + 1) lo hi = lastR p n (gotOf (thirdAt lo hi 2) (p (thirdAt lo hi 2)) (gotOf (thirdAt lo hi 1) (p (thirdAt lo hi 1)) lo hi).1 (gotOf (thirdAt lo hi 1) (p (thirdAt lo hi 1)) lo hi).2).1 (gotOf (thirdAt lo hi 2) (p (thirdAt lo hi 2)) (gotOf (thirdAt lo hi 1) (p (thirdAt lo hi 1)) lo hi).1 (gotOf (thirdAt lo hi 1) (p (thirdAt lo hi 1)) lo hi).2).2 := by simp [lastR, hd]
  have x1 := thirdAt_in hd hlo.1 hhi.2 false
  have x2 := thirdAt_in hd hlo.1 hhi.2 true
  simp only [Bool.false_eq_true, if_false, if_true] at x1 x2
  have hd0 : 0 ≤ hi - lo := by omega
  refine calm_lw (body_in (C := .skip) hkb hc hb hd hT h0 h1 h5 (fun w' h => Keeps.trans h (keeps_at w' _)) (F1 := fun n w' => Old w w' ∧ w.heap.size ≤ n ∧ ChanAt w' n #[] 0 0) (F2 := fun n n' w' => Old w w' ∧ w.heap.size ≤ n ∧ w.heap.size ≤ n' ∧ n ≠ n' ∧ ChanAt w' n #[] 0 0 ∧ ChanAt w' n' #[] 0 0) ?_ ?_ ?_ ?_ ?_)
  ·intro n a b h hk
   refine ⟨Keeps.trans h.1 (Keeps.weaken hk fun x hx => hx.elim (fun y => .inl (.inl y)) .inr), h.2.1, ?_⟩
   obtain ⟨tm, e⟩ := h.2.2
   exact ⟨tm, (hk.keep n (.inl (.inr rfl))).trans e⟩
  ·intro n n' a b h hk
   obtain ⟨h1, h2, h3, h4, ⟨tm, e⟩, tm', e'⟩ := h
   exact ⟨Keeps.trans h1 (Keeps.weaken hk fun x hx => hx.elim (fun y => .inl (.inl (.inl y))) .inr), h2, h3, h4, ⟨tm, (hk.keep n (.inl (.inl (.inr rfl)))).trans e⟩, tm', (hk.keep n' (.inl (.inr rfl))).trans e'⟩
  ·intro w' hw
   refine ⟨Keeps.trans hw ⟨?_, fun b hb => ?_, rfl, rfl⟩, hw.size, false, ?_⟩
   ·show w'.heap.size ≤ (w'.heap.push _).size
    rw [Array.size_push]
    omega
   ·have hb' : b < w'.heap.size := hb.elim (fun y => Nat.lt_of_lt_of_le y hw.size) False.elim
    show (w'.heap.push _)[b]? = _
    rw [Array.getElem?_push, if_neg (by omega)]
   ·show (w'.heap.push _)[w'.heap.size]? = _
    rw [Array.getElem?_push, if_pos rfl]
  ·intro n w' hw
   obtain ⟨h1, h2, tm, e⟩ := hw
   have hlt : n < w'.heap.size := (Array.getElem?_eq_some_iff.1 e).1
   refine ⟨Keeps.trans h1 ⟨?_, fun b hb => ?_, rfl, rfl⟩, h2, h1.size, by omega, ⟨tm, ?_⟩, false, ?_⟩
   ·show w'.heap.size ≤ (w'.heap.push _).size
    rw [Array.size_push]
    omega
   ·have hb' : b < w'.heap.size := hb.elim (fun y => Nat.lt_of_lt_of_le y h1.size) False.elim
    show (w'.heap.push _)[b]? = _
    rw [Array.getElem?_push, if_neg (by omega)]
   ·show (w'.heap.push _)[n]? = _
    rw [Array.getElem?_push, if_neg (by omega)]
    exact e
   ·show (w'.heap.push _)[w'.heap.size]? = _
    rw [Array.getElem?_push, if_pos rfl]
  intro a a' c hca T hT h0 h1 h5 h7 h8
  have hc2 : Cl NilB (fun b => (AllB w b ∨ b = a) ∨ b = a') (fun w' => Old w w' ∧ w.heap.size ≤ a ∧ w.heap.size ≤ a' ∧ a ≠ a' ∧ ChanAt w' a #[] 0 0 ∧ ChanAt w' a' #[] 0 0) := by
   intro x b h hk
   obtain ⟨h1, h2, h3, h4, ⟨tm, e⟩, tm', e'⟩ := h
   exact ⟨Keeps.trans h1 (Keeps.weaken hk fun x hx => hx.elim (fun y => .inl (.inl (.inl y))) .inr), h2, h3, h4, ⟨tm, (hk.keep a (.inl (.inl (.inr rfl)))).trans e⟩, tm', (hk.keep a' (.inl (.inr rfl))).trans e'⟩
  refine mid_a hkb hc2 hb hd0 hT h0 h1 h5 h7 h8 fun T hT h0 h1 h5 h7 h8 h9 h18 h19 h22 => lw_stop fun w' hw => ?_
  -- the first go statement
  have hcs : (∀ j, w.heap.size ≤ c j) ∧ c false ≠ c true ∧ ∀ j, ChanAt w' (c j) #[] 0 0 := by
   obtain ⟨g1, g2, g3, g4, g5, g6⟩ := hw
   rcases hca with rfl | rfl
   ·exact ⟨fun j => by cases j <;> simp [g2, g3], by simpa using g4, fun j => by cases j <;> simp [g5, g6]⟩
   ·exact ⟨fun j => by cases j <;> simp [g2, g3], by simpa using g4.symm, fun j => by cases j <;> simp [g5, g6]⟩
  obtain ⟨hcge, hcne, hch⟩ := hcs
  have hw1 : Old w w' := hw.1
  have hcell' : w'.cell? ⟨hbx, 0, none⟩ = some (.func (.func fh) #[] caps) := keeps_cell hw1 (.inl hlth) hcell
  have hold' : Old w₀ w' := hold.trans hw1
  have hkh : Keeps NilB RoH w₀ w' := Keeps.weaken hold' fun b hb => hb.elim False.elim fun y => .inl (hA.lt b y)
  clear hw hc2
  have hclt : ∀ j, c j < w'.heap.size := fun j => by
   obtain ⟨tm, e⟩ := hch j
   exact (Array.getElem?_eq_some_iff.1 e).1
  have hH1 := hA.at hkh hcell' x1.1 x1.2 false
  have hH2 := hA.at hkh hcell' x2.1 x2.2 false
  generalize hRo : (fun b => RoH b ∨ b = hbx : Nat → Prop) = Ros at *
  have hRoW : ∀ b, Ros b → b < w.heap.size := fun b hb => by
   rw [← hRo] at hb
   rcases hb with hb | rfl
   ·exact Nat.lt_of_lt_of_le (hA.lt b hb) hold.size
   ·exact hlth
  have hRoH : ∀ b, RoH b ∨ b = hbx → Ros b := fun b hb => by
   rw [← hRo]
   exact hb
  let own : Nat → Prop := fun b => b < w'.heap.size ∧ ¬Ros b ∧ ∀ j, b ≠ c j
  have hcRo : ∀ j, ¬Ros (c j) := fun j hj => by
   have := hRoW _ hj
   have := hcge j
   omega
  -- all that was there at the beginning, but for the channels, is kept
  have hback : ∀ {own' : Nat → Prop} {w2 : World}, (∀ b, own b → own' b) → Keeps own' Ros w' w2 → Old w w2 := fun {own' w2} ho hk => by
   refine ⟨Nat.le_trans hw1.size hk.size, fun b hb => ?_, hk.os.trans hw1.os, hk.output.trans hw1.output⟩
   have hbw : b < w.heap.size := hb.elim id False.elim
   rw [← hw1.keep b (.inl hbw)]
   refine hk.keep b ?_
   by_cases hr : Ros b
   ·exact .inr hr
   ·exact .inl (ho b ⟨Nat.lt_of_lt_of_le hbw hw1.size, hr, fun j e => by
     have := hcge j
     omega⟩)
  have hcK : Cl Ros own (Keeps own Ros w') := fun a b h hk => Keeps.trans h hk
  have hkidF : ∀ {own' : Nat → Prop} {w2 : World}, Keeps own' Ros w' w2 → Keeps NilB Ros w' w2 := fun h => Keeps.weaken h fun b hb => hb.elim False.elim .inr
  let v : Bool → Value := fun j => if j then askVal (thirdAt lo hi 2) (p (thirdAt lo hi 2)) else askVal (thirdAt lo hi 1) (p (thirdAt lo hi 1))
  let X : Bool → Int := fun j => if j then thirdAt lo hi 2 else thirdAt lo hi 1
  have hv : ∀ j, v j = askVal (X j) (p (X j)) := fun j => by cases j <;> rfl
  have hkid1 := ask_live (ch := c false) hH1 hf hname hbody
  have hkid2 := ask_live (ch := c true) hH2 hf hname hbody
  refine calm_ask (P := Try.prog) (Q := Q) (Ro := Ros) (own := own) (c := c) (v := v) (z := askVal 0 false) rfl hch hcne (fun b hb => ⟨hb.1, hb.2.1, hb.2.2⟩) (fun b hb => ⟨Nat.lt_of_lt_of_le (hRoW b hb) hw1.size, fun j e => hcRo j (e ▸ hb)⟩) fun d => ?_
  have hsame : ∀ w2 : World, Keeps own Ros w' w2 → Keeps own Ros w' w2 := fun _ h => h
  refine ⟨_, _, #[], go1_step hkb h18 h19 h22 _, by simp, ?_, ?_⟩
  ·exact hkid1 _ (keeps_at w' d)
  -- goroutine 0, to the second go statement
  refine (show LW Try.prog true Ros (GoStop Try.prog Q Ros c v (askVal 0 false)) (Keeps own Ros w') own _ from ?_) _ (keeps_at w' d)
  refine mid_b hkb hcK hb hd0 hT h0 h1 h5 h7 h8 h9 fun T hT h0 h1 h5 h7 h8 h23 h24 h27 => lw_stop fun w2 hw2 => ⟨rfl, fun w3 hk3 => ?_⟩
  have hw3 := hcK _ _ hw2 hk3
  refine ⟨_, _, #[], go2_step hkb h23 h24 h27 _, by simp, hkid2 _ (hkidF hw3), ?_⟩
  -- to the first select
  refine (show LW Try.prog true Ros (Sel2 Try.prog Q Ros c v (askVal 0 false)) (Keeps own Ros w') own _ from ?_) _ hw3
  refine mid_c hkb hcK hT h0 h1 h5 h7 h8 fun T hT h0 h1 h5 h7 h8 h28 => ?_
  have hlow : ∀ b, own b ∨ Ros b → b < w'.heap.size := fun b hb => hb.elim (fun y => y.1) fun y => Nat.lt_of_lt_of_le (hRoW b y) hw1.size
  have hcKn : ∀ {own' : Nat → Prop}, (∀ b, own b → own' b) → Cl Ros own' (Keeps own Ros w') := fun ho a b h hk => Keeps.trans h (Keeps.weaken hk fun b hb => hb.imp (ho b) id)
  have hcn : ∀ {own' : Nat → Prop}, (∀ b, own b → own' b) → ∀ n, Cl Ros (fun b => own' b ∨ b = n) (fun w2 => Keeps own Ros w' w2 ∧ w'.heap.size ≤ n ∧ w2.heap[n]? = some (.cells #[.int .i64 0, .bool false] 87 (0, 0))) := fun ho n a b h hk => ⟨Keeps.trans h.1 (Keeps.weaken hk fun b hb => hb.imp (fun y => .inl (ho b y)) id), h.2.1, (hk.keep n (.inl (.inr rfl))).trans h.2.2⟩
  have hFn : ∀ w2, Keeps own Ros w' w2 → Keeps own Ros w' (w2.alloc (.cells #[.int .i64 0, .bool false] 87 (0, 0))) ∧ w'.heap.size ≤ w2.heap.size ∧ (w2.alloc (.cells #[.int .i64 0, .bool false] 87 (0, 0))).heap[w2.heap.size]? = some (.cells #[.int .i64 0, .bool false] 87 (0, 0)) := fun w2 h => ⟨Keeps.trans h (keeps_alloc fun b hb => Nat.lt_of_lt_of_le (hlow b hb) h.size), h.size, alloc_at⟩
  refine inner_sel (c := c) (v := v) (js := fun _ => True) (K := fun j => Live Try.prog true Ros (Sel1 Try.prog Q Ros c v (askVal 0 false) j)) hkb hcK (.inl rfl) (hcn fun _ h => h) hFn hT h0 h1 h5 h7 h8 h28 ?_
  intro n1
  intros
  rename_i j w4 _ hw4
  have hn1 : w'.heap.size ≤ n1 := hw4.2.1
  refine (show LW Try.prog true Ros (Sel1 Try.prog Q Ros c v (askVal 0 false) j) (fun w2 => Keeps own Ros w' w2 ∧ w'.heap.size ≤ n1 ∧ w2.heap[n1]? = some (.cells #[.int .i64 0, .bool false] 87 (0, 0))) (fun b => own b ∨ b = n1) _ from ?_) _ hw4
  rw [hv j]
  refine after_sel hkb (.inl rfl) (.inr rfl) (hcn (fun _ h => h) n1) (fr := Keeps own Ros w') (hcKn fun _ h => .inl h) (fun w5 h => Keeps.trans h (keeps_lay2 fun b hb e => by have := hlow b hb; omega)) (fun w5 h => ⟨h.1, _, _, h.2.2⟩) fun T hT h0 h1 h5 h7 h8 h28 => ?_
  clear hw4 w4
  -- to the second select
  refine lw_inLoop (hcKn fun _ h => .inl h) ?_
  refine inner_sel (c := c) (v := v) (js := fun i => i = !j) (K := fun _ => EndStop Try.prog Q Ros) hkb (hcKn fun _ h => .inl h) (.inr rfl) (hcn fun _ h => .inl h) hFn hT h0 h1 h5 h7 h8 h28 ?_
  intro n2
  intros
  rename_i j' w4 hj' hw4
  intro w5 hk5
  have hw5 := hcn (own' := fun b => own b ∨ b = n1) (fun _ h => .inl h) n2 _ _ hw4 hk5
  obtain ⟨hk5', hn2, hc5⟩ := hw5
  have hold5 := hback (fun _ h => h) hk5'
  have hcell5 : w5.cell? ⟨hbx, 0, none⟩ = some (.func (.func fh) #[] caps) := keeps_cell hk5' (.inr (hRoH _ (.inr rfl))) hcell'
  have hn2lt : n2 < w5.heap.size := (Array.getElem?_eq_some_iff.1 hc5).1
  have hww : w.heap.size ≤ w'.heap.size := hw1.size
  refine calm_lw ?_
  rw [hv j']
  refine after_sel (own := AllB w5) hkb (.inr rfl) hn2lt (fun a b h hk => Keeps.trans h hk) (fr := fun w6 => Old w w6 ∧ w6.cell? ⟨hbx, 0, none⟩ = some (.func (.func fh) #[] caps)) (fun a b h hk => ⟨Keeps.trans h.1 (Keeps.weaken hk fun b hb => hb.imp (fun y => Nat.lt_of_lt_of_le y hold5.size) id), keeps_cell hk (.inl (Nat.lt_of_lt_of_le hlth hold5.size)) h.2⟩)
   (fun w6 h => ⟨Keeps.trans h.1 (keeps_lay2 fun b hb e => hb.elim (fun y => by have hb' : b < w.heap.size := y; omega) fun y => y), (cell_same (lay2_off (by show hbx ≠ n2; omega))).trans h.2⟩) (fun w6 h => ⟨⟨hold5.trans h, keeps_cell h (.inl (Nat.lt_of_lt_of_le hlth hold5.size)) hcell5⟩, _, _, (h.keep n2 (.inl hn2lt)).trans hc5⟩) fun T hT h0 h1 h5 h7 h8 h28 => ?_
  have hcf : Cl NilB (AllB w5) (fun w6 => Old w w6 ∧ w6.cell? ⟨hbx, 0, none⟩ = some (.func (.func fh) #[] caps)) := fun a b h hk => ⟨Keeps.trans h.1 (Keeps.weaken hk fun b hb => hb.imp (fun y => Nat.lt_of_lt_of_le y hold5.size) id), keeps_cell hk (.inl (Nat.lt_of_lt_of_le hlth hold5.size)) h.2⟩
  refine lw_inLoop hcf (inner_exit hkb hcf hT h0 h1 h5 h28 fun T hT h0 h1 h5 => lw_inBlock hcf (lw_inLoop hcf (lw_stop fun w6 hw6 => ?_)))
  have e1 : gotOf (X j') (p (X j')) (gotOf (X j) (p (X j)) lo hi).1 (gotOf (X j) (p (X j)) lo hi).2 = gotOf (thirdAt lo hi 2) (p (thirdAt lo hi 2)) (gotOf (thirdAt lo hi 1) (p (thirdAt lo hi 1)) lo hi).1 (gotOf (thirdAt lo hi 1) (p (thirdAt lo hi 1)) lo hi).2 := by
   subst hj'
   cases j
   ·rfl
   ·exact got_comm _ _ _ _ _ _
  rw [e1] at h0 h1
  have hl2 := got_less (p (thirdAt lo hi 1)) (p (thirdAt lo hi 2)) hd
  have i1 := got_in (thirdAt lo hi 1) (p (thirdAt lo hi 1)) (l := lo) (h := hi) ⟨Int.le_refl _, by omega⟩ ⟨by omega, Int.le_refl _⟩ (by have := thirds hd; omega)
  have i2 := got_in (thirdAt lo hi 2) (p (thirdAt lo hi 2)) (l := lo) (h := hi) i1.1 i1.2 (by have := thirds hd; omega)
  rw [eR] at hK
  obtain ⟨f1, f2, f3, f4⟩ := hb
  exact ih _ _ (by omega) ⟨by omega, by omega, by omega, by omega⟩ ⟨by omega, by omega⟩ ⟨by omega, by omega⟩ hbx T w6 hT h0 h1 h5 (hold.trans hw6.1) hge hw6.2 hK
end
end
end Go.Proofs.Ytjgleaakgbnjgaa.Par
end

section
/- -/
namespace Go.Proofs.Ytjgleaakgbnjgaa.Par
open Go Go.Conc
def lastT (p : Int → Bool) : Nat → Int → Int → Int
 | 0, lo, _ => lo
 | n + 1, lo, hi => if 1 < hi - lo then (if p (lo + 1) then lastT p n (lo + 1) hi else lo) else lo
def lastF (p : Int → Bool) (lo hi : Int) : Int := lastT p ((lastR p (hi - lo).toNat lo hi).2 - (lastR p (hi - lo).toNat lo hi).1).toNat (lastR p (hi - lo).toNat lo hi).1 (lastR p (hi - lo).toNat lo hi).2
theorem lastR_in (p : Int → Bool) : ∀ (n : Nat) {lo hi l h : Int}, (l ≤ lo ∧ lo ≤ h) → (l ≤ hi ∧ hi ≤ h) → (l ≤ (lastR p n lo hi).1 ∧ (lastR p n lo hi).1 ≤ h) ∧ l ≤ (lastR p n lo hi).2 ∧ (lastR p n lo hi).2 ≤ h
 | 0, lo, hi, l, h, h1, h2 => ⟨h1, h2⟩
 | n + 1, lo, hi, l, h, h1, h2 => by
  unfold lastR
  split
  ·rename_i hd
   have ht := thirds hd
   have i1 := got_in (thirdAt lo hi 1) (p (thirdAt lo hi 1)) h1 h2 (by omega)
   have i2 := got_in (thirdAt lo hi 2) (p (thirdAt lo hi 2)) i1.1 i1.2 (by omega)
   exact lastR_in p n i2.1 i2.2
  ·exact ⟨h1, h2⟩
section
variable {Q : Machine → Outcome → World → Trace → Prop} {RoH : Nat → Prop} {w₀ : World} {fh : FuncId} {fn : Func} {caps : Array Value} {p : Int → Bool} {L H : Int}
theorem tail_calm (hA : HoldsAll RoH w₀ fh caps p L H) (hf : Try.prog.funcs[fh]? = some fn) (hname : (fn.name == "runtime.NumGoroutine") = false) (hbody : fn.body.isSome = true) {kb : Frame} (hkb : kb.kind ≠ .early) {k : List Item} {cs : List Frame} :
  ∀ (n : Nat) (lo hi : Int), (hi - lo).toNat ≤ n → Fair lo hi → L ≤ lo → hi ≤ H → ∀ (hbx : Nat) (T : Array Value) (w : World), T.size = 62 → T[0]? = some (.int .i64 lo) → T[1]? = some (.int .i64 hi) → T[5]? = some (.pointer (some ⟨hbx, 0, none⟩)) → Old w₀ w → w.cell? ⟨hbx, 0, none⟩ = some (.func (.func fh) #[] caps) →
   (∀ (T : Array Value) (w : World), T.size = 62 → T[0]? = some (.int .i64 (lastT p n lo hi)) → Old w₀ w → Calm Try.prog Q (G (kb.at ⟨T, []⟩ k) cs) w) →
   Calm Try.prog Q (G (kb.at ⟨T, []⟩ (.code loop5 :: .inLoop loop5 :: .inBlock 5 :: k)) cs) w := by
 intro n
 induction n with
 | zero =>
  intro lo hi hn hb hlo hhi hbx T w hT h0 h1 h5 hold hcell hK
  have hc : Cl NilB (AllB w) (Old w) := fun a b h hk => Keeps.trans h hk
  exact calm_lw (tail_near hkb hc hb (by omega) hT h0 h1 h5 fun T hT h0 => lw_stop fun w' hw => hK T w' hT h0 (hold.trans hw))
 | succ n ih =>
  intro lo hi hn hb hlo hhi hbx T w hT h0 h1 h5 hold hcell hK
  have hc : Cl NilB (AllB w) (Old w) := fun a b h hk => Keeps.trans h hk
  by_cases hd : 1 < hi - lo
  case neg =>
   have e : lastT p (n + 1) lo hi = lo := by simp [lastT, hd]
   rw [e] at hK
   exact calm_lw (tail_near hkb hc hb hd hT h0 h1 h5 fun T hT h0 => lw_stop fun w' hw => hK T w' hT h0 (hold.trans hw))
  have hlt : hbx < w.heap.size := cell_lt hcell
  refine calm_lw (tail_ask hkb hc hb hd hf hname hbody (.inl hlt) (fun w' hw => keeps_cell hw (.inl hlt) hcell) hT h0 h1 h5 fun T hT h0 h1 h5 h53 => fun w' hw => ?_)
  have hold' := hold.trans hw
  refine (hA.live (lo + 1) (by omega) (by omega) true _ cs w' (Keeps.weaken hold' fun b hb => hb.elim False.elim fun y => .inl (hA.lt b y))).weaken (own := AllB w) (fun _ h => h.elim) (fun b hb => .inl (Nat.lt_of_lt_of_le (hA.lt b hb) hold.size)) (fun b hb => hb.elim (fun y => Nat.lt_of_lt_of_le y hw.size) False.elim) (fun own' g' w'' hst _ _ hk => ?_) fun _ h => h.elim
  obtain ⟨o', rfl⟩ := hst
  refine .stop ?_
  have hw2 : Old w w'' := Keeps.trans hw (Keeps.weaken hk fun b hb => hb.imp (fun y => ⟨y, fun z => z⟩) id)
  have hold2 := hold.trans hw2
  have hcell2 : w''.cell? ⟨hbx, 0, none⟩ = some (.func (.func fh) #[] caps) := keeps_cell hw2 (.inl hlt) hcell
  have hc2 : Cl NilB (AllB w'') (Old w'') := fun a b h hk => Keeps.trans h hk
  refine calm_lw (tail_told hkb hc2 hb hT h0 h1 h5 h53 (fun hp T hT h0 => lw_stop fun w3 hw3 => ?_) fun hp T hT h0 h1 h5 => lw_inLoop hc2 (lw_stop fun w3 hw3 => ?_))
  ·have e : lastT p (n + 1) lo hi = lo := by simp [lastT, hd, hp]
   rw [e] at hK
   exact hK T w3 hT h0 (hold2.trans hw3)
  ·have e : lastT p (n + 1) lo hi = lastT p n (lo + 1) hi := by simp [lastT, hd, hp]
   rw [e] at hK
   obtain ⟨f1, f2, f3, f4⟩ := hb
   exact ih (lo + 1) hi (by omega) ⟨by omega, by omega, f3, f4⟩ (by omega) hhi hbx T w3 hT h0 h1 h5 (hold2.trans hw3) (keeps_cell hw3 (.inl (cell_lt hcell2)) hcell2) hK
theorem last_calm (hA : HoldsAll RoH w₀ fh caps p L H) (hf : Try.prog.funcs[fh]? = some fn) (hname : (fn.name == "runtime.NumGoroutine") = false) (hbody : fn.body.isSome = true) {lo hi : Int} (hb : Fair lo hi) (hlo : L ≤ lo ∧ lo ≤ H) (hhi : L ≤ hi ∧ hi ≤ H) {c : Frame} {cs : List Frame}
  (hK : ∀ w, Old w₀ w → Calm Try.prog Q (G (c.finish (.int .i64 (lastF p lo hi))) cs) w) : Calm Try.prog Q (G (Frame.enter Try.prog 25 #[.int .i64 lo, .int .i64 hi, .func (.func fh) #[] caps] .normal) (c :: cs)) w₀ := by
 have hkb := base_kind 25
 generalize hkd : base 25 = kb at hkb
 have hc : Cl NilB (AllB w₀) (Old w₀) := fun a b h hk => Keeps.trans h hk
 refine calm_lw (last_in hkd hkb hc (F1 := fun n w => Old w₀ w ∧ w₀.heap.size ≤ n ∧ w.cell? ⟨n, 0, none⟩ = some (.func (.func fh) #[] caps)) (fun n a b h hk => ⟨Keeps.trans h.1 (Keeps.weaken hk fun b hb => hb.imp .inl id), h.2.1, keeps_cell hk (.inl (.inr rfl)) h.2.2⟩) (fun w hw => ⟨Keeps.trans hw (keeps_alloc fun b hb => hb.elim (fun y => Nat.lt_of_lt_of_le y hw.size) False.elim), hw.size, by
  unfold World.cell?
  rw [alloc_at]
  rfl⟩) fun n T hT h0 h1 h5 => lw_stop fun w hw => ?_)
 obtain ⟨hold, hge, hcell⟩ := hw
 refine last_loop hA hf hname hbody hkb _ lo hi (Nat.le_refl _) hb hlo hhi n T w hT h0 h1 h5 hold hge hcell fun T w hT h0 h1 h5 hold hcell => ?_
 have hR := lastR_in p (hi - lo).toNat hlo hhi
 have hR2 := lastR_in p (hi - lo).toNat (lo := lo) (hi := hi) (l := -4000000000000000000) (h := 4000000000000000000) ⟨hb.1, hb.2.1⟩ ⟨hb.2.2.1, hb.2.2.2⟩
 have hc2 : Cl NilB (AllB w) (Old w) := fun a b h hk => Keeps.trans h hk
 refine calm_lw (?_ : LW Try.prog true NilB (CalmStop Try.prog Q) (Old w) (AllB w) _)
 delta tail25 code25
 dsimp only [Try.f25, Option.getD]
 refine lw_seq hc2 (lw_block hc2 (lw_loop hc2 (lw_stop fun w' hw' => ?_)))
 refine tail_calm hA hf hname hbody hkb _ _ _ (Nat.le_refl _) ⟨hR2.1.1, hR2.1.2, hR2.2.1, hR2.2.2⟩ hR.1.1 hR.2.2 n T w' hT h0 h1 h5 (hold.trans hw') (keeps_cell hw' (.inl (cell_lt hcell)) hcell) fun T w hT h0 hold => ?_
 have hc3 : Cl NilB (AllB w) (Old w) := fun a b h hk => Keeps.trans h hk
 exact calm_lw (last_out hkd hkb hc3 hT h0 (lw_stop fun w' hw' => hK w' (hold.trans hw')))
end
end Go.Proofs.Ytjgleaakgbnjgaa.Par
end

section
namespace Go.Proofs.Ytjgleaakgbnjgaa.XEir
open Go.RowKit S XNum XBits XWide Rnd XMdiv XRate Go.Proofs.YtjgleaakgbnjgaaW.PrintWords
theorem rd_lt {l : List Int} {i : Nat} (h : i < l.length) : rd l (i : Int) = l[i] := by
 unfold rd
 simp [h]
def mayM (x : Int) : Prop := -10000000000000 ≤ x ∧ x ≤ 10000000000000
instance (x : Int) : Decidable (mayM x) := inferInstanceAs (Decidable (_ ∧ _))
theorem no_f (x : Int) : value_times_1.f x = some (!decide (mayM x)) := by
 unfold value_times_1.f
 rw [XMoney.may]
 rfl
theorem index {l : List Int} (hn : l.length ≤ 1000000) : ∀ (d i k : Nat), i + d = l.length → d + 1 ≤ k →
  ∃ j, slices_IndexFunc_int64_int64__value_times_1.l0 k l (l.length : Int) (i : Int) = some j ∧ (0 ≤ j ↔ ¬ ∀ x ∈ l.drop i, mayM x) := by
 intro d
 induction d with
 | zero =>
  intro i k h hk
  obtain ⟨k, rfl⟩ : ∃ k', k = k' + 1 := ⟨k - 1, by omega⟩
  refine ⟨-1, ?_, ?_⟩
  ·unfold slices_IndexFunc_int64_int64__value_times_1.l0
   rw [if_neg (by omega)]
  ·rw [List.drop_eq_nil_of_le (by omega)]
   simp
 | succ d ih =>
  intro i k h hk
  obtain ⟨k, rfl⟩ : ∃ k', k = k' + 1 := ⟨k - 1, by omega⟩
  have hi : i < l.length := by omega
  unfold slices_IndexFunc_int64_int64__value_times_1.l0
  rw [if_pos (by omega), if_pos (by omega), if_pos (by omega), no_f, Option.bind_some, rd_lt hi, List.drop_eq_getElem_cons hi]
  by_cases c : mayM l[i]
  ·rw [decide_eq_true c, if_neg (by simp), w64 (by omega) (by omega)]
   obtain ⟨j, h1, h2⟩ := ih (i + 1) k (by omega) (by omega)
   refine ⟨j, by rw [← h1]; rfl, ?_⟩
   rw [h2, List.forall_mem_cons]
   exact ⟨fun h g => h g.2, fun h g => h ⟨c, g⟩⟩
  ·rw [decide_eq_false c, if_pos (by rfl)]
   exact ⟨_, rfl, fun _ g => c (g _ List.mem_cons_self), fun _ => by omega⟩
theorem contains_f {l : List Int} (hn : l.length ≤ 1000000) {k : Nat} (hk : l.length + 1 ≤ k) : slices_ContainsFunc_int64_int64__value_times_1.f k l = some (!decide (∀ x ∈ l, mayM x)) := by
 unfold slices_ContainsFunc_int64_int64__value_times_1.f slices_IndexFunc_int64_int64__value_times_1.f
 obtain ⟨j, h1, h2⟩ := index hn l.length 0 k (by omega) hk
 rw [show ((0 : Nat) : Int) = 0 from rfl] at h1
 rw [h1, Option.bind_some]
 rw [List.drop_zero] at h2
 by_cases c : ∀ x ∈ l, mayM x
 ·rw [decide_eq_true c, decide_eq_false (fun g => (h2.1 g) c)]
  rfl
 ·rw [decide_eq_false c, decide_eq_true (h2.2 c)]
  rfl
theorem set_mid (A C : List Int) (y z : Int) : (A ++ y :: C).set A.length z = A ++ z :: C := by simp
theorem rd_mid (A C : List Int) (y : Int) : rd (A ++ y :: C) (A.length : Int) = y := by
 unfold rd
 simp
theorem rev_l0 : ∀ (n : Nat) (A B C : List Int) (k : Nat), B.length ≤ n → A.length + B.length + C.length ≤ 1000000000 → B.length + 1 ≤ k →
  slices_Reverse_int64_int64.l0 k (A ++ B ++ C) (A.length : Int) ((A.length : Int) + B.length - 1) = some (A ++ B.reverse ++ C) := by
 intro n
 induction n with
 | zero =>
  intro A B C k h hl hk
  obtain ⟨k, rfl⟩ : ∃ k', k = k' + 1 := ⟨k - 1, by omega⟩
  obtain rfl : B = [] := List.length_eq_zero_iff.1 (by omega)
  unfold slices_Reverse_int64_int64.l0
  rw [if_neg (by simp only [List.length_nil]; omega)]
  rfl
 | succ n ih =>
  intro A B C k h hl hk
  obtain ⟨k, rfl⟩ : ∃ k', k = k' + 1 := ⟨k - 1, by omega⟩
  cases B with
  | nil =>
   unfold slices_Reverse_int64_int64.l0
   rw [if_neg (by simp only [List.length_nil]; omega)]
   rfl
  | cons p R =>
   rcases List.eq_nil_or_concat R with rfl | ⟨M, q, rfl⟩
   ·unfold slices_Reverse_int64_int64.l0
    rw [if_neg (by simp only [List.length_cons, List.length_nil]; omega)]
    rfl
   ·rw [List.concat_eq_append] at *
    simp only [List.length_cons, List.length_append, List.length_nil, Nat.zero_add] at h hl hk
    have e1 : A ++ p :: (M ++ [q]) ++ C = A ++ p :: (M ++ q :: C) := by simp
    have e2 : A ++ q :: (M ++ q :: C) = (A ++ q :: M) ++ q :: C := by simp
    have e3 : A ++ p :: (M ++ q :: C) = (A ++ p :: M) ++ q :: C := by simp
    have lp : ((A ++ p :: M).length : Int) = (A.length : Int) + (p :: (M ++ [q])).length - 1 := by simp only [List.length_cons, List.length_append, List.length_nil]; omega
    have lq : (A ++ q :: M).length = ((A.length : Int) + (p :: (M ++ [q])).length - 1).toNat := by simp only [List.length_cons, List.length_append, List.length_nil]; omega
    have la : A.length = ((A.length : Nat) : Int).toNat := by omega
    have len : (A ++ p :: (M ++ q :: C)).length = A.length + (M.length + 2) + C.length := by simp only [List.length_cons, List.length_append]; omega
    have r1 : rd (A ++ p :: (M ++ q :: C)) ((A.length : Int) + (p :: (M ++ [q])).length - 1) = q := by rw [e3, ← lp, rd_mid]
    have lb : (p :: (M ++ [q])).length = M.length + 2 := by simp only [List.length_cons, List.length_append, List.length_nil]
    rw [e1]
    unfold slices_Reverse_int64_int64.l0
    rw [if_pos (by rw [lb]; omega), if_pos (by rw [lb]; omega), if_pos (by rw [len, lb]; omega), if_pos (by omega), if_pos (by rw [len]; omega), r1, rd_mid]
    rw [← la, set_mid, e2, ← lq, set_mid]
    have e4 : (A ++ q :: M) ++ p :: C = (A ++ [q]) ++ M ++ (p :: C) := by simp
    have g := ih (A ++ [q]) M (p :: C) k (by omega) (by simp only [List.length_cons, List.length_append, List.length_nil]; omega) (by omega)
    rw [w64 (by omega) (by omega), w64 (by rw [lb]; omega) (by rw [lb]; omega), e4]
    have g1 : (((A ++ [q]).length : Nat) : Int) = (A.length : Int) + 1 := by simp only [List.length_cons, List.length_append, List.length_nil]; omega
    rw [g1] at g
    rw [show (A.length : Int) + (p :: (M ++ [q])).length - 1 - 1 = (A.length : Int) + 1 + M.length - 1 by rw [lb]; omega, g]
    simp
theorem reverse_f {l : List Int} (hn : l.length ≤ 1000000) {k : Nat} (hk : l.length + 1 ≤ k) : slices_Reverse_int64_int64.f k l = some l.reverse := by
 unfold slices_Reverse_int64_int64.f
 rw [w64 (by omega) (by omega)]
 have h := rev_l0 l.length [] l [] k (Nat.le_refl _) (by simp; omega) hk
 simp only [List.nil_append, List.append_nil, List.length_nil] at h
 rw [show ((0 : Nat) : Int) + (l.length : Int) - 1 = (l.length : Int) - 1 by omega] at h
 exact h
def wv (b r : Int) : List Int → Int × Int
 | [] => (0, 0)
 | x :: l => ((value_fold.stepv b r x (wv b r l).1).1, if (wv b r l).2 = 0 then (value_fold.stepv b r x (wv b r l).1).2 else (wv b r l).2)
def wl (b r : Int) : List Int → List Int
 | [] => [0]
 | x :: l => (wv b r (x :: l)).1 :: wl b r l
theorem wl_head (b r : Int) (l : List Int) : ∃ t, wl b r l = (wv b r l).1 :: t := by
 cases l with
 | nil => exact ⟨[], rfl⟩
 | cons x l => exact ⟨wl b r l, rfl⟩
theorem wl_length (b r : Int) (l : List Int) : (wl b r l).length = l.length + 1 := by
 induction l with
 | nil => rfl
 | cons x l ih => rw [wl, List.length_cons, ih, List.length_cons]
theorem last_rev (y : Int) (t : List Int) : value_fold.last ((y :: t).reverse) = y := by
 unfold value_fold.last rd
 rw [List.length_reverse, List.length_cons, show (((t.length + 1 : Nat) : Int) - 1).toNat = t.length by omega, List.reverse_cons, List.getD_eq_getElem?_getD, List.getElem?_append_right (by rw [List.length_reverse]; omega)]
 simp
theorem runs_wl (b r : Int) (l : List Int) : value_fold.runs b r 0 l.reverse = ((wl b r l).reverse, (wv b r l).2) := by
 induction l with
 | nil => rfl
 | cons x l ih =>
  rw [List.reverse_cons, value_fold.runs_snoc, ih]
  unfold value_fold.next
  obtain ⟨t, ht⟩ := wl_head b r l
  have e : value_fold.last (wl b r l).reverse = (wv b r l).1 := by rw [ht, last_rev]
  rw [e, wl, List.reverse_cons]
  rfl
def all (b r : Int) (l : List Int) : List Int × Int :=
 if l.length ≤ 600 then (if ∀ x ∈ l, mayM x then (if mayR r then (if (wv b r l).2 = 0 then (wl b r l, 0) else ([], (wv b r l).2)) else ([], 2)) else ([], 2)) else ([], 10)
theorem times_f {l : List Int} {b r : Int} {k : Nat} (hk : 700 ≤ k) : value_times.f k l r b = some (all b r l) := by
 unfold value_times.f all
 by_cases c : l.length ≤ 600
 ·rw [if_neg (by omega), if_pos c, contains_f (by omega) (by omega), Option.bind_some]
  by_cases m : ∀ x ∈ l, mayM x
  ·rw [decide_eq_true m, if_neg (by simp), if_pos m, may, Option.bind_some]
   by_cases h : mayR r
   ·rw [decide_eq_true h, if_pos rfl, if_pos h]
    unfold value_fold_int64_int64__value_times_2.f
    rw [if_pos ⟨by omega, ⟨by omega, by omega⟩, by omega⟩]
    unfold value_fold.all
    rw [runs_wl]
    dsimp only
    by_cases e : (wv b r l).2 = 0
    ·rw [if_pos e, if_pos e, reverse_f (by rw [List.length_reverse, wl_length]; omega) (by rw [List.length_reverse, wl_length]; omega), List.reverse_reverse]
     rfl
    ·rw [if_neg e, if_neg e]
     rfl
   ·rw [decide_eq_false h, if_neg (by simp), if_neg h]
  ·rw [decide_eq_false m, if_pos (by rfl), if_neg m]
 ·rw [if_pos (by omega), if_neg c]
def fine (r : Int) (l : List Int) : Int × Int :=
 if l.length ≤ 600 then (if ∀ x ∈ l, mayM x then (if mayR r then (if (wv 1000 r l).2 = 0 then ((wv 1000 r l).1, 0) else (0, (wv 1000 r l).2)) else (0, 2)) else (0, 2)) else (0, 10)
theorem fine_f {l : List Int} {r : Int} {k : Nat} (hk : 700 ≤ k) : value_Fine.f k l r = some (fine r l) := by
 unfold value_Fine.f value_now.f
 rw [times_f hk, Option.bind_some]
 unfold all fine
 by_cases c : l.length ≤ 600
 ·rw [if_pos c, if_pos c]
  by_cases m : ∀ x ∈ l, mayM x
  ·rw [if_pos m, if_pos m]
   by_cases h : mayR r
   ·rw [if_pos h, if_pos h]
    by_cases e : (wv 1000 r l).2 = 0
    ·rw [if_pos e, if_pos e]
     dsimp only
     rw [if_pos rfl, if_pos (by rw [wl_length]; omega)]
     obtain ⟨t, ht⟩ := wl_head 1000 r l
     rw [ht]
     rfl
    ·rw [if_neg e, if_neg e]
     dsimp only
     rw [if_neg e]
     rfl
   ·rw [if_neg h, if_neg h]
    rfl
  ·rw [if_neg m, if_neg m]
   rfl
 ·rw [if_neg c, if_neg c]
  rfl
def cov (o : Int) (l : List Int) (r : Int) : Bool := if (fine r l).2 = 3 then true else if (fine r l).2 = 0 then decide ((fine r l).1 ≥ wrap64 (o * 1000)) else false
theorem covers_f {l : List Int} {o r : Int} {k : Nat} (hk : 700 ≤ k) : eir_covers.f k o l r = some (cov o l r) := by
 unfold eir_covers.f cov
 rw [fine_f hk, Option.bind_some]
 split
 ·rfl
 ·split <;> rfl
def mayE (o : Int) (l : List Int) : Prop := (0 < l.length ∧ l.length ≤ 600) ∧ (1 ≤ o ∧ o ≤ 10000000000000) ∧ (∀ x ∈ l, 0 ≤ x ∧ x ≤ 10000000000000) ∧ ∃ x ∈ l, 0 < x
instance (o : Int) (l : List Int) : Decidable (mayE o l) := inferInstanceAs (Decidable (_ ∧ _))
theorem may_l0 {l : List Int} (hn : l.length ≤ 600) : ∀ (d i k : Nat) (p : Bool), i + d = l.length → d + 1 ≤ k →
  eir_may.l0 k p l (l.length : Int) (i : Int) = some (decide ((∀ x ∈ l.drop i, 0 ≤ x ∧ x ≤ 10000000000000) ∧ (p = true ∨ ∃ x ∈ l.drop i, 0 < x))) := by
 intro d
 induction d with
 | zero =>
  intro i k p h hk
  obtain ⟨k, rfl⟩ : ∃ k', k = k' + 1 := ⟨k - 1, by omega⟩
  unfold eir_may.l0
  rw [if_neg (by omega), List.drop_eq_nil_of_le (by omega)]
  cases p <;> simp
 | succ d ih =>
  intro i k p h hk
  obtain ⟨k, rfl⟩ : ∃ k', k = k' + 1 := ⟨k - 1, by omega⟩
  have hi : i < l.length := by omega
  unfold eir_may.l0
  rw [if_pos (by omega), if_pos (by omega), if_pos (by omega), rd_lt hi, w64 (by omega) (by omega), show (i : Int) + 1 = ((i + 1 : Nat) : Int) by omega, ih (i + 1) k true (by omega) (by omega), ih (i + 1) k _ (by omega) (by omega), List.drop_eq_getElem_cons hi]
  by_cases h0 : l[i] < 0
  ·rw [if_pos h0, decide_eq_false]
   intro ⟨g, _⟩
   have := (g _ (List.mem_cons_self ..)).1
   omega
  rw [if_neg h0]
  by_cases h1 : l[i] > 10000000000000
  ·rw [if_pos h1, decide_eq_false]
   intro ⟨g, _⟩
   have := (g _ (List.mem_cons_self ..)).2
   omega
  rw [if_neg h1]
  have e1 : (∀ x ∈ l[i] :: l.drop (i + 1), 0 ≤ x ∧ x ≤ 10000000000000) ↔ ∀ x ∈ l.drop (i + 1), 0 ≤ x ∧ x ≤ 10000000000000 := by
   simp only [List.mem_cons, forall_eq_or_imp]
   exact ⟨fun g => g.2, fun g => ⟨⟨by omega, by omega⟩, g⟩⟩
  have e2 : (∃ x ∈ l[i] :: l.drop (i + 1), 0 < x) ↔ 0 < l[i] ∨ ∃ x ∈ l.drop (i + 1), 0 < x := ⟨fun ⟨x, hx, h⟩ => (List.mem_cons.1 hx).elim (fun e => .inl (e ▸ h)) fun hx => .inr ⟨x, hx, h⟩, fun h => h.elim (fun h => ⟨_, List.mem_cons_self .., h⟩) fun ⟨x, hx, h⟩ => ⟨x, List.mem_cons_of_mem _ hx, h⟩⟩
  cases p with
  | true =>
   rw [if_pos rfl]
   congr 1
   refine decide_eq_decide.2 ?_
   rw [e1]
   simp
  | false =>
   rw [if_neg (by simp)]
   congr 1
   refine decide_eq_decide.2 ?_
   rw [e1, e2]
   simp
theorem may_f {l : List Int} {o : Int} {k : Nat} (hk : 700 ≤ k) : eir_may.f k o l = some (decide (mayE o l)) := by
 obtain ⟨k, rfl⟩ : ∃ k', k = k' + 1 := ⟨k - 1, by omega⟩
 have j1 : eir_may.j0 (k + 1) l true = some false := by simp [eir_may.j0]
 have j2 : l.length ≤ 600 → eir_may.j0 (k + 1) l false = some (decide ((∀ x ∈ l, 0 ≤ x ∧ x ≤ 10000000000000) ∧ ∃ x ∈ l, 0 < x)) := fun h => by
  have e0 : eir_may.j0 (k + 1) l false = eir_may.l0 k false l (l.length : Int) 0 := by simp [eir_may.j0]
  rw [e0]
  have := may_l0 h l.length 0 k false (by omega) (by omega)
  rw [show ((0 : Nat) : Int) = 0 from rfl, List.drop_zero] at this
  rw [this]
  congr 1
  refine decide_eq_decide.2 ?_
  simp
 unfold eir_may.f
 by_cases c0 : (l.length : Int) = 0
 ·rw [if_pos c0, j1, show decide (mayE o l) = false from decide_eq_false fun h => by
   obtain ⟨⟨_, _⟩, ⟨_, _⟩, _⟩ := h
   omega]
 rw [if_neg c0]
 by_cases c1 : (l.length : Int) > 600
 ·rw [if_pos c1, j1, show decide (mayE o l) = false from decide_eq_false fun h => by
   obtain ⟨⟨_, _⟩, ⟨_, _⟩, _⟩ := h
   omega]
 rw [if_neg c1]
 by_cases c2 : o < 1
 ·rw [if_pos c2, j1, show decide (mayE o l) = false from decide_eq_false fun h => by
   obtain ⟨⟨_, _⟩, ⟨_, _⟩, _⟩ := h
   omega]
 rw [if_neg c2]
 by_cases c3 : o > 10000000000000
 ·rw [decide_eq_true c3, j1, show decide (mayE o l) = false from decide_eq_false fun h => by
   obtain ⟨⟨_, _⟩, ⟨_, _⟩, _⟩ := h
   omega]
 rw [decide_eq_false c3, j2 (by omega)]
 congr 1
 refine decide_eq_decide.2 ⟨fun h => ⟨⟨by omega, by omega⟩, ⟨by omega, by omega⟩, h⟩, fun h => h.2.2⟩
end Go.Proofs.Ytjgleaakgbnjgaa.XEir
end

section
namespace Go.Proofs.Ytjgleaakgbnjgaa.Par
open Go Go.Conc Go.RowKit Go.Proofs.Ytjgleaakgbnjgaa.S Go.Proofs.Ytjgleaakgbnjgaa.XEir Go.Proofs.YtjgleaakgbnjgaaW.PrintWords Go.Proofs.YtjgleaakgbnjgaaW.PrintMore
open Go.Proofs.Ytjgleaakgbnjgaa.XNum (w64)
variable {o : Int} {l : List Int}
def minS : Int := -990000000000
def maxS : Int := 10000000000000
def solveS (o : Int) (l : List Int) : Int × Int :=
 if mayE o l then (if cov o l minS = true then (if cov o l maxS = true then (0, 13) else (lastF (cov o l) minS maxS, 0)) else (0, 13)) else (0, 2)
theorem solve_l2 : ∀ (n : Nat) (lo hi : Int) (k : Nat), (hi - lo).toNat ≤ n → Fair lo hi → n + 705 ≤ k → eir_Solve.l2 k o l lo hi = some (lastT (cov o l) n lo hi, 0) := by
 intro n
 induction n with
 | zero =>
  intro lo hi k hn hf hk
  obtain ⟨b1, b2, b3, b4⟩ := hf
  obtain ⟨k, rfl⟩ : ∃ k', k = k' + 1 := ⟨k - 1, by omega⟩
  unfold eir_Solve.l2
  rw [w64 (by omega) (by omega), if_neg (by omega)]
  rfl
 | succ n ih =>
  intro lo hi k hn hf hk
  have hf' := hf
  obtain ⟨b1, b2, b3, b4⟩ := hf
  obtain ⟨k, rfl⟩ : ∃ k', k = k' + 1 := ⟨k - 1, by omega⟩
  unfold eir_Solve.l2 lastT
  rw [w64 (by omega) (by omega)]
  by_cases h : 1 < hi - lo
  ·rw [if_pos h, if_pos h, w64 (by omega) (by omega), covers_f (by omega), Option.bind_some]
   by_cases hp : cov o l (lo + 1) = true
   ·rw [if_pos hp, if_pos hp]
    exact ih (lo + 1) hi k (by omega) ⟨by omega, by omega, b3, b4⟩ (by omega)
   ·rw [if_neg hp, if_neg hp]
  ·rw [if_neg h, if_neg h]
theorem third_f {lo hi : Int} (h : Fair lo hi) (h3 : 3 < hi - lo) {n : Int} (hn : n = 1 ∨ n = 2) : eir_third_int64.f lo hi n = some (thirdAt lo hi n) := by
 obtain ⟨b1, b2, b3, b4⟩ := h
 unfold eir_third_int64.f thirdAt
 rw [w64 (n := hi - lo) (by omega) (by omega), Int.tdiv_eq_ediv_of_nonneg (by omega)]
 rcases hn with rfl | rfl
 ·rw [w64 (n := (hi - lo) / 3) (by omega) (by omega), w64 (n := (hi - lo) / 3 * 1) (by omega) (by omega), w64 (by omega) (by omega)]
 ·rw [w64 (n := (hi - lo) / 3) (by omega) (by omega), w64 (n := (hi - lo) / 3 * 2) (by omega) (by omega), w64 (by omega) (by omega)]
theorem solve_l1 : ∀ (n : Nat) (lo hi : Int) (k : Nat), (hi - lo).toNat ≤ n → Fair lo hi → 2 * n + 710 ≤ k →
  eir_Solve.l1 k o l lo hi = some (lastT (cov o l) ((lastR (cov o l) n lo hi).2 - (lastR (cov o l) n lo hi).1).toNat (lastR (cov o l) n lo hi).1 (lastR (cov o l) n lo hi).2, 0) := by
 intro n
 induction n with
 | zero =>
  intro lo hi k hn hf hk
  have hf' := hf
  obtain ⟨b1, b2, b3, b4⟩ := hf
  obtain ⟨k, rfl⟩ : ∃ k', k = k' + 1 := ⟨k - 1, by omega⟩
  unfold eir_Solve.l1 lastR
  rw [w64 (by omega) (by omega), if_neg (by omega)]
  exact solve_l2 _ lo hi k (Nat.le_refl _) hf' (by omega)
 | succ n ih =>
  intro lo hi k hn hf hk
  have hf' := hf
  obtain ⟨b1, b2, b3, b4⟩ := hf
  obtain ⟨k, rfl⟩ : ∃ k', k = k' + 1 := ⟨k - 1, by omega⟩
  unfold eir_Solve.l1 lastR
  rw [w64 (by omega) (by omega)]
  by_cases h : 3 < hi - lo
  case neg =>
   rw [if_neg h, if_neg h]
   exact solve_l2 _ lo hi k (Nat.le_refl _) hf' (by omega)
  rw [if_pos h, if_pos h, third_f hf' h (.inl rfl), Option.bind_some, third_f hf' h (.inr rfl), Option.bind_some, covers_f (by omega), Option.bind_some, covers_f (by omega), Option.bind_some]
  obtain ⟨t1, t2, t3⟩ := thirds h
  dsimp only
  generalize thirdAt lo hi 1 = x at *
  generalize thirdAt lo hi 2 = y at *
  unfold gotOf mx mn
  by_cases p1 : cov o l x = true
  ·by_cases p2 : cov o l y = true
   ·rw [if_pos p1, if_pos p2]
    simp only [p1, p2, if_true, if_pos t1, if_pos t2]
    exact ih y hi k (by omega) ⟨by omega, by omega, b3, b4⟩ (by omega)
   ·rw [if_pos p1, if_neg p2]
    simp only [p1, p2, if_true, if_pos t1, if_pos t3, if_false, Bool.false_eq_true]
    exact ih x y k (by omega) ⟨by omega, by omega, by omega, by omega⟩ (by omega)
  ·by_cases p2 : cov o l y = true
   ·rw [if_neg p1, if_pos p2]
    simp only [p1, p2, if_true, if_pos (show lo < y by omega), if_pos (show x < hi by omega), if_false, Bool.false_eq_true]
    exact ih y x k (by omega) ⟨by omega, by omega, by omega, by omega⟩ (by omega)
   ·rw [if_neg p1, if_neg p2]
    simp only [p1, p2, if_pos (show x < hi by omega), if_neg (show ¬y < x by omega), if_false, Bool.false_eq_true]
    exact ih lo x k (by omega) ⟨b1, b2, by omega, by omega⟩ (by omega)
theorem solve_f (hl : l.length ≤ 9223372036854775807) : ∃ k, ∀ n, k ≤ n → eir_Solve.f n o l = some (solveS o l) := by
 obtain ⟨M, hM, h1⟩ : ∃ M, 710 ≤ M ∧ ∀ k, M ≤ k → eir_Solve.l1 k o l minS maxS = some (lastF (cov o l) minS maxS, 0) :=
  ⟨2 * (maxS - minS).toNat + 710, Nat.le_add_left _ _, fun k hk => solve_l1 _ minS maxS k (Nat.le_refl _) (by unfold Fair minS maxS; omega) hk⟩
 refine ⟨l.length + (M + 1), fun n hn => ?_⟩
 unfold eir_Solve.f
 rw [if_pos (by omega), if_pos (by omega)]
 have key : ∀ (d i k : Nat), i + d = l.length → d + (M + 1) ≤ k → eir_Solve.l0 k o l (l.length : Int) (i : Int) = some (solveS o l) := by
  intro d
  induction d with
  | zero =>
   intro i k hi hk
   obtain ⟨k, rfl⟩ : ∃ k', k = k' + 1 := ⟨k - 1, by omega⟩
   unfold eir_Solve.l0 solveS
   rw [if_neg (by omega), may_f (by omega), Option.bind_some]
   by_cases m : mayE o l
   ·rw [decide_eq_true m, if_pos rfl, if_pos m]
    show ((eir_covers.f k o l minS).bind fun t176 => if t176 = true then (eir_covers.f k o l maxS).bind fun t177 => if t177 = true then some (0, 13) else eir_Solve.l1 k o l minS maxS else some (0, 13)) = _
    rw [covers_f (by omega), Option.bind_some]
    by_cases c1 : cov o l minS = true
    ·rw [if_pos c1, if_pos c1, covers_f (by omega), Option.bind_some]
     by_cases c2 : cov o l maxS = true
     ·rw [if_pos c2, if_pos c2]
     ·rw [if_neg c2, if_neg c2, h1 k (by omega)]
    ·rw [if_neg c1, if_neg c1]
   ·rw [decide_eq_false m, if_neg (by simp), if_neg m]
  | succ d ih =>
   intro i k hi hk
   obtain ⟨k, rfl⟩ : ∃ k', k = k' + 1 := ⟨k - 1, by omega⟩
   unfold eir_Solve.l0
   rw [if_pos (by omega), if_pos (by omega), if_pos (by omega), w64 (by omega) (by omega), show (i : Int) + 1 = ((i + 1 : Nat) : Int) by omega]
   exact ih (i + 1) k (by omega) (by omega)
 exact key l.length 0 n (by omega) hn
end Go.Proofs.Ytjgleaakgbnjgaa.Par
end

section
namespace Go.Proofs.Ytjgleaakgbnjgaa.EirP
open Go.RowKit Go.Proofs.Ytjgleaakgbnjgaa.S Go.Proofs.Ytjgleaakgbnjgaa.XNum Go.Proofs.Ytjgleaakgbnjgaa.XBits Go.Proofs.Ytjgleaakgbnjgaa.XWide Go.Proofs.Ytjgleaakgbnjgaa.Rnd Go.Proofs.Ytjgleaakgbnjgaa.XMdiv Go.Proofs.Ytjgleaakgbnjgaa.XRate Go.Proofs.Ytjgleaakgbnjgaa.XEir Go.Proofs.Ytjgleaakgbnjgaa.Par Go.Proofs.YtjgleaakgbnjgaaW.PrintWords
def disc (r s : Int) : Int := near (s * 1000000000000) (1000000000000 + r)
def V (r : Int) : List Int → Int
 | [] => 0
 | x :: l => disc r (x * 1000 + V r l)
def Er (r : Int) : List Int → Prop
 | [] => False
 | x :: l => Er r l ∨ 4611686018427387904 < V r (x :: l)
def Pos (l : List Int) : Prop := ∀ x ∈ l, 0 ≤ x ∧ x ≤ 10000000000000
theorem Pos.tail {x : Int} {l : List Int} (h : Pos (x :: l)) : Pos l := fun y hy => h y (List.mem_cons_of_mem _ hy)
theorem disc_mono {r s s' : Int} (hr : mayR r) (h : s ≤ s') : disc r s ≤ disc r s' := near_mono (by unfold mayR at hr; omega) (by omega)
theorem disc_anti {r r' s : Int} (hr : mayR r) (hrr : r ≤ r') (h : 0 ≤ s) : disc r' s ≤ disc r s := near_anti (by omega) (by unfold mayR at hr; omega) (by omega)
theorem disc_nn {r s : Int} (hr : mayR r) (h : 0 ≤ s) : 0 ≤ disc r s := near_nn (by unfold mayR at hr; omega) (by omega)
theorem V_nn {r : Int} (hr : mayR r) : ∀ {l : List Int}, Pos l → 0 ≤ V r l
 | [], _ => Int.le_refl 0
 | x :: l, h => disc_nn hr (by
   have := V_nn hr h.tail
   have := (h x List.mem_cons_self).1
   omega)
theorem V_anti {r s : Int} (hr : mayR r) (hs : mayR s) (hrs : r ≤ s) : ∀ {l : List Int}, Pos l → V s l ≤ V r l
 | [], _ => Int.le_refl 0
 | x :: l, h => by
  have g := V_anti hr hs hrs h.tail
  have n1 := V_nn hr h.tail
  have x0 := (h x List.mem_cons_self).1
  exact Int.le_trans (disc_mono hs (by omega)) (disc_anti hr hrs (by omega))
theorem Er_anti {r s : Int} (hr : mayR r) (hs : mayR s) (hrs : r ≤ s) : ∀ {l : List Int}, Pos l → Er s l → Er r l
 | [], _, e => e
 | x :: l, h, e => e.imp (Er_anti hr hs hrs h.tail) fun g => Int.lt_of_lt_of_le g (V_anti hr hs hrs h)
theorem step {r x b : Int} (hr : mayR r) (hx : 0 ≤ x ∧ x ≤ 10000000000000) (hb : 0 ≤ b ∧ b ≤ 4611686018427387904) :
  (disc r (x * 1000 + b) ≤ 4611686018427387904 → value_fold.stepv 1000 r x b = (disc r (x * 1000 + b), 0)) ∧ (4611686018427387904 < disc r (x * 1000 + b) → (value_fold.stepv 1000 r x b).2 = 3) := by
 have hn := disc_nn hr (s := x * 1000 + b) (by omega)
 unfold value_fold.stepv
 rw [w64 (by omega) (by omega), XMoney.told_in (by omega) (by omega)]
 dsimp only
 rw [if_pos rfl]
 have hd : discount (x * 1000 + b) r = if I64 (disc r (x * 1000 + b)) then (disc r (x * 1000 + b), 0) else (0, 3) := by
  unfold discount disc
  rw [if_pos hr, mdiv_n (by unfold mayR at hr; omega)]
 rw [hd]
 generalize disc r (x * 1000 + b) = v at *
 constructor
 ·intro h
  rw [if_pos (show I64 v from ⟨by omega, by omega⟩)]
  dsimp only
  rw [if_pos rfl, if_neg (by omega), if_neg (by omega)]
 ·intro h
  by_cases c : I64 v
  ·rw [if_pos c]
   dsimp only
   rw [if_pos rfl, if_pos (by omega)]
  ·rw [if_neg c]
   rfl
theorem V_le {r : Int} : ∀ {l : List Int}, ¬Er r l → V r l ≤ 4611686018427387904
 | [], _ => by
  show (0 : Int) ≤ _
  omega
 | x :: l, h => by
  by_cases c : 4611686018427387904 < V r (x :: l)
  ·exact absurd (.inr c) h
  ·omega
theorem wv_char {r : Int} (hr : mayR r) : ∀ {l : List Int}, Pos l → (Er r l → (wv 1000 r l).2 = 3) ∧ (¬Er r l → wv 1000 r l = (V r l, 0))
 | [], _ => ⟨fun h => h.elim, fun _ => rfl⟩
 | x :: l, h => by
  obtain ⟨g1, g2⟩ := wv_char hr h.tail
  by_cases c : Er r l
  ·have e : (wv 1000 r (x :: l)).2 = (wv 1000 r l).2 := by
    show (if (wv 1000 r l).2 = 0 then _ else _) = _
    rw [if_neg (by rw [g1 c]; decide)]
   exact ⟨fun _ => by rw [e, g1 c], fun hn => absurd (.inl c) hn⟩
  ·have e0 := g2 c
   have hb : 0 ≤ V r l ∧ V r l ≤ 4611686018427387904 := ⟨V_nn hr h.tail, V_le c⟩
   obtain ⟨s1, s2⟩ := step hr (h x List.mem_cons_self) hb
   have e : wv 1000 r (x :: l) = ((value_fold.stepv 1000 r x (V r l)).1, (value_fold.stepv 1000 r x (V r l)).2) := by
    show ((value_fold.stepv 1000 r x (wv 1000 r l).1).1, if (wv 1000 r l).2 = 0 then (value_fold.stepv 1000 r x (wv 1000 r l).1).2 else (wv 1000 r l).2) = _
    rw [e0]
    rfl
   constructor
   ·intro hE
    have hv : 4611686018427387904 < disc r (x * 1000 + V r l) := hE.resolve_left c
    rw [e, s2 hv]
   ·intro hE
    have hv : disc r (x * 1000 + V r l) ≤ 4611686018427387904 := Int.not_lt.1 fun g => hE (.inr g)
    rw [e, s1 hv]
    rfl
theorem fine_char {r : Int} {l : List Int} (hr : mayR r) (hn : l.length ≤ 600) (h : Pos l) : (Er r l → fine r l = (0, 3)) ∧ (¬Er r l → fine r l = (V r l, 0)) := by
 obtain ⟨g1, g2⟩ := wv_char hr h
 unfold fine
 rw [if_pos hn, if_pos (fun x hx => by have := h x hx; unfold mayM; omega), if_pos hr]
 constructor
 ·intro e
  rw [g1 e]
  rfl
 ·intro e
  rw [g2 e]
  rfl
theorem pos_of {o : Int} {l : List Int} (h : mayE o l) : Pos l := h.2.2.1
theorem cov_iff {o r : Int} {l : List Int} (hm : mayE o l) (hr : mayR r) : cov o l r = true ↔ Er r l ∨ 1000 * o ≤ V r l := by
 obtain ⟨g1, g2⟩ := fine_char hr hm.1.2 (pos_of hm)
 have ho := hm.2.1
 unfold cov
 by_cases c : Er r l
 ·rw [g1 c]
  exact ⟨fun _ => .inl c, fun _ => rfl⟩
 ·rw [g2 c]
  dsimp only
  rw [if_neg (by decide), if_pos rfl, w64 (by omega) (by omega)]
  simp only [decide_eq_true_eq]
  exact ⟨fun h => .inr (by omega), fun h => by have := h.resolve_left c; omega⟩
theorem cov_anti {o r s : Int} {l : List Int} (hm : mayE o l) (hr : mayR r) (hs : mayR s) (hrs : r ≤ s) (h : cov o l s = true) : cov o l r = true := by
 rw [cov_iff hm hr]
 rw [cov_iff hm hs] at h
 exact h.imp (Er_anti hr hs hrs (pos_of hm)) fun g => Int.le_trans g (V_anti hr hs hrs (pos_of hm))
section
variable {p : Int → Bool}
theorem got_keep {x lo hi : Int} (h1 : p lo = true) (h2 : p hi = false) : p (gotOf x (p x) lo hi).1 = true ∧ p (gotOf x (p x) lo hi).2 = false := by
 unfold gotOf
 cases hx : p x
 ·simp only [Bool.false_eq_true, if_false]
  refine ⟨h1, ?_⟩
  split <;> assumption
 ·simp only [if_true]
  refine ⟨?_, h2⟩
  split <;> assumption
theorem lastR_keep : ∀ (n : Nat) {lo hi : Int}, p lo = true → p hi = false → p (lastR p n lo hi).1 = true ∧ p (lastR p n lo hi).2 = false
 | 0, lo, hi, h1, h2 => ⟨h1, h2⟩
 | n + 1, lo, hi, h1, h2 => by
  unfold lastR
  split
  ·have g1 := got_keep (x := thirdAt lo hi 1) h1 h2
   have g2 := got_keep (x := thirdAt lo hi 2) g1.1 g1.2
   exact lastR_keep n g2.1 g2.2
  ·exact ⟨h1, h2⟩
theorem lastT_keep : ∀ (n : Nat) {lo hi : Int}, (hi - lo).toNat ≤ n → lo < hi → p lo = true → p hi = false → p (lastT p n lo hi) = true ∧ p (lastT p n lo hi + 1) = false ∧ lo ≤ lastT p n lo hi ∧ lastT p n lo hi < hi
 | 0, lo, hi, hn, hlt, h1, h2 => absurd hn (by omega)
 | n + 1, lo, hi, hn, hlt, h1, h2 => by
  unfold lastT
  by_cases c : 1 < hi - lo
  ·rw [if_pos c]
   cases hp : p (lo + 1)
   ·rw [if_neg (by decide)]
    exact ⟨h1, hp, Int.le_refl _, hlt⟩
   ·rw [if_pos rfl]
    obtain ⟨g1, g2, g3, g4⟩ := lastT_keep n (lo := lo + 1) (hi := hi) (by omega) (by omega) hp h2
    exact ⟨g1, g2, by omega, g4⟩
  ·rw [if_neg c]
   have : hi = lo + 1 := by omega
   subst this
   exact ⟨h1, h2, Int.le_refl _, hlt⟩
theorem lastF_char {L H : Int} (ha : ∀ a b, L ≤ a → a ≤ b → b ≤ H → p b = true → p a = true) (hL : L < H) (h1 : p L = true) (h2 : p H = false) : p (lastF p L H) = true ∧ p (lastF p L H + 1) = false ∧ L ≤ lastF p L H ∧ lastF p L H < H := by
 unfold lastF
 have k := lastR_keep (H - L).toNat h1 h2
 have b := lastR_in p (H - L).toNat (lo := L) (hi := H) (l := L) (h := H) ⟨Int.le_refl _, by omega⟩ ⟨by omega, Int.le_refl _⟩
 generalize lastR p (H - L).toNat L H = q at *
 have hlt : q.1 < q.2 := Int.not_le.1 fun hle => by
  have := ha q.2 q.1 (by omega) hle (by omega) k.1
  rw [k.2] at this
  cases this
 obtain ⟨g1, g2, g3, g4⟩ := lastT_keep (q.2 - q.1).toNat (Nat.le_refl _) hlt k.1 k.2
 exact ⟨g1, g2, by omega, by omega⟩
theorem last_uniq {L H r s : Int} (ha : ∀ a b, L ≤ a → a ≤ b → b ≤ H → p b = true → p a = true) (hr : L ≤ r ∧ r < H) (hs : L ≤ s ∧ s < H) (r1 : p r = true) (r2 : p (r + 1) = false) (s1 : p s = true) (s2 : p (s + 1) = false) : r = s := by
 rcases Int.lt_trichotomy r s with h | h | h
 ·have := ha (r + 1) s (by omega) (by omega) (by omega) s1
  rw [r2] at this
  cases this
 ·exact h
 ·have := ha (s + 1) r (by omega) (by omega) (by omega) r1
  rw [s2] at this
  cases this
end
theorem mayR_of {r : Int} (h1 : minS ≤ r) (h2 : r ≤ maxS) : mayR r := by
 unfold minS at h1
 unfold maxS at h2
 exact ⟨h1, h2⟩
theorem cov_mono {o : Int} {l : List Int} (hm : mayE o l) : ∀ a b, minS ≤ a → a ≤ b → b ≤ maxS → cov o l b = true → cov o l a = true := fun a b h1 h2 h3 h =>
 cov_anti hm (mayR_of h1 (by omega)) (mayR_of (by omega) h3) h2 h
theorem solve_ok {o r : Int} {l : List Int} : solveS o l = (r, 0) ↔ mayE o l ∧ (minS ≤ r ∧ r < maxS) ∧ cov o l r = true ∧ cov o l (r + 1) = false := by
 constructor
 ·intro h
  unfold solveS at h
  split at h
  ·rename_i hm
   split at h
   ·rename_i h1
    split at h
    ·exact absurd (congrArg Prod.snd h) (show ¬((_ : Int) = 0) by decide)
    ·rename_i h2
     have hF : cov o l maxS = false := by simpa using h2
     obtain ⟨g1, g2, g3, g4⟩ := lastF_char (cov_mono hm) (by decide) h1 hF
     obtain rfl : lastF (cov o l) minS maxS = r := congrArg Prod.fst h
     exact ⟨hm, ⟨g3, g4⟩, g1, g2⟩
   ·exact absurd (congrArg Prod.snd h) (show ¬((_ : Int) = 0) by decide)
  ·exact absurd (congrArg Prod.snd h) (show ¬((_ : Int) = 0) by decide)
 ·rintro ⟨hm, ⟨b1, b2⟩, h1, h2⟩
  have c1 : cov o l minS = true := cov_mono hm _ _ (Int.le_refl _) b1 (by omega) h1
  have c2 : cov o l maxS = false := by
   cases c : cov o l maxS with
   | false => rfl
   | true =>
    have := cov_mono hm (r + 1) maxS (by omega) (by omega) (Int.le_refl _) c
    rw [h2] at this
    cases this
  unfold solveS
  rw [if_pos hm, if_pos c1, if_neg (by rw [c2]; decide)]
  obtain ⟨g1, g2, g3, g4⟩ := lastF_char (cov_mono hm) (by decide) c1 c2
  rw [last_uniq (cov_mono hm) ⟨g3, g4⟩ ⟨b1, b2⟩ g1 g2 h1 h2]
theorem solve_no {o : Int} {l : List Int} (h : (solveS o l).2 ≠ 0) : solveS o l = (0, 2) ∧ ¬mayE o l ∨ solveS o l = (0, 13) ∧ mayE o l ∧ (cov o l minS = false ∨ cov o l maxS = true) := by
 unfold solveS at h ⊢
 split
 ·rename_i hm
  rw [if_pos hm] at h
  split
  ·rename_i h1
   rw [if_pos h1] at h
   split
   ·rename_i h2
    exact .inr ⟨rfl, hm, .inr h2⟩
   ·rename_i h2
    rw [if_neg h2] at h
    exact absurd rfl h
  ·rename_i h1
   exact .inr ⟨rfl, hm, .inl (by simpa using h1)⟩
 ·rename_i hm
  exact .inl ⟨rfl, hm⟩
end Go.Proofs.Ytjgleaakgbnjgaa.EirP
end

section
namespace Go.Proofs.Ytjgleaakgbnjgaa.EirP
open Go.RowKit Go.Proofs.Ytjgleaakgbnjgaa.S Go.Proofs.Ytjgleaakgbnjgaa.XNum Go.Proofs.Ytjgleaakgbnjgaa.XBits Go.Proofs.Ytjgleaakgbnjgaa.XWide Go.Proofs.Ytjgleaakgbnjgaa.Rnd Go.Proofs.Ytjgleaakgbnjgaa.XMdiv Go.Proofs.Ytjgleaakgbnjgaa.XRate Go.Proofs.Ytjgleaakgbnjgaa.XEir Go.Proofs.Ytjgleaakgbnjgaa.Par Go.Proofs.YtjgleaakgbnjgaaW.PrintWords
def fits (o : Int) (l : List Int) (r : Int) : Prop := mayE o l ∧ mayR r ∧ r < 10000000000000 ∧ cov o l r = true ∧ cov o l (r + 1) = false
instance (o : Int) (l : List Int) (r : Int) : Decidable (fits o l r) := inferInstanceAs (Decidable (_ ∧ _))
theorem fits_f {o r : Int} {l : List Int} {k : Nat} (hk : 700 ≤ k) : eir_Fits.f k o l r = some (decide (fits o l r)) := by
 unfold eir_Fits.f
 rw [may_f hk, Option.bind_some]
 by_cases m : mayE o l
 ·rw [decide_eq_true m, if_pos rfl, XRate.may, Option.bind_some]
  by_cases h : mayR r
  ·rw [decide_eq_true h, if_pos rfl]
   by_cases c : r < 10000000000000
   ·rw [if_pos c, covers_f hk, Option.bind_some]
    have hw : wrap64 (r + 1) = r + 1 := w64 (by unfold mayR at h; omega) (by omega)
    cases e1 : cov o l r
    ·rw [if_neg (by decide), decide_eq_false fun g => by rw [g.2.2.2.1] at e1; cases e1]
    ·rw [if_pos rfl, covers_f hk, Option.bind_some, hw]
     cases e2 : cov o l (r + 1)
     ·rw [decide_eq_true (show fits o l r from ⟨m, h, c, e1, e2⟩)]
      rfl
     ·rw [decide_eq_false fun g => by rw [g.2.2.2.2] at e2; cases e2]
      rfl
   ·rw [if_neg c, decide_eq_false fun g => c g.2.2.1]
  ·rw [decide_eq_false h, if_neg (by decide), decide_eq_false fun g => h g.2.1]
 ·rw [decide_eq_false m, if_neg (by decide), decide_eq_false fun g => m g.1]
theorem fits_iff {o r : Int} {l : List Int} : fits o l r ↔ solveS o l = (r, 0) := by
 rw [solve_ok]
 unfold fits minS maxS mayR
 constructor
 ·rintro ⟨h1, h2, h3, h4, h5⟩
  exact ⟨h1, ⟨by omega, by omega⟩, h4, h5⟩
 ·rintro ⟨h1, h2, h4, h5⟩
  exact ⟨h1, ⟨by omega, by omega⟩, by omega, h4, h5⟩
theorem ex1 : solveS 100 [105] = (50005250026, 0) := solve_ok.2 ⟨by decide +kernel, ⟨by decide, by decide⟩, by decide +kernel, by decide +kernel⟩
theorem ex2 : solveS 1000 [1] = (0, 13) := by
 have h1 : mayE 1000 [1] := by decide +kernel
 have h2 : cov 1000 [1] minS = false := by decide +kernel
 unfold solveS
 rw [if_pos h1, h2, if_neg (by decide)]
theorem solve_k (o : Int) (l : List Int) (hl : l.length ≤ 9223372036854775807) : ∃ k, ∀ n, k ≤ n → eir_Solve.f n o l = some (solveS o l) := solve_f hl
theorem alive_f : ∃ k, ∀ n, k ≤ n → lombardlaw10_alive.f n = some true := by
 obtain ⟨k1, h1⟩ := solve_k 100 [105] (by decide)
 obtain ⟨k2, h2⟩ := solve_k 1000 [1] (by decide)
 refine ⟨k1 + k2 + 700, fun n hn => ?_⟩
 unfold lombardlaw10_alive.f
 rw [h1 n (by omega), Option.bind_some, h2 n (by omega), Option.bind_some, ex1, ex2]
 dsimp only
 rw [if_pos rfl, if_pos (by decide), if_pos (by decide), if_pos rfl, fits_f (by omega), Option.bind_some, decide_eq_true (fits_iff.2 ex1)]
end Go.Proofs.Ytjgleaakgbnjgaa.EirP
end

section
namespace Go.Proofs.Ytjgleaakgbnjgaa.Pure
open Go.RowKit Go.Proofs.Ytjgleaakgbnjgaa.S Go.Proofs.Ytjgleaakgbnjgaa.XNum Go.Proofs.Ytjgleaakgbnjgaa.XEir Go.Proofs.Ytjgleaakgbnjgaa.Par Go.Proofs.Ytjgleaakgbnjgaa.EirP Go.Proofs.Ytjgleaakgbnjgaa.XRate Go.Proofs.YtjgleaakgbnjgaaW.PrintWords Go.Proofs.YtjgleaakgbnjgaaW.PrintLast Go.Proofs.YtjgleaakgbnjgaaW.PrintMore
inductive Le : List Int → List Int → Prop
 | nil : Le [] []
 | cons {x y : Int} {l m : List Int} (h : x ≤ y) (t : Le l m) : Le (x :: l) (y :: m)
theorem Le.refl : ∀ l, Le l l
 | [] => .nil
 | x :: l => .cons (Int.le_refl _) (Le.refl l)
theorem le_set : ∀ (l : List Int) (i : Nat) (y : Int), (∀ x, l[i]? = some x → x ≤ y) → Le l (l.set i y)
 | [], _, _, _ => by simpa using Le.nil
 | x :: l, 0, y, h => .cons (h x rfl) (Le.refl l)
 | x :: l, i + 1, y, h => .cons (Int.le_refl _) (le_set l i y fun z hz => h z hz)
theorem V_more {r : Int} (hr : mayR r) {l m : List Int} (h : Le l m) : V r l ≤ V r m := by
 induction h with
 | nil => exact Int.le_refl _
 | cons hx _ ih => exact disc_mono hr (by omega)
theorem Er_more {r : Int} (hr : mayR r) {l m : List Int} (h : Le l m) (e : Er r l) : Er r m := by
 induction h with
 | nil => exact e
 | cons hx t ih => exact e.imp ih fun g => Int.lt_of_lt_of_le g (V_more hr (.cons hx t))
theorem solve_le {o o' r s : Int} {l m : List Int} (h : solveS o l = (r, 0)) (h' : solveS o' m = (s, 0)) (ho : o' ≤ o) (hl : Le l m) : r ≤ s := by
 obtain ⟨m1, ⟨b1, b2⟩, c1, c2⟩ := solve_ok.1 h
 obtain ⟨m2, ⟨d1, d2⟩, e1, e2⟩ := solve_ok.1 h'
 refine Int.not_lt.1 fun hlt => ?_
 have hr : mayR r := mayR_of b1 (by omega)
 have hc : cov o' m r = true := by
  rw [cov_iff m2 hr]
  rw [cov_iff m1 hr] at c1
  exact c1.imp (Er_more hr hl) fun g => Int.le_trans (by omega) (Int.le_trans g (V_more hr hl))
 have := cov_mono m2 (s + 1) r (by omega) (by omega) (by omega) hc
 rw [e2] at this
 cases this
theorem more_at {a : Int} {l : List Int} (ha : 0 ≤ a ∧ a ≤ 255) (hpos : 0 < l.length) : ∃ i : Nat, i < l.length ∧ Int.tmod (wrap64 a) (l.length : Int) = (i : Int) := by
 rw [w64 (by omega) (by omega), Int.tmod_eq_emod_of_nonneg ha.1]
 have e1 := Int.emod_nonneg a (b := (l.length : Int)) (by omega)
 have e2 := Int.emod_lt_of_pos a (b := (l.length : Int)) (by omega)
 exact ⟨(a % (l.length : Int)).toNat, by omega, by omega⟩
theorem more_tail {o r more at_ : Int} {l : List Int} {k : Nat} (h : solveS o l = (r, 0)) (h0 : 0 ≤ more ∧ more ≤ 1000000) (ha : 0 ≤ at_ ∧ at_ ≤ 255) (hpos : 0 < l.length) (hk : ∀ (i : Nat) (hi : i < l.length), Int.tmod (wrap64 at_) (l.length : Int) = (i : Int) → eir_Solve.f k o (l.set i (l[i] + more)) = some (solveS o (l.set i (l[i] + more)))) :
  (if (l.length : Int) = 0 then (none : Option Bool) else (if 0 ≤ (Int.tmod (wrap64 at_) (l.length : Int)) then (if (Int.tmod (wrap64 at_) (l.length : Int)) < (l.length : Int) then ((eir_Solve.f k o (l.set ((Int.tmod (wrap64 at_) (l.length : Int)) : Int).toNat (wrap64 ((rd l (Int.tmod (wrap64 at_) (l.length : Int))) + more)))).bind fun bt => (if bt.2 = 0 then (some (decide (bt.1 ≥ r))) else (some true))) else (none)) else (none))) = some true := by
 have hm := (solve_ok.1 h).1
 obtain ⟨i, hi, ei⟩ := more_at ha hpos
 have hk := hk i hi ei
 rw [ei, if_neg (by omega), if_pos (by omega), if_pos (by omega), rd_lt hi, Int.toNat_natCast]
 have hx := pos_of hm l[i] (List.getElem_mem hi)
 rw [w64 (by omega) (by omega), hk, Option.bind_some]
 by_cases e : (solveS o (l.set i (l[i] + more))).2 = 0
 ·rw [if_pos e]
  have := solve_le h (s := (solveS o (l.set i (l[i] + more))).1) (m := l.set i (l[i] + more)) (by rw [← e]) (Int.le_refl _) (le_set l i _ fun x hx => by
   rw [List.getElem?_eq_getElem hi] at hx
   obtain rfl := Option.some.inj hx
   omega)
  rw [decide_eq_true (show _ ≥ r from this)]
 ·rw [if_neg e]
theorem EirMore : lombardlaw10_EirMore.Pure := by
 intro a0 a1 l a3 h0 h1 hl h3
 have b3 : 0 ≤ a3 ∧ a3 ≤ 255 := wfu8.1 h3
 have hll : l.length ≤ 9223372036854775807 := Nat.le_trans hl.1 (by decide)
 obtain ⟨ka, ha⟩ := alive_f
 obtain ⟨more, hmore⟩ : ∃ m, m = mn (mx a1 0) 1000000 := ⟨_, rfl⟩
 have bm : 0 ≤ more ∧ more ≤ 1000000 := by
  rw [hmore]
  unfold mn mx
  constructor <;> (repeat' split) <;> omega
 obtain ⟨k1, s1⟩ := solve_k a0 l hll
 obtain ⟨k2, s2⟩ := solve_k (wrap64 (a0 + more)) l hll
 obtain ⟨k3, s3⟩ : ∃ k, ∀ n, k ≤ n → ∀ (i : Nat) (hi : i < l.length), Int.tmod (wrap64 a3) (l.length : Int) = (i : Int) → eir_Solve.f n a0 (l.set i (l[i] + more)) = some (solveS a0 (l.set i (l[i] + more))) := by
  by_cases hpos : 0 < l.length
  ·obtain ⟨i, hi, ei⟩ := more_at b3 hpos
   obtain ⟨k, hk⟩ := solve_k a0 (l.set i (l[i] + more)) (by rw [List.length_set]; exact hll)
   refine ⟨k, fun n hn j hj ej => ?_⟩
   obtain rfl : i = j := by omega
   exact hk n hn
  ·exact ⟨0, fun n _ i hi _ => absurd hi (by omega)⟩
 refine ⟨ka + k1 + k2 + k3 + 1000, ?_⟩
 unfold lombardlaw10_EirMore.f
 rw [ha _ (by omega), Option.bind_some, if_pos rfl]
 have stop : lombardlaw10_EirMore.j0 (ka + k1 + k2 + k3 + 1000) a0 a1 l a3 true = some true := by
  rw [show ka + k1 + k2 + k3 + 1000 = (ka + k1 + k2 + k3 + 999) + 1 from rfl, lombardlaw10_EirMore.j0, if_pos rfl]
 by_cases c : (l.length : Int) > 60
 ·rw [if_pos c, stop]
 rw [if_neg c]
 by_cases c0 : l.length = 0
 ·rw [c0]
  exact stop
 rw [show ((l.length : Int) == 0) = false by simp; intro h; exact c0 (by rw [h]; rfl)]
 rw [show ka + k1 + k2 + k3 + 1000 = (ka + k1 + k2 + k3 + 999) + 1 from rfl, lombardlaw10_EirMore.j0, if_neg (by decide), s1 _ (by omega), Option.bind_some]
 by_cases e : (solveS a0 l).2 = 0
 case neg => rw [if_neg e]
 obtain ⟨r, hr⟩ : ∃ r, solveS a0 l = (r, 0) := ⟨(solveS a0 l).1, by rw [← e]⟩
 obtain ⟨hm, ⟨b1, b2⟩, c1, c2⟩ := solve_ok.1 hr
 have ho := hm.2.1
 have hw : wrap64 (a0 + more) = a0 + more := w64 (by omega) (by omega)
 have tail := more_tail (k := ka + k1 + k2 + k3 + 999) (more := more) (at_ := a3) hr bm b3 (by omega) (s3 _ (by omega))
 rw [hw] at s2
 rw [hr, ← hmore, hw]
 dsimp only
 rw [if_pos rfl, s2 _ (by omega), Option.bind_some]
 simp only [Option.bind_some, List.nil_append, List.length_nil, Nat.zero_add]
 rw [if_pos (show l.length < 17592186044416 by omega), tail]
 by_cases e2 : (solveS (a0 + more) l).2 = 0
 ·have := solve_le (show solveS (a0 + more) l = ((solveS (a0 + more) l).1, 0) by rw [← e2]) hr (by omega) (Le.refl l)
  rw [if_pos e2, if_neg (by omega)]
 ·rw [if_neg e2]
  by_cases e3 : (solveS (a0 + more) l).2 = 13
  ·rw [if_pos e3]
  ·rw [if_neg e3]
   rcases solve_no e2 with ⟨h, hno⟩ | ⟨h, _⟩
   ·rw [if_neg fun hle => hno ⟨hm.1, ⟨by omega, hle⟩, hm.2.2⟩]
   ·rw [h] at e3
    exact absurd rfl e3
end Go.Proofs.Ytjgleaakgbnjgaa.Pure
end

section
namespace Go.Proofs.Ytjgleaakgbnjgaa.XOpen
open Go.ChangeShapes Go.WideShapes Go.RowKit Go.Proofs.YtjgleaakgbnjgaaW.PrintWords
section
variable {H : Type} {enc : TypeId × Value → H} {P : Program} {w : World} {base : Nat} {spare : Nat → Bool} {held : Bool}
def Opens {α : Type} (enc : TypeId × Value → H) (P : Program) (w : World) (base : Nat) (spare : Nat → Bool) (held : Bool) (t : TypeId) (d : Kd α) (g : α → Prop) : Prop :=
 ∀ fuel cs x, DataW.trod enc P w base spare held fuel t cs = some x → ∃ a, d.K w a cs ∧ g a
theorem opens_int {t : TypeId} {k : IntKind} (ht : P.underlying t = some (.int k)) : Opens enc P w base spare held t (Kd.int k) (fun a => (Lit.int k a).wf = true) := by
 intro fuel cs x h
 obtain ⟨n, rfl, _, hw⟩ := DataW.trod_int ht h
 exact ⟨n, rfl, hw⟩
theorem choose_list {α : Type} (n : Nat) (p : Nat → α → Prop) (h : ∀ i, i < n → ∃ a, p i a) : ∃ l : List α, l.length = n ∧ ∀ i a, l[i]? = some a → p i a := by
 induction n with
 | zero => exact ⟨[], rfl, fun i a hi => by simp at hi⟩
 | succ n ih =>
  obtain ⟨l, hl, hp⟩ := ih (fun i hi => h i (by omega))
  obtain ⟨a, ha⟩ := h n (by omega)
  refine ⟨l ++ [a], by simp [hl], fun i b hi => ?_⟩
  by_cases hin : i < n
  ·rw [List.getElem?_append_left (by omega)] at hi
   exact hp i b hi
  ·by_cases e : i = n
   ·subst e
    rw [List.getElem?_append_right (by omega), hl] at hi
    simp at hi
    subst hi
    exact ha
   ·rw [List.getElem?_append_right (by omega), hl, List.getElem?_eq_none (by simp; omega)] at hi
    cases hi
theorem opens_slice {α : Type} {t e : TypeId} {d : Kd α} {g : α → Prop} (ht : P.underlying t = some (.slice e)) (hc : P.cellsOf e = d.sz) (he : Opens enc P w base spare held e d g) :
  Opens enc P w base spare held t (Kd.slice e d) (fun l => l.length ≤ maxLen ∧ ∀ a ∈ l, g a) := by
 intro fuel cs x h
 rcases DataW.trod_slice ht h with ⟨rfl, _⟩ | ⟨a, len, cap, elems, rest, n, _, rfl, _, _, hl, hm, hlen, hel, _⟩
 ·exact ⟨[], ⟨none, 0, rfl, Nat.le_refl _, rfl, Nat.zero_le _, fun h0 => absurd h0 (Nat.lt_irrefl 0)⟩, Nat.zero_le _, fun a ha => absurd ha List.not_mem_nil⟩
 ·have hp : ∀ i, i < len → ∃ q : α, (∃ c : List Value, c.length = d.sz ∧ d.K w q c ∧ ∀ j u, c[j]? = some u → w.cell? (a.add (i * d.sz + j)) = some u) ∧ g q := by
   intro i hi
   have h1 := hel i hi
   have hi' : i < elems.length := by omega
   rw [List.getElem?_eq_getElem hi', Option.bind_eq_some_iff] at h1
   obtain ⟨c, hcs, hy⟩ := h1
   obtain ⟨q, hk, hg⟩ := he _ _ _ hy
   obtain ⟨_, hcl, hat⟩ := World.cells?_some hcs
   refine ⟨q, ⟨c, hcl.trans hc, hk, fun j u hu => ?_⟩, hg⟩
   have hj : j < P.cellsOf e := by
    have := (List.getElem?_eq_some_iff.1 hu).1
    omega
   have h2 := hat j hj
   rw [hu, hc] at h2
   have h3 : (a.add (i * d.sz)).add j = a.add (i * d.sz + j) := by
    exact Go.Deep.add_add a (i * d.sz) j
   rw [h3] at h2
   exact h2
  obtain ⟨l, hll, hall⟩ := choose_list len _ hp
  subst hll
  refine ⟨l, ⟨some a, cap, rfl, hl, ?_⟩, Nat.le_trans hl hm, fun q hq => ?_⟩
  ·refine ⟨rfl, ?_, fun _ => ⟨a, rfl, fun j p hj => (hall j p hj).1⟩⟩
   have := Nat.le_trans hl hm
   unfold maxLen at this
   exact this
  ·obtain ⟨i, hi⟩ := List.getElem?_of_mem hq
   exact (hall i q hi).2
theorem field_of {α : Type} {t : TypeId} {fs : Array Field} {d : Kd α} {g : α → Prop} {fuel : Nat} {cs : List Value} {x : DataW H × List MemPlace} (ht : P.underlying t = some (.struct fs)) (h : DataW.trod enc P w base spare held fuel t cs = some x)
  (i : Nat) (f : Field) (hf : fs[i]? = some f) (ho : Opens enc P w base spare held f.type d g) (off sz : Nat) (h0 : f.offset = off) (h1 : P.cellsOf f.type = sz) : ∃ a, d.K w a ((cs.drop off).take sz) ∧ g a := by
 subst h0 h1
 obtain ⟨xs, n, _, _, _, hl, hat⟩ := DataW.trod_struct ht h
 have hi : i < xs.length := by
  rw [hl]
  exact (Array.getElem?_eq_some_iff.1 hf).1
 have h2 := hat i f hf
 rw [List.getElem?_eq_getElem hi] at h2
 exact ho _ _ _ h2
theorem cells_len {t : TypeId} {fs : Array Field} {fuel : Nat} {cs : List Value} {x : DataW H × List MemPlace} (ht : P.underlying t = some (.struct fs)) (h : DataW.trod enc P w base spare held fuel t cs = some x) : cs.length = P.cellsOf t := by
 obtain ⟨xs, n, _, _, hl, _⟩ := DataW.trod_struct ht h
 exact hl
theorem K_pair {α β : Type} {a : Kd α} {b : Kd β} {x : α} {y : β} {cs : List Value} (n : Nat) (h0 : a.K w x (cs.take n)) (h1 : b.K w y (cs.drop n)) : (Kd.pair a b).K w (x, y) cs :=
 ⟨cs.take n, cs.drop n, (List.take_append_drop n cs).symm, h0, h1⟩
theorem drop_drop' (cs : List Value) (m n : Nat) : (cs.drop m).drop n = cs.drop (m + n) := List.drop_drop
theorem K_pair' {α β : Type} {a : Kd α} {b : Kd β} {x : α} {y : β} {cs : List Value} (off n : Nat) (h0 : a.K w x ((cs.drop off).take n)) (h1 : b.K w y (cs.drop (off + n))) : (Kd.pair a b).K w (x, y) (cs.drop off) :=
 K_pair n h0 (by rw [drop_drop']; exact h1)
theorem K_last {α : Type} {a : Kd α} {x : α} {cs : List Value} (off n : Nat) (h0 : a.K w x ((cs.drop off).take n)) (hl : cs.length ≤ off + n) : a.K w x (cs.drop off) := by
 rw [List.take_of_length_le (by rw [List.length_drop]; omega)] at h0
 exact h0
theorem K_all {α : Type} {a : Kd α} {x : α} {cs : List Value} (h0 : a.K w x (cs.drop 0)) : a.K w x cs := h0
theorem okWide_agg {r : Reach} {t : TypeId} {fs : Array Field} {v : Value} (ht : P.underlying t = some (.struct fs)) (h : Value.okWide P w r base t v) : ∃ cs, v = .agg cs := by
 obtain ⟨cs, h, _⟩ := okWide_struct ht h
 exact ⟨cs, h⟩
theorem agg_of {cs : Array Value} {l : List Value} (h : (Value.agg cs).cells.toList = l) : cs = l.toArray := by
 subst h
 simp [Value.cells]
end
end Go.Proofs.Ytjgleaakgbnjgaa.XOpen
end

section
namespace Go.Proofs.Ytjgleaakgbnjgaa.Par
open Go Go.Conc
inductive Reach (P : Program) : Goroutine → World → Goroutine → World → Prop
 | refl {g : Goroutine} {v : World} : Reach P g v g v
 | step {g g₁ g₂ : Goroutine} {v v₁ v₂ : World} {es : Array Event} {t : Nat → Question → Nat} {d : Nat} (h : stepG P true g (v.re t d) = .go g₁ v₁ es) (hr : Reach P g₁ v₁ g₂ v₂) : Reach P g v g₂ v₂
section
variable {P : Program} {L L' : Fns} {F : Array Func} {Poi Poi' Ro Ro' : Nat → Prop} {base base' : List Frame} {Q : Machine → Outcome → World → Trace → Prop} {Qh : Goroutine → World → Prop}
abbrev Entering (P : Program) (s : FuncId) (a : Array Value) (cs : List Frame) : Goroutine := { frame := Frame.enter P s a .normal, callers := cs, status := .running, dying := none }
abbrev Behind (f : Frame) (x : Value) (cs : List Frame) : Goroutine := { frame := f.finish x, callers := cs, status := .running, dying := none }
structure Kp (Ro : Nat → Prop) (w₀ : World) (ρ : Emb) (w : World) : Prop where
 size : w₀.heap.size ≤ w.heap.size
 keep : ∀ c, c < w₀.heap.size → w.heap[c]? = w₀.heap[c]?
 new : ∀ b c, ρ b = some c → Ro b ∨ w₀.heap.size ≤ c
 os : w.os = w₀.os
 output : w.output = w₀.output
structure Ahead (Ro : Nat → Prop) (ρ σ : Emb) (w w' : World) : Prop where
 size : w.heap.size ≤ w'.heap.size
 keep : ∀ c, c < w.heap.size → (∀ b, ρ b = some c → Ro b) → w'.heap[c]? = w.heap[c]?
 new : ∀ b c, σ b = some c → ρ b = some c ∨ w.heap.size ≤ c
 os : w'.os = w.os
 output : w'.output = w.output
theorem Kp.step {w₀ w w' : World} {ρ σ : Emb} (h : Kp Ro w₀ ρ w) (a : Ahead Ro ρ σ w w') : Kp Ro w₀ σ w' := by
 refine ⟨Nat.le_trans h.size a.size, fun c hc => ?_, fun b c hb => ?_, a.os.trans h.os, a.output.trans h.output⟩
 ·rw [a.keep c (Nat.lt_of_lt_of_le hc h.size) fun b hb => (h.new b c hb).resolve_right (by omega), h.keep c hc]
 ·rcases a.new b c hb with x | x
  ·exact h.new b c x
  ·exact .inr (Nat.le_trans h.size x)
theorem Ahead.of {w w' : World} {ρ σ : Emb} {d : Nat} (f : Fr Ro ρ σ (w.at d) w') : Ahead Ro ρ σ w w' := ⟨f.size, f.keep, f.new, f.os, f.output⟩
def SpecCalm (P : Program) (L L' : Fns) (F : Array Func) (Poi Poi' Ro Ro' : Nat → Prop) (base base' : List Frame) (Q : Machine → Outcome → World → Trace → Prop) (Qh : Goroutine → World → Prop) (s : FuncId) (n : Nat) : Prop :=
 ∀ (ρ : Emb) (a a' : Array Value), a.size = n → ∀ (f f' : Frame) (fs fs' : List Frame) (v w : World), AR (VR (cfg P L F) ρ) a a' → WR (cfg P L F) (fun c => okCode P L c = true) Poi Ro ρ (v.re w.tape w.drawn) w → f.mode = .run →
  Tot P base Qh (Entering P s a (f :: (fs ++ base))) v → Fit P L' P.funcs Poi' Ro' base (Entering P s a (f :: (fs ++ base))) v →
  (∀ (σ : Emb) (x x' : Value) (v' w' : World), ρ.le σ → VR (cfg P L F) σ x x' → WR (cfg P L F) (fun c => okCode P L c = true) Poi Ro σ (v'.re w'.tape w'.drawn) w' → Ahead Ro ρ σ w w' → Reach P (Entering P s a (f :: (fs ++ base))) v (Behind f x (fs ++ base)) v' → Calm ((cfg P L F).here P) Q (Behind f' x' (fs' ++ base')) w') →
  Calm ((cfg P L F).here P) Q (Entering ((cfg P L F).here P) s a' (f' :: (fs' ++ base'))) w
theorem evL_of_ok {σ : Emb} {e : Event} {B : Nat} (h : EvOk Ro σ e) (hlt : ∀ b c, σ b = some c → c < B) : EvL NoShun B e := by
 obtain ⟨loc, wr, sy⟩ := e
 unfold EvOk at h
 cases loc with
 | cell a =>
  obtain ⟨b, h1, _⟩ := h
  have hb := hlt _ _ h1
  refine ⟨fun x _ hs => hs.elim, by simp, by simp, ?_⟩
  cases wr <;> cases sy <;> exact hb
 | obj r =>
  obtain ⟨b, h1, _⟩ := h
  have hb := hlt _ _ h1
  refine ⟨fun x _ hs => hs.elim, by simp, by simp, ?_⟩
  cases wr <;> cases sy <;> exact hb
 | mark m =>
  rcases h with rfl | ⟨f, rfl⟩
  ·refine ⟨fun x _ hs => hs.elim, by simp, by simp, ?_⟩
   cases wr <;> cases sy <;> trivial
  ·refine ⟨fun x _ hs => hs.elim, by simp, by simp, ?_⟩
   cases wr <;> cases sy <;> trivial
 | output => exact h.elim
 | goroutines => exact h.elim
theorem not_lost {g : Goroutine} {v : World} (h : ∀ c, g.frame.mode ≠ .panicking c) : ¬Lost P L' P.funcs Poi' Ro' base g v := fun hl => by
 obtain ⟨c, hc⟩ := hl.mode
 exact h c hc
theorem calm_of_tot {w₀ : World} (hN : FnsOk P L F (fun c => okCode P L c = true) Poi) (hP : ∀ g, g < P.globals.size → Poi g) (hL' : L'.spec = []) (hN' : FnsOk P L' P.funcs (fun c => okCode P L' c = true) Poi') (hP' : ∀ g, g < P.globals.size → Poi' g) (hb : Floor P base)
  (hHome : ∀ (ρ : Emb) (g g' : Goroutine) (v w : World), Home base g → (∀ t d, Qh g (v.re t d)) → GR P L F base base' ρ g g' → WR (cfg P L F) (fun c => okCode P L c = true) Poi Ro ρ (v.re w.tape w.drawn) w → Kp Ro w₀ ρ w → Calm ((cfg P L F).here P) Q g' w)
  (hS : ∀ s n, L.spec.contains (s, n) = true → SpecCalm P L L' F Poi Poi' Ro Ro' base base' Q Qh s n) {g : Goroutine} {v : World} (ht : Tot P base Qh g v) :
  Fit P L' P.funcs Poi' Ro' base g v → ∀ g₂ v₂, Reach P g v g₂ v₂ → ∀ (ρ : Emb) (g' : Goroutine) (w : World), GR P L F base base' ρ g₂ g' → WR (cfg P L F) (fun c => okCode P L c = true) Poi Ro ρ (v₂.re w.tape w.drawn) w → Kp Ro w₀ ρ w → Calm ((cfg P L F).here P) Q g' w := by
 induction ht with
 | @home g v hh hq =>
  intro hfit g₂ v₂ hr ρ g' w hg hw hkp
  cases hr with
  | refl => exact hHome ρ _ _ _ _ hh hq hg hw hkp
  | @step _ g₁ _ _ v₁ _ es t d e hr =>
   exfalso
   rcases home_step hL' hN' hb (hfit.re t d) hh with ⟨o, u, es', e'⟩ | ⟨x, u, es', e'⟩
   ·rw [e] at e'
    cases e'
   ·rw [e] at e'
    simp only [GStep.go.injEq] at e'
    obtain ⟨rfl, rfl, _⟩ := e'
    obtain ⟨b, rfl, _⟩ := hb.one
    cases hr with
    | refl =>
     generalize hgg : ({ frame := ([b].headD default).finish x, callers := [b].tail, status := .running, dying := none } : Goroutine) = gg at hg
     cases hg with
     | mk hf hm hr hs hb' =>
      simp only [Goroutine.mk.injEq] at hgg
      have := hgg.2.1
      simp at this
    | step e2 _ =>
     obtain ⟨o, u, es2, e3⟩ := hb.after x (v₁.re _ _)
     rw [e3] at e2
     cases e2
 | @step g v hn hs hk ih =>
  intro hfit g₂ v₂ hr
  have child : ∀ {t d g₁ v₁ es}, stepG P true g (v.re t d) = .go g₁ v₁ es → Fit P L' P.funcs Poi' Ro' base g₁ v₁ := by
   intro t d g₁ v₁ es e
   obtain ⟨g₃, v₃, es₃, e₃, hm⟩ := hs t d
   rw [e] at e₃
   simp only [GStep.go.injEq] at e₃
   obtain ⟨rfl, rfl, _⟩ := e₃
   exact (fit_step hL' hN' hP' (hfit.re t d) hn e (not_lost hm)).1
  cases hr with
  | @step _ g₁ _ _ v₁ _ es t d e hr => exact ih _ _ _ _ _ e (child e) _ _ hr
  | refl =>
   intro ρ g' w hg hw hkp
   have hp : g'.status = .running := by cases hg; rfl
   refine calm_step hp fun d => ?_
   obtain ⟨g₁, v₁, es, e, hm⟩ := hs w.tape d
   have hw1 : WR (cfg P L F) (fun c => okCode P L c = true) Poi Ro ρ (v.re w.tape d) (w.at d) := hw.re w.tape d
   have o := step_out (base' := base') (m := true) (m' := true) hN hP hg hw1 hn
   rw [e] at o
   generalize e2 : stepG ((cfg P L F).here P) true g' (w.at d) = z at o
   have back : ∀ {u : World} {σ : Emb} {w₂ : World}, WR (cfg P L F) (fun c => okCode P L c = true) Poi Ro σ u w₂ → u.re w₂.tape w₂.drawn = u := fun {u σ w₂} h => by
    rw [← h.tape, ← h.drawn]
    rfl
   cases o with
   | @go σ _ g₂ _ w₂ _ es' le hg₂ hw₂ he hf hv =>
    have hlt : ∀ b c, σ b = some c → c < w₂.heap.size := fun b c h => (hw₂.lt h).2
    refine ⟨_, _, _, rfl, hf.size, fun x hx => evL_of_ok (he x hx) hlt, ?_⟩
    exact ih _ _ _ _ _ e (child e) _ _ .refl _ _ _ hg₂ (by rw [back hw₂]; exact hw₂) (hkp.step (.of hf))
   | @spec σ s a a' f f' fs fs' _ w₂ _ es' le hsp hf hm1 hm1' hfs hbo ha hw₂ he hfr hv =>
    have hlt : ∀ b c, σ b = some c → c < w₂.heap.size := fun b c h => (hw₂.lt h).2
    refine ⟨_, _, _, rfl, hfr.size, fun x hx => evL_of_ok (he x hx) hlt, ?_⟩
    refine hS s _ hsp σ a a' rfl f f' fs fs' v₁ w₂ ha (by rw [back hw₂]; exact hw₂) hm1 (hk _ _ _ _ _ e) (child e) fun τ x x' v' w' hτ hx hw' hah hrc => ?_
    have hfx := (hf.mono hτ).finish hx
    exact ih _ _ _ _ _ e (child e) _ _ hrc τ _ w' (.mk (fs := fs) (fs' := fs') hfx (by rw [Frame.finish_mode, Frame.finish_mode, hm1, hm1']) (.inl (by rw [Frame.finish_mode, hm1])) (hfs.mono fun _ _ y => CR.mono hτ y) (hbo.top (Frame.finish_round _ _))) hw' ((hkp.step (.of hfr)).step hah)
   | bad h =>
    cases h with
    | mk _ hr _ _ => exact absurd hr (hm _)
theorem reach_of_calls (hL' : L'.spec = []) (hN' : FnsOk P L' P.funcs (fun c => okCode P L' c = true) Poi') (hP' : ∀ g, g < P.globals.size → Poi' g) (hb : Floor P base) : ∀ (n : Nat) {g : Goroutine} {v : World} {fr f : Frame} {fs : List Frame} {w' : World} {x : Value}, Tot P base Qh g v → Fit P L' P.funcs Poi' Ro' base g v →
  runN P n (lone g.frame g.callers v) = .next (lone fr (f :: (fs ++ base)) w') → fr.leaving P w' (.returned x) → ∃ v', Reach P g v (Behind f x (fs ++ base)) v' ∧ v' = w' := by
 intro n
 induction n with
 | zero =>
  intro g v fr f fs w' x ht hfit hr hlv
  obtain ⟨e1, e2, e3⟩ := lone_inj hr
  have hp := fit_plain hfit
  subst e3
  have hnh : ¬Home base g := fun h => by
   rw [h.1] at e2
   have := congrArg List.length e2
   simp at this
   omega
  have hst := step_leave_returned (c := f) (cs := fs ++ base) hlv
  rw [← e1, ← e2] at hst
  cases ht with
  | home hh _ => exact absurd hh hnh
  | step _ hs _ =>
   obtain ⟨g₁, v₁, es, e, _⟩ := hs v.tape v.drawn
   have e : stepG P true g v = .go g₁ v₁ es := e
   have hf1 := fit_plain (fit_step hL' hN' hP' hfit hnh e (not_lost (by assumption))).1
   have h2 := lone_next hp hf1 e
   rw [hst] at h2
   obtain ⟨i1, i2, i3⟩ := lone_inj h2
   refine ⟨v₁, .step (t := v.tape) (d := v.drawn) e ?_, i3.symm⟩
   have : g₁ = Behind f x (fs ++ base) := by rw [hf1, ← i1, ← i2]
   rw [this]
   exact .refl
 | succ n ih =>
  intro g v fr f fs w' x ht hfit hr hlv
  have hp := fit_plain hfit
  cases ht with
  | home hh hq =>
   exfalso
   rcases home_step hL' hN' hb hfit hh with ⟨o, u, es, e⟩ | ⟨y, v₁, es, e⟩
   ·unfold runN at hr
    rw [lone_ended hp e] at hr
    cases hr
   ·unfold runN at hr
    rw [lone_next hp rfl e] at hr
    have hr : runN P n (lone ((base.headD default).finish y) base.tail v₁) = .next (lone fr (f :: (fs ++ base)) w') := hr
    obtain ⟨b, rfl, hb1⟩ := hb.one
    cases n with
    | zero =>
     have := (lone_inj hr).2.1
     cases this
    | succ n =>
     obtain ⟨o, u, es', e'⟩ := hb.after y v₁
     unfold runN at hr
     rw [lone_ended (g := { frame := ([b].headD default).finish y, callers := [b].tail, status := .running, dying := none }) rfl e'] at hr
     cases hr
  | step hn hs hk =>
   obtain ⟨g₁, v₁, es, e, hm⟩ := hs v.tape v.drawn
   have e0 : stepG P true g v = .go g₁ v₁ es := e
   have hf1 := (fit_step hL' hN' hP' hfit hn e0 (not_lost hm)).1
   unfold runN at hr
   rw [lone_next hp (fit_plain hf1) e0] at hr
   obtain ⟨v', h1, h2⟩ := ih (hk _ _ _ _ _ e) hf1 hr hlv
   exact ⟨v', .step (t := v.tape) (d := v.drawn) e h1, h2⟩
end
end Go.Proofs.Ytjgleaakgbnjgaa.Par
end

section
namespace Go.Proofs.Ytjgleaakgbnjgaa.Par
open Go
theorem agg_lt {xs : Array Value} {i : Nat} (h : i < xs.size) : SizeOf.sizeOf xs[i] < SizeOf.sizeOf (Value.agg xs) := by
 have := Array.sizeOf_lt_of_mem (Array.getElem_mem h)
 simp only [Value.agg.sizeOf_spec]
 omega
theorem kill : ∀ (n : Nat) (x' : Value), SizeOf.sizeOf x' < n → ∃ y, (∀ N σ, VR N σ y x') ∧ ∀ k n, x' = .int k n → y = .int k n := by
 intro n
 induction n with
 | zero => exact fun x' h => absurd h (Nat.not_lt_zero _)
 | succ n ih =>
  intro x' hx
  cases x' with
  | bool b => exact ⟨_, fun N σ => .bool b, fun k n h => by cases h⟩
  | int k n => exact ⟨_, fun N σ => .int k n, fun k n h => h⟩
  | float k b => exact ⟨_, fun N σ => .dead rfl rfl, fun k n h => by cases h⟩
  | complex k b c => exact ⟨_, fun N σ => .dead rfl rfl, fun k n h => by cases h⟩
  | string s => exact ⟨_, fun N σ => .string s, fun k n h => by cases h⟩
  | pointer a =>
   cases a with
   | none => exact ⟨_, fun N σ => .nilPtr, fun k n h => by cases h⟩
   | some a => exact ⟨_, fun N σ => .dead rfl rfl, fun k n h => by cases h⟩
  | slice a l c =>
   cases a with
   | none => exact ⟨_, fun N σ => .nilSlice l c, fun k n h => by cases h⟩
   | some a => exact ⟨_, fun N σ => .dead rfl rfl, fun k n h => by cases h⟩
  | map r => exact ⟨_, fun N σ => .dead rfl rfl, fun k n h => by cases h⟩
  | chan r => exact ⟨_, fun N σ => .dead rfl rfl, fun k n h => by cases h⟩
  | func f xs ys =>
   cases f with
   | method m => exact ⟨_, fun N σ => .meth m xs ys, fun k n h => by cases h⟩
   | _ => exact ⟨_, fun N σ => .dead rfl rfl, fun k n h => by cases h⟩
  | nilFunc => exact ⟨_, fun N σ => .nilFunc, fun k n h => by cases h⟩
  | iface t v => exact ⟨_, fun N σ => .dead rfl rfl, fun k n h => by cases h⟩
  | nilIface => exact ⟨_, fun N σ => .nilIface, fun k n h => by cases h⟩
  | tuple xs => exact ⟨_, fun N σ => .dead rfl rfl, fun k n h => by cases h⟩
  | agg xs' =>
   have key : ∀ i : Fin xs'.size, ∃ y, ∀ N σ, VR N σ y xs'[i] := fun i => by
    obtain ⟨y, hy, _⟩ := ih xs'[i.1] (Nat.lt_of_lt_of_le (agg_lt i.2) (Nat.le_of_lt_succ hx))
    exact ⟨y, hy⟩
   refine ⟨.agg (Array.ofFn fun i => (key i).choose), fun N σ => .agg (by simp) fun i v v' h1 h2 => ?_, fun k n h => by cases h⟩
   obtain ⟨hi, rfl⟩ := Array.getElem?_eq_some_iff.1 h2
   rw [Array.getElem?_ofFn, dif_pos hi] at h1
   obtain rfl := Option.some.inj h1
   exact (key ⟨i, hi⟩).choose_spec N σ
theorem kills (c' : Array Value) : ∃ d : Array Value, (∀ N σ, AR (VR N σ) d c') ∧ ∀ (i : Nat) (k : IntKind) (n : Int), c'[i]? = some (.int k n) → d[i]? = some (.int k n) := by
 have key : ∀ i : Fin c'.size, ∃ y, (∀ N σ, VR N σ y c'[i]) ∧ ∀ k n, c'[i] = .int k n → y = .int k n := fun i => kill _ _ (Nat.lt_succ_self _)
 refine ⟨Array.ofFn fun i => (key i).choose, fun N σ => ⟨by simp, fun i v v' h1 h2 => ?_⟩, fun i k n h2 => ?_⟩
 ·obtain ⟨hi, rfl⟩ := Array.getElem?_eq_some_iff.1 h2
  rw [Array.getElem?_ofFn, dif_pos hi] at h1
  obtain rfl := Option.some.inj h1
  exact (key ⟨i, hi⟩).choose_spec.1 N σ
 ·obtain ⟨hi, e⟩ := Array.getElem?_eq_some_iff.1 h2
  rw [Array.getElem?_ofFn, dif_pos hi]
  exact congrArg some ((key ⟨i, hi⟩).choose_spec.2 k n e)
section
variable {P : Program} {L : Fns} {F : Array Func} {S : Nat → Option (Array Value)} {w : World}
def shadeS (S : Nat → Option (Array Value)) (w : World) : World := { w with heap := w.heap.mapIdx fun b o => match S b, o with | some c, .cells _ t fr => .cells c t (0, c.size + fr.2) | _, _ => .cells #[] 0 (0, 0) }
def onS (S : Nat → Option (Array Value)) : Nat → Bool := fun b => (S b).isSome
theorem shadeS_get (b : Nat) : (shadeS S w).heap[b]? = (w.heap[b]?).map fun o => match S b, o with | some c, .cells _ t fr => .cells c t (0, c.size + fr.2) | _, _ => .cells #[] 0 (0, 0) := by
 unfold shadeS
 dsimp only
 rw [Array.getElem?_mapIdx]
theorem shadeS_cell {a : Addr} {c : Array Value} (hs : S a.block = some c) {c' : Array Value} {t : TypeId} {fr : Nat × Nat} (hw : w.heap[a.block]? = some (.cells c' t fr)) (ha : a.spot = none) : (shadeS S w).cell? a = c[a.off]? := by
 unfold World.cell?
 rw [shadeS_get, hw]
 simp [hs, ha]
structure Shown (P : Program) (L : Fns) (F : Array Func) (S : Nat → Option (Array Value)) (w : World) : Prop where
 size : P.globals.size ≤ w.heap.size
 cells : ∀ b c, S b = some c → P.globals.size ≤ b ∧ ∃ c' t fr, w.heap[b]? = some (.cells c' t fr) ∧ AR (VR (cfg P L F) (same (onS S))) c c'
theorem onS_some {b : Nat} (h : onS S b = true) : ∃ c, S b = some c := Option.isSome_iff_exists.1 h
theorem shadeS_wr {ok : Code → Prop} (h : Shown P L F S w) : WR (cfg P L F) ok (Away (onS S) w) (fun b => onS S b = true) (same (onS S)) (shadeS S w) w := by
 refine ⟨fun b c hb => ?_, fun b b' c hb hb' => ?_, fun b hb => ?_, fun b hb => ?_, fun b c hb => ?_, ?_, rfl, rfl, fun b c hb => ?_, h.size⟩
 ·obtain ⟨h1, rfl⟩ := same_some hb
  obtain ⟨d, hd⟩ := onS_some h1
  obtain ⟨_, cs, t, fr, h2, h3⟩ := h.cells _ _ hd
  refine ⟨.cells d t (0, d.size + fr.2), _, ?_, h2, .cells h3 t fun i h5 h6 => ⟨Nat.zero_le _, by dsimp only; omega⟩⟩
  rw [shadeS_get, h2]
  simp only [Option.map_some, hd]
 ·obtain ⟨_, rfl⟩ := same_some hb
  obtain ⟨_, e⟩ := same_some hb'
  exact e
 ·obtain ⟨h1, h2⟩ := hb
  refine ⟨0, (0, 0), ?_⟩
  rw [shadeS_get, Array.getElem?_eq_getElem h1]
  have : S b = none := by simpa [onS] using h2
  simp only [Option.map_some, this]
 ·obtain ⟨d, hd⟩ := onS_some hb
  obtain ⟨_, cs, t, fr, h2, h3⟩ := h.cells _ _ hd
  refine ⟨d, t, (0, d.size + fr.2), ?_, fun i hi => ⟨Nat.zero_le _, by dsimp only; omega⟩⟩
  rw [shadeS_get, h2]
  simp only [Option.map_some, hd]
 ·obtain ⟨h1, rfl⟩ := same_some hb
  obtain ⟨d, hd⟩ := onS_some h1
  exact (h.cells _ _ hd).1
 ·show P.globals.size ≤ (shadeS S w).heap.size
  have : (shadeS S w).heap.size = w.heap.size := by
   unfold shadeS
   exact Array.size_mapIdx
  rw [this]
  exact h.size
 ·obtain ⟨h1, rfl⟩ := same_some hb
  obtain ⟨d, hd⟩ := onS_some h1
  exact (h.cells _ _ hd).1
theorem live_of_calls_S (hsh : Shown P L F S w) (hL : L.spec = []) (hN : FnsOk P L F (fun c => okCode P L c = true) (Away (onS S) w)) {m : Bool} {R : Value → World → Prop} (hR : ∀ x v t d, R x v → R x (v.re t d)) {f : FuncId} (hf : L.contains f = true)
  {fn : Func} {code : Code} (h1 : P.funcs[f]? = some fn) (h1' : F[f]? = some fn) (h2 : fn.body = some code) (h3 : okCode P L code = true) {args : Array Value} (ha : AR (VR (cfg P L F) (same (onS S))) args args)
  (hc : ∀ t d, Calls P f args ((shadeS S w).re t d) fun e v => ∃ x, e = .returned x ∧ R x v) (c : Frame) (cs : List Frame) :
  Live ((cfg P L F).here P) m (fun b => onS S b = true) (Back P L F (Away (onS S) w) (fun b => onS S b = true) R c cs) (fun _ => False) { frame := Frame.enter ((cfg P L F).here P) f args .normal, callers := c :: cs, status := .running, dying := none } w := by
 have hP : ∀ g, g < P.globals.size → Away (onS S) w g := fun g hg => ⟨Nat.lt_of_lt_of_le hg hsh.size, by
  cases h : onS S g with
  | false => rfl
  | true =>
   obtain ⟨d, hd⟩ := onS_some h
   exact absurd (hsh.cells g d hd).1 (by omega)⟩
 have hw := shadeS_wr (ok := fun c => okCode P L c = true) hsh
 have hfr := enter_rel (P := P) hf h1 h1' h2 h3 ha
 have hg : ∀ base base' : List Frame, GR P L F base base' (same (onS S)) { frame := Frame.enter P f args .normal, callers := base, status := .running, dying := none } { frame := Frame.enter ((cfg P L F).here P) f args .normal, callers := base', status := .running, dying := none } :=
  fun base base' => .mk (fs := []) (fs' := []) hfr rfl (.inl rfl) .nil fun c hc => by
   obtain rfl : Frame.enter P f args .normal = c := by simpa using hc
   rfl
 have ht := tot_of_calls hL hN hP hR hc ⟨_, _, _, hg _ _, hw⟩
 refine live_of_tot hL hN hP hR ht (hg _ _) ?_ ⟨fun b h => if_pos h, fun b c h => .inr (same_some h).1, fun c h => h.elim, fun c h => h.elim⟩ fun b h => ?_
 ·exact hw
 ·obtain ⟨d, hd⟩ := onS_some h
  obtain ⟨_, cs', t, fr, e, _⟩ := hsh.cells b d hd
  exact (Array.getElem?_eq_some_iff.1 e).1
end
end Go.Proofs.Ytjgleaakgbnjgaa.Par
end

section
namespace Go.Proofs.Ytjgleaakgbnjgaa.Par
open Go Go.Conc
section
variable {P : Program} {L L' : Fns} {F : Array Func} {Poi Poi' Ro : Nat → Prop} {base : List Frame}
theorem calm_over {Post : Value → World → Prop} {g : Goroutine} {w : World} (hrun : g.status = .running) (h : ∀ d, ∃ v w' es, stepG P true g (w.at d) = .ended (.done v) w' es ∧ w.heap.size ≤ w'.heap.size ∧ (∀ e ∈ es, EvL NoShun w'.heap.size e) ∧ Post v w') : Calm P (Conc.Good P Post) g w := by
 refine calm_main hrun fun d gs sl t q h0 hL hP => .inr ?_
 obtain ⟨v, w', es, e, hs, he, hq⟩ := h d
 refine ⟨_, _, _, runT_many_ended (P := P) (sl := sl) (i := 0) h0 (show stepG P (0 == 0) g (w.at d) = _ from e), fun d' sl' => ?_⟩
 have hP' := (hP.mono hs).own (fn := g.frame.fn) (pos := g.frame.place) he
 refine ⟨v, rfl, hq, hP'.clean, hP'.over, ⟨fun x hx => ?_, rfl⟩, fun j x hx hj => ?_⟩
 ·obtain ⟨j, hj⟩ := List.mem_iff_getElem?.1 hx
  rw [List.getElem?_drop] at hj
  exact ⟨_, (hL.old (1 + j) x (by omega) (by simpa [crowd] using hj)).leaves⟩
 ·have hq := hL.old j x (by omega) hx
  refine ⟨q j, ?_⟩
  have e : (t ++ MemOp.ofEvents 0 g.frame.fn g.frame.place es).deaf j (t ++ MemOp.ofEvents 0 g.frame.fn g.frame.place es).size = Deaf t j :=
   Deaf_other t (g := j) (g' := 0) (by omega) _ (fun op hop => by obtain ⟨e, _, rfl⟩ := Go.Conc.mem_ofEvents hop; rfl)
  rw [e]
  exact hq.hears _
theorem doReturn_end {f : Frame} (k : f.kind = .normal) (hi : P.inits.idxOf? f.fn = none) (u : Value) (v : World) : doReturn P true f [] none u v = .ended (.done u) v := by
 unfold doReturn
 simp only [k, hi]
 rfl
theorem home_calm (hI : ∀ f, L.contains f = true → P.inits.idxOf? f = none) (hN : FnsOk P L F (fun c => okCode P L c = true) Poi) {w₀ : World} {R : Value → World → Prop} {Post : Value → World → Prop} (hPost : ∀ (σ : Emb) x x' v w, R x v → VR (cfg P L F) σ x x' → WR (cfg P L F) (fun c => okCode P L c = true) Poi Ro σ v w → Kp Ro w₀ σ w → Post x' w) (hR : ∀ x v t d, R x v → R x (v.re t d))
  {ρ : Emb} {g g' : Goroutine} {v w : World} (hh : Home base g) (hq : ∀ t d, AtHome P R g (v.re t d)) (hg : GR P L F base [] ρ g g') (hw : WR (cfg P L F) (fun c => okCode P L c = true) Poi Ro ρ (v.re w.tape w.drawn) w) (hk : Kp Ro w₀ ρ w) : Calm ((cfg P L F).here P) (Conc.Good ((cfg P L F).here P) Post) g' w := by
 have hp : g'.status = .running ∧ g'.dying = none := by cases hg; exact ⟨rfl, rfl⟩
 refine calm_over hp.1 fun d => ?_
 have hw₁ : WR (cfg P L F) (fun c => okCode P L c = true) Poi Ro ρ (v.re w.tape d) (w.at d) := hw.re w.tape d
 obtain ⟨x, fn, t, d', hfn, hres, hx⟩ := hq w.tape d
 obtain ⟨hc, hmode, hdef⟩ := hh
 cases hg with
 | @mk f f' fs fs' hf hm hr hs hb =>
  dsimp only at hc hmode hdef hfn hres hx
  have hr0 : f.roundOf = none := by
   rcases hr with hr | hr
   ·rw [hmode] at hr; cases hr
   ·exact hr.2
  have hfs : fs = [] := by
   cases fs with
   | nil => rfl
   | cons a l =>
    have := congrArg List.length hc
    simp at this
    omega
  subst hfs
  cases hs
  have hd' : f'.defers = [] := by
   have := hf.defers
   rw [hdef] at this
   cases h : f'.defers with
   | nil => rfl
   | cons a l => rw [h] at this; cases this
  have hsr := sr_results (P := P) (ok := fun c => okCode P L c = true) (Poi := Poi) fn hf.tmps
  have hres2 : (results fn f.tmps).run P ((v.re w.tape d).re t d') = .ok x ((v.re w.tape d).re t d') := hres
  obtain ⟨r1, r2, r3⟩ := hsr.retape (hw₁.re t d') hres2
  have r4 := r3 w.tape d fun k q hk => absurd hk (by omega)
  have r5 : (results fn f.tmps).run P (v.re w.tape d) = .ok x (v.re w.tape d) := by
   have e : d + (((v.re w.tape d).re t d').drawn - ((v.re w.tape d).re t d').drawn) = d := by omega
   rw [e] at r4
   exact r4
  obtain ⟨σ, x', w₂, g1, g2, g3, g4, g5, g6, g7⟩ := piece hsr hw₁ r5
  have hlt : ∀ b c, σ b = some c → c < w₂.heap.size := fun b c h => (g4.lt h).2
  have e : stepG ((cfg P L F).here P) true { frame := f', callers := [] ++ [], status := .running, dying := none } (w.at d) = .ended (.done x') w₂ (seen ((cfg P L F).here P) f'.fn ((results fn f'.tmps).events ((cfg P L F).here P) (w.at d) #[]) ++ #[]) := by
   have hm' := hm.trans hmode
   unfold stepG
   simp only [hm']
   unfold unwind
   simp only [hd', hm']
   have hfn' : ((cfg P L F).here P).funcs[f.fn]? = some fn := by
    obtain ⟨fn₂, k1, k2, -⟩ := hN.fns _ (hf.nice hr0)
    rw [hfn] at k1
    cases k1
    exact k2
   rw [hf.fn, hfn']
   simp only [Sem.runT_eq, g2, List.nil_append]
   rw [doReturn_end (P := (cfg P L F).here P) hf.kind' (show P.inits.idxOf? f'.fn = none by rw [hf.fn]; exact hI _ (hf.nice hr0))]
   rfl
  refine ⟨x', w₂, _, e, g6.size, fun e h => evL_of_ok (evSeen g5 e (by simpa using h)) hlt, ?_⟩
  exact hPost σ x x' _ w₂ (hR _ _ _ _ hx) g3 g4 (hk.step (.of g6))
theorem law_calm (hI : ∀ f, L.contains f = true → P.inits.idxOf? f = none) {S : Nat → Option (Array Value)} {W : World} (hsh : Shown P L F S W) (hN : FnsOk P L F (fun c => okCode P L c = true) (Away (onS S) W)) (hL' : L'.spec = []) (hN' : FnsOk P L' P.funcs (fun c => okCode P L' c = true) (Away (onS S) W))
  (hS : ∀ (s n : Nat) (Q : Machine → Outcome → World → Trace → Prop) (Qh : Goroutine → World → Prop), L.spec.contains (s, n) = true → SpecCalm P L L' F (Away (onS S) W) (Away (onS S) W) (fun b => onS S b = true) (fun b => onS S b = true) [floor P] [] Q Qh s n)
  {R : Value → World → Prop} (hR : ∀ x v t d, R x v → R x (v.re t d)) {f : FuncId} (hf : L.contains f = true) (hf' : L'.contains f = true) {fn : Func} {code : Code} (h1 : P.funcs[f]? = some fn) (h1' : F[f]? = some fn) (h2 : fn.body = some code) (h3 : okCode P L code = true) (h3' : okCode P L' code = true)
  {args : Array Value} (ha : AR (VR (cfg P L F) (same (onS S))) args args) (ha' : AR (VR (cfg P L' P.funcs) (same (onS S))) args args) (hsh' : Shown P L' P.funcs S W)
  (hc : ∀ t d, Calls P f args ((shadeS S W).re t d) fun e v => ∃ x, e = .returned x ∧ R x v) {Post : Value → World → Prop}
  (hPost : ∀ (σ : Emb) x x' v w, R x v → VR (cfg P L F) σ x x' → WR (cfg P L F) (fun c => okCode P L c = true) (Away (onS S) W) (fun b => onS S b = true) σ v w → Kp (fun b => onS S b = true) W σ w → Post x' w) :
  Calm ((cfg P L F).here P) (Conc.Good ((cfg P L F).here P) Post) { frame := Frame.enter ((cfg P L F).here P) f args .normal, callers := [], status := .running, dying := none } W := by
 have hP : ∀ g, g < P.globals.size → Away (onS S) W g := fun g hg => ⟨Nat.lt_of_lt_of_le hg hsh.size, by
  cases h : onS S g with
  | false => rfl
  | true =>
   obtain ⟨d, hd⟩ := onS_some h
   exact absurd (hsh.cells g d hd).1 (by omega)⟩
 have hw := shadeS_wr (ok := fun c => okCode P L c = true) hsh
 have hw' := shadeS_wr (ok := fun c => okCode P L' c = true) hsh'
 have hfr := enter_rel (P := P) hf h1 h1' h2 h3 ha
 have hfr' := enter_rel (P := P) hf' h1 h1 h2 h3' ha'
 have hg : ∀ base base' : List Frame, GR P L F base base' (same (onS S)) { frame := Frame.enter P f args .normal, callers := base, status := .running, dying := none } { frame := Frame.enter ((cfg P L F).here P) f args .normal, callers := base', status := .running, dying := none } :=
  fun base base' => .mk (fs := []) (fs' := []) hfr rfl (.inl rfl) .nil fun c hc => by
   obtain rfl : Frame.enter P f args .normal = c := by simpa using hc
   rfl
 have hg' : ∀ base base' : List Frame, GR P L' P.funcs base base' (same (onS S)) { frame := Frame.enter P f args .normal, callers := base, status := .running, dying := none } { frame := Frame.enter ((cfg P L' P.funcs).here P) f args .normal, callers := base', status := .running, dying := none } :=
  fun base base' => .mk (fs := []) (fs' := []) hfr' rfl (.inl rfl) .nil fun c hc => by
   obtain rfl : Frame.enter P f args .normal = c := by simpa using hc
   rfl
 have hfit : Fit P L' P.funcs (Away (onS S) W) (fun b => onS S b = true) [floor P] { frame := Frame.enter P f args .normal, callers := [floor P], status := .running, dying := none } (shadeS S W) := ⟨_, _, _, hg' _ _, hw'⟩
 have ht := tot_of_calls hL' hN' hP hR hc hfit
 refine calm_of_tot (w₀ := W) (base' := []) hN hP hL' hN' hP (floor_ok P) (fun ρ g g' v w hh hq hg hw hk => home_calm hI hN hPost hR hh hq hg hw hk) (fun s n hs => hS s n _ _ hs) ht hfit _ _ .refl (same (onS S)) _ W (hg _ _) hw ?_
 refine ⟨Nat.le_refl _, fun _ _ => rfl, fun b c h => .inl (same_some h).1, rfl, rfl⟩
end
end Go.Proofs.Ytjgleaakgbnjgaa.Par
end

section
namespace Go.Proofs.Ytjgleaakgbnjgaa.Par
open Go Go.Conc
section
variable {P : Program} {base : List Frame} {Q : Goroutine → World → Prop} {b : Frame} {a : Act} {k : List Item} {cs : List Frame} {w v : World} {m : Bool}
theorem halt_no {ops : Array Oper} {i : Nat} {rest : List Nat} {o : Oper} (ho : ops[i]? = some o) (hw : Region.wanted o (yielded ops a.tmps) = true) {x : Halt} (hx : HaltOk x) {w' : World} (hr : (execOp a.eval o).run P w = .halt x w') {g₁ : Goroutine} {v₁ : World} {es : Array Event}
  (e : stepG P m (G (b.at a (.inRegion ops (i :: rest) :: k)) cs) w = .go g₁ v₁ es) : ∃ c, g₁.frame.mode = .panicking c := by
 rw [stepG_oper ho hw] at e
 unfold stepG.apply at e
 simp only [if_true, Sem.runT_eq, hr] at e
 cases x with
 | panic u =>
  simp [GStep.after] at e
  obtain ⟨rfl, _⟩ := e
  exact ⟨_, rfl⟩
 | stuck s => simp [GStep.after] at e
 | unsupported u => cases u <;> first | exact hx.elim | simp [GStep.after] at e
 | _ => exact hx.elim
theorem callers_ne {g : Goroutine} (hb : Floor P base) (h : base.length < g.callers.length) : ¬Home base g := fun hh => by
 rw [hh.1] at h
 exact Nat.lt_irrefl _ h
theorem tot_step {g g' : Goroutine} {es : Array Event} {v' : World} (hn : ¬Home base g) (e : stepG P true g v = .go g' v' es) (ht : Tot P base Q g v) : Tot P base Q g' v' := by
 cases ht with
 | home h _ => exact absurd h hn
 | step _ _ hk => exact hk v.tape v.drawn _ _ _ e
theorem tot_goes {ops : Array Oper} {i : Nat} {rest : List Nat} {o : Oper} (hn : ¬Home base (G (b.at a (.inRegion ops (i :: rest) :: k)) cs)) (ho : ops[i]? = some o) (hw : Region.wanted o (yielded ops a.tmps) = true)
  (ht : Tot P base Q (G (b.at a (.inRegion ops (i :: rest) :: k)) cs) v) {x : Halt} {w' : World} (hx : HaltOk x) (hr : (execOp a.eval o).run P v = .halt x w') : False := by
 cases ht with
 | home h _ => exact absurd h hn
 | step _ hs _ =>
  obtain ⟨g₁, v₁, es, e, hm⟩ := hs v.tape v.drawn
  obtain ⟨c, hc⟩ := halt_no ho hw hx (show (execOp a.eval o).run P (v.re v.tape v.drawn) = .halt x w' from hr) e
  exact absurd hc (hm c)
theorem tot_value {ops : Array Oper} {i : Nat} {rest : List Nat} {o : Oper} {x : Value} {v' : World} (hk : b.kind ≠ .early) (hn : ¬Home base (G (b.at a (.inRegion ops (i :: rest) :: k)) cs)) (ho : ops[i]? = some o) (hw : Region.wanted o (yielded ops a.tmps) = true)
  (hr : (execOp a.eval o).run P v = .ok (.value x) v') (ht : Tot P base Q (G (b.at a (.inRegion ops (i :: rest) :: k)) cs) v) : Tot P base Q (G (b.at (a.put o.dst x) (.inRegion ops rest :: k)) cs) v' :=
 tot_step hn (stepG_value ho hw hk hr) ht
end
end Go.Proofs.Ytjgleaakgbnjgaa.Par
end

section
namespace Go.Proofs.Ytjgleaakgbnjgaa.Par
open Go
section
variable {P : Program} {N : Cfg} {ok : Code → Prop} {Poi : Nat → Prop} {ρ : Emb}
theorem sr_three (s : String) {a a' : Array Value} (h : AR (VR N ρ) a a') : SR P N ok Poi (fun _ x y => x = y) ρ (Extern.MathBitsCarry.three s a) (Extern.MathBitsCarry.three s a') := by
 obtain ⟨hs, hv⟩ := h
 obtain ⟨l⟩ := a
 obtain ⟨l'⟩ := a'
 have hs : l.length = l'.length := by simpa using hs
 rcases l with _ | ⟨x, _ | ⟨y, _ | ⟨c, _ | ⟨d, l⟩⟩⟩⟩ <;> try exact sr_stuck _ _
 rcases l' with _ | ⟨x', _ | ⟨y', _ | ⟨c', _ | ⟨d', l'⟩⟩⟩⟩ <;> try (simp at hs)
 unfold Extern.MathBitsCarry.three
 refine (sr_asInt (hv 2 c c' rfl rfl)).bind fun σ n n' hσ e => ?_
 subst e
 by_cases hn : n.toNat > 1
 ·rw [if_pos hn, if_pos hn]
  exact .halt trivial
 ·rw [if_neg hn, if_neg hn]
  refine (sr_asInt ((hv 0 x x' rfl rfl).mono hσ)).bind fun τ n n' hτ e => ?_
  subst e
  refine (sr_asInt (((hv 1 y y' rfl rfl).mono hσ).mono hτ)).bind fun τ n n' hτ e => ?_
  subst e
  exact .pure rfl
theorem sr_pair (x y : Nat) : VR N ρ (Extern.MathBitsCarry.pair x y) (Extern.MathBitsCarry.pair x y) := by
 have h : AR (VR N ρ) #[.int .u64 (Int.ofNat x), .int .u64 (Int.ofNat y)] #[.int .u64 (Int.ofNat x), .int .u64 (Int.ofNat y)] := (AR.empty.push (.int _ _)).push (.int _ _)
 exact .tuple h.1 h.2
theorem sr_addE {a a' : Array Value} (h : AR (VR N ρ) a a') : SR P N ok Poi (RV N) ρ ((Extern.MathBitsCarry.rows[0]'(by decide)).2 a) ((Extern.MathBitsCarry.rows[0]'(by decide)).2 a') := by
 show SR P N ok Poi (RV N) ρ (Extern.MathBitsCarry.three _ _ >>= _) (Extern.MathBitsCarry.three _ _ >>= _)
 refine (sr_three "Add64" h).bind fun σ x y hσ e => ?_
 subst e
 exact .pure (sr_pair _ _)
theorem sr_subE {a a' : Array Value} (h : AR (VR N ρ) a a') : SR P N ok Poi (RV N) ρ ((Extern.MathBitsCarry.rows[1]'(by decide)).2 a) ((Extern.MathBitsCarry.rows[1]'(by decide)).2 a') := by
 show SR P N ok Poi (RV N) ρ (Extern.MathBitsCarry.three _ _ >>= _) (Extern.MathBitsCarry.three _ _ >>= _)
 refine (sr_three "Sub64" h).bind fun σ x y hσ e => ?_
 subst e
 exact .pure (sr_pair _ _)
end
end Go.Proofs.Ytjgleaakgbnjgaa.Par
end

section
namespace Go.Proofs.Ytjgleaakgbnjgaa.Par
open Go Go.Conc
abbrev kidList : List FuncId := [22, 26, 59, 58, 78, 60, 93, 79, 80, 61, 64, 77, 57, 94, 82, 71, 95, 96, 97, 90, 69, 91, 75, 126, 81, 63, 62, 41, 27, 12, 24, 23, 52, 11]
abbrev refList : List FuncId := [28, 30, 87, 88, 102, 103, 105, 108, 104, 106, 107, 99, 100, 92, 76, 89, 74, 53, 29, 13, 14, 124, 54, 31, 15, 55, 32, 16]
abbrev extList : List FuncId := [98, 101]
abbrev lawList : List FuncId := [9, 3, 4, 5, 6]
noncomputable def fnB (L : Fns) (f : FuncId) : Bool := match Try.funcs[f]? with
 | some fn => !(fn.name == "runtime.NumGoroutine") && (match fn.body with | some c => okCode Star.prog L c | none => false)
 | none => false
def Lk : Fns := { list := extList ++ (kidList ++ refList), spec := [] }
def Ls : Fns := { list := lawList ++ (extList ++ (kidList ++ refList)), spec := [(10, 2)] }
def La : Fns := { list := 10 :: (lawList ++ (extList ++ (kidList ++ refList))), spec := [] }
theorem ok_kid_Lk : kidList.all (fnB Lk) = true := by kernel_rfl
theorem ok_ref_Lk : refList.all (fnB Lk) = true := by kernel_rfl
theorem ok_kid_Ls : kidList.all (fnB Ls) = true := by kernel_rfl
theorem ok_ref_Ls : refList.all (fnB Ls) = true := by kernel_rfl
theorem ok_law_Ls : lawList.all (fnB Ls) = true := by kernel_rfl
theorem ok_kid_La : kidList.all (fnB La) = true := by kernel_rfl
theorem ok_ref_La : refList.all (fnB La) = true := by kernel_rfl
theorem ok_law_La : lawList.all (fnB La) = true := by kernel_rfl
theorem ok10 : okCode Star.prog La Star.body10 = true := by kernel_rfl
theorem other_func {f : FuncId} (h : f ≠ 10) : Star.prog.funcs[f]? = Try.funcs[f]? := by
 have e : Star.prog.funcs = Try.funcs.setIfInBounds 10 Star.f10 := by kernel_rfl
 rw [e, Array.getElem?_setIfInBounds_ne (Ne.symm h)]
theorem fnOk_of {L : Fns} {Poi : Nat → Prop} {F : Array Func} {f : FuncId} (h : fnB L f = true) (hne : f ≠ 10) (hF : F[f]? = Try.funcs[f]?) : FnOk Star.prog (cfg Star.prog L F) (fun c => okCode Star.prog L c = true) Poi f := by
 unfold fnB at h
 have e := other_func hne
 split at h
 case h_2 => cases h
 rename_i fn he
 rw [Bool.and_eq_true] at h
 refine ⟨fn, e.trans he, hF.trans he, by simpa using h.1, .inl ?_⟩
 have h2 := h.2
 split at h2
 case h_2 => cases h2
 rename_i c hc
 exact ⟨c, hc, h2⟩
theorem ext98 : ∃ fn, Try.funcs[98]? = some fn ∧ (fn.name == "runtime.NumGoroutine") = false ∧ fn.body.isNone = true ∧ Extern.findNext fn = none ∧ Extern.find fn = some (Extern.MathBitsCarry.rows[0]'(by decide)).2 :=
 ⟨Try.f98, by kernel_rfl, by kernel_rfl, by kernel_rfl, by kernel_rfl, by kernel_rfl⟩
theorem ext101 : ∃ fn, Try.funcs[101]? = some fn ∧ (fn.name == "runtime.NumGoroutine") = false ∧ fn.body.isNone = true ∧ Extern.findNext fn = none ∧ Extern.find fn = some (Extern.MathBitsCarry.rows[1]'(by decide)).2 :=
 ⟨Try.f101, by kernel_rfl, by kernel_rfl, by kernel_rfl, by kernel_rfl, by kernel_rfl⟩
theorem fnOk_ext {L : Fns} {Poi : Nat → Prop} {F : Array Func} {f : FuncId} (h : f ∈ extList) (hF : F[f]? = Try.funcs[f]?) : FnOk Star.prog (cfg Star.prog L F) (fun c => okCode Star.prog L c = true) Poi f := by
 have : f = 98 ∨ f = 101 := by simpa using h
 rcases this with rfl | rfl
 ·obtain ⟨fn, h1, h2, h3, h4, h5⟩ := ext98
  exact ⟨fn, (other_func (by decide)).trans h1, hF.trans h1, h2, .inr ⟨h3, h4, _, h5, fun ρ a a' ha => sr_addE ha⟩⟩
 ·obtain ⟨fn, h1, h2, h3, h4, h5⟩ := ext101
  exact ⟨fn, (other_func (by decide)).trans h1, hF.trans h1, h2, .inr ⟨h3, h4, _, h5, fun ρ a a' ha => sr_subE ha⟩⟩
theorem fnsOk_kid {Poi : Nat → Prop} : FnsOk Star.prog Lk Try.funcs (fun c => okCode Star.prog Lk c = true) Poi := by
 refine ⟨fun f hf => ?_, fun f n hf => by simp [Lk] at hf⟩
 have h : f ∈ extList ++ (kidList ++ refList) := by simpa [Fns.contains, Lk] using hf
 have hne : f ≠ 10 := fun e => by subst e; revert h; decide
 rcases List.mem_append.1 h with h | h
 ·exact fnOk_ext h rfl
 refine fnOk_of ?_ hne rfl
 rcases List.mem_append.1 h with h | h
 ·exact List.all_eq_true.1 ok_kid_Lk f h
 ·exact List.all_eq_true.1 ok_ref_Lk f h
theorem fnsOk_law {Poi : Nat → Prop} : FnsOk Star.prog Ls Try.funcs (fun c => okCode Star.prog Ls c = true) Poi := by
 refine ⟨fun f hf => ?_, fun f n hf => ?_⟩
 ·have h : f ∈ lawList ++ (extList ++ (kidList ++ refList)) := by simpa [Fns.contains, Ls] using hf
  have hne : f ≠ 10 := fun e => by subst e; revert h; decide
  rcases List.mem_append.1 h with h | h
  ·exact fnOk_of (List.all_eq_true.1 ok_law_Ls f h) hne rfl
  rcases List.mem_append.1 h with h | h
  ·exact fnOk_ext h rfl
  refine fnOk_of ?_ hne rfl
  rcases List.mem_append.1 h with h | h
  ·exact List.all_eq_true.1 ok_kid_Ls f h
  ·exact List.all_eq_true.1 ok_ref_Ls f h
 ·obtain ⟨rfl, rfl⟩ : f = 10 ∧ n = 2 := by simpa [Ls] using hf
  exact ⟨Star.f10, Try.f10, Star.body10, (Try.f10.body).getD .skip, Star.func10, by kernel_rfl, by kernel_rfl, by kernel_rfl, by kernel_rfl, by kernel_rfl⟩
theorem fnsOk_alone {Poi : Nat → Prop} : FnsOk Star.prog La Star.prog.funcs (fun c => okCode Star.prog La c = true) Poi := by
 refine ⟨fun f hf => ?_, fun f n hf => by simp [La] at hf⟩
 have h : f ∈ 10 :: (lawList ++ (extList ++ (kidList ++ refList))) := by simpa [Fns.contains, La] using hf
 by_cases hne : f = 10
 ·subst hne
  exact ⟨Star.f10, Star.func10, by kernel_rfl, by kernel_rfl, .inl ⟨Star.body10, by kernel_rfl, ok10⟩⟩
 have h : f ∈ lawList ++ (extList ++ (kidList ++ refList)) := (List.mem_cons.1 h).resolve_left hne
 rcases List.mem_append.1 h with h | h
 ·exact fnOk_of (List.all_eq_true.1 ok_law_La f h) hne (other_func hne)
 rcases List.mem_append.1 h with h | h
 ·exact fnOk_ext h (other_func hne)
 refine fnOk_of ?_ hne (other_func hne)
 rcases List.mem_append.1 h with h | h
 ·exact List.all_eq_true.1 ok_kid_La f h
 ·exact List.all_eq_true.1 ok_ref_La f h
theorem here_star {L : Fns} : (cfg Star.prog L Try.funcs).here Star.prog = Try.prog := by kernel_rfl
end Go.Proofs.Ytjgleaakgbnjgaa.Par
end

section
namespace Go.Proofs.Ytjgleaakgbnjgaa.Par
open Go Go.Conc
theorem run_bounds {α : Type} {P : Program} (k : IntKind) (x y : Int) (c : BoundsCode) (w : World) : ∃ z w', (boundsPanic k x y c : Sem α).run P w = .halt z w' ∧ HaltOk z ∧ Grow w w' := by
 unfold boundsPanic
 have key : ∀ (s : Sem Bool), (∃ b w', s.run P w = .ok b w' ∧ Grow w w') → ∃ x_1 w', (s >>= fun signed => (runtimePanic (.bounds (IntKind.i64.wrap x) y signed c) : Sem α)).run P w = .halt x_1 w' ∧ HaltOk x_1 ∧ Grow w w' := by
  rintro s ⟨b, w', h, g⟩
  rw [Sem.run_bind, h, Result.andThen_ok]
  obtain ⟨x, w2, h1, h2, g1, g2, g3⟩ := run_runtimePanic (P := P) (α := α) (.bounds (IntKind.i64.wrap x) y b c) w'
  exact ⟨x, w2, h1, h2, Nat.le_trans g.1 g1, fun b hb => (g2 b (Nat.lt_of_lt_of_le hb g.1)).trans (g.2.1 b hb), g3.trans g.2.2⟩
 dsimp only
 split
 ·apply key
  rw [Sem.run_map]
  unfold choose
  simp only [Sem.run]
  split <;> exact ⟨_, _, rfl, Nat.le_refl _, fun _ _ => rfl, rfl⟩
 ·apply key
  exact ⟨_, _, rfl, Grow.refl _⟩
section
variable {e : Operand → Value} {w : World}
theorem lss_force {P : Program} {d : Option Tmp} {T T' T'' : TypeId} {X Y : Operand} {n : Int} {ps : String} {af : Array Edge} {gd : Option (Tmp × Bool)} (hy : e Y = .int .i64 n) :
  (∃ x, e X = .int .i64 x ∧ (execOp e { dst := d, op := .binOp .lss T X Y T', type := T'', pos := ps, after := af, guard := gd }).run P w = .ok (.value (.bool (decide (x < n)))) w) ∨
  ∃ h w', HaltOk h ∧ (execOp e { dst := d, op := .binOp .lss T X Y T', type := T'', pos := ps, after := af, guard := gd }).run P w = .halt h w' := by
 unfold execOp
 dsimp only
 rw [hy]
 generalize e X = x
 cases x
 case int k a =>
  by_cases hk : k = .i64
  ·subst hk
   exact .inl ⟨a, rfl, rfl⟩
  ·refine .inr ⟨.stuck "BinOp: operands of different kinds", w, trivial, ?_⟩
   simp [eqGuard, binOp, hk]
 case pointer p => exact .inr ⟨.unsupported .addressObserved, w, trivial, by cases p <;> rfl⟩
 all_goals exact .inr ⟨.stuck "BinOp: no such operator on these operands", w, trivial, rfl⟩
theorem len_force {d : Option Tmp} {T'' : TypeId} {X : Operand} {ps : String} {af : Array Edge} {gd : Option (Tmp × Bool)} :
  (∃ A n c, e X = .slice A n c ∧ (execOp e { dst := d, op := .call { callee := .builtin .len, args := #[X], argTypes := #[22] }, type := T'', pos := ps, after := af, guard := gd }).run Star.prog w = .ok (.value (.int .i64 (n : Int))) w) ∨
  ∃ h w', HaltOk h ∧ (execOp e { dst := d, op := .call { callee := .builtin .len, args := #[X], argTypes := #[22] }, type := T'', pos := ps, after := af, guard := gd }).run Star.prog w = .halt h w' := by
 have hx : (#[X] : Array Operand).map e = #[e X] := by simp
 have key : execOp e { dst := d, op := .call { callee := .builtin .len, args := #[X], argTypes := #[22] }, type := T'', pos := ps, after := af, guard := gd } = (do pure (.value (← Builtin.len_ #[22] T'' #[e X]))) := by
  simp [execOp, go_sem, resolve, hx]
 rw [key]
 generalize e X = x
 cases x
 case slice A n c => exact .inl ⟨A, n, c, rfl, by kernel_rfl⟩
 all_goals exact .inr ⟨.stuck "len: string, array, pointer to array, slice, map or channel expected", w, trivial, by kernel_rfl⟩
theorem slice_force {d : Option Tmp} {T'' : TypeId} {X Y : Operand} {ps : String} {af : Array Edge} {gd : Option (Tmp × Bool)} {A : Option Addr} {n c : Nat} (hx : e X = .slice A n c) (hy : e Y = .int .i64 (n : Int)) :
  (n ≤ c ∧ ∃ v, (execOp e { dst := d, op := .slice 22 X none (some Y) none, type := T'', pos := ps, after := af, guard := gd }).run Star.prog w = .ok (.value v) w) ∨
  ∃ h w', HaltOk h ∧ (execOp e { dst := d, op := .slice 22 X none (some Y) none, type := T'', pos := ps, after := af, guard := gd }).run Star.prog w = .halt h w' := by
 unfold execOp
 simp only [Option.map_some, Option.map_none, hx, hy]
 have hn : ((0 : Int) ≤ (n : Int) ∧ (n : Int) ≤ (c : Int)) ↔ n ≤ c := by omega
 by_cases h : n ≤ c
 ·refine .inl ⟨h, ?_⟩
  simp [Instr.sliceAt, Instr.slice, Instr.sliceBounds, Instr.sliceBound, h, asIntOf, go_sem, Star.underlying22]
 ·refine .inr ?_
  simp [Instr.sliceAt, Instr.slice, Instr.sliceBounds, Instr.sliceBound, h, asIntOf, go_sem, Star.underlying22]
  obtain ⟨z, w', h1, h2, _⟩ := run_bounds (P := Star.prog) (α := Nat) .i64 n c .sliceAcap w
  exact ⟨z, h2, w', by rw [h1]; rfl⟩
theorem index_force {d : Option Tmp} {T'' : TypeId} {X Y : Operand} {ps : String} {af : Array Edge} {gd : Option (Tmp × Bool)} {A : Option Addr} {n c : Nat} {j : Int} (hx : e X = .slice A n c) (hy : e Y = .int .i64 j) :
  (∃ ad, A = some ad ∧ 0 ≤ j ∧ j < n ∧ (execOp e { dst := d, op := .indexAddr 22 X Y, type := T'', pos := ps, after := af, guard := gd }).run Star.prog w = .ok (.value (.pointer (some (ad.add j.toNat)))) w) ∨
  ∃ h w', HaltOk h ∧ (execOp e { dst := d, op := .indexAddr 22 X Y, type := T'', pos := ps, after := af, guard := gd }).run Star.prog w = .halt h w' := by
 unfold execOp
 simp only [hx, hy]
 cases A with
 | none =>
  refine .inr ?_
  simp [Instr.indexAt, asIntOf, go_sem, Star.underlying22]
  obtain ⟨z, w', h1, h2, _⟩ := run_bounds (P := Star.prog) (α := Value) .i64 j 0 .index w
  exact ⟨z, h2, w', by rw [h1]; rfl⟩
 | some ad =>
  by_cases h : 0 ≤ j ∧ j < n
  ·refine .inl ⟨ad, rfl, h.1, h.2, ?_⟩
   simp [Instr.indexAt, asIntOf, go_sem, Star.underlying22, h]
  ·refine .inr ?_
   simp [Instr.indexAt, asIntOf, go_sem, Star.underlying22, h]
   obtain ⟨z, w', h1, h2, _⟩ := run_bounds (P := Star.prog) (α := Value) .i64 j n .index w
   exact ⟨z, h2, w', by rw [h1]; rfl⟩
theorem load_force {d : Option Tmp} {T'' : TypeId} {X : Operand} {ps : String} {af : Array Edge} {gd : Option (Tmp × Bool)} {ad : Addr} (hx : e X = .pointer (some ad)) (hfar : w.cell? ad = none → ∃ x, w.farLoad Star.prog ad (Mode.plain == Mode.atomic) = .error x ∧ HaltOk x) :
  (∃ x, w.cell? ad = some x ∧ (execOp e { dst := d, op := .load 2 X, type := T'', pos := ps, after := af, guard := gd }).run Star.prog w = .ok (.value x) w) ∨
  ∃ h w', HaltOk h ∧ (execOp e { dst := d, op := .load 2 X, type := T'', pos := ps, after := af, guard := gd }).run Star.prog w = .halt h w' := by
 unfold execOp
 simp only [hx]
 cases hc : w.cell? ad with
 | some x => 
  refine .inl ⟨x, rfl, ?_⟩
  simp [Instr.loadAt, Instr.sureAddr, loadVar, go_sem, hc]
 | none =>
  refine .inr ?_
  simp [Instr.loadAt, Instr.sureAddr, loadVar, go_sem, hc]
  obtain ⟨z, h1, h2⟩ := hfar hc
  exact ⟨z, h2, w, by rw [h1]; rfl⟩
end
end Go.Proofs.Ytjgleaakgbnjgaa.Par
end

section
namespace Go.Proofs.Ytjgleaakgbnjgaa.Par
open Go Go.Conc
noncomputable def ops0s : Array Oper := match Star.body10 with | .seq (.region _ o _) _ => o | _ => #[]
noncomputable def loopS : Code := match Star.body10 with | .seq _ (.seq (.block _ (.loop c)) _) => c | _ => .skip
noncomputable def restS : Code := match Star.body10 with | .seq _ (.seq _ c) => c | _ => .skip
noncomputable def ops1s : Array Oper := match loopS with | .seq (.region _ o _) _ => o | _ => #[]
noncomputable def ops2s : Array Oper := match loopS with | .seq _ (.seq _ (.region _ o _)) => o | _ => #[]
theorem body10_eq : Star.body10 = .seq (.region 0 ops0s false) (.seq (.block 0 (.loop loopS)) restS) := by kernel_rfl
theorem loopS_eq : loopS = .seq (.region 1 ops1s false) (.seq (.cond (.tmp 6) .skip (.exit 0)) (.region 2 ops2s false)) := by kernel_rfl
abbrev kbS : Frame := { fn := 10, tmps := #[], todo := [], defers := [], mode := .run, kind := .normal }
theorem enterS (a : Array Value) (cs : List Frame) (h : a.size = 2) : ∃ x0 x1, a = #[x0, x1] ∧ Entering Star.prog 10 a cs = G (kbS.at ⟨#[x0, x1, undef, undef, undef, undef, undef, undef, undef, undef, undef, undef, undef, undef, undef, undef, undef, undef, undef, undef, undef, undef, undef, undef, undef, undef, undef, undef, undef, undef, undef, undef, undef, undef, undef, undef], []⟩ [.code Star.body10]) cs := by
 obtain ⟨l⟩ := a
 rcases l with _ | ⟨x0, _ | ⟨x1, _ | ⟨x2, l⟩⟩⟩ <;> try (simp at h)
 refine ⟨x0, x1, rfl, ?_⟩
 kernel_rfl
theorem array36 (T : Array Value) (h : T.size = 36) : ∃ v0 v1 v2 v3 v4 v5 v6 v7 v8 v9 v10 v11 v12 v13 v14 v15 v16 v17 v18 v19 v20 v21 v22 v23 v24 v25 v26 v27 v28 v29 v30 v31 v32 v33 v34 v35 : Value, T = #[v0, v1, v2, v3, v4, v5, v6, v7, v8, v9, v10, v11, v12, v13, v14, v15, v16, v17, v18, v19, v20, v21, v22, v23, v24, v25, v26, v27, v28, v29, v30, v31, v32, v33, v34, v35] := by
 obtain ⟨l⟩ := T
 simp only [List.size_toArray] at h
 rcases l with _ | ⟨v0, l⟩
 ·simp at h
 rcases l with _ | ⟨v1, l⟩
 ·simp at h
 rcases l with _ | ⟨v2, l⟩
 ·simp at h
 rcases l with _ | ⟨v3, l⟩
 ·simp at h
 rcases l with _ | ⟨v4, l⟩
 ·simp at h
 rcases l with _ | ⟨v5, l⟩
 ·simp at h
 rcases l with _ | ⟨v6, l⟩
 ·simp at h
 rcases l with _ | ⟨v7, l⟩
 ·simp at h
 rcases l with _ | ⟨v8, l⟩
 ·simp at h
 rcases l with _ | ⟨v9, l⟩
 ·simp at h
 rcases l with _ | ⟨v10, l⟩
 ·simp at h
 rcases l with _ | ⟨v11, l⟩
 ·simp at h
 rcases l with _ | ⟨v12, l⟩
 ·simp at h
 rcases l with _ | ⟨v13, l⟩
 ·simp at h
 rcases l with _ | ⟨v14, l⟩
 ·simp at h
 rcases l with _ | ⟨v15, l⟩
 ·simp at h
 rcases l with _ | ⟨v16, l⟩
 ·simp at h
 rcases l with _ | ⟨v17, l⟩
 ·simp at h
 rcases l with _ | ⟨v18, l⟩
 ·simp at h
 rcases l with _ | ⟨v19, l⟩
 ·simp at h
 rcases l with _ | ⟨v20, l⟩
 ·simp at h
 rcases l with _ | ⟨v21, l⟩
 ·simp at h
 rcases l with _ | ⟨v22, l⟩
 ·simp at h
 rcases l with _ | ⟨v23, l⟩
 ·simp at h
 rcases l with _ | ⟨v24, l⟩
 ·simp at h
 rcases l with _ | ⟨v25, l⟩
 ·simp at h
 rcases l with _ | ⟨v26, l⟩
 ·simp at h
 rcases l with _ | ⟨v27, l⟩
 ·simp at h
 rcases l with _ | ⟨v28, l⟩
 ·simp at h
 rcases l with _ | ⟨v29, l⟩
 ·simp at h
 rcases l with _ | ⟨v30, l⟩
 ·simp at h
 rcases l with _ | ⟨v31, l⟩
 ·simp at h
 rcases l with _ | ⟨v32, l⟩
 ·simp at h
 rcases l with _ | ⟨v33, l⟩
 ·simp at h
 rcases l with _ | ⟨v34, l⟩
 ·simp at h
 rcases l with _ | ⟨v35, l⟩
 ·simp at h
 rcases l with _ | ⟨x, l⟩
 ·exact ⟨_, _, _, _, _, _, _, _, _, _, _, _, _, _, _, _, _, _, _, _, _, _, _, _, _, _, _, _, _, _, _, _, _, _, _, _, rfl⟩
 ·simp at h
abbrev o10 : Oper := { dst := some 6, op := .binOp .lss 3 (.tmp 5) (.tmp 3) 3, type := 4, pos := "", after := #[], guard := none }
theorem at10 : ops1s[0]? = some o10 := by kernel_rfl
abbrev o20 : Oper := { dst := some 7, op := .indexAddr 22 (.tmp 1) (.tmp 5), type := 0, pos := "", after := #[], guard := none }
theorem at20 : ops2s[0]? = some o20 := by kernel_rfl
abbrev o21 : Oper := { dst := some 8, op := .load 2 (.tmp 7), type := 2, pos := "", after := #[], guard := none }
theorem at21 : ops2s[1]? = some o21 := by kernel_rfl
abbrev o22 : Oper := { dst := some 9, op := .binOp .lss 2 (.tmp 8) (.const (.int .i64 0)) 2, type := 4, pos := "", after := #[], guard := none }
theorem at22 : ops2s[2]? = some o22 := by kernel_rfl
abbrev o23 : Oper := { dst := some 10, op := .binOp .add 3 (.tmp 5) (.const (.int .i64 1)) 3, type := 3, pos := "", after := #[], guard := none }
theorem at23 : ops2s[3]? = some o23 := by kernel_rfl
abbrev o24 : Oper := { dst := some 5, op := .move (.tmp 10), type := 3, pos := "", after := #[], guard := none }
theorem at24 : ops2s[4]? = some o24 := by kernel_rfl
abbrev o00 : Oper := { dst := some 2, op := .binOp .lss 2 (.tmp 0) (.const (.int .i64 0)) 2, type := 4, pos := "", after := #[], guard := none }
theorem at00 : ops0s[0]? = some o00 := by kernel_rfl
abbrev o01 : Oper := { dst := some 3, op := .call { callee := .builtin .len, args := #[.tmp 1], argTypes := #[22] }, type := 3, pos := "", after := #[], guard := none }
theorem at01 : ops0s[1]? = some o01 := by kernel_rfl
abbrev o02 : Oper := { dst := some 4, op := .slice 22 (.tmp 1) none (some (.tmp 3)) none, type := 22, pos := "", after := #[], guard := none }
theorem at02 : ops0s[2]? = some o02 := by kernel_rfl
abbrev o03 : Oper := { dst := some 5, op := .move (.const (.int .i64 0)), type := 3, pos := "", after := #[], guard := none }
theorem at03 : ops0s[3]? = some o03 := by kernel_rfl
section
variable {base : List Frame} {Q : Goroutine → World → Prop} {cs : List Frame} {v : World} {A : Option Addr} {n c : Nat} {K : List Item} {q : Int}
theorem round_force (hn : ∀ fr : Frame, ¬Home base (G fr cs)) (hfar : ∀ ad : Addr, (∃ a₀ k, A = some a₀ ∧ ad = a₀.add k) → v.cell? ad = none → ∃ x, v.farLoad Star.prog ad (Mode.plain == Mode.atomic) = .error x ∧ HaltOk x) {T : Array Value} (hT : T.size = 36) (h1 : T[1]? = some (.slice A n c)) (h3 : T[3]? = some (.int .i64 n)) (h5 : T[5]? = some (.int .i64 q))
  (tt : Tot Star.prog base Q (G (kbS.at ⟨T, []⟩ (.code loopS :: K)) cs) v) (hq : q < n) :
  ∃ ad x, A = some ad ∧ 0 ≤ q ∧ v.cell? (ad.add q.toNat) = some (.int .i64 x) ∧ ∃ T' : Array Value, T'.size = 36 ∧ T'[1]? = some (.slice A n c) ∧ T'[3]? = some (.int .i64 n) ∧ T'[5]? = some (.int .i64 (IntKind.wrap .i64 (q + 1))) ∧ Tot Star.prog base Q (G (kbS.at ⟨T', []⟩ K) cs) v := by
 obtain ⟨v0, v1, v2, v3, v4, v5, v6, v7, v8, v9, v10, v11, v12, v13, v14, v15, v16, v17, v18, v19, v20, v21, v22, v23, v24, v25, v26, v27, v28, v29, v30, v31, v32, v33, v34, v35, rfl⟩ := array36 T hT
 simp only [List.getElem?_toArray, List.getElem?_cons_succ, List.getElem?_cons_zero, Option.some.injEq] at h1 h3 h5
 subst h1 h3 h5
 have hk : kbS.kind ≠ .early := by decide
 rw [loopS_eq] at tt
 have tt := tot_step (hn _) stepG_seq tt
 have tt := tot_step (hn _) stepG_region tt
 rw [show List.range ops1s.size = [0] by kernel_rfl] at tt
 have tt := tot_value (x := .bool true) hk (hn _) at10 (by kernel_rfl) (show (execOp _ o10).run Star.prog v = .ok (.value (.bool true)) v by
  rw [← decide_eq_true hq]
  kernel_rfl) tt
 have tt := tot_step (hn _) stepG_region_end tt
 have tt := tot_step (hn _) stepG_seq tt
 have tt := tot_step (hn _) (stepG_cond (t := true) (by kernel_rfl)) tt
 rw [if_pos rfl] at tt
 have tt := tot_step (hn _) stepG_skip tt
 have tt := tot_step (hn _) stepG_region tt
 rw [show List.range ops2s.size = [0, 1, 2, 3, 4] by kernel_rfl] at tt
 rcases index_force (e := (Act.put ⟨#[v0, Value.slice A n c, v2, Value.int .i64 n, v4, Value.int .i64 q, v6, v7, v8, v9, v10, v11, v12, v13, v14, v15, v16, v17, v18, v19, v20, v21, v22, v23, v24, v25, v26, v27, v28, v29, v30, v31, v32, v33, v34, v35], []⟩ (some 6) (.bool true)).eval) (w := v) (d := some 7) (T'' := 0) (X := .tmp 1) (Y := .tmp 5) (ps := "") (af := #[]) (gd := none) (A := A) (n := n) (c := c) (j := q) (by kernel_rfl) (by kernel_rfl) with ⟨ad, rfl, g0, g1, hr⟩ | ⟨h, w', hh, hr⟩
 case inr => exact (tot_goes (hn _) at20 (by kernel_rfl) tt hh hr).elim
 have tt := tot_value hk (hn _) at20 (by kernel_rfl) hr tt
 rcases load_force (e := (Act.put (Act.put ⟨#[v0, Value.slice (some ad) n c, v2, Value.int .i64 n, v4, Value.int .i64 q, v6, v7, v8, v9, v10, v11, v12, v13, v14, v15, v16, v17, v18, v19, v20, v21, v22, v23, v24, v25, v26, v27, v28, v29, v30, v31, v32, v33, v34, v35], []⟩ (some 6) (.bool true)) (some 7) (.pointer (some (ad.add q.toNat)))).eval) (w := v) (d := some 8) (T'' := 2) (X := .tmp 7) (ps := "") (af := #[]) (gd := none) (ad := ad.add q.toNat) (by kernel_rfl) (hfar _ ⟨_, _, rfl, rfl⟩) with ⟨x, hx, hr⟩ | ⟨h, w', hh, hr⟩
 case inr => exact (tot_goes (hn _) at21 (by kernel_rfl) tt hh hr).elim
 have tt := tot_value hk (hn _) at21 (by kernel_rfl) hr tt
 rcases lss_force (P := Star.prog) (e := (Act.put (Act.put (Act.put ⟨#[v0, Value.slice (some ad) n c, v2, Value.int .i64 n, v4, Value.int .i64 q, v6, v7, v8, v9, v10, v11, v12, v13, v14, v15, v16, v17, v18, v19, v20, v21, v22, v23, v24, v25, v26, v27, v28, v29, v30, v31, v32, v33, v34, v35], []⟩ (some 6) (.bool true)) (some 7) (.pointer (some (ad.add q.toNat)))) (some 8) x).eval) (w := v) (d := some 9) (T := 2) (T' := 2) (T'' := 4) (X := .tmp 8) (Y := .const (.int .i64 0)) (ps := "") (af := #[]) (gd := none) (n := 0) (by kernel_rfl) with ⟨y, hy, hr⟩ | ⟨h, w', hh, hr⟩
 case inr => exact (tot_goes (hn _) at22 (by kernel_rfl) tt hh hr).elim
 have tt := tot_value hk (hn _) at22 (by kernel_rfl) hr tt
 have tt := tot_value (v' := v) (x := .int .i64 (IntKind.wrap .i64 (q + 1))) hk (hn _) at23 (by kernel_rfl) (show (execOp _ o23).run Star.prog v = _ by kernel_rfl) tt
 have tt := tot_value (v' := v) (x := .int .i64 (IntKind.wrap .i64 (q + 1))) hk (hn _) at24 (by kernel_rfl) (show (execOp _ o24).run Star.prog v = _ by kernel_rfl) tt
 have tt := tot_step (hn _) stepG_region_end tt
 have exy : x = .int .i64 y := hy
 refine ⟨ad, y, rfl, g0, by rw [hx, exy], _, ?_, ?_, ?_, ?_, tt⟩
 ·kernel_rfl
 ·kernel_rfl
 ·kernel_rfl
 ·kernel_rfl
theorem wrap_top : IntKind.wrap .i64 (9223372036854775807 + 1) = -9223372036854775808 := by decide
theorem loop_force (hn : ∀ fr : Frame, ¬Home base (G fr cs)) (hfar : ∀ ad : Addr, (∃ a₀ k, A = some a₀ ∧ ad = a₀.add k) → v.cell? ad = none → ∃ x, v.farLoad Star.prog ad (Mode.plain == Mode.atomic) = .error x ∧ HaltOk x) :
  ∀ (d i : Nat) {T : Array Value}, i + d = n → i ≤ 9223372036854775807 → T.size = 36 → T[1]? = some (.slice A n c) → T[3]? = some (.int .i64 n) → T[5]? = some (.int .i64 i) → (∀ j : Nat, j < i → ∃ ad x, A = some ad ∧ v.cell? (ad.add j) = some (.int .i64 x)) →
   Tot Star.prog base Q (G (kbS.at ⟨T, []⟩ (.code loopS :: .inLoop loopS :: K)) cs) v → n ≤ 9223372036854775807 ∧ ∀ j : Nat, j < n → ∃ ad x, A = some ad ∧ v.cell? (ad.add j) = some (.int .i64 x) := by
 intro d
 induction d with
 | zero => exact fun i T hi hle hT h1 h3 h5 hev tt => ⟨by omega, fun j hj => hev j (by omega)⟩
 | succ d ih =>
  intro i T hi hle hT h1 h3 h5 hev tt
  obtain ⟨ad, x, e1, g0, hx, T', hT', h1', h3', h5', tt⟩ := round_force hn hfar hT h1 h3 h5 tt (by omega)
  have tt := tot_step (hn _) stepG_inLoop tt
  have hev' : ∀ j : Nat, j < i + 1 → ∃ ad x, A = some ad ∧ v.cell? (ad.add j) = some (.int .i64 x) := fun j hj => by
   by_cases hj' : j < i
   ·exact hev j hj'
   ·obtain rfl : j = i := by omega
    exact ⟨ad, x, e1, by simpa using hx⟩
  by_cases htop : i = 9223372036854775807
  ·subst htop
   rw [show (((9223372036854775807 : Nat) : Int)) = 9223372036854775807 from rfl, wrap_top] at h5'
   by_cases hd : d = 0
   ·subst hd
    obtain ⟨_, _, _, g1, _⟩ := round_force hn hfar hT' h1' h3' h5' tt (by omega)
    omega
   ·obtain ⟨_, _, _, g1, _⟩ := round_force hn hfar hT' h1' h3' h5' tt (by omega)
    omega
  ·have hw : IntKind.wrap .i64 ((i : Int) + 1) = ((i + 1 : Nat) : Int) := by
    rw [wrap_in _ (by omega) (by omega)]
    rfl
   rw [hw] at h5'
   exact ih (i + 1) (by omega) (by omega) hT' h1' h3' h5' hev' tt
theorem solve_force (hn : ∀ fr : Frame, ¬Home base (G fr cs)) {x0 x1 : Value} (hfar : ∀ (a₀ : Addr) (m c : Nat) (k : Nat), x1 = .slice (some a₀) m c → v.cell? (a₀.add k) = none → ∃ x, v.farLoad Star.prog (a₀.add k) (Mode.plain == Mode.atomic) = .error x ∧ HaltOk x)
  (tt : Tot Star.prog base Q (Entering Star.prog 10 #[x0, x1] cs) v) :
  ∃ o A n c, x0 = .int .i64 o ∧ x1 = .slice A n c ∧ n ≤ c ∧ n ≤ 9223372036854775807 ∧ ∀ j : Nat, j < n → ∃ ad x, A = some ad ∧ v.cell? (ad.add j) = some (.int .i64 x) := by
 obtain ⟨y0, y1, e0, e⟩ := enterS #[x0, x1] cs rfl
 obtain ⟨rfl, rfl⟩ : x0 = y0 ∧ x1 = y1 := by simpa using e0
 have hk : kbS.kind ≠ .early := by decide
 rw [e, body10_eq] at tt
 have tt := tot_step (hn _) stepG_seq tt
 have tt := tot_step (hn _) stepG_region tt
 rw [show List.range ops0s.size = [0, 1, 2, 3] by kernel_rfl] at tt
 rcases lss_force (P := Star.prog) (e := (Act.mk #[x0, x1, undef, undef, undef, undef, undef, undef, undef, undef, undef, undef, undef, undef, undef, undef, undef, undef, undef, undef, undef, undef, undef, undef, undef, undef, undef, undef, undef, undef, undef, undef, undef, undef, undef, undef] []).eval) (w := v) (d := some 2) (T := 2) (T' := 2) (T'' := 4) (X := .tmp 0) (Y := .const (.int .i64 0)) (ps := "") (af := #[]) (gd := none) (n := 0) (by kernel_rfl) with ⟨o, ho, hr⟩ | ⟨h, w', hh, hr⟩
 case inr => exact (tot_goes (hn _) at00 (by kernel_rfl) tt hh hr).elim
 obtain rfl : x0 = .int .i64 o := ho
 have tt := tot_value hk (hn _) at00 (by kernel_rfl) hr tt
 rcases len_force (e := (Act.put (Act.mk #[.int .i64 o, x1, undef, undef, undef, undef, undef, undef, undef, undef, undef, undef, undef, undef, undef, undef, undef, undef, undef, undef, undef, undef, undef, undef, undef, undef, undef, undef, undef, undef, undef, undef, undef, undef, undef, undef] []) (some 2) (.bool (decide (o < 0)))).eval) (w := v) (d := some 3) (T'' := 3) (X := .tmp 1) (ps := "") (af := #[]) (gd := none) with ⟨A, n, c, hx, hr⟩ | ⟨h, w', hh, hr⟩
 case inr => exact (tot_goes (hn _) at01 (by kernel_rfl) tt hh hr).elim
 obtain rfl : x1 = .slice A n c := hx
 have tt := tot_value hk (hn _) at01 (by kernel_rfl) hr tt
 rcases slice_force (e := (Act.put (Act.put (Act.mk #[.int .i64 o, .slice A n c, undef, undef, undef, undef, undef, undef, undef, undef, undef, undef, undef, undef, undef, undef, undef, undef, undef, undef, undef, undef, undef, undef, undef, undef, undef, undef, undef, undef, undef, undef, undef, undef, undef, undef] []) (some 2) (.bool (decide (o < 0)))) (some 3) (.int .i64 n)).eval) (w := v) (d := some 4) (T'' := 22) (X := .tmp 1) (Y := .tmp 3) (ps := "") (af := #[]) (gd := none) (A := A) (n := n) (c := c) (by kernel_rfl) (by kernel_rfl) with ⟨hc, y, hr⟩ | ⟨h, w', hh, hr⟩
 case inr => exact (tot_goes (hn _) at02 (by kernel_rfl) tt hh hr).elim
 have tt := tot_value hk (hn _) at02 (by kernel_rfl) hr tt
 have tt := tot_value (v' := v) (x := .int .i64 0) hk (hn _) at03 (by kernel_rfl) (show (execOp _ o03).run Star.prog v = _ by kernel_rfl) tt
 have tt := tot_step (hn _) stepG_region_end tt
 have tt := tot_step (hn _) stepG_seq tt
 have tt := tot_step (hn _) stepG_block tt
 have tt := tot_step (hn _) stepG_loop tt
 obtain ⟨g1, g2⟩ := loop_force (A := A) (n := n) (c := c) hn (fun ad h => by
  obtain ⟨a₀, k, rfl, rfl⟩ := h
  exact hfar a₀ n c k rfl) n 0 (by omega) (by omega) (by kernel_rfl) (by kernel_rfl) (by kernel_rfl) (by kernel_rfl) (fun j hj => by omega) tt
 exact ⟨o, A, n, c, rfl, rfl, hc, g1, g2⟩
end
end Go.Proofs.Ytjgleaakgbnjgaa.Par
end

section
namespace Go.Proofs.Ytjgleaakgbnjgaa.S
open Go.RowKit Go.Proofs.YtjgleaakgbnjgaaW.PrintWords Go.Proofs.YtjgleaakgbnjgaaW.PrintLast Go.Proofs.YtjgleaakgbnjgaaW.PrintMore
attribute [local go_sem] max2_int min2_int max_two min_two max_three min_three max_four min_four
attribute [local go_sem] XWalk.cell2
theorem eir_Solve_1.calls (k : Nat) (a0 : Int) (A1 : Option Addr) (c1 : Nat) (l1 : List Int) (a2 : Int) (r : Bool) (x y : Nat) (w : World) (hx : w.cell? ⟨x, 0, none⟩ = some (.int .i64 a0)) (hy : w.cell? ⟨y, 0, none⟩ = some (.slice A1 l1.length c1)) (hr1 : Kd.C (Kd.int .i64) w A1 l1.length l1) (hc1 : l1.length ≤ c1) (h : eir_covers.f k a0 l1 a2 = some r) :
  Calls Star.prog 23 #[.int .i64 a2, .pointer (some ⟨x, 0, none⟩), .pointer (some ⟨y, 0, none⟩)] w fun e w' => e = .returned (.bool r) ∧ Below w.heap.size w w' := by
 have HR1 := Aside0.mk hr1
 have HC1 := Aside0.mk hc1
 clear hr1 hc1
 have HB := Aside0.mk (Below.refl w.heap.size w)
 have A4 := Aside0.mk h
 clear h
 go_enter Star.func23, Try.ntmps23
 go_upto_region 2 with (first | ((with_reducible refine gate_callee (f := 24) rfl ?_); refine goesL_ (some 8) rfl rfl Star.func24 (by kernel_rfl) rfl #[.int .i64 a0, .slice A1 l1.length c1, .int .i64 a2] rfl (by (try simp only [List.map_toArray, List.map_cons, List.map_nil]); first | done | rfl | (simp only [List.length_drop, List.length_take]; rfl)) ?_; (with_reducible refine (eir_covers.calls k a0 _ _ l1 a2 r _ ?side1 ?side2 A4.out).mono ?_); (case side1 => repeat (first | exact HR1.out | (with_reducible refine Kd.C_alloc ?_ _) | (with_reducible refine Kd.C_drewN ?_ _) | (with_reducible refine Kd.C_drew ?_))); (case side2 => exact HC1.out); rintro e w6 ⟨rfl, hb⟩; refine ⟨_, rfl, ?_⟩; have n0_ := Aside0.mk (below_step (by repeat (first | (with_reducible first | exact HB.out | apply below_alloc | apply pw_below_drewN | apply below_drew1) | exact HB.out)) hb); clear HB; have HB := n0_; clear n0_; (try clear hb); (try clear hb2); (try clear hk); (try clear hi)))
 go_ret
 exact ⟨rfl, HB.out⟩
end Go.Proofs.Ytjgleaakgbnjgaa.S
end

section
namespace Go.Proofs.Ytjgleaakgbnjgaa.Par
open Go Go.Conc Go.RowKit Go.Proofs.Ytjgleaakgbnjgaa.S Go.Proofs.Ytjgleaakgbnjgaa.XEir Go.Proofs.YtjgleaakgbnjgaaW.PrintWords Go.Proofs.YtjgleaakgbnjgaaW.PrintMore
theorem add_blk (ad : Addr) (j : Nat) : (ad.add j).block = ad.block := by
 unfold Addr.add
 split <;> rfl
structure Handed (w : World) (o : Int) (A : Option Addr) (n c : Nat) (l : List Int) : Prop where
 size : Star.prog.globals.size ≤ w.heap.size
 len : l.length = n
 top : n ≤ 9223372036854775807
 cap : n ≤ c
 row : 0 < n → ∀ ad, A = some ad → Star.prog.globals.size ≤ ad.block ∧ ∃ (cr : Array Value) (t : TypeId) (fr : Nat × Nat), w.heap[ad.block]? = some (.cells cr t fr)
 cell : ∀ (j : Nat) (x : Int), l[j]? = some x → ∃ ad, A = some ad ∧ w.cell? (ad.add j) = some (.int .i64 x)
def dom (A : Option Addr) (e : List Nat) (b : Nat) : Bool := e.contains b || (match A with | some ad => b == ad.block | none => false)
theorem Handed.mono {w w' : World} {o : Int} {A : Option Addr} {n c : Nat} {l : List Int} (h : Handed w o A n c l) (hk : Keeps NilB (fun b => dom A [] b = true) w w') : Handed w' o A n c l := by
 have key : ∀ ad, A = some ad → w'.heap[ad.block]? = w.heap[ad.block]? := fun ad e => hk.keep _ (.inr (by simp [dom, e]))
 refine ⟨Nat.le_trans h.size hk.size, h.len, h.top, h.cap, fun h0 ad e => ?_, fun j x hx => ?_⟩
 ·rw [key ad e]
  exact h.row h0 ad e
 ·obtain ⟨ad, e, hc⟩ := h.cell j x hx
  refine ⟨ad, e, ?_⟩
  rw [← hc]
  exact cell_same (by rw [add_blk]; exact key ad e)
theorem Handed.shown {w : World} {o : Int} {A : Option Addr} {n c : Nat} {l : List Int} (h : Handed w o A n c l) (h0 : 0 < n) {e : List Nat} (he : ∀ b ∈ e, Star.prog.globals.size ≤ b ∧ (∀ ad, A = some ad → b ≠ ad.block) ∧ ∃ c t fr, w.heap[b]? = some (.cells c t fr) ∧ AR (VR (cfg Star.prog Lk Try.funcs) (same (dom A e))) c c) :
  ∃ S, onS S = dom A e ∧ Shown Star.prog Lk Try.funcs S w ∧ Kd.C (Kd.int .i64) (shadeS S w) A l.length l ∧ ∀ b ∈ e, ∀ c t fr, w.heap[b]? = some (.cells c t fr) → (shadeS S w).cell? ⟨b, 0, none⟩ = c[0]? := by
 obtain ⟨S, hS⟩ : ∃ S : Nat → Option (Array Value), ∀ b, (dom A e b = false → S b = none) ∧ (b ∈ e → ∀ c t fr, w.heap[b]? = some (.cells c t fr) → S b = some c) ∧
   ((∃ ad, A = some ad ∧ b = ad.block) → b ∉ e → ∃ d c t fr, S b = some d ∧ w.heap[b]? = some (.cells c t fr) ∧ AR (VR (cfg Star.prog Lk Try.funcs) (same (dom A e))) d c ∧ ∀ (i : Nat) (k : IntKind) (n : Int), c[i]? = some (.int k n) → d[i]? = some (.int k n)) := by
  have key : ∀ b, ∃ s : Option (Array Value), (dom A e b = false → s = none) ∧ (b ∈ e → ∀ c t fr, w.heap[b]? = some (.cells c t fr) → s = some c) ∧
   ((∃ ad, A = some ad ∧ b = ad.block) → b ∉ e → ∃ d c t fr, s = some d ∧ w.heap[b]? = some (.cells c t fr) ∧ AR (VR (cfg Star.prog Lk Try.funcs) (same (dom A e))) d c ∧ ∀ (i : Nat) (k : IntKind) (n : Int), c[i]? = some (.int k n) → d[i]? = some (.int k n)) := by
   intro b
   by_cases hb : b ∈ e
   ·obtain ⟨_, _, c', t, fr, h2, _⟩ := he b hb
    refine ⟨some c', fun hd => ?_, fun _ c t fr h3 => ?_, fun _ hn => absurd hb hn⟩
    ·simp [dom, hb] at hd
    ·rw [h2] at h3
     simp only [Option.some.injEq, Obj.cells.injEq] at h3
     rw [h3.1]
   ·by_cases ha : ∃ ad, A = some ad ∧ b = ad.block
    ·obtain ⟨ad, e1, rfl⟩ := ha
     obtain ⟨_, cr, t, fr, h2⟩ := h.row h0 ad e1
     obtain ⟨d', h4, h5⟩ := kills cr
     exact ⟨some d', fun hd => by simp [dom, e1] at hd, fun hn => absurd hn hb, fun _ _ => ⟨d', cr, t, fr, rfl, h2, h4 _ _, h5⟩⟩
    ·exact ⟨none, fun _ => rfl, fun hn => absurd hn hb, fun h => absurd h ha⟩
  exact ⟨fun b => (key b).choose, fun b => (key b).choose_spec⟩
 have hon : onS S = dom A e := by
  funext b
  obtain ⟨h1, h2, h3⟩ := hS b
  unfold onS
  cases hd : dom A e b with
  | false => rw [h1 hd]; rfl
  | true =>
   by_cases hb : b ∈ e
   ·obtain ⟨_, _, c', t, fr, h4, _⟩ := he b hb
    rw [h2 hb _ _ _ h4]
    rfl
   ·have : ∃ ad, A = some ad ∧ b = ad.block := by
     cases hA : A with
     | none => simp [dom, hA, hb] at hd
     | some ad => exact ⟨ad, rfl, by simpa [dom, hA, hb] using hd⟩
    obtain ⟨d, _, _, _, h4, _⟩ := h3 this hb
    rw [h4]
    rfl
 have hne : ∀ ad, A = some ad → ad.block ∉ e := fun ad e1 hm => (he _ hm).2.1 ad e1 rfl
 refine ⟨S, hon, ⟨h.size, fun b d hb => ?_⟩, ⟨rfl, by rw [h.len]; exact h.top, fun hpos => ?_⟩, fun b hb c t fr h2 => ?_⟩
 ·have hd : dom A e b = true := by rw [← hon]; simp [onS, hb]
  obtain ⟨h1, h2, h3⟩ := hS b
  rw [hon]
  by_cases hbe : b ∈ e
  ·obtain ⟨g1, _, c', t, fr, h4, h5⟩ := he b hbe
   rw [h2 hbe _ _ _ h4] at hb
   obtain rfl := Option.some.inj hb
   exact ⟨g1, _, _, _, h4, h5⟩
  ·have : ∃ ad, A = some ad ∧ b = ad.block := by
    cases hA : A with
    | none => simp [dom, hA, hbe] at hd
    | some ad => exact ⟨ad, rfl, by simpa [dom, hA, hbe] using hd⟩
   obtain ⟨d', c', t, fr, h4, h5, h6, _⟩ := h3 this hbe
   rw [h4] at hb
   obtain rfl := Option.some.inj hb
   obtain ⟨ad, e1, rfl⟩ := this
   exact ⟨(h.row h0 ad e1).1, _, _, _, h5, h6⟩
 ·obtain ⟨ad, e1, _⟩ := h.cell 0 _ (List.getElem?_eq_getElem hpos)
  refine ⟨ad, e1, fun j x hj => ⟨[.int .i64 x], rfl, rfl, fun i u hu => ?_⟩⟩
  obtain ⟨ad', e2, hc⟩ := h.cell j x hj
  rw [e1] at e2
  obtain rfl := Option.some.inj e2
  obtain ⟨d', c', t, fr, h4, h5, h6, h7⟩ := (hS ad.block).2.2 ⟨ad, e1, rfl⟩ (hne ad e1)
  have hi : i = 0 := by
   have := (List.getElem?_eq_some_iff.1 hu).1
   simpa using this
  subst hi
  obtain rfl : Value.int .i64 x = u := by simpa using hu
  have hsz : (Kd.int IntKind.i64).sz = 1 := rfl
  rw [hsz, Nat.mul_one, Nat.add_zero]
  unfold World.cell? at hc
  rw [add_blk, h5] at hc
  dsimp only at hc
  by_cases hs : (ad.add j).spot.isSome = true
  ·rw [if_pos hs] at hc
   cases hc
  ·rw [if_neg hs] at hc
   rw [shadeS_cell (S := S) (c := d') (by rw [add_blk]; exact h4) (by rw [add_blk]; exact h5) (by simpa using hs)]
   exact h7 _ _ _ hc
 ·exact shadeS_cell (S := S) (a := ⟨b, 0, none⟩) ((hS b).2.1 hb _ _ _ h2) h2 rfl
section
variable {w : World} {o : Int} {A : Option Addr} {n c : Nat} {l : List Int}
theorem may_live (h : Handed w o A n c l) (h0 : 0 < n) (m : Bool) (f : Frame) (cs : List Frame) :
  Live Try.prog m (fun b => dom A [] b = true) (fun own g w => g = G (f.finish (.bool (decide (mayE o l)))) cs) NilB (G (Frame.enter Try.prog 22 #[.int .i64 o, .slice A n c] .normal) (f :: cs)) w := by
 obtain ⟨S, hon, hsh, hC, _⟩ := h.shown h0 (e := []) (fun b hb => absurd hb (by simp))
 have ha : AR (VR (cfg Star.prog Lk Try.funcs) (same (onS S))) #[Value.int .i64 o, .slice A n c] #[.int .i64 o, .slice A n c] := by
  refine (AR.empty.push (.int _ _)).push ?_
  cases A with
  | none => exact .nilSlice _ _
  | some ad => exact .slice (a := ad) (b := ad.block) (by rw [hon]; simp [same, dom]) (h.row h0 ad rfl).1 _ _
 have hl := live_of_calls_S (P := Star.prog) (L := Lk) (F := Try.funcs) hsh rfl fnsOk_kid (m := m) (R := fun x _ => x = .bool (decide (mayE o l))) (fun _ _ _ _ h => h) (f := 22) (by decide) (fn := Try.f22) (code := (Try.f22.body).getD .skip) (by kernel_rfl) (by kernel_rfl) (by kernel_rfl) (by kernel_rfl) ha (fun t d => by
   have := eir_may.calls 700 o A c l (decide (mayE o l)) ((shadeS S w).re t d) (by
    refine ⟨hC.1, hC.2.1, fun hp => ?_⟩
    obtain ⟨ad, e, h2⟩ := hC.2.2 hp
    exact ⟨ad, e, h2⟩) (by rw [h.len]; exact h.cap) (may_f (Nat.le_refl _))
   rw [h.len] at this
   exact this.mono fun e v hv => ⟨_, hv.1, rfl⟩) f cs
 rw [here_star] at hl
 rw [hon] at hl
 refine hl.weaken (own := NilB) (fun _ h => h) (fun b hb => .inr hb) (fun b hb => hb.elim False.elim fun hb => ?_) (fun own' g' w' hst _ _ _ => .stop ?_) (fun _ h => h.elim)
 ·rw [← hon] at hb
  obtain ⟨d, hd⟩ := onS_some hb
  obtain ⟨_, _, _, _, e, _⟩ := hsh.cells _ _ hd
  exact (Array.getElem?_eq_some_iff.1 e).1
 ·obtain ⟨_, ρ, x, x', v, hR, hv, _, _, rfl⟩ := hst
  subst hR
  cases hv
  rfl
abbrev capsS (x y : Nat) : Array Value := #[.pointer (some ⟨x, 0, none⟩), .pointer (some ⟨y, 0, none⟩)]
theorem dom_mono {A : Option Addr} {e : List Nat} {b : Nat} (h : dom A [] b = true) : dom A e b = true := by
 unfold dom at *
 simp only [List.contains_nil, Bool.false_or] at h
 simp [h]
theorem covers_live (h : Handed w o A n c l) (h0 : 0 < n) {x y : Nat} (hxg : Star.prog.globals.size ≤ x) (hyg : Star.prog.globals.size ≤ y) (hxa : ∀ ad, A = some ad → x ≠ ad.block) (hya : ∀ ad, A = some ad → y ≠ ad.block) (hx : w.heap[x]? = some (.cells #[.int .i64 o] 2 (0, 0))) (hy : w.heap[y]? = some (.cells #[.slice A n c] 22 (0, 0))) (r : Int) (m : Bool) (f : Frame) (cs : List Frame) :
  Live Try.prog m (fun b => dom A [x, y] b = true) (fun own g w => g = G (f.finish (.bool (cov o l r))) cs) NilB (G (Frame.enter Try.prog 23 (#[.int .i64 r] ++ capsS x y) .normal) (f :: cs)) w := by
 have hA : VR (cfg Star.prog Lk Try.funcs) (same (dom A [x, y])) (.slice A n c) (.slice A n c) := by
  cases A with
  | none => exact .nilSlice _ _
  | some ad => exact .slice (a := ad) (b := ad.block) (by simp [same, dom]) (h.row h0 ad rfl).1 _ _
 obtain ⟨S, hon, hsh, hC, hcell⟩ := h.shown h0 (e := [x, y]) (fun b hb => by
  simp only [List.mem_cons, List.mem_nil_iff, or_false] at hb
  rcases hb with rfl | rfl
  ·exact ⟨hxg, hxa, _, _, _, hx, AR.empty.push (.int _ _)⟩
  ·exact ⟨hyg, hya, _, _, _, hy, AR.empty.push hA⟩)
 have ha : AR (VR (cfg Star.prog Lk Try.funcs) (same (onS S))) (#[Value.int .i64 r] ++ capsS x y) (#[.int .i64 r] ++ capsS x y) := by
  rw [hon]
  refine ((AR.empty.push (.int _ _)).push (.ptr (a := ⟨x, 0, none⟩) (b := x) ?_ hxg)).push (.ptr (a := ⟨y, 0, none⟩) (b := y) ?_ hyg)
  ·simp [same, dom]
  ·simp [same, dom]
 have hl := live_of_calls_S (P := Star.prog) (L := Lk) (F := Try.funcs) hsh rfl fnsOk_kid (m := m) (R := fun x _ => x = .bool (cov o l r)) (fun _ _ _ _ h => h) (f := 23) (by decide) (fn := Try.f23) (code := (Try.f23.body).getD .skip) (by kernel_rfl) (by kernel_rfl) (by kernel_rfl) (by kernel_rfl) ha (fun t d => by
   have := eir_Solve_1.calls 700 o A c l r (cov o l r) x y ((shadeS S w).re t d) (hcell x (by simp) _ _ _ hx) (by rw [h.len]; exact hcell y (by simp) _ _ _ hy) (by
    refine ⟨hC.1, hC.2.1, fun hp => ?_⟩
    obtain ⟨ad, e, h2⟩ := hC.2.2 hp
    exact ⟨ad, e, h2⟩) (by rw [h.len]; exact h.cap) (covers_f (Nat.le_refl _))
   exact this.mono fun e v hv => ⟨_, hv.1, rfl⟩) f cs
 rw [here_star] at hl
 rw [hon] at hl
 refine hl.weaken (own := NilB) (fun _ h => h) (fun b hb => .inr hb) (fun b hb => hb.elim False.elim fun hb => ?_) (fun own' g' w' hst _ _ _ => .stop ?_) (fun _ h => h.elim)
 ·rw [← hon] at hb
  obtain ⟨d, hd⟩ := onS_some hb
  obtain ⟨_, _, _, _, e, _⟩ := hsh.cells _ _ hd
  exact (Array.getElem?_eq_some_iff.1 e).1
 ·obtain ⟨_, ρ, x, x', v, hR, hv, _, _, rfl⟩ := hst
  subst hR
  cases hv
  rfl
end
end Go.Proofs.Ytjgleaakgbnjgaa.Par
end

section
namespace Go.Proofs.Ytjgleaakgbnjgaa.Par
open Go Go.Conc Go.RowKit Go.Proofs.Ytjgleaakgbnjgaa.S Go.Proofs.Ytjgleaakgbnjgaa.XEir
theorem run_box2 (ev : Operand → Value) (o : Oper) (hop : o.op = .box 2 (.tmp 0)) (x : Int) (hev : ev (.tmp 0) = .int .i64 x) (w : World) : (execOp ev o).run Try.prog w = .ok (.value (.pointer (some ⟨w.heap.size, 0, none⟩))) (w.alloc (.cells #[.int .i64 x] 2 (0, 0))) ∧ (execOp ev o).events Try.prog w #[] = #[] := by
  obtain ⟨dst, op, type, pos, after, guard⟩ := o
  simp only at hop
  subst hop
  unfold execOp
  simp only [hev]
  constructor <;> kernel_rfl
theorem run_box22 (ev : Operand → Value) (o : Oper) (hop : o.op = .box 22 (.tmp 1)) (A : Option Addr) (n c : Nat) (hev : ev (.tmp 1) = .slice A n c) (w : World) : (execOp ev o).run Try.prog w = .ok (.value (.pointer (some ⟨w.heap.size, 0, none⟩))) (w.alloc (.cells #[.slice A n c] 22 (0, 0))) ∧ (execOp ev o).events Try.prog w #[] = #[] := by
  obtain ⟨dst, op, type, pos, after, guard⟩ := o
  simp only at hop
  subst hop
  unfold execOp
  simp only [hev]
  constructor <;> kernel_rfl
theorem one_cell {w : World} {b : Nat} {v : Value} {t : TypeId} (h : w.heap[b]? = some (.cells #[v] t (0, 0))) : w.cell? ⟨b, 0, none⟩ = some v := by
  simp [World.cell?, h]
theorem ev_mf23 (v u : Value) (w : World) : (Instr.makeFunc (.func 23) #[] #[v, u]).events Try.prog w #[] = #[] := by kernel_rfl
section
variable {Q : Machine → Outcome → World → Trace → Prop} {w₀ : World} {o : Int} {A : Option Addr} {n c : Nat} {l : List Int}
theorem Handed.lt {w : World} (h : Handed w o A n c l) (h0 : 0 < n) {b : Nat} (hb : dom A [] b = true) : b < w.heap.size := by
  cases hA : A with
  | none => simp [dom, hA] at hb
  | some ad =>
    obtain ⟨_, cr, t, fr, e⟩ := h.row h0 ad hA
    simp only [dom, hA, List.contains_nil, Bool.false_or, beq_iff_eq] at hb
    rw [hb]
    exact (Array.getElem?_eq_some_iff.1 e).1
theorem Handed.old {w w' : World} (h : Handed w o A n c l) (hk : Old w w') : Handed w' o A n c l := by
  by_cases h0 : 0 < n
  · exact h.mono (Keeps.weaken hk fun b hb => .inl (hb.elim False.elim (h.lt h0)))
  · refine ⟨Nat.le_trans h.size hk.size, h.len, h.top, h.cap, fun hp => absurd hp h0, fun j x hx => ?_⟩
    have := (List.getElem?_eq_some_iff.1 hx).1
    have := h.len
    omega
structure Boxed (w₀ w : World) (o : Int) (A : Option Addr) (n c : Nat) (x y : Nat) : Prop where
  old : Old w₀ w
  gx : w₀.heap.size ≤ x
  gy : w₀.heap.size ≤ y
  hx : w.heap[x]? = some (.cells #[.int .i64 o] 2 (0, 0))
  hy : w.heap[y]? = some (.cells #[.slice A n c] 22 (0, 0))
theorem Boxed.step {x y : Nat} {w w' : World} (h : Boxed w₀ w o A n c x y) (hk : Old w w') : Boxed w₀ w' o A n c x y := by
  have lx : x < w.heap.size := (Array.getElem?_eq_some_iff.1 h.hx).1
  have ly : y < w.heap.size := (Array.getElem?_eq_some_iff.1 h.hy).1
  exact ⟨h.old.trans hk, h.gx, h.gy, (hk.keep x (.inl lx)).trans h.hx, (hk.keep y (.inl ly)).trans h.hy⟩
theorem Boxed.ask {x y : Nat} {w : World} (hB : Boxed w₀ w o A n c x y) (h : Handed w₀ o A n c l) (h0 : 0 < n) (r : Int) (m : Bool) (f : Frame) (cs : List Frame) :
    Live Try.prog m (fun b => dom A [x, y] b = true) (fun own g w => g = G (f.finish (.bool (cov o l r))) cs) NilB (G (Frame.enter Try.prog 23 (#[.int .i64 r] ++ capsS x y) .normal) (f :: cs)) w := by
  have h' := h.old hB.old
  have hne : ∀ {z : Nat}, w₀.heap.size ≤ z → ∀ ad, A = some ad → z ≠ ad.block := fun {z} hz ad e => by
    have := h.lt h0 (b := ad.block) (by simp [dom, e])
    omega
  exact covers_live h' h0 (Nat.le_trans h.size hB.gx) (Nat.le_trans h.size hB.gy) (hne hB.gx) (hne hB.gy) hB.hx hB.hy r m f cs
theorem Boxed.lt {x y : Nat} {w : World} (hB : Boxed w₀ w o A n c x y) (h : Handed w₀ o A n c l) (h0 : 0 < n) {b : Nat} (hb : dom A [x, y] b = true) : b < w.heap.size := by
  have lx : x < w.heap.size := (Array.getElem?_eq_some_iff.1 hB.hx).1
  have ly : y < w.heap.size := (Array.getElem?_eq_some_iff.1 hB.hy).1
  have := (h.old hB.old).lt h0 (b := b)
  simp only [dom, List.contains_cons, List.contains_nil, Bool.or_false, Bool.or_eq_true, beq_iff_eq, Bool.false_or] at hb this
  rcases hb with (rfl | rfl) | hb
  · exact lx
  · exact ly
  · exact this hb
theorem Boxed.holds {x y : Nat} {w : World} (hB : Boxed w₀ w o A n c x y) (h : Handed w₀ o A n c l) (h0 : 0 < n) : HoldsAll (fun b => dom A [x, y] b = true) w 23 (capsS x y) (cov o l) minS maxS := by
  refine ⟨fun b hb => hB.lt h h0 hb, fun r _ _ m f cs w' hk => ?_⟩
  have h' := (h.old hB.old).mono (w' := w') (Keeps.weaken hk fun b hb => hb.imp id dom_mono)
  have hne : ∀ {z : Nat}, w₀.heap.size ≤ z → ∀ ad, A = some ad → z ≠ ad.block := fun {z} hz ad e => by
    have := h.lt h0 (b := ad.block) (by simp [dom, e])
    omega
  exact covers_live h' h0 (Nat.le_trans h.size hB.gx) (Nat.le_trans h.size hB.gy) (hne hB.gx) (hne hB.gy) ((hk.keep x (.inr (by simp [dom]))).trans hB.hx) ((hk.keep y (.inr (by simp [dom]))).trans hB.hy) r m f cs
theorem calm_call {RoH : Nat → Prop} {v : Value} {w : World} {g : Goroutine} {f : Frame} {cs : List Frame} (hL : Live Try.prog true RoH (fun own g w => g = G (f.finish v) cs) NilB g w) (hr : ∀ b, RoH b → b < w.heap.size) (hK : ∀ w', Old w w' → Calm Try.prog Q (G (f.finish v) cs) w') : Calm Try.prog Q g w := by
  refine calm_of_live hL (fun b hb => hb.elim) hr fun own' g' w' hst _ _ hs => ?_
  subst hst
  exact hK w' ⟨hs.size, fun b hb => hs.keep b (hb.elim id False.elim) id, hs.os, hs.output⟩
set_option maxRecDepth 100000 in
set_option maxHeartbeats 8000000 in
theorem may_none {w : World} {f : Frame} {cs : List Frame} (hK : ∀ w', Old w w' → Calm Try.prog Q (G (f.finish (.bool false)) cs) w') : Calm Try.prog Q (G (Frame.enter Try.prog 22 #[.int .i64 o, .slice A 0 c] .normal) (f :: cs)) w := by
  have hc : Cl NilB (AllB w) (Old w) := fun a b h hk => Keeps.trans h hk
  refine calm_lw ?_
  rw [enter_at _ Try.func22 rfl]
  have hkb := base_kind 22
  have hfn : (base 22).fn = 22 := rfl
  have hkn : (base 22).kind = .normal := rfl
  generalize hkd : base 22 = kb at *
  simp only [Try.ntmps22, List.size_toArray, List.length_cons, List.length_nil, Nat.reduceAdd, Nat.reduceSub, Array.replicate_succ, Array.replicate_zero, List.push_toArray, List.append_toArray, List.nil_append, List.cons_append]
  refine lw_seq hc (lw_region hc ?_)
  simp only [List.size_toArray, List.length_cons, List.length_nil, Nat.reduceAdd, Nat.zero_add, List.range, List.range.loop]
  refine lw_op hc hkb rfl rfl fun w hF K hK => ?_
  go_simp
  refine hK _ (by rw [listed_nil (by simp [go_sem])]; simp) ?_
  clear hK K hF w
  try walk_nrm
  refine lw_region_end hc (lw_seq hc (lw_seq hc (lw_region hc ?_)))
  simp only [List.size_toArray, List.length_cons, List.length_nil, Nat.reduceAdd, Nat.zero_add, List.range, List.range.loop]
  iterate 16
    first
    | (refine lw_unwanted hc rfl rfl ?_
       walk_nrm)
    | (refine lw_op hc hkb rfl rfl fun w hF K hK => ?_
       go_simp
       refine hK _ (by rw [listed_nil (by simp [go_sem])]; simp) ?_
       clear hK K hF w
       try walk_nrm)
  refine lw_region_end hc (lw_cond hc rfl ?_)
  simp only [if_true]
  refine lw_seq hc (lw_region hc ?_)
  simp only [List.size_toArray, List.length_cons, List.length_nil, Nat.reduceAdd, Nat.zero_add, List.range, List.range.loop]
  refine lw_op hc hkb rfl rfl fun w hF K hK => ?_
  go_simp
  refine hK _ (by rw [listed_nil (by simp [go_sem])]; simp) ?_
  clear hK K hF w
  try walk_nrm
  refine lw_region_end hc (lw_ret hc (lw_leave1 (fn := Try.f22) (t := 4) hc hkn rfl (hfn ▸ Try.func22) rfl (lw_stop fun w hw => ?_)))
  exact hK w hw
theorem may_calm {w : World} (h : Handed w o A n c l) {f : Frame} {cs : List Frame} (hK : ∀ w', Old w w' → Calm Try.prog Q (G (f.finish (.bool (decide (mayE o l)))) cs) w') : Calm Try.prog Q (G (Frame.enter Try.prog 22 #[.int .i64 o, .slice A n c] .normal) (f :: cs)) w := by
  by_cases h0 : 0 < n
  · exact calm_call (may_live h h0 true _ _) (fun b hb => h.lt h0 hb) hK
  · obtain rfl : n = 0 := by omega
    rw [show decide (mayE o l) = false from decide_eq_false fun hm => by
      have := hm.1.1
      have := h.len
      omega] at hK
    exact may_none hK
set_option maxRecDepth 100000 in
set_option maxHeartbeats 8000000 in
theorem solve_calm (h : Handed w₀ o A n c l) {f : Frame} {cs : List Frame} (hK : ∀ w, Old w₀ w → Calm Try.prog Q (G (f.finish (.tuple #[.int .i64 (solveS o l).1, .int .i64 (solveS o l).2])) cs) w) :
    Calm Try.prog Q (G (Frame.enter Try.prog 10 #[.int .i64 o, .slice A n c] .normal) (f :: cs)) w₀ := by
  have hc : Cl NilB (AllB w₀) (Old w₀) := fun a b h hk => Keeps.trans h hk
  refine calm_lw ?_
  rw [enter_at _ Try.func10 rfl]
  have hkb := base_kind 10
  have hfn : (base 10).fn = 10 := rfl
  have hkn : (base 10).kind = .normal := rfl
  generalize hkd : base 10 = kb at *
  simp only [Try.ntmps10, List.size_toArray, List.length_cons, List.length_nil, Nat.reduceAdd, Nat.reduceSub, Array.replicate_succ, Array.replicate_zero, List.push_toArray, List.append_toArray, List.nil_append, List.cons_append]
  refine lw_seq hc (lw_region hc ?_)
  simp only [List.size_toArray, List.length_cons, List.length_nil, Nat.reduceAdd, Nat.zero_add, List.range, List.range.loop]
  refine lw_new (v := fun n => .pointer (some ⟨n, 0, none⟩)) (ob := .cells #[.int .i64 o] 2 (0, 0)) (F' := fun x w => Old w₀ w ∧ w₀.heap.size ≤ x ∧ w.heap[x]? = some (.cells #[.int .i64 o] 2 (0, 0))) hc hkb rfl rfl (fun w _ => (run_box2 _ _ rfl o rfl w).1) (fun w _ e he => by rw [(run_box2 _ _ rfl o rfl w).2] at he; simp at he)
    (fun w hw => ⟨Keeps.trans hw (keeps_alloc fun b hb => hb.elim (fun y => Nat.lt_of_lt_of_le y hw.size) False.elim), hw.size, alloc_at⟩) ?_
  intro x
  walk_nrm
  have hc1 : Cl NilB (fun b => AllB w₀ b ∨ b = x) (fun w => Old w₀ w ∧ w₀.heap.size ≤ x ∧ w.heap[x]? = some (.cells #[.int .i64 o] 2 (0, 0))) := fun a b h hk => ⟨Keeps.trans h.1 (Keeps.weaken hk fun b hb => hb.imp .inl id), h.2.1, (hk.keep x (.inl (.inr rfl))).trans h.2.2⟩
  refine lw_new (v := fun n => .pointer (some ⟨n, 0, none⟩)) (ob := .cells #[.slice A n c] 22 (0, 0)) (F' := fun y w => Boxed w₀ w o A n c x y) hc1 hkb rfl rfl (fun w _ => (run_box22 _ _ rfl A n c rfl w).1) (fun w _ e he => by rw [(run_box22 _ _ rfl A n c rfl w).2] at he; simp at he)
    (fun w hw => by
      have lx : x < w.heap.size := (Array.getElem?_eq_some_iff.1 hw.2.2).1
      refine ⟨Keeps.trans hw.1 (keeps_alloc fun b hb => hb.elim (fun y => Nat.lt_of_lt_of_le y hw.1.size) False.elim), hw.2.1, hw.1.size, ?_, alloc_at⟩
      rw [← hw.2.2]
      show (w.heap.push _)[x]? = _
      rw [Array.getElem?_push, if_neg (by omega)]) ?_
  intro y
  clear hc hc1
  walk_nrm
  have hc : Cl NilB (fun b => (AllB w₀ b ∨ b = x) ∨ b = y) (fun w => Boxed w₀ w o A n c x y) := fun a b h hk => ⟨Keeps.trans h.old (Keeps.weaken hk fun b hb => hb.imp (fun z => .inl (.inl z)) id), h.gx, h.gy, (hk.keep x (.inl (.inl (.inr rfl)))).trans h.hx, (hk.keep y (.inl (.inr rfl))).trans h.hy⟩
  iterate 2
    refine lw_op hc hkb rfl rfl fun w hF K hK => ?_
    go_simp
    refine hK _ (by rw [listed_nil (by simp [go_sem])]; simp) ?_
    clear hK K hF w
    try walk_nrm
  refine lw_region_end hc (lw_seq hc (lw_seq hc (lw_region hc ?_)))
  simp only [List.size_toArray, List.length_cons, List.length_nil, Nat.reduceAdd, Nat.zero_add, List.range, List.range.loop]
  refine lw_op hc hkb rfl rfl fun w hF K hK => ?_
  have hcl := one_cell hF.hx
  go_simp
  refine hK _ (fun e he => ?_) ?_
  · have hm := mem_listed he
    simp [go_sem, *] at hm
    subst hm
    exact .inl (.inl (.inr rfl))
  clear hK K hF hcl w
  try walk_nrm
  refine lw_op hc hkb rfl rfl fun w hF K hK => ?_
  have hcl := one_cell hF.hy
  go_simp
  refine hK _ (fun e he => ?_) ?_
  · have hm := mem_listed he
    simp [go_sem, *] at hm
    subst hm
    exact .inl (.inr rfl)
  clear hK K hF hcl w
  try walk_nrm
  refine lw_callf hc hkb rfl rfl rfl Try.func22 rfl rfl (lw_stop fun w hB => ?_)
  clear hc
  walk_nrm
  have hH := h.old hB.old
  refine may_calm hH fun w₁ hk => ?_
  replace hB := hB.step hk
  clear hH hk
  rw [Frame.finish_at]
  by_cases hm : mayE o l
  case neg =>
    have e : solveS o l = (0, 2) := by simp [solveS, hm]
    rw [e] at hK
    have hc : Cl NilB (AllB w₁) (Old w₁) := fun a b h hk => Keeps.trans h hk
    rw [decide_eq_false hm]
    refine calm_lw ?_
    walk_nrm
    refine lw_op hc hkb rfl rfl fun w hF K hK => ?_
    go_simp
    refine hK _ (by rw [listed_nil (by simp [go_sem])]; simp) ?_
    clear hK K hF w
    try walk_nrm
    refine lw_region_end hc (lw_cond hc rfl ?_)
    simp only [if_true]
    refine lw_seq hc (lw_region hc ?_)
    simp only [List.size_toArray, List.length_cons, List.length_nil, Nat.reduceAdd, Nat.zero_add, List.range, List.range.loop]
    iterate 2
      refine lw_op hc hkb rfl rfl fun w hF K hK => ?_
      go_simp
      refine hK _ (by rw [listed_nil (by simp [go_sem])]; simp) ?_
      clear hK K hF w
      try walk_nrm
    refine lw_region_end hc (lw_ret hc (lw_leave2 (fn := Try.f10) (t := 4) (u := 5) hc hkn rfl (hfn ▸ Try.func10) rfl (lw_stop fun w hw => ?_)))
    exact hK w (hB.old.trans hw)
  have h0 : 0 < n := by
    have := hm.1.1
    have := h.len
    omega
  rw [decide_eq_true hm]
  have hc : Cl NilB (AllB w₁) (Old w₁) := fun a b h hk => Keeps.trans h hk
  refine calm_lw ?_
  walk_nrm
  refine lw_op hc hkb rfl rfl fun w hF K hK => ?_
  go_simp
  refine hK _ (by rw [listed_nil (by simp [go_sem])]; simp) ?_
  clear hK K hF w
  try walk_nrm
  refine lw_region_end hc (lw_cond hc rfl ?_)
  simp only [Bool.false_eq_true, if_false]
  refine lw_skip hc (lw_seq hc (lw_region hc ?_))
  simp only [List.size_toArray, List.length_cons, List.length_nil, Nat.reduceAdd, Nat.zero_add, List.range, List.range.loop]
  iterate 2
    refine lw_op hc hkb rfl rfl fun w hF K hK => ?_
    go_simp
    refine hK _ (by rw [listed_nil (by simp [go_sem, ev_mf23])]; simp) ?_
    clear hK K hF w
    try walk_nrm
  refine lw_region_end hc (lw_seq hc (lw_seq hc (lw_region hc ?_)))
  simp only [List.size_toArray, List.length_cons, List.length_nil, Nat.reduceAdd, Nat.zero_add, List.range, List.range.loop]
  refine lw_op hc hkb rfl rfl fun w hF K hK => ?_
  go_simp
  refine hK _ (by rw [listed_nil (by simp [go_sem])]; simp) ?_
  clear hK K hF w
  try walk_nrm
  refine lw_callv hc hkb rfl rfl rfl rfl Try.func23 rfl rfl (lw_stop fun w hw => ?_)
  replace hB := hB.step hw
  clear hw hc
  walk_nrm
  refine calm_call (hB.ask h h0 (-990000000000) true _ _) (fun b hb => hB.lt h h0 hb) fun w₁ hk => ?_
  replace hB := hB.step hk
  clear hk
  rw [Frame.finish_at]
  have hc : Cl NilB (AllB w₁) (Old w₁) := fun a b h hk => Keeps.trans h hk
  by_cases c1 : cov o l minS = true
  case neg =>
    have e : solveS o l = (0, 13) := by simp [solveS, hm, c1]
    rw [e] at hK
    have c1' : cov o l (-990000000000) = false := by simpa [minS] using c1
    rw [c1']
    refine calm_lw ?_
    walk_nrm
    iterate 2
      refine lw_op hc hkb rfl rfl fun w hF K hK => ?_
      go_simp
      refine hK _ (by rw [listed_nil (by simp [go_sem])]; simp) ?_
      clear hK K hF w
      try walk_nrm
    refine lw_unwanted hc rfl rfl ?_
    walk_nrm
    refine lw_unwanted hc rfl rfl ?_
    walk_nrm
    iterate 1
      refine lw_op hc hkb rfl rfl fun w hF K hK => ?_
      go_simp
      refine hK _ (by rw [listed_nil (by simp [go_sem])]; simp) ?_
      clear hK K hF w
      try walk_nrm
    refine lw_region_end hc (lw_cond hc rfl ?_)
    simp only [if_true]
    refine lw_seq hc (lw_region hc ?_)
    simp only [List.size_toArray, List.length_cons, List.length_nil, Nat.reduceAdd, Nat.zero_add, List.range, List.range.loop]
    iterate 2
      refine lw_op hc hkb rfl rfl fun w hF K hK => ?_
      go_simp
      refine hK _ (by rw [listed_nil (by simp [go_sem])]; simp) ?_
      clear hK K hF w
      try walk_nrm
    refine lw_region_end hc (lw_ret hc (lw_leave2 (fn := Try.f10) (t := 4) (u := 5) hc hkn rfl (hfn ▸ Try.func10) rfl (lw_stop fun w hw => ?_)))
    exact hK w (hB.old.trans hw)
  have c1' : cov o l (-990000000000) = true := by simpa [minS] using c1
  rw [c1']
  refine calm_lw ?_
  walk_nrm
  iterate 3
    refine lw_op hc hkb rfl rfl fun w hF K hK => ?_
    go_simp
    refine hK _ (by rw [listed_nil (by simp [go_sem])]; simp) ?_
    clear hK K hF w
    try walk_nrm
  refine lw_callv hc hkb rfl rfl rfl rfl Try.func23 rfl rfl (lw_stop fun w hw => ?_)
  replace hB := hB.step hw
  clear hw hc
  walk_nrm
  refine calm_call (hB.ask h h0 10000000000000 true _ _) (fun b hb => hB.lt h h0 hb) fun w₁ hk => ?_
  replace hB := hB.step hk
  clear hk
  rw [Frame.finish_at]
  have hc : Cl NilB (AllB w₁) (Old w₁) := fun a b h hk => Keeps.trans h hk
  by_cases c2 : cov o l maxS = true
  case pos =>
    have e : solveS o l = (0, 13) := by simp [solveS, hm, c1, c2]
    rw [e] at hK
    have c2' : cov o l 10000000000000 = true := by simpa [maxS] using c2
    rw [c2']
    refine calm_lw ?_
    walk_nrm
    iterate 1
      refine lw_op hc hkb rfl rfl fun w hF K hK => ?_
      go_simp
      refine hK _ (by rw [listed_nil (by simp [go_sem])]; simp) ?_
      clear hK K hF w
      try walk_nrm
    refine lw_region_end hc (lw_cond hc rfl ?_)
    simp only [if_true]
    refine lw_seq hc (lw_region hc ?_)
    simp only [List.size_toArray, List.length_cons, List.length_nil, Nat.reduceAdd, Nat.zero_add, List.range, List.range.loop]
    iterate 2
      refine lw_op hc hkb rfl rfl fun w hF K hK => ?_
      go_simp
      refine hK _ (by rw [listed_nil (by simp [go_sem])]; simp) ?_
      clear hK K hF w
      try walk_nrm
    refine lw_region_end hc (lw_ret hc (lw_leave2 (fn := Try.f10) (t := 4) (u := 5) hc hkn rfl (hfn ▸ Try.func10) rfl (lw_stop fun w hw => ?_)))
    exact hK w (hB.old.trans hw)
  have c2' : cov o l 10000000000000 = false := by simpa [maxS] using c2
  have e : solveS o l = (lastF (cov o l) (-990000000000) 10000000000000, 0) := by
    have : solveS o l = (lastF (cov o l) minS maxS, 0) := by simp [solveS, hm, c1, c2]
    rw [this]
    rfl
  rw [e] at hK
  rw [c2']
  refine calm_lw ?_
  walk_nrm
  iterate 1
    refine lw_op hc hkb rfl rfl fun w hF K hK => ?_
    go_simp
    refine hK _ (by rw [listed_nil (by simp [go_sem])]; simp) ?_
    clear hK K hF w
    try walk_nrm
  refine lw_region_end hc (lw_cond hc rfl ?_)
  simp only [Bool.false_eq_true, if_false]
  refine lw_skip hc (lw_seq hc (lw_region hc ?_))
  simp only [List.size_toArray, List.length_cons, List.length_nil, Nat.reduceAdd, Nat.zero_add, List.range, List.range.loop]
  iterate 1
    refine lw_op hc hkb rfl rfl fun w hF K hK => ?_
    go_simp
    refine hK _ (by rw [listed_nil (by simp [go_sem])]; simp) ?_
    clear hK K hF w
    try walk_nrm
  refine lw_callf hc hkb rfl rfl rfl Try.func25 rfl rfl (lw_stop fun w hw => ?_)
  replace hB := hB.step hw
  clear hw hc
  walk_nrm
  refine last_calm (hB.holds h h0) Try.func23 rfl rfl (lo := -990000000000) (hi := 10000000000000) (by unfold Fair; omega) (by unfold minS maxS; omega) (by unfold minS maxS; omega) fun w₁ hw => ?_
  replace hB := hB.step hw
  clear hw
  rw [Frame.finish_at]
  have hc : Cl NilB (AllB w₁) (Old w₁) := fun a b h hk => Keeps.trans h hk
  refine calm_lw ?_
  generalize lastF (cov o l) (-990000000000) 10000000000000 = res at *
  walk_nrm
  iterate 2
    refine lw_op hc hkb rfl rfl fun w hF K hK => ?_
    go_simp
    refine hK _ (by rw [listed_nil (by simp [go_sem])]; simp) ?_
    clear hK K hF w
    try walk_nrm
  refine lw_region_end hc (lw_ret hc (lw_leave2 (fn := Try.f10) (t := 4) (u := 5) hc hkn rfl (hfn ▸ Try.func10) rfl (lw_stop fun w hw => ?_)))
  exact hK w (hB.old.trans hw)
end
end Go.Proofs.Ytjgleaakgbnjgaa.Par
end

section
namespace Go.Proofs.Ytjgleaakgbnjgaa.Par
open Go Go.Conc Go.RowKit Go.Proofs.Ytjgleaakgbnjgaa.S Go.Proofs.Ytjgleaakgbnjgaa.XEir Go.Proofs.YtjgleaakgbnjgaaW.PrintWords Go.Proofs.YtjgleaakgbnjgaaW.PrintMore
section
variable {P : Program} {N : Cfg} {ok : Code → Prop} {Poi Ro : Nat → Prop} {ρ : Emb} {v w v' w' : World}
theorem WR.grown2 (h : WR N ok Poi Ro ρ v w) (h1 : v.heap.size ≤ v'.heap.size) (h2 : ∀ b, b < v.heap.size → v'.heap[b]? = v.heap[b]?) (h3 : w.heap.size ≤ w'.heap.size) (h4 : ∀ b, b < w.heap.size → w'.heap[b]? = w.heap[b]?) (ht : v'.tape = w'.tape) (hd : v'.drawn = w'.drawn) : WR N ok Poi Ro ρ v' w' := by
 refine ⟨fun b c hb => ?_, h.inj, fun b hb => ?_, fun b hb => ?_, h.glob, Nat.le_trans h.gsize h1, ht, hd, h.globR, Nat.le_trans h.gsizeR h3⟩
 ·obtain ⟨o, o', e1, e2, ho⟩ := h.dom b c hb
  exact ⟨o, o', (h2 b (Array.getElem?_eq_some_iff.1 e1).1).trans e1, (h4 c (Array.getElem?_eq_some_iff.1 e2).1).trans e2, ho⟩
 ·obtain ⟨t, fr, e⟩ := h.poi b hb
  exact ⟨t, fr, (h2 b (Array.getElem?_eq_some_iff.1 e).1).trans e⟩
 ·obtain ⟨c, t, fr, e, hc⟩ := h.ro b hb
  exact ⟨c, t, fr, (h2 b (Array.getElem?_eq_some_iff.1 e).1).trans e, hc⟩
end
theorem add_mk (a : Addr) (b j : Nat) : (⟨b, (a.add j).off, (a.add j).spot⟩ : Addr) = (⟨b, a.off, a.spot⟩ : Addr).add j := by
 unfold Addr.add
 split <;> rfl
section
variable {Poi Poi' Ro Ro' : Nat → Prop} {base base' : List Frame} {Q : Machine → Outcome → World → Trace → Prop} {Qh : Goroutine → World → Prop}
theorem solve_spec (hb : Floor Star.prog base) (hP' : ∀ g, g < Star.prog.globals.size → Poi' g) : SpecCalm Star.prog Ls La Try.funcs Poi Poi' Ro Ro' base base' Q Qh 10 2 := by
 intro ρ a a' hs f f' fs fs' v w ha hw hmode ht hfit hK
 obtain ⟨x0, x1, rfl, _⟩ := enterS a [] hs
 obtain ⟨y0, y1, rfl, _⟩ := enterS a' [] (ha.1 ▸ hs)
 have r0 : VR (cfg Star.prog Ls Try.funcs) ρ x0 y0 := ha.2 0 x0 y0 rfl rfl
 have r1 : VR (cfg Star.prog Ls Try.funcs) ρ x1 y1 := ha.2 1 x1 y1 rfl rfl
 have hn : ∀ fr : Frame, ¬Home base (G fr (f :: (fs ++ base))) := fun fr => callers_ne hb (by simp [G]; omega)
 obtain ⟨o, A, n, c, rfl, rfl, hcap, htop, hcell⟩ := solve_force (v := v) hn (fun a₀ m c k e hc => by
  subst e
  cases r1 with
  | slice h hg _ _ =>
   obtain ⟨o1, o2, g1, g2, ho⟩ := hw.dom _ _ h
   have g1' : v.heap[(a₀.add k).block]? = some o1 := by
    rw [add_blk]
    exact g1
   unfold World.farLoad World.noCell
   rw [g1']
   cases ho <;> exact ⟨_, rfl, trivial⟩) ht
 cases r0
 obtain ⟨A', rfl, hA⟩ : ∃ A', y1 = .slice A' n c ∧ ((A = none ∧ A' = none) ∨ ∃ ad b, A = some ad ∧ A' = some ⟨b, ad.off, ad.spot⟩ ∧ ρ ad.block = some b ∧ (cfg Star.prog Ls Try.funcs).G ≤ ad.block) := by
  cases r1 with
  | nilSlice _ _ => exact ⟨_, rfl, .inl ⟨rfl, rfl⟩⟩
  | slice h hg _ _ => exact ⟨_, rfl, .inr ⟨_, _, rfl, rfl, h, hg⟩⟩
 -- the values
 obtain ⟨l, hlen, hl⟩ : ∃ l : List Int, l.length = n ∧ ∀ (j : Nat) (x : Int), l[j]? = some x → ∃ ad, A = some ad ∧ v.cell? (ad.add j) = some (.int .i64 x) := by
  have key : ∀ j : Fin n, ∃ x : Int, ∃ ad, A = some ad ∧ v.cell? (ad.add j) = some (.int .i64 x) := fun j => by
   obtain ⟨ad, x, h1, h2⟩ := hcell j.1 j.2
   exact ⟨x, ad, h1, h2⟩
  refine ⟨List.ofFn fun j => (key j).choose, by simp, fun j x hj => ?_⟩
  have hjn : j < n := by
   have := (List.getElem?_eq_some_iff.1 hj).1
   simpa using this
  rw [List.getElem?_ofFn, dif_pos hjn] at hj
  obtain rfl := Option.some.inj hj
  exact (key ⟨j, hjn⟩).choose_spec
 have hhand : Handed w o A' n c l := by
  refine ⟨hw.gsizeR, hlen, htop, hcap, fun h0 ad e => ?_, fun j x hj => ?_⟩
  ·rcases hA with ⟨_, e'⟩ | ⟨a0, b, e1, e2, h, hg⟩
   ·rw [e'] at e
    cases e
   ·rw [e2] at e
    obtain rfl := Option.some.inj e
    refine ⟨hw.globR _ _ h, ?_⟩
    obtain ⟨ad, x, h1, h2⟩ := hcell 0 h0
    rw [e1] at h1
    obtain rfl := Option.some.inj h1
    obtain ⟨o1, o2, g1, g2, ho⟩ := hw.dom _ _ h
    have h2' : v.cell? (a0.add 0) = some (.int .i64 x) := h2
    unfold World.cell? at h2'
    have g1' : v.heap[a0.block]? = some o1 := g1
    rw [add_blk, g1'] at h2'
    cases ho with
    | cells hc e hf => exact ⟨_, _, _, g2⟩
    | loop => cases h2'
    | number => cases h2'
    | taken => cases h2'
    | undeferred => cases h2'
  ·obtain ⟨ad, h1, h2⟩ := hl j x hj
   rcases hA with ⟨e', _⟩ | ⟨a0, b, e1, e2, h, hg⟩
   ·rw [e'] at h1
    cases h1
   ·rw [e1] at h1
    obtain rfl := Option.some.inj h1
    refine ⟨_, e2, ?_⟩
    obtain ⟨y, hy, hv⟩ := hw.cell (a := a0.add j) (b := b) (by rw [add_blk]; exact h) (show (v.re w.tape w.drawn).cell? _ = _ from h2)
    rw [add_mk] at hy
    cases hv
    exact hy
 refine solve_calm hhand fun w' hold => ?_
 obtain ⟨k, hk⟩ := solve_f (o := o) (l := l) (by rw [hlen]; exact htop)
 have hC : Kd.C (Kd.int .i64) v A l.length l := by
  refine ⟨rfl, by rw [hlen]; exact htop, fun hpos => ?_⟩
  obtain ⟨ad, e, _⟩ := hl 0 _ (List.getElem?_eq_getElem hpos)
  refine ⟨ad, e, fun j x hj => ⟨[.int .i64 x], rfl, rfl, fun i u hu => ?_⟩⟩
  obtain ⟨ad', e', hc⟩ := hl j x hj
  rw [e] at e'
  obtain rfl := Option.some.inj e'
  have hi : i = 0 := by
   have := (List.getElem?_eq_some_iff.1 hu).1
   simpa using this
  subst hi
  obtain rfl : Value.int .i64 x = u := by simpa using hu
  have hsz : (Kd.int IntKind.i64).sz = 1 := rfl
  rw [hsz, Nat.mul_one, Nat.add_zero]
  exact hc
 have hcalls := eir_Solve.calls k o A c l (solveS o l).1 (solveS o l).2 v hC (by rw [hlen]; exact hcap) (hk k (Nat.le_refl _))
 rw [hlen] at hcalls
 obtain ⟨e, v', fr, ⟨rfl, hbel⟩, ⟨m, hm⟩, _, hlv⟩ := hcalls (f :: (fs ++ base))
 obtain ⟨v'', hreach, rfl⟩ := reach_of_calls (L' := La) rfl fnsOk_alone hP' hb m ht hfit hm hlv
 refine hK ρ _ _ v'' w' (fun _ _ h => h) (.tuple rfl fun i x y hx hy => ?_) ?_ ⟨hold.size, fun c hc _ => hold.keep c (.inl hc), fun b c h => .inl h, hold.os, hold.output⟩ hreach
 ·have : x = y := by
   rw [hx] at hy
   exact Option.some.inj hy
  subst this
  have hi : i = 0 ∨ i = 1 := by
   have := (Array.getElem?_eq_some_iff.1 hx).1
   simp only [List.size_toArray, List.length_cons, List.length_nil] at this
   omega
  rcases hi with rfl | rfl
  ·cases hx
   exact .int _ _
  ·cases hx
   exact .int _ _
 ·exact hw.grown2 (v' := v''.re w'.tape w'.drawn) (w' := w') hbel.size (fun b hb => hbel.block b hb) hold.size (fun b hb => hold.keep b (.inl hb)) rfl rfl
end
end Go.Proofs.Ytjgleaakgbnjgaa.Par
end

section
namespace Go.Proofs.Ytjgleaakgbnjgaa.Par
open Go Go.Conc Go.RowKit
section
variable {H : Type} {enc : TypeId × Value → H}
theorem leaving_open {a : Assume} {C : Checked} {os : Os} {f : FuncId} {fn : Func} {s : ChangeSpec} {conds : List PathCond} {apart fresh handsOn again : Bool}
  (own : ownKnob C.prog.godebug = none) (started : os.Started) (hfn : C.prog.funcs[f]? = some fn)
  (witness : ∃ (w : World) (tape : Tape) (i : Input), w.os = os ∧ (w.forCall tape i).Shaped C.prog ∧ i.vars = [] ∧ Input.okWide C.prog (w.forCall tape i) .any w.heap.size f i ∧
   s.pre6 enc C.prog fn conds apart (w.forCall tape i).memory i.args ∧ a.holds C.prog (lone (Frame.enter C.prog f i.args .normal) [] (w.forCall tape i)))
  (runs : ∀ (W : World) (base : Nat) (args : Array Value) (ds gs : List (DataW H)) (before : List MemPlace), W.ShapedOpen C.prog →
   (∀ (j : Nat) t v, fn.params[j]? = some t → args[j]? = some v → Value.okWide C.prog W .any base t v) →
   DataW.Whole enc C.prog fn.params.toList s.vars apart W args.toList ds gs before →
   conds.all (PathCond.test C.prog ⟨fn.params.toList, ds, s.plain.varTypes C.prog, gs⟩) = true →
   (DataW.weightsEach C.prog (fn.params.toList ++ s.plain.varTypes C.prog) (ds ++ gs)).all (· ≤ reachBytes) = true →
   Calm C.prog (Conc.Good C.prog fun v W' => ∃ t, s.post enc C.prog fn apart fresh handsOn again W args v { W' with tape := t }) (G (Frame.enter C.prog f args .normal) []) W) :
  ReturnsInLeavingWide a C os f .any (s.pre6 enc C.prog fn conds apart) (s.post enc C.prog fn apart fresh handsOn again) := by
 refine returnsInLeavingWide_of_good own started witness fun w tape i _ hsh _ hok hpre _ => ?_
 obtain ⟨_, _, _, fn', hfn', _, _, _, _, hval⟩ := hok
 obtain rfl : fn' = fn := Option.some.inj (hfn'.symm.trans hfn)
 obtain ⟨⟨ds, gs, before, hw, hc⟩, hz⟩ := hpre
 have hr := runs (w.forCall tape i) w.heap.size i.args ds gs before hsh hval (DataW.Whole.of_heap (w' := w.forCall tape i) (by rfl) hw) hc (hz.weights hw)
 obtain ⟨M, last, o, w', t', h1, h2, h3, h4⟩ := (hr.start none).run
 refine ⟨M, last, o, w', t', h1, h2, h3, Conc.Good.mono h4 fun v hp => ?_⟩
 obtain ⟨t, x⟩ := hp
 have y := ChangeSpec.post_blind x
 exact y
end
theorem glob0 : (((begin Try.prog (fun _ _ => 0) default).world.heap[0]?).bind Obj.row?).map (·.2) = some 121 := by kernel_rfl
theorem glob1 : (((begin Try.prog (fun _ _ => 0) default).world.heap[1]?).bind Obj.row?).map (·.2) = some 121 := by kernel_rfl
theorem globs : Star.prog.globals.size = 2 := by kernel_rfl
theorem rowAt_no {fits : TypeId → Bool} (hf : fits 121 = false) (d count off n : Nat) : rowAt Try.prog fits d 121 count off n = false := by
 cases d with
 | zero => rfl
 | succ d =>
  unfold rowAt
  simp [hf, Try.underlying121]
theorem liesAt_no {e : TypeId} (hs : sameLayout Try.prog Try.prog.depth 121 e = false) (he : ∀ m u, Try.prog.underlying e ≠ some (.array m u)) (count off n : Nat) : liesAt Try.prog Try.prog.depth 121 count off e n = false := by
 have key : ∀ D, liesAt Try.prog D 121 count off e n = false := by
  intro D
  cases D with
  | zero => rfl
  | succ d =>
   unfold liesAt
   rw [rowAt_no (fits := fun x => sameLayout Try.prog Try.prog.depth x e) hs]
   cases h : Try.prog.underlying e with
   | none => rfl
   | some x => cases x <;> first | rfl | exact absurd h (he _ _)
 exact key _
theorem lies2 (count off n : Nat) : liesAt Try.prog Try.prog.depth 121 count off 2 n = false := liesAt_no (by kernel_rfl) (fun m u h => by rw [Try.underlying2] at h; cases h) _ _ _
theorem globs_shape {W : World} (h : W.ShapedOpen Try.prog) {g : Nat} (hg : g < 2) : ∃ n, W.shape? g = some (121, n) := by
 have key : (((begin Try.prog (fun _ _ => 0) default).world.heap[g]?).bind Obj.row?).map (·.2) = some 121 := by
  rcases (by omega : g = 0 ∨ g = 1) with rfl | rfl
  ·exact glob0
  ·exact glob1
 obtain ⟨⟨z, t⟩, key, rfl⟩ := Option.map_eq_some_iff.1 key
 obtain ⟨cs, h1, _, _⟩ := h.1 g _ _ (by have : Try.prog.globals.size = 2 := Try.globals_size; omega) key
 exact ⟨_, by unfold World.shape?; rw [h1]⟩
theorem globs_le {W : World} (h : W.ShapedOpen Try.prog) : 2 ≤ W.heap.size := by
 obtain ⟨n, e⟩ := globs_shape h (g := 1) (by decide)
 unfold World.shape? at e
 cases hx : W.heap[1]? with
 | none => rw [hx] at e; cases e
 | some o => exact (Array.getElem?_eq_some_iff.1 hx).1
set_option maxRecDepth 100000 in
theorem row_home {W : World} (h : W.ShapedOpen Try.prog) {t e : TypeId} (ht : Try.prog.underlying t = some (.slice e)) (hl : ∀ count off n, liesAt Try.prog Try.prog.depth 121 count off e n = false) {r : Go.Reach} {base : Nat} {ad : Addr} {len cap : Nat} (hv : Value.okWide Try.prog W r base t (.slice (some ad) len cap)) :
  2 ≤ ad.block ∧ ∃ c q fr, W.heap[ad.block]? = some (.cells c q fr) := by
 simp only [Value.okWide, ht, Cell.okWide, Cell.ok] at hv
 obtain ⟨_, _, _, _, row, cells, h1, h2⟩ := hv
 refine ⟨Nat.le_of_not_lt fun hlt => ?_, ?_⟩
 ·obtain ⟨n, e1⟩ := globs_shape h hlt
  rw [e1] at h1
  simp only [Option.some.injEq, Prod.mk.injEq] at h1
  rw [← h1.1, hl] at h2
  cases h2
 ·unfold World.shape? at h1
  cases hx : W.heap[ad.block]? with
  | none => rw [hx] at h1; cases h1
  | some o =>
   rw [hx] at h1
   cases o <;> first | exact ⟨_, _, _, rfl⟩ | cases h1
theorem shown_of {W : World} (hG : 2 ≤ W.heap.size) (e : List Nat) (he : ∀ b ∈ e, 2 ≤ b ∧ ∃ c q fr, W.heap[b]? = some (.cells c q fr)) :
  ∃ S : Nat → Option (Array Value), onS S = (fun b => e.contains b) ∧ (∀ L F, Shown Star.prog L F S W) ∧ ∀ (a : Addr) (k : IntKind) (n : Int), a.block ∈ e → W.cell? a = some (.int k n) → (shadeS S W).cell? a = some (.int k n) := by
 obtain ⟨S, hS⟩ : ∃ S : Nat → Option (Array Value), ∀ b, (b ∉ e → S b = none) ∧ (b ∈ e → ∃ d c t fr, S b = some d ∧ W.heap[b]? = some (.cells c t fr) ∧ (∀ N σ, AR (VR N σ) d c) ∧ ∀ (i : Nat) (k : IntKind) (n : Int), c[i]? = some (.int k n) → d[i]? = some (.int k n)) := by
  have key : ∀ b, ∃ s : Option (Array Value), (b ∉ e → s = none) ∧ (b ∈ e → ∃ d c t fr, s = some d ∧ W.heap[b]? = some (.cells c t fr) ∧ (∀ N σ, AR (VR N σ) d c) ∧ ∀ (i : Nat) (k : IntKind) (n : Int), c[i]? = some (.int k n) → d[i]? = some (.int k n)) := by
   intro b
   by_cases hb : b ∈ e
   ·obtain ⟨_, c, t, fr, h2⟩ := he b hb
    obtain ⟨d, h3, h4⟩ := kills c
    exact ⟨some d, fun hn => absurd hb hn, fun _ => ⟨d, c, t, fr, rfl, h2, h3, h4⟩⟩
   ·exact ⟨none, fun _ => rfl, fun hn => absurd hn hb⟩
  exact ⟨fun b => (key b).choose, fun b => (key b).choose_spec⟩
 have hon : onS S = fun b => e.contains b := by
  funext b
  unfold onS
  by_cases hb : b ∈ e
  ·obtain ⟨d, _, _, _, h1, _⟩ := (hS b).2 hb
   rw [h1, List.contains_iff_mem.2 hb]
   rfl
  ·rw [(hS b).1 hb]
   have : e.contains b = false := by
    cases h : e.contains b with
    | false => rfl
    | true => exact absurd (List.contains_iff_mem.1 h) hb
   rw [this]
   rfl
 refine ⟨S, hon, fun L F => ⟨by rw [globs]; exact hG, fun b c hb => ?_⟩, fun a k n ha hc => ?_⟩
 ·by_cases hbe : b ∈ e
  ·obtain ⟨d, c', t, fr, h1, h2, h3, _⟩ := (hS b).2 hbe
   rw [h1] at hb
   obtain rfl := Option.some.inj hb
   exact ⟨by rw [globs]; exact (he b hbe).1, _, _, _, h2, h3 _ _⟩
  ·rw [(hS b).1 hbe] at hb
   cases hb
 ·obtain ⟨d, c', t, fr, h1, h2, h3, h4⟩ := (hS a.block).2 ha
  unfold World.cell? at hc
  rw [h2] at hc
  dsimp only at hc
  by_cases hs : a.spot.isSome = true
  ·rw [if_pos hs] at hc
   cases hc
  ·rw [if_neg hs] at hc
   rw [shadeS_cell (S := S) h1 h2 (by simpa using hs)]
   exact h4 _ _ _ hc
theorem contains_Ls {f : FuncId} (h : f ∈ lawList) : Ls.contains f = true := by
 show (lawList ++ _).contains f = true
 exact List.contains_iff_mem.2 (List.mem_append.2 (.inl h))
theorem contains_La {f : FuncId} (h : f ∈ lawList) : La.contains f = true := by
 show (10 :: (lawList ++ _)).contains f = true
 exact List.contains_iff_mem.2 (List.mem_cons.2 (.inr (List.mem_append.2 (.inl h))))
theorem inits_no {f : FuncId} (h : Ls.contains f = true) : Star.prog.inits.idxOf? f = none := by
 have e : Star.prog.inits = #[2] := by kernel_rfl
 rw [e]
 have hne : f ≠ 2 := fun e => by
  subst e
  revert h
  decide
 rw [Array.idxOf?_eq_none_iff]
 simpa using hne
theorem spec10 {s n : Nat} (h : Ls.spec.contains (s, n) = true) : s = 10 ∧ n = 2 := by simpa [Ls] using h
theorem law_good {W : World} (hW : W.ShapedOpen Try.prog) {f : FuncId} (hf : f ∈ lawList) {fn : Func} {code : Code} (h1 : Star.prog.funcs[f]? = some fn) (h1' : Try.funcs[f]? = some fn) (h2 : fn.body = some code) (h3 : okCode Star.prog Ls code = true) (h3' : okCode Star.prog La code = true)
  (e : List Nat) (he : ∀ b ∈ e, 2 ≤ b ∧ ∃ c q fr, W.heap[b]? = some (.cells c q fr)) {args : Array Value} (ha : ∀ N : Cfg, N.G = 2 → ∀ σ : Emb, (∀ b ∈ e, σ b = some b) → AR (VR N σ) args args)
  (hc : ∀ v : World, (∀ (a : Addr) (k : IntKind) (n : Int), a.block ∈ e → W.cell? a = some (.int k n) → v.cell? a = some (.int k n)) → Calls Star.prog f args v fun x v' => x = .returned (.bool true) ∧ Below v.heap.size v v')
  {Post : Value → World → Prop} (hPost : ∀ W', Below W.heap.size W { W' with tape := W.tape } → Post (.bool true) W') : Calm Try.prog (Conc.Good Try.prog Post) (G (Frame.enter Try.prog f args .normal) []) W := by
 obtain ⟨S, hon, hsh, hcell⟩ := shown_of (globs_le hW) e he
 have hsame : ∀ b ∈ e, same (onS S) b = some b := fun b hb => by
  rw [hon]
  simp [same, hb]
 have hG : Star.prog.globals.size = 2 := globs
 have := law_calm (P := Star.prog) (L := Ls) (L' := La) (F := Try.funcs) (W := W) (S := S) (fun f hf => inits_no hf) (hsh _ _) fnsOk_law rfl fnsOk_alone (fun s n Q Qh hs => by
  obtain ⟨rfl, rfl⟩ := spec10 hs
  refine solve_spec (floor_ok _) fun g hg => ⟨Nat.lt_of_lt_of_le hg (hsh Ls Try.funcs).size, ?_⟩
  cases h : onS S g with
  | false => rfl
  | true =>
   obtain ⟨d, hd⟩ := onS_some h
   exact absurd ((hsh Ls Try.funcs).cells g d hd).1 (by omega)) (R := fun x v => x = .bool true) (fun _ _ _ _ h => h) (contains_Ls hf) (contains_La hf) h1 h1' h2 h3 h3' (ha _ hG _ hsame) (ha _ hG _ hsame) (hsh _ _)
  (fun t d => (hc ((shadeS S W).re t d) fun a k n hb hn => hcell a k n hb hn).mono fun x v hx => ⟨_, hx.1, rfl⟩) (Post := Post) (fun σ x x' v w hx hv hw hk => by
   subst hx
   cases hv
   exact hPost w ⟨hk.os, rfl, hk.output, hk.size, hk.keep⟩)
 rw [here_star] at this
 exact this
theorem blocks_home {W : World} {A : Option Addr} (h : ∀ ad, A = some ad → 2 ≤ ad.block ∧ ∃ c q fr, W.heap[ad.block]? = some (.cells c q fr)) : ∀ b ∈ A.toList.map (·.block), 2 ≤ b ∧ ∃ c q fr, W.heap[b]? = some (.cells c q fr) := by
 intro b hb
 cases A with
 | none => simp at hb
 | some ad =>
  obtain rfl : b = ad.block := by simpa using hb
  exact h ad rfl
theorem vr_slice {W : World} {N : Cfg} {σ : Emb} {A : Option Addr} {l c : Nat} (hN : N.G = 2) (he : ∀ b ∈ A.toList.map (·.block), 2 ≤ b ∧ ∃ c q fr, W.heap[b]? = some (.cells c q fr)) (hσ : ∀ b ∈ A.toList.map (·.block), σ b = some b) : VR N σ (.slice A l c) (.slice A l c) := by
 cases A with
 | none => exact .nilSlice _ _
 | some ad => exact .slice (a := ad) (b := ad.block) (hσ _ (by simp)) (by rw [hN]; exact (he _ (by simp)).1) _ _
open Go.Proofs.YtjgleaakgbnjgaaW.PrintWords in
theorem C_in {k : IntKind} {W v : World} {A : Option Addr} {n : Nat} {xs : List Int} (h : Kd.C (Kd.int k) W A n xs) (hv : ∀ (a : Addr) (k : IntKind) (n : Int), a.block ∈ A.toList.map (·.block) → W.cell? a = some (.int k n) → v.cell? a = some (.int k n)) : Kd.C (Kd.int k) v A n xs := by
 refine ⟨h.1, h.2.1, fun hp => ?_⟩
 obtain ⟨ad, e, h3⟩ := h.2.2 hp
 refine ⟨ad, e, fun j p hj => ?_⟩
 obtain ⟨c, h4, h5, h6⟩ := h3 j p hj
 refine ⟨c, h4, h5, fun i u hu => ?_⟩
 have h7 := h6 i u hu
 obtain rfl : c = [.int k p] := h5
 have hi : i = 0 := by
  have := (List.getElem?_eq_some_iff.1 hu).1
  simpa using this
 subst hi
 obtain rfl : Value.int k p = u := by simpa using hu
 exact hv _ _ _ (by subst e; simp [add_blk]) h7
set_option maxRecDepth 100000 in
theorem field_home {W : World} (h : W.ShapedOpen Try.prog) {s : TypeId} {fs : Array Field} (hs : Try.prog.underlying s = some (.struct fs)) {ts : List TypeId} {cs : Array Value} {v : Value} (hv0 : v = .agg cs) (hts : Try.prog.cellTypes Try.prog.depth s = some ts) {r : Go.Reach} {base : Nat} (hv : Value.okWide Try.prog W r base s v) (j : Nat) {ad : Addr} {len cap : Nat} (hj : cs[j]? = some (.slice (some ad) len cap)) {t e : TypeId} (htj : ts[j % ts.length]? = some t)
  (ht : Try.prog.underlying t = some (.slice e)) (hl : ∀ count off n, liesAt Try.prog Try.prog.depth 121 count off e n = false) : 2 ≤ ad.block ∧ ∃ c q fr, W.heap[ad.block]? = some (.cells c q fr) := by
 subst hv0
 simp only [Value.okWide, hs] at hv
 obtain ⟨cs', e1, _, ts', h1, _, h2⟩ := hv
 obtain rfl : cs = cs' := by simpa using e1
 rw [hts] at h1
 obtain rfl := Option.some.inj h1
 obtain ⟨u, h3, h4⟩ := h2 j _ hj
 rw [htj] at h3
 obtain rfl := Option.some.inj h3
 exact row_home (t := t) (r := r) (base := base) h ht hl (by
  simp only [Value.okWide, ht]
  exact h4)
end Go.Proofs.Ytjgleaakgbnjgaa.Par
end

section
namespace Go.Proofs.Ytjgleaakgbnjgaa.eirMore
open Go.ChangeShapes Go.WideShapes Go.ChangeAt Go.RowKit Go.Proofs.Ytjgleaakgbnjgaa.S Go.Proofs.YtjgleaakgbnjgaaW.PrintWords Go.Proofs.Ytjgleaakgbnjgaa.XOpen
open Go.ChangeMaps (open_string shut_string)
theorem own : ownKnob Try.prog.godebug = none := by kernel_rfl
theorem laidOut : laidOutB Try.prog = true := by kernel_rfl
theorem opens_S30 {H : Type} {enc : TypeId × Value → H} {w : World} {base : Nat} {spare : Nat → Bool} {held : Bool} : Opens enc Try.prog w base spare held 30 k30 (fun a => ((Lit.int .i64 a.f0).wf = true ∧ (Lit.int .i64 a.f1).wf = true ∧ (a.f2.length ≤ maxLen ∧ ∀ y_ ∈ a.f2, (Lit.int .i64 y_).wf = true) ∧ (Lit.int .u8 a.f3).wf = true)) := by
 intro fuel cs x h
 have hl : cs.length = 4 := (cells_len Try.underlying30 h).trans (by kernel_rfl)
 obtain ⟨a0, h0, g0⟩ := field_of Try.underlying30 h 0 _ rfl (opens_int Try.underlying2) 0 1 rfl (by kernel_rfl)
 obtain ⟨a1, h1, g1⟩ := field_of Try.underlying30 h 1 _ rfl (opens_int Try.underlying2) 1 1 rfl (by kernel_rfl)
 obtain ⟨a2, h2, g2⟩ := field_of Try.underlying30 h 2 _ rfl (opens_slice Try.underlying22 (by kernel_rfl) (opens_int Try.underlying2)) 2 1 rfl (by kernel_rfl)
 obtain ⟨a3, h3, g3⟩ := field_of Try.underlying30 h 3 _ rfl (opens_int Try.underlying5) 3 1 rfl (by kernel_rfl)
 refine ⟨⟨a0, a1, a2, a3⟩, ?_, ⟨g0, g1, g2, g3⟩⟩
 exact K_all (K_pair' 0 1 h0 (K_pair' 1 1 h1 (K_pair' 2 1 h2 (K_last 3 1 h3 (by omega)))))
set_option maxRecDepth 100000 in
theorem lifted (os : Os) (started : os.Started) (H : Type) (enc : TypeId × Value → H) :
  ReturnsInLeavingWide {} Try.checked os 4 .any (Rows.eirMoreSpec.pre6 enc Try.prog Try.f4 Rows.eirMoreRow.domain false) (Rows.eirMoreSpec.post enc Try.prog Try.f4 false true false false) := by
 refine Par.leaving_open (C := Try.checked) own started Try.func4
  (ChangeSpec.witness6 (enc := enc) (C := Try.checked) false ⟨#[], #[.agg #[.int .i64 0, .int .i64 0, .slice none 0 0, .int .u8 0]], []⟩ 8 (by kernel_rfl) (by kernel_rfl) (by kernel_rfl) (by kernel_rfl)) ?_
 intro W base args ds gs before hopen hval0 hW hcnd hsz0
 have hval : ∀ (j : Nat) t v, Try.f4.params[j]? = some t → args[j]? = some v → Value.okWide Try.prog W .any base t v := hval0
 have hW' := hW
 obtain ⟨p, q, hA0, hV, rfl, hfz, hnd⟩ := hW
 have hA : DataW.TrodAll enc Try.prog W 0 (fun _ => true) true Try.f4.params.toList args.toList ds p := hA0
 rw [Try.params4] at hA hval
 obtain ⟨v0, vs0, d0, ds0, p0, q0, hargs, rfl, rfl, h0, r0⟩ := trodAll_cons hA
 obtain ⟨rfl, rfl, rfl⟩ := trodAll_nil r0
 obtain rfl : args = #[v0] := by cases args; simp_all
 obtain ⟨rfl, rfl⟩ := trodVars_none hV
 clear hA0 hsz0
 have k0 := h0
 have lt0 : ∀ x ∈ p0, x.block < W.heap.size := by obtain ⟨m, hm⟩ := k0; exact DataW.trod_lt m _ _ _ hm
 obtain ⟨u0, hf0⟩ := h0
 obtain ⟨s0, hk0, hg0⟩ := opens_S30 _ _ _ hf0
 obtain ⟨A0_2, c0_2, he0, hc0_2, hr0_2⟩ := k30_open hk0
 obtain ⟨b0, rfl⟩ := okWide_agg Try.underlying30 (hval 0 30 v0 rfl rfl)
 obtain rfl := agg_of he0
 have he2 : ∀ b ∈ A0_2.toList.map (·.block), 2 ≤ b ∧ ∃ c q fr, W.heap[b]? = some (.cells c q fr) := Par.blocks_home fun ad e => by
  subst e
  exact Par.field_home hopen Try.underlying30 rfl (ts := [2, 2, 22, 5]) (by kernel_rfl) (hval 0 30 _ rfl rfl) 2 rfl (t := 22) rfl Try.underlying22 Par.lies2
 have he := he2
 refine Par.law_good (f := 4) hopen (by decide) (code := (Try.f4.body).getD .skip) Star.func4 Try.func4 (by kernel_rfl) (by kernel_rfl) (by kernel_rfl) ((A0_2.toList.map (·.block) : List Nat)) he (fun N hN σ hσ => ?_) (fun v hv => S.lombardlaw10_EirMore.walk Pure.EirMore s0.f0 s0.f1 _ _ s0.f2 s0.f3 v (Par.C_in hr0_2 fun a k n hb => hv a k n ((fun b hb => hb) _ hb)) hc0_2 hg0.1 hg0.2.1 hg0.2.2.1 hg0.2.2.2) fun W' bel => ⟨W.tape, _, _, _, [], _, [], hW', trodAll_mk1 (shut_bool Try.underlying4 _), (trodAll_cons_mk (Below.trod laidOut (by kernel_rfl) (of_decide_eq_true (by kernel_rfl)) k0 bel lt0) trodAll_mk0), rfl, bel.frame _, fun h => by cases h⟩
 exact Par.AR.empty.push (.ofAgg (((((Par.AR.empty).push (.int _ _)).push (.int _ _)).push (Par.vr_slice hN he2 (fun b hb => hσ b hb))).push (.int _ _)))
theorem over : Rows.eirMoreRow.holds Try.pinned (OpenSpec.ofChange Rows.eirMoreSpec) :=
 OpenClaim.holds_of_wide_leaving 4 Try.f4 rfl rfl rfl rfl rfl rfl rfl ⟨rfl, rfl, rfl, rfl, rfl⟩ rfl rfl rfl rfl rfl (by kernel_rfl) Try.func4 (by kernel_rfl)
  (of_decide_eq_true (by kernel_rfl)) (by unfold Func.isWrapper; first | (rw [if_pos (by decide +kernel)]; kernel_rfl) | (rw [if_neg (by decide +kernel)]; exact ⟨rfl, rfl⟩))
  (fun os started H enc _ => lifted os started H enc)
theorem proved : Rows.EirMoreSaid := over
end Go.Proofs.Ytjgleaakgbnjgaa.eirMore
namespace Go.Proofs.Ytjgleaakgbnjgaa
theorem eirMore_holds : Rows.EirMoreSaid := eirMore.proved
end Go.Proofs.Ytjgleaakgbnjgaa
end
