/- Texts of the statement EirMoreSaid, laid together. Conditions: none beyond those that each theorem names. -/
import Derived.Test.YtjgleaakgbnjgaaMEirMore2
import Derived.Conc.Listed
import Derived.Conc.Beside
import Derived.Conc.CrowdSel
import Derived.Conc.CompanyWords
set_option linter.unusedSimpArgs false
set_option linter.unusedVariables false
section
namespace Go.Proofs.Ytjgleaakgbnjgaa.Par
open Go
def sliceZero (P : Program) (t : TypeId) : Bool := match P.underlying t with | some (.slice e) => zeroOk P e | _ => true
def headZero (P : Program) (ts : Array TypeId) : Bool := match ts[0]? with | some t => sliceZero P t | none => true
section
variable {P : Program} {N : Cfg} {ok : Code → Prop} {Poi : Nat → Prop} {ρ : Emb}
theorem VR.default : VR N ρ (default : Value) (default : Value) := by
 first | exact VR.undef | exact .bool _ | constructor
theorem sr_askRoom (n : Nat) : SR P N ok Poi (fun _ _ _ => True) ρ (askRoom n) (askRoom n) := by
 unfold askRoom
 split
 ·exact .mark (.inl rfl) (.pure trivial)
 ·exact .pure trivial
theorem rep_rel {z z' : Array Value} (h : AR (VR N ρ) z z') (n : Nat) : AR (VR N ρ) ((Array.range n).map fun i => z[i % z.size]!) ((Array.range n).map fun i => z'[i % z'.size]!) := by
 refine AR.mapSame _ fun i x _ => ?_
 rw [← h.1]
 simp only [getElem!_def]
 cases e : z[x % z.size]? with
 | none =>
  rw [h.getNone e]
  exact VR.default
 | some u =>
  obtain ⟨u', h1, h2⟩ := h.getSome e
  rw [h1]
  exact h2
theorem zeros_rel {z z' : Array Value} (h : AR (VR N ρ) z z') (n : Nat) : AR (VR N ρ) (Builtin.zeroCells z n) (Builtin.zeroCells z' n) := by
 unfold Builtin.zeroCells
 rw [← h.1]
 have := rep_rel h (n * z.size)
 rw [← h.1] at this
 exact this
theorem sr_lenOf {v v' : Value} (h : VR N ρ v v') : SR P N ok Poi (fun _ a b => a = b) ρ (Builtin.lenOf v) (Builtin.lenOf v') := by
 cases h <;> first | exact .pure rfl | exact sr_stuck _ _
theorem sr_firstCells {v v' : Value} (h : VR N ρ v v') (s n : Nat) : SR P N ok Poi (fun σ a b => AR (VR N σ) a b) ρ (Builtin.firstCells s n v) (Builtin.firstCells s n v') := by
 cases h with
 | @slice ad b h g n' c => exact sr_loadCells (a := ad) (a' := ⟨b, ad.off, ad.spot⟩) ⟨h, rfl, rfl, g⟩ _
 | nilSlice n' c => exact .pure .empty
 | string b => exact .pure (AR.mapSame _ fun i x _ => .int _ _)
 | _ => exact sr_stuck _ _
theorem sr_buildSlice {t : TypeId} (hz : sliceZero P t = true) (len : Nat) {parts parts' : Array (Nat × Value)} (hp : AR (fun x y => x.1 = y.1 ∧ VR N ρ x.2 y.2) parts parts') : SR P N ok Poi (RV N) ρ (Instr.buildSlice t len parts) (Instr.buildSlice t len parts') := by
 unfold Instr.buildSlice
 refine (sr_underlying t).bind fun σ d d' hσ hd => ?_
 obtain ⟨rfl, hu⟩ := hd
 unfold sliceZero at hz
 rw [hu] at hz
 cases d <;> first | exact sr_stuck _ _ | skip
 rename_i elem
 dsimp only at hz ⊢
 refine (sr_sizeOf elem).bind fun τ s s' hτ e => ?_
 subst e
 have tail : ∀ {υ : Emb}, σ.le υ → SR P N ok Poi (RV N) υ (do
   let zero ← if len * s = 0 then pure #[] else do pure (← zeroValue elem).cells
   let some cells := Instr.fill (fun i => some (i * s, s)) ((Array.range (len * s)).map (zero[· % zero.size]!)) parts.toList | stuck "buildSlice: a part of the wrong size"
   pure (.slice (some (← newRow elem cells)) len len)) (do
   let zero ← if len * s = 0 then pure #[] else do pure (← zeroValue elem).cells
   let some cells := Instr.fill (fun i => some (i * s, s)) ((Array.range (len * s)).map (zero[· % zero.size]!)) parts'.toList | stuck "buildSlice: a part of the wrong size"
   pure (.slice (some (← newRow elem cells)) len len)) := by
  intro υ hυ
  have z : ∀ {φ : Emb} {z z' : Array Value}, υ.le φ → AR (VR N φ) z z' → SR P N ok Poi (RV N) φ (do
    let some cells := Instr.fill (fun i => some (i * s, s)) ((Array.range (len * s)).map (z[· % z.size]!)) parts.toList | stuck "buildSlice: a part of the wrong size"
    pure (.slice (some (← newRow elem cells)) len len)) (do
    let some cells := Instr.fill (fun i => some (i * s, s)) ((Array.range (len * s)).map (z'[· % z'.size]!)) parts'.toList | stuck "buildSlice: a part of the wrong size"
    pure (.slice (some (← newRow elem cells)) len len)) := by
   intro φ z z' hφ hz'
   rcases fill_rel (N := N) (ρ := φ) (fun i => some (i * s, s)) _ _ ((hp.mono fun _ _ x => ⟨x.1, x.2.mono (hσ.trans (hυ.trans hφ))⟩).toList) (rep_rel hz' (len * s)) with ⟨e1, e2⟩ | ⟨c, c', e1, e2, h⟩
   ·rw [e1, e2]
    exact sr_stuck _ _
   ·rw [e1, e2]
    dsimp only
    exact (sr_newRow elem h).bind fun _ a b _ ha => .pure (ha.slice _ _)
  dsimp only
  split
  ·exact z (Emb.le.refl _) .empty
  ·exact (sr_zeroValue hz).bind fun φ a b hφ h => z hφ h.cells
 split
 ·exact .halt trivial
 ·exact tail hτ
theorem sr_runtimePanicB {α β γ : Type} {A : Emb → α → β → Prop} (e : RuntimeError) (f : γ → Sem α) (t' : Sem β) : SR P N ok Poi A ρ ((runtimePanic e : Sem γ) >>= f) t' := .doom fun w => by
 obtain ⟨x, w', h, h1, h2⟩ := run_runtimePanic (P := P) (α := γ) e w
 exact ⟨x, w', run_bind_halt h, h1, h2⟩
theorem sr_makeSlice {t : TypeId} (hz : sliceZero P t = true) {l l' c c' : Value} (hl : VR N ρ l l') (hc : VR N ρ c c') : SR P N ok Poi (RV N) ρ (Instr.makeSlice t l c) (Instr.makeSlice t l' c') := by
 unfold Instr.makeSlice
 refine (sr_underlying t).bind fun σ d d' hσ hd => ?_
 obtain ⟨rfl, hu⟩ := hd
 unfold sliceZero at hz
 rw [hu] at hz
 cases d <;> first | exact sr_stuck _ _ | skip
 rename_i elem
 dsimp only at hz ⊢
 refine (sr_asInt (hl.mono hσ)).bind fun τ a b hτ e => ?_
 subst e
 refine (sr_asInt (hc.mono (hσ.trans hτ))).bind fun υ x y hυ e => ?_
 subst e
 refine (sr_typeInfo elem).bind fun φ i j hφ e => ?_
 subst e
 split
 ·split
  ·exact sr_runtimePanicB _ _ _
  ·split
   ·exact sr_runtimePanicB _ _ _
   ·refine .choose fun n => ?_
    dsimp only [Sem.bind]
    exact sr_runtimePanicB _ _ _
 ·refine (sr_askRoom _).bind fun χ _ _ hχ _ => ?_
  refine (sr_sizeOf elem).bind fun ψ s s' hψ e => ?_
  subst e
  have z : ∀ {ω : Emb} {z z' : Array Value} (n l c : Nat), AR (VR N ω) z z' → SR P N ok Poi (RV N) ω (do
    let a ← newRow elem ((Array.range n).map (z[· % z.size]!))
    pure (.slice (some a) l c)) (do
    let a ← newRow elem ((Array.range n).map (z'[· % z'.size]!))
    pure (.slice (some a) l c)) := fun n l c hz' => (sr_newRow elem (rep_rel hz' n)).bind fun _ a b _ ha => .pure (ha.slice _ _)
  split
  ·exact z _ _ _ .empty
  ·exact (sr_zeroValue hz).bind fun ω a b hω h => z _ _ _ h.cells
def Reads {α : Type} (P : Program) (s : Sem α) : Prop := ∀ w, ∃ a, s.run P w = .ok a w
theorem Reads.bind {α β : Type} {s : Sem α} {f : α → Sem β} (h : Reads P s) (hf : ∀ a, Reads P (f a)) : Reads P (s >>= f) := fun w => by
 obtain ⟨a, e⟩ := h w
 obtain ⟨b, e'⟩ := hf a w
 exact ⟨b, by rw [Sem.run_bind, e]; exact e'⟩
theorem Reads.pure {α : Type} (a : α) : Reads P (Pure.pure a) := fun w => ⟨a, rfl⟩
theorem reads_holds (a : Addr) (n : Nat) : Reads P (Builtin.holdsCells a n) := by
 unfold Builtin.holdsCells
 refine Reads.bind (fun w => ⟨_, rfl⟩) fun x => ?_
 cases x <;> exact Reads.pure _
theorem reads_mayShare (s l n : Nat) (b : Option Addr) (x : Value) : Reads P (Builtin.mayShare s l n b x) := by
 unfold Builtin.mayShare
 have h1 : ∀ t : Bool, Reads P (if (!t) = true then (Pure.pure true : Sem Bool) else match x with
   | .slice (some b') _ _ => do pure (!(← Builtin.holdsCells b' (n * s)) || b.any (·.block == b'.block))
   | _ => pure false) := by
  intro t
  cases t
  ·exact Reads.pure _
  ·cases x <;> first | exact Reads.pure _ | skip
   rename_i a _ _
   cases a
   ·exact Reads.pure _
   ·exact (reads_holds _ _).bind fun _ => Reads.pure _
 cases b with
 | none => exact h1 true
 | some a => exact (reads_holds _ _).bind fun x => Reads.bind (fun w => ⟨_, rfl⟩) fun y => h1 _
inductive BR (N : Cfg) (ρ : Emb) : Option Addr → Option Addr → Prop
 | none : BR N ρ none none
 | some {a a' : Addr} (h : AdR N ρ a a') : BR N ρ (some a) (some a')
theorem BR.mono {σ : Emb} (h : ρ.le σ) {a b : Option Addr} (x : BR N ρ a b) : BR N σ a b := by
 cases x with
 | none => exact .none
 | some x => exact .some (x.mono h)
theorem VR.base {a : Option Addr} {n c : Nat} {v : Value} (h : VR N ρ (.slice a n c) v) : ∃ b, v = .slice b n c ∧ BR N ρ a b := by
 cases h with
 | nilSlice n c => exact ⟨_, rfl, .none⟩
 | slice h g n c => exact ⟨_, rfl, .some ⟨h, rfl, rfl, g⟩⟩
def appTail (elem : TypeId) (size sLen sCap n : Nat) (base : Option Addr) (s x : Value) : Sem Value := do
 let need := sLen + n
 if need ≤ sCap then
  let new ← Builtin.firstCells size n x
  if let some a := base then storeCells (a.add (sLen * size)) new.toList
  pure (.slice base need sCap)
 else
  if (need : Int) > IntKind.i64.max ∧ ((false : Bool) = true ∨ (← typeInfo elem).bytes = 0) then runtimePanic (.error "growslice: len out of range")
  if Builtin.nextslicecap need sCap * (← typeInfo elem).bytes > 2 ^ 48 then (if (false : Bool) = true then runtimePanic (.error "growslice: len out of range") else do
   if !(← Builtin.mayShare size sLen n base x) then mark .noRoom
   unsupported (.resourceLimit "append: a slice or a string whose bytes no memory bears"))
  let newCap ← choose (.appendCap need sCap elem)
  askRoom (newCap * (← typeInfo elem).bytes)
  let old ← Builtin.firstCells size sLen s
  let new ← Builtin.firstCells size n x
  let rest := Builtin.zeroCells (← zeroValue elem).cells (newCap - need)
  pure (.slice (some (← newRow elem (old ++ new ++ rest))) need newCap)
theorem sr_appTail {elem : TypeId} (hz : zeroOk P elem = true) (size sLen sCap n : Nat) {base base' : Option Addr} (hb : BR N ρ base base') {s s' x x' : Value} (hs : VR N ρ s s') (hx : VR N ρ x x') : SR P N ok Poi (RV N) ρ (appTail elem size sLen sCap n base s x) (appTail elem size sLen sCap n base' s' x') := by
 unfold appTail
 dsimp only
 split
 ·refine (sr_firstCells hx size n).bind fun σ c c' hσ hc => ?_
  cases hb with
  | none => exact .pure (.nilSlice _ _)
  | some ha => exact (sr_storeCells 0 ((ha.mono hσ).add _) hc.toList).bind fun τ _ _ hτ _ => .pure ((ha.mono (hσ.trans hτ)).slice _ _)
 ·refine (sr_typeInfo elem).bind fun σ i i' hσ e => ?_
  subst e
  split
  ·exact sr_runtimePanicB _ _ _
  ·refine (sr_typeInfo elem).bind fun τ i i' hτ e => ?_
   subst e
   split
   ·refine .doom fun w => ?_
    obtain ⟨b, e⟩ := reads_mayShare (P := P) size sLen n base x w
    refine ⟨_, _, run_bind_halt (x := .unsupported (.resourceLimit "append: a slice or a string whose bytes no memory bears")) (w' := w) ?_, trivial, Grow.refl _⟩
    rw [if_neg (by decide), Sem.run_bind, e]
    cases b <;> rfl
   ·refine .choose fun newCap => ?_
    show SR P N ok Poi (RV N) τ (do
     askRoom (newCap * (← typeInfo elem).bytes)
     let old ← Builtin.firstCells size sLen s
     let new ← Builtin.firstCells size n x
     let rest := Builtin.zeroCells (← zeroValue elem).cells (newCap - (sLen + n))
     pure (.slice (some (← newRow elem (old ++ new ++ rest))) (sLen + n) newCap)) (do
     askRoom (newCap * (← typeInfo elem).bytes)
     let old ← Builtin.firstCells size sLen s'
     let new ← Builtin.firstCells size n x'
     let rest := Builtin.zeroCells (← zeroValue elem).cells (newCap - (sLen + n))
     pure (.slice (some (← newRow elem (old ++ new ++ rest))) (sLen + n) newCap))
    refine (sr_typeInfo elem).bind fun υ j j' hυ e => ?_
    subst e
    refine (sr_askRoom _).bind fun φ _ _ hφ _ => ?_
    have h1 := hσ.trans (hτ.trans (hυ.trans hφ))
    refine (sr_firstCells (hs.mono h1) size sLen).bind fun χ o o' hχ ho => ?_
    refine (sr_firstCells (hx.mono (h1.trans hχ)) size n).bind fun ψ c c' hψ hc => ?_
    refine (sr_zeroValue hz).bind fun ω z z' hω hz' => ?_
    exact (sr_newRow elem (((ho.mono fun _ _ y => y.mono (hψ.trans hω)).append (hc.mono fun _ _ y => y.mono hω)).append (zeros_rel hz'.cells _))).bind fun _ a b _ ha => .pure (ha.slice _ _)
def appCells (elem : TypeId) (size n : Nat) : Sem (Array Value) := if n * size = 0 then pure #[] else do pure (Builtin.zeroCells (← zeroValue elem).cells n)
theorem sr_appCells {elem : TypeId} (hz : zeroOk P elem = true) (size n : Nat) : SR P N ok Poi (fun σ a b => AR (VR N σ) a b) ρ (appCells elem size n) (appCells elem size n) := by
 unfold appCells
 split
 ·exact .pure .empty
 ·exact (sr_zeroValue hz).bind fun σ z z' _ hz' => .pure (zeros_rel hz'.cells _)
def appZero (elem : TypeId) (size sLen sCap n : Nat) (base : Option Addr) (s x : Value) : Sem Value := do
 let need := sLen + n
 if need ≤ sCap then
  let new ← appCells elem size n
  if let some a := base then storeCells (a.add (sLen * size)) new.toList
  pure (.slice base need sCap)
 else
  if (need : Int) > IntKind.i64.max ∧ ((true : Bool) = true ∨ (← typeInfo elem).bytes = 0) then runtimePanic (.error "growslice: len out of range")
  if Builtin.nextslicecap need sCap * (← typeInfo elem).bytes > 2 ^ 48 then (if (true : Bool) = true then runtimePanic (.error "growslice: len out of range") else do
   if !(← Builtin.mayShare size sLen n base x) then mark .noRoom
   unsupported (.resourceLimit "append: a slice or a string whose bytes no memory bears"))
  let newCap ← choose (.appendCap need sCap elem)
  askRoom (newCap * (← typeInfo elem).bytes)
  let old ← Builtin.firstCells size sLen s
  let new ← appCells elem size n
  let rest := Builtin.zeroCells (← zeroValue elem).cells (newCap - need)
  pure (.slice (some (← newRow elem (old ++ new ++ rest))) need newCap)
theorem sr_appZero {elem : TypeId} (hz : zeroOk P elem = true) (size sLen sCap n : Nat) {base base' : Option Addr} (hb : BR N ρ base base') {s s' x x' : Value} (hs : VR N ρ s s') : SR P N ok Poi (RV N) ρ (appZero elem size sLen sCap n base s x) (appZero elem size sLen sCap n base' s' x') := by
 unfold appZero
 dsimp only
 split
 ·refine (sr_appCells hz size n).bind fun σ c c' hσ hc => ?_
  cases hb with
  | none => exact .pure (.nilSlice _ _)
  | some ha => exact (sr_storeCells 0 ((ha.mono hσ).add _) hc.toList).bind fun τ _ _ hτ _ => .pure ((ha.mono (hσ.trans hτ)).slice _ _)
 ·refine (sr_typeInfo elem).bind fun σ i i' hσ e => ?_
  subst e
  split
  ·exact sr_runtimePanicB _ _ _
  ·refine (sr_typeInfo elem).bind fun τ i i' hτ e => ?_
   subst e
   split
   ·rw [if_pos rfl]
    exact sr_runtimePanicB _ _ _
   ·refine .choose fun newCap => ?_
    show SR P N ok Poi (RV N) τ (do
     askRoom (newCap * (← typeInfo elem).bytes)
     let old ← Builtin.firstCells size sLen s
     let new ← appCells elem size n
     let rest := Builtin.zeroCells (← zeroValue elem).cells (newCap - (sLen + n))
     pure (.slice (some (← newRow elem (old ++ new ++ rest))) (sLen + n) newCap)) (do
     askRoom (newCap * (← typeInfo elem).bytes)
     let old ← Builtin.firstCells size sLen s'
     let new ← appCells elem size n
     let rest := Builtin.zeroCells (← zeroValue elem).cells (newCap - (sLen + n))
     pure (.slice (some (← newRow elem (old ++ new ++ rest))) (sLen + n) newCap))
    refine (sr_typeInfo elem).bind fun υ j j' hυ e => ?_
    subst e
    refine (sr_askRoom _).bind fun φ _ _ hφ _ => ?_
    have h1 := hσ.trans (hτ.trans (hυ.trans hφ))
    refine (sr_firstCells (hs.mono h1) size sLen).bind fun χ o o' hχ ho => ?_
    refine (sr_appCells hz size n).bind fun ψ c c' hψ hc => ?_
    refine (sr_zeroValue hz).bind fun ω z z' hω hz' => ?_
    exact (sr_newRow elem (((ho.mono fun _ _ y => y.mono (hψ.trans hω)).append (hc.mono fun _ _ y => y.mono hω)).append (zeros_rel hz'.cells _))).bind fun _ a b _ ha => .pure (ha.slice _ _)
theorem sr_append {ts : Array TypeId} {t : TypeId} {a a' : Array Value} (hz : headZero P ts = true) (ha : AR (VR N ρ) a a') : SR P N ok Poi (RV N) ρ (Builtin.append_ ts t a) (Builtin.append_ ts t a') := by
 unfold Builtin.append_
 cases ht : ts[0]? with
 | none => exact sr_stuck _ _
 | some u =>
  cases hx : a[0]? with
  | none =>
   rw [ha.getNone hx]
   exact sr_stuck _ _
  | some s =>
   obtain ⟨s', h1, h2⟩ := ha.getSome hx
   rw [h1]
   cases hy : a[1]? with
   | none =>
    rw [ha.getNone hy]
    exact sr_stuck _ _
   | some x =>
    obtain ⟨x', h3, h4⟩ := ha.getSome hy
    rw [h3]
    dsimp only
    refine (sr_underlying u).bind fun σ d d' hσ e => ?_
    obtain ⟨rfl, hu⟩ := e
    unfold headZero at hz
    rw [ht] at hz
    dsimp only at hz
    unfold sliceZero at hz
    rw [hu] at hz
    cases d <;> first | exact sr_stuck _ _ | skip
    rename_i elem
    dsimp only at hz ⊢
    by_cases hsl : ∃ b n c, s = .slice b n c
    case neg =>
     have h2 := h2.mono hσ
     cases h2 <;> first | exact sr_stuck _ _ | exact absurd ⟨_, _, _, rfl⟩ hsl
    obtain ⟨b, sLen, sCap, rfl⟩ := hsl
    obtain ⟨b', rfl, hb⟩ := h2.base
    dsimp only
    refine (sr_sizeOf elem).bind fun τ size size' hτ e => ?_
    subst e
    have tail : ∀ {υ : Emb}, τ.le υ → SR P N ok Poi (RV N) υ (do
      let n ← Builtin.lenOf x
      appTail elem size sLen sCap n b (.slice b sLen sCap) x) (do
      let n ← Builtin.lenOf x'
      appTail elem size sLen sCap n b' (.slice b' sLen sCap) x') := fun {υ} hυ => by
     have l := hσ.trans (hτ.trans hυ)
     refine (sr_lenOf (h4.mono l)).bind fun φ n n' hφ e => ?_
     subst e
     exact sr_appTail hz _ _ _ _ (hb.mono (l.trans hφ)) (h2.mono (l.trans hφ)) (h4.mono (l.trans hφ))
    unfold appTail at tail
    cases h1' : ts[1]? with
    | none =>
     dsimp only
     exact tail (Emb.le.refl _)
    | some xt =>
     dsimp only
     refine (sr_underlying xt).bind fun υ d d' hυ e => ?_
     obtain ⟨rfl, hu2⟩ := e
     have zeros : SR P N ok Poi (RV N) υ (do
       let l := IntKind.i64.wrap (← asInt x)
       if l < 0 then runtimePanic (.error "makeslice: len out of range")
       if l * (← typeInfo elem).bytes > 2 ^ 48 then
        let made ← choose (.extern "append.ofMake.carriedOut" 2)
        runtimePanic (.error (if made == 1 then "makeslice: len out of range" else "growslice: len out of range"))
       let n ← pure l.toNat
       appZero elem size sLen sCap n b (.slice b sLen sCap) x) (do
       let l := IntKind.i64.wrap (← asInt x')
       if l < 0 then runtimePanic (.error "makeslice: len out of range")
       if l * (← typeInfo elem).bytes > 2 ^ 48 then
        let made ← choose (.extern "append.ofMake.carriedOut" 2)
        runtimePanic (.error (if made == 1 then "makeslice: len out of range" else "growslice: len out of range"))
       let n ← pure l.toNat
       appZero elem size sLen sCap n b' (.slice b' sLen sCap) x') := by
      have l0 := hσ.trans (hτ.trans hυ)
      refine (sr_asInt (h4.mono l0)).bind fun φ n n' hφ e => ?_
      subst e
      dsimp only
      split
      ·exact sr_runtimePanicB _ _ _
      ·refine (sr_typeInfo elem).bind fun χ i i' hχ e => ?_
       subst e
       split
       ·refine .choose fun made => ?_
        change SR P N ok Poi (RV N) χ (runtimePanic (.error (if made == 1 then "makeslice: len out of range" else "growslice: len out of range")) >>= fun (_ : Unit) => appZero elem size sLen sCap (IntKind.i64.wrap n).toNat b (.slice b sLen sCap) x) _
        exact sr_runtimePanicB _ _ _
       ·exact sr_appZero hz _ _ _ _ (hb.mono (l0.trans (hφ.trans hχ))) (h2.mono (l0.trans (hφ.trans hχ)))
     unfold appZero appCells at zeros
     cases d <;> first | exact tail hυ | exact zeros
theorem sr_copy {ts : Array TypeId} {t : TypeId} {a a' : Array Value} (ha : AR (VR N ρ) a a') : SR P N ok Poi (RV N) ρ (Builtin.copy_ ts t a) (Builtin.copy_ ts t a') := by
 unfold Builtin.copy_
 cases ht : ts[0]? with
 | none => exact sr_stuck _ _
 | some u =>
  cases hx : a[0]? with
  | none =>
   rw [ha.getNone hx]
   exact sr_stuck _ _
  | some s =>
   obtain ⟨s', h1, h2⟩ := ha.getSome hx
   rw [h1]
   cases hy : a[1]? with
   | none =>
    rw [ha.getNone hy]
    exact sr_stuck _ _
   | some x =>
    obtain ⟨x', h3, h4⟩ := ha.getSome hy
    rw [h3]
    dsimp only
    refine (sr_underlying u).bind fun σ d d' hσ e => ?_
    obtain ⟨rfl, hu⟩ := e
    cases d <;> first | exact sr_stuck _ _ | skip
    rename_i elem
    dsimp only
    by_cases hsl : ∃ b n c, s = .slice b n c
    case neg =>
     have h2 := h2.mono hσ
     cases h2 <;> first | exact sr_stuck _ _ | exact absurd ⟨_, _, _, rfl⟩ hsl
    obtain ⟨b, sLen, sCap, rfl⟩ := hsl
    obtain ⟨b', rfl, hb⟩ := h2.base
    dsimp only
    refine (sr_lenOf (h4.mono hσ)).bind fun φ n n' hφ e => ?_
    subst e
    refine (sr_sizeOf elem).bind fun τ size size' hτ e => ?_
    subst e
    have l := hσ.trans (hφ.trans hτ)
    refine (sr_firstCells (h4.mono l) size _).bind fun υ c c' hυ hc => ?_
    have hb := hb.mono (l.trans hυ)
    cases hb with
    | none => exact .pure (.int _ _)
    | some ha => exact (sr_storeCells 0 ha hc.toList).bind fun _ _ _ _ _ => .pure (.int _ _)
inductive OV (N : Cfg) (ρ : Emb) : Option Value → Option Value → Prop
 | none : OV N ρ none none
 | some {v v' : Value} (h : VR N ρ v v') : OV N ρ (some v) (some v')
theorem OV.mono {σ : Emb} (h : ρ.le σ) {a b : Option Value} (x : OV N ρ a b) : OV N σ a b := by
 cases x with
 | none => exact .none
 | some x => exact .some (x.mono h)
theorem sr_sliceBound {v v' : Value} (h : VR N ρ v v') (y : Nat) (c : BoundsCode) : SR P N ok Poi (fun _ a b => a = b) ρ (Instr.sliceBound v y c) (Instr.sliceBound v' y c) := by
 unfold Instr.sliceBound
 refine (sr_asIntOf h).bind fun σ x x' _ e => ?_
 subst e
 obtain ⟨k, i⟩ := x
 dsimp only
 split
 ·exact .pure rfl
 ·exact sr_boundsPanic _ _ _ _ _
theorem sr_sliceBounds (b : Bool) (l c : Nat) {lo lo' hi hi' mx mx' : Option Value} (h1 : OV N ρ lo lo') (h2 : OV N ρ hi hi') (h3 : OV N ρ mx mx') : SR P N ok Poi (fun _ a b => a = b) ρ (Instr.sliceBounds b l c lo hi mx) (Instr.sliceBounds b l c lo' hi' mx') := by
 unfold Instr.sliceBounds
 have s3 : ∀ {σ : Emb}, ρ.le σ → ∀ (m h : Nat) (k : BoundsCode), SR P N ok Poi (fun _ a b => a = b) σ (do
   let l ← match lo with
    | some v => Instr.sliceBound v h k
    | none => pure 0
   pure (l, h, m)) (do
   let l ← match lo' with
    | some v => Instr.sliceBound v h k
    | none => pure 0
   pure (l, h, m)) := by
  intro σ hσ m h k
  cases h1 with
  | none => exact .pure rfl
  | some h1 => exact (sr_sliceBound (h1.mono hσ) _ _).bind fun _ a b _ e => by subst e; exact .pure rfl
 cases h3 with
 | none =>
  cases h2 with
  | none => exact s3 (Emb.le.refl _) _ _ _
  | some h2 => exact (sr_sliceBound h2 _ _).bind fun σ a b hσ e => by subst e; exact s3 hσ _ _ _
 | some h3 =>
  refine (sr_sliceBound h3 _ _).bind fun σ a b hσ e => ?_
  subst e
  cases h2 with
  | none => exact sr_stuck _ _
  | some h2 => exact (sr_sliceBound (h2.mono hσ) _ _).bind fun τ a b hτ e => by subst e; exact s3 (hσ.trans hτ) _ _ _
theorem sr_slice (t : TypeId) {v v' : Value} (h : VR N ρ v v') {lo lo' hi hi' mx mx' : Option Value} (h1 : OV N ρ lo lo') (h2 : OV N ρ hi hi') (h3 : OV N ρ mx mx') : SR P N ok Poi (RV N) ρ (Instr.slice t v lo hi mx) (Instr.slice t v' lo' hi' mx') := by
 unfold Instr.slice
 refine (sr_underlying t).bind fun σ d d' hσ e => ?_
 obtain ⟨rfl, hu⟩ := e
 have h := h.mono hσ
 have h1 := h1.mono hσ
 have h2 := h2.mono hσ
 have h3 := h3.mono hσ
 have ptr : ∀ arr, SR P N ok Poi (RV N) σ (do
   let a ← asAddr v
   let .array n elem ← underlying arr | stuck "Slice: array type expected"
   let (l, h, m) ← Instr.sliceBounds false n n lo hi mx
   let size ← sizeOf elem
   pure (.slice (some (if m = l then a else a.add (l * size))) (h - l) (m - l))) (do
   let a ← asAddr v'
   let .array n elem ← underlying arr | stuck "Slice: array type expected"
   let (l, h, m) ← Instr.sliceBounds false n n lo' hi' mx'
   let size ← sizeOf elem
   pure (.slice (some (if m = l then a else a.add (l * size))) (h - l) (m - l))) := by
  intro arr
  have ad : SR P N ok Poi (fun σ a b => AdR N σ a b) σ (asAddr v) (asAddr v') := by
   unfold asAddr
   cases h <;> first | exact sr_runtimePanic _ _ | exact sr_stuck _ _ | skip
   rename_i a b g hg
   refine SR.pure ?_
   exact ⟨g, rfl, rfl, hg⟩
  refine ad.bind fun τ a a' hτ ha => ?_
  refine (sr_underlying arr).bind fun υ d d' hυ e => ?_
  obtain ⟨rfl, _⟩ := e
  cases d <;> first | exact sr_stuck _ _ | skip
  dsimp only
  have l := hτ.trans hυ
  refine (sr_sliceBounds false _ _ (h1.mono l) (h2.mono l) (h3.mono l)).bind fun φ x y hφ e => ?_
  subst e
  obtain ⟨x1, x2, x3⟩ := x
  dsimp only
  refine (sr_sizeOf _).bind fun χ s s' hχ e => ?_
  subst e
  have ha := ha.mono (hυ.trans (hφ.trans hχ))
  split
  ·exact .pure (ha.slice _ _)
  ·exact .pure ((ha.add _).slice _ _)
 cases d with
 | pointer arr => cases h <;> exact ptr arr
 | slice elem =>
  cases h <;> first | exact sr_stuck _ _ | skip
  ·rename_i n c
   dsimp only
   refine (sr_sliceBounds true _ _ h1 h2 h3).bind fun φ x y hφ e => ?_
   subst e
   obtain ⟨x1, x2, x3⟩ := x
   dsimp only
   refine (sr_sizeOf _).bind fun χ s s' hχ e => ?_
   subst e
   split <;> exact .pure (.nilSlice _ _)
  ·rename_i a b g hg n c
   dsimp only
   refine (sr_sliceBounds true _ _ h1 h2 h3).bind fun φ x y hφ e => ?_
   subst e
   obtain ⟨x1, x2, x3⟩ := x
   dsimp only
   refine (sr_sizeOf _).bind fun χ s s' hχ e => ?_
   subst e
   have ha : AdR N χ a ⟨b, a.off, a.spot⟩ := (AdR.mono (hφ.trans hχ) ⟨g, rfl, rfl, hg⟩)
   split
   ·exact .pure (ha.slice _ _)
   ·exact .pure ((ha.add _).slice _ _)
 | string =>
  cases h <;> first | exact sr_stuck _ _ | skip
  rename_i s
  dsimp only
  cases h3 with
  | some h3 => exact sr_stuck _ _
  | none =>
   refine (sr_sliceBounds false _ _ h1 h2 .none).bind fun φ x y hφ e => ?_
   subst e
   exact .pure (.string _)
 | _ => cases h <;> exact sr_stuck _ _
theorem sr_sliceAt (t : TypeId) {v v' : Value} (h : VR N ρ v v') {lo lo' hi hi' mx mx' : Option Value} (h1 : OV N ρ lo lo') (h2 : OV N ρ hi hi') (h3 : OV N ρ mx mx') : SR P N ok Poi (RV N) ρ (Instr.sliceAt t v lo hi mx) (Instr.sliceAt t v' lo' hi' mx') := by
 unfold Instr.sliceAt
 refine (sr_underlying t).bind fun σ d d' hσ e => ?_
 obtain ⟨rfl, hu⟩ := e
 have h := h.mono hσ
 have h1 := h1.mono hσ
 have h2 := h2.mono hσ
 have h3 := h3.mono hσ
 cases d <;> first | exact sr_slice t h h1 h2 h3 | skip
 dsimp only
 refine (sr_sureAddr h).bind fun τ a a' hτ ha => ?_
 refine (sr_sliceBounds false _ _ (h1.mono hτ) (h2.mono hτ) (h3.mono hτ)).bind fun φ x y hφ e => ?_
 subst e
 obtain ⟨x1, x2, x3⟩ := x
 dsimp only
 refine (sr_sizeOf _).bind fun χ s s' hχ e => ?_
 subst e
 have ha := ha.mono (hφ.trans hχ)
 split
 ·exact .pure (ha.slice _ _)
 ·exact .pure ((ha.add _).slice _ _)
theorem sr_min2 {v v' u u' : Value} (h : VR N ρ v v') (h' : VR N ρ u u') : SR P N ok Poi (RV N) ρ (Builtin.min2 v u) (Builtin.min2 v' u') := by
 unfold Builtin.min2
 cases h <;> cases h' <;> first | exact .pure (.int _ _) | exact .halt trivial | skip
 exact (sr_stringOp _ _ _).bind fun σ a b _ hab => (sr_asBool hab).bind fun τ x y _ e => by subst e; exact .pure (.string _)
theorem sr_max2 {v v' u u' : Value} (h : VR N ρ v v') (h' : VR N ρ u u') : SR P N ok Poi (RV N) ρ (Builtin.max2 v u) (Builtin.max2 v' u') := by
 unfold Builtin.max2
 cases h <;> cases h' <;> first | exact .pure (.int _ _) | exact .halt trivial | skip
 exact (sr_stringOp _ _ _).bind fun σ a b _ hab => (sr_asBool hab).bind fun τ x y _ e => by subst e; exact .pure (.string _)
theorem sr_foldlM (f : Value → Value → Sem Value) (hf : ∀ {σ : Emb} {v v' u u' : Value}, VR N σ v v' → VR N σ u u' → SR P N ok Poi (RV N) σ (f v u) (f v' u')) : ∀ {l l' : List Value} {σ : Emb}, LR (VR N σ) l l' → ∀ {x x' : Value}, VR N σ x x' → SR P N ok Poi (RV N) σ (l.foldlM f x) (l'.foldlM f x') := by
 intro l
 induction l with
 | nil =>
  intro l' σ h x x' hx
  cases h
  exact .pure hx
 | cons y l ih =>
  intro l' σ h x x' hx
  cases h with
  | cons h1 h2 =>
   rw [List.foldlM_cons, List.foldlM_cons]
   exact (hf hx h1).bind fun τ a b hτ hab => ih (h2.mono fun _ _ z => z.mono hτ) hab
theorem sr_min {ts : Array TypeId} {t : TypeId} {a a' : Array Value} (ha : AR (VR N ρ) a a') : SR P N ok Poi (RV N) ρ (Builtin.min_ ts t a) (Builtin.min_ ts t a') := by
 unfold Builtin.min_
 have h := ha.toList
 generalize a.toList = l at h
 generalize a'.toList = l' at h
 cases h with
 | nil => exact sr_stuck _ _
 | cons h1 h2 => exact sr_foldlM _ sr_min2 h2 h1
theorem sr_max {ts : Array TypeId} {t : TypeId} {a a' : Array Value} (ha : AR (VR N ρ) a a') : SR P N ok Poi (RV N) ρ (Builtin.max_ ts t a) (Builtin.max_ ts t a') := by
 unfold Builtin.max_
 have h := ha.toList
 generalize a.toList = l at h
 generalize a'.toList = l' at h
 cases h with
 | nil => exact sr_stuck _ _
 | cons h1 h2 => exact sr_foldlM _ sr_max2 h2 h1
theorem sr_nilCheck {e e' : Operand → Value} {x : Operand} {d : Option Tmp} {ty : TypeId} {ps : String} {af : Array Edge} {gd : Option (Nat × Bool)} (h : VR N ρ (e x) (e' x)) : SR P N ok Poi (NR P N ok) ρ (execOp e { dst := d, op := .nilCheck x, type := ty, pos := ps, after := af, guard := gd }) (execOp e' { dst := d, op := .nilCheck x, type := ty, pos := ps, after := af, guard := gd }) := by
 unfold execOp
 dsimp only
 generalize e x = v at h
 generalize e' x = v' at h
 cases h with
 | nilPtr => exact sr_runtimePanic _ _
 | nilIface => exact sr_runtimePanic _ _
 | nilFunc => exact sr_runtimePanic _ _
 | func h sx hx sy hy => exact .pure (.value (.func h sx hx sy hy))
 | yield h => exact .pure (.value (.yield h))
 | bool b => exact .pure (.value (.bool b))
 | int k n => exact .pure (.value (.int k n))
 | string s => exact .pure (.value (.string s))
 | ptr h g => exact .pure (.value (.ptr h g))
 | nilSlice n c => exact .pure (.value (.nilSlice n c))
 | slice h g n c => exact .pure (.value (.slice h g n c))
 | nilMap => exact .pure (.value .nilMap)
 | nilChan => exact .pure (.value .nilChan)
 | iface ht h => exact .pure (.value (.iface ht h))
 | agg sx hx => exact .pure (.value (.agg sx hx))
 | tuple sx hx => exact .pure (.value (.tuple sx hx))
 | meth n xs ys => exact sr_runtimePanic _ _
 | dead hc hn =>
  cases v' with
  | pointer p => cases p <;> first | exact absurd hn (by decide) | exact .pure (.value (.dead hc hn))
  | nilIface => exact absurd hn (by decide)
  | nilFunc => exact absurd hn (by decide)
  | func d a c => cases d <;> first | exact absurd hn (by decide) | exact absurd hn Bool.false_ne_true | exact .pure (.value (.dead hc hn))
  | _ => exact .pure (.value (.dead hc hn))
end
end Go.Proofs.Ytjgleaakgbnjgaa.Par
end

section
namespace Go.Proofs.Ytjgleaakgbnjgaa.Par
open Go
structure Fns where
 list : List FuncId
 spec : List (FuncId × Nat)
def Fns.contains (L : Fns) (f : FuncId) : Bool := L.list.contains f
def okX (L : Fns) : Operand → Bool
 | .tmp _ => true
 | .const v => plain v
 | .func f => L.contains f
 | .global _ => false
def okT (P : Program) (L : Fns) (t : TypeId) : Bool :=
 (match P.info? t with | some i => i.methods.all fun m => m.path.isEmpty && (match m.func with | some (f, false) => L.contains f | _ => false) | none => true) &&
 (match P.underlying t with | some (.pointer _) => false | _ => true)
def okOp (P : Program) (L : Fns) : Op → Bool
 | .move x | .assign x => okX L x
 | .pick c a b => okX L c && okX L a && okX L b
 | .alloc t => zeroOk P t
 | .box _ x => okX L x
 | .build t ps => zeroOk P t && ps.all fun p => okX L p.2
 | .load t (.global g) => flat P t && decide (g < P.globals.size)
 | .load _ a => okX L a
 | .store _ a x => okX L a && okX L x
 | .binOp op t x y _ => okX L x && okX L y && (match op with | .eql | .neq => simpleEq P t | _ => true)
 | .unOp _ _ x => okX L x
 | .convert s d x => intType P s && intType P d && okX L x
 | .makeInterface t x => okT P L t && okX L x
 | .makeFunc (.func f) xs ys => L.contains f && xs.all (okX L) && ys.all (okX L)
 | .fieldAddr _ x _ => okX L x
 | .field _ x _ => okX L x
 | .indexAddr _ x i => okX L x && okX L i
 | .index _ x i => okX L x && okX L i
 | .extract x _ => okX L x
 | .panic x => okX L x
 | .call { callee := .value (.func g), args, .. } => (L.contains g || L.spec.contains (g, args.size)) && args.all (okX L)
 | .call { callee := .value f, args, .. } => okX L f && args.all (okX L)
 | .call { callee := .invoke r _, args, .. } => okX L r && args.all (okX L)
 | .call { callee := .builtin .len, args, .. } => args.all (okX L)
 | .call { callee := .builtin .append, args, argTypes } => args.all (okX L) && headZero P argTypes
 | .call { callee := .builtin .copy, args, .. } => args.all (okX L)
 | .call { callee := .builtin .min, args, .. } => args.all (okX L)
 | .call { callee := .builtin .max, args, .. } => args.all (okX L)
 | .buildSlice t _ ps => sliceZero P t && ps.all fun p => okX L p.2
 | .makeSlice t l c => sliceZero P t && okX L l && okX L c
 | .slice _ x lo hi mx => okX L x && lo.all (okX L) && hi.all (okX L) && mx.all (okX L)
 | .nilCheck x => okX L x
 | _ => false
def okCode (P : Program) (L : Fns) : Code → Bool
 | .skip => true
 | .region _ ops _ => ops.all fun o => okOp P L o.op
 | .seq a b => okCode P L a && okCode P L b
 | .cond c a b => okX L c && okCode P L a && okCode P L b
 | .block _ b => okCode P L b
 | .loop b => okCode P L b
 | .rangeFunc f _ a b => okX L f && okCode P L a && okCode P L b
 | .exit _ => true
 | .ret => true
 | _ => false
section
variable {P : Program} {L : Fns} {F : Array Func} {G : Nat} {ok : Code → Prop} {Poi : Nat → Prop} {ρ : Emb}
def cfg (P : Program) (L : Fns) (F : Array Func) : Cfg := { N := fun f => L.contains f = true, T := fun t => okT P L t = true, G := P.globals.size, F := F, S := fun f n => L.spec.contains (f, n) = true }
theorem okT_meth {t : TypeId} (h : okT P L t = true) : MethOk P (cfg P L F) t := by
 unfold okT at h
 rw [Bool.and_eq_true] at h
 refine ⟨fun i hi m hm => ?_, fun e he => ?_⟩
 ·have h1 := h.1
  rw [hi] at h1
  dsimp only at h1
  rw [Array.all_eq_true_iff_forall_mem] at h1
  have h2 := h1 m hm
  rw [Bool.and_eq_true] at h2
  refine ⟨by simpa using h2.1, ?_⟩
  have h3 := h2.2
  split at h3
  ·rename_i f hf
   exact ⟨f, hf, h3⟩
  ·cases h3
 ·have h1 := h.2
  rw [he] at h1
  cases h1
def EnvR (N : Cfg) (L : Fns) (ρ : Emb) (e e' : Operand → Value) : Prop := ∀ x, okX L x = true → VR N ρ (e x) (e' x)
theorem EnvR.arr {N : Cfg} {e e' : Operand → Value} (h : EnvR N L ρ e e') {xs : Array Operand} (hx : xs.all (okX L) = true) : AR (VR N ρ) (xs.map e) (xs.map e') := by
 refine AR.mapSame xs fun i x hi => h x ?_
 rw [Array.all_eq_true_iff_forall_mem] at hx
 exact hx x (Array.mem_of_getElem? hi)
theorem EnvR.opt {N : Cfg} {e e' : Operand → Value} (h : EnvR N L ρ e e') {x : Option Operand} (hx : x.all (okX L) = true) : OV N ρ (x.map e) (x.map e') := by
 cases x with
 | none => exact .none
 | some x => exact .some (h x hx)
theorem sr_v {N : Cfg} {t t' : Sem Value} (h : SR P N ok Poi (RV N) ρ t t') : SR P N ok Poi (NR P N ok) ρ (do pure (.value (← t))) (do pure (.value (← t'))) := h.bind fun σ a b _ hab => .pure (.value hab)
structure FnsOk (P : Program) (L : Fns) (F : Array Func) (ok : Code → Prop) (Poi : Nat → Prop) : Prop where
 fns : ∀ f, L.contains f = true → FnOk P (cfg P L F) ok Poi f
 spec : ∀ f n, L.spec.contains (f, n) = true → SpecFn P F f
theorem sr_execOp (hN : FnsOk P L F ok Poi) (hP : ∀ g, g < P.globals.size → Poi g) {e e' : Operand → Value} (he : EnvR (cfg P L F) L ρ e e') (hgl : ∀ g, e (.global g) = .pointer (some ⟨g, 0, none⟩)) (hfn : ∀ g, e (.func g) = .func (.func g) #[] #[] ∧ e' (.func g) = .func (.func g) #[] #[]) {o : Oper} (ho : okOp P L o.op = true) : SR P (cfg P L F) ok Poi (NR P (cfg P L F) ok) ρ (execOp e o) (execOp e' o) := by
 unfold execOp
 obtain ⟨dst, op, ty, pos, after, guard⟩ := o
 dsimp only at ho ⊢
 cases op <;> try (simp only [okOp, Bool.and_eq_true, Bool.false_eq_true] at ho)
 case move x => exact .pure (.value (he x ho))
 case assign x => exact .pure (.value (he x ho))
 case pick c a b =>
  refine (sr_asBool (he c ho.1.1)).bind fun σ x y hσ e => ?_
  subst e
  refine .pure (.value ?_)
  cases x
  ·exact (he b ho.2).mono hσ
  ·exact (he a ho.1.2).mono hσ
 case alloc t => exact sr_v (sr_alloc ho)
 case box t x => exact sr_v (sr_box t (he x ho))
 case build t ps =>
  refine sr_v (sr_build ho.1 ?_)
  refine AR.mapSame ps fun i x hi => ⟨rfl, he _ ?_⟩
  have := ho.2
  rw [Array.all_eq_true_iff_forall_mem] at this
  exact this x (Array.mem_of_getElem? hi)
 case buildSlice t len ps =>
  refine sr_v (sr_buildSlice ho.1 len ?_)
  refine AR.mapSame ps fun i x hi => ⟨rfl, he _ ?_⟩
  have := ho.2
  rw [Array.all_eq_true_iff_forall_mem] at this
  exact this x (Array.mem_of_getElem? hi)
 case makeSlice t l c => exact sr_v (sr_makeSlice ho.1.1 (he l ho.1.2) (he c ho.2))
 case slice t x lo hi mx => exact sr_v (sr_sliceAt t (he x ho.1.1.1) (he.opt ho.1.1.2) (he.opt ho.1.2) (he.opt ho.2))
 case nilCheck x => exact sr_nilCheck (d := dst) (ty := ty) (ps := pos) (af := after) (gd := guard) (he x ho)
 case load t a =>
  cases a with
  | global g =>
   show SR _ _ _ _ _ _ (do pure (Next.value (← Instr.loadAt t (e (.global g))))) (do pure (Next.value (← Instr.loadAt t (e' (.global g)))))
   rw [hgl]
   have h2 : flat P t = true ∧ g < P.globals.size := by simpa [okOp] using ho
   exact sr_v (sr_loadPoison (hP g h2.2) h2.1 _)
  | tmp x => exact sr_v (sr_loadAt t (he _ (by simpa [okOp] using ho)))
  | const x => exact sr_v (sr_loadAt t (he _ (by simpa [okOp] using ho)))
  | func x => exact sr_v (sr_loadAt t (he _ (by simpa [okOp] using ho)))
 case store t a x => exact (sr_storeAt t (he a ho.1) (he x ho.2)).bind fun σ _ _ _ _ => .pure .skip
 case binOp op t x y u =>
  have ht : (op = .eql ∨ op = .neq) → simpleEq P t = true := by
   rintro (rfl | rfl) <;> exact ho.2
  by_cases hd : e x ≠ .tuple #[] ∧ e y ≠ .tuple #[]
  ·refine sr_v ?_
   refine (sr_eqGuard ht x y (he x ho.1.1) (he y ho.1.2) hd).bind fun σ _ _ hσ _ => ?_
   exact sr_binOp ht rfl ((he x ho.1.1).mono hσ) ((he y ho.1.2).mono hσ) hd
  ·exact sr_bin_dead ht x y (Classical.or_iff_not_imp_left.2 fun h1 => Classical.byContradiction fun h2 => hd ⟨h1, h2⟩) _
 case unOp op t x => exact sr_v (sr_unary op (he x ho))
 case convert s d x => exact sr_v (sr_convertInt ho.1.1 ho.1.2 (he x ho.2))
 case makeInterface t x => exact sr_v (sr_makeInterface t ho.1 (he x ho.2))
 case makeFunc f xs ys =>
  cases f with
  | func f =>
   simp only [okOp, Bool.and_eq_true] at ho
   exact sr_v (sr_makeFunc ho.1.1 (he.arr ho.1.2) (he.arr ho.2))
  | _ => simp [okOp] at ho
 case fieldAddr s x f => exact sr_v (sr_fieldAt s (he x ho) f)
 case field s x f => exact sr_v (sr_field s (he x ho) f)
 case indexAddr t x i => exact sr_v (sr_indexAt t (he x ho.1) (he i ho.2))
 case index t x i => exact sr_v (sr_index t (he x ho.1) (he i ho.2))
 case extract x i => exact sr_v (sr_extract (he x ho) i)
 case panic x => exact sr_v (sr_panicOp (he x ho))
 case call c =>
  obtain ⟨callee, args, ats⟩ := c
  cases callee with
  | value f =>
   have gen : ∀ f, okX L f = true → args.all (okX L) = true → SR P (cfg P L F) ok Poi (NR P (cfg P L F) ok) ρ (do let d ← resolve e { callee := .value f, args := args, argTypes := ats } ty; invoke d.target d.args) (do let d ← resolve e' { callee := .value f, args := args, argTypes := ats } ty; invoke d.target d.args) := fun f h1 h2 => sr_callValue hN.fns (he f h1) (he.arr h2)
   cases f with
   | func g =>
    simp only [okOp, Bool.and_eq_true, Bool.or_eq_true] at ho
    by_cases hg : L.contains g = true
    ·exact gen (.func g) hg ho.2
    ·have hs : L.spec.contains (g, args.size) = true := ho.1.resolve_left hg
     show SR P (cfg P L F) ok Poi (NR P (cfg P L F) ok) ρ (do let d ← Deferred.ofValue (e (.func g)) (args.map e); invoke d.target d.args) (do let d ← Deferred.ofValue (e' (.func g)) (args.map e'); invoke d.target d.args)
     rw [(hfn g).1, (hfn g).2]
     exact sr_callSpec (a := (#[] ++ args.map e) ++ #[]) (a' := (#[] ++ args.map e') ++ #[]) (by simpa [cfg] using hs) (hN.spec g _ hs) ((AR.empty.append (he.arr ho.2)).append .empty)
   | tmp x =>
    simp only [okOp, Bool.and_eq_true] at ho
    exact gen (.tmp x) ho.1 ho.2
   | const x =>
    simp only [okOp, Bool.and_eq_true] at ho
    exact gen (.const x) ho.1 ho.2
   | global x =>
    simp only [okOp, Bool.and_eq_true] at ho
    exact gen (.global x) ho.1 ho.2
  | invoke r name =>
   simp only [okOp, Bool.and_eq_true] at ho
   show SR _ _ _ _ _ _ (invoke (.fn (.method name) #[]) (#[e r] ++ args.map e)) (invoke (.fn (.method name) #[]) (#[e' r] ++ args.map e'))
   have ha : AR (VR (cfg P L F) ρ) (#[e r] ++ args.map e) (#[e' r] ++ args.map e') := (AR.empty.push (he r ho.1)).append (he.arr ho.2)
   generalize #[e r] ++ args.map e = az at ha ⊢
   generalize #[e' r] ++ args.map e' = az' at ha ⊢
   unfold invoke
   dsimp only
   cases h0 : az[0]? with
   | none => exact sr_stuck _ _
   | some x =>
    obtain ⟨y, h1, h2⟩ := ha.getSome h0
    rw [h1, ← ha.1]
    exact sr_callMethod hN.fns (fun t ht => okT_meth ht) h2 name (ha.extract 1 _)
  | builtin b =>
   cases b with
   | len =>
    simp only [okOp] at ho
    exact sr_v (sr_len (he.arr ho))
   | append =>
    simp only [okOp, Bool.and_eq_true] at ho
    exact sr_v (sr_append ho.2 (he.arr ho.1))
   | copy =>
    simp only [okOp] at ho
    exact sr_v (sr_copy (he.arr ho))
   | min =>
    simp only [okOp] at ho
    exact sr_v (sr_min (he.arr ho))
   | max =>
    simp only [okOp] at ho
    exact sr_v (sr_max (he.arr ho))
   | _ => simp [okOp] at ho
end
end Go.Proofs.Ytjgleaakgbnjgaa.Par
end

section
namespace Go.Proofs.Ytjgleaakgbnjgaa.Par
open Go
inductive IR (P : Program) (L : Fns) (ρ : Emb) : Item → Item → Prop
 | code {c : Code} (h : okCode P L c = true) : IR P L ρ (.code c) (.code c)
 | inBlock (id : Nat) : IR P L ρ (.inBlock id) (.inBlock id)
 | inLoop {c : Code} (h : okCode P L c = true) : IR P L ρ (.inLoop c) (.inLoop c)
 | inRegion {ops : Array Oper} (h : (ops.all fun o => okOp P L o.op) = true) (todo : List Nat) : IR P L ρ (.inRegion ops todo) (.inRegion ops todo)
 | inRangeFunc {l l' : Nat} (h : ρ l = some l') : IR P L ρ (.inRangeFunc l) (.inRangeFunc l')
 | endRangeFunc {l l' : Nat} (h : ρ l = some l') : IR P L ρ (.endRangeFunc l) (.endRangeFunc l')
 | beginRound : IR P L ρ .beginRound .beginRound
inductive DR (ρ : Emb) : Deferred → Deferred → Prop
 | mark {r r' : Nat} (h : ρ r = some r') : DR ρ { target := .collected r, args := #[] } { target := .collected r', args := #[] }
inductive OptR (ρ : Emb) : Option Nat → Option Nat → Prop
 | none : OptR ρ none none
 | some {l l' : Nat} (h : ρ l = some l') : OptR ρ (some l) (some l')
structure FR (P : Program) (L : Fns) (F : Array Func) (ρ : Emb) (f f' : Frame) : Prop where
 fn : f'.fn = f.fn
 nice : f.roundOf = none → L.contains f.fn = true
 tmps : AR (VR (cfg P L F) ρ) f.tmps f'.tmps
 todo : LR (IR P L ρ) f.todo f'.todo
 defers : LR (DR ρ) f.defers f'.defers
 kind : f.kind = .normal
 kind' : f'.kind = .normal
 round : OptR ρ f.roundOf f'.roundOf
section
variable {P : Program} {L : Fns} {F : Array Func} {ρ σ : Emb}
theorem IR.mono (h : ρ.le σ) {a b : Item} (x : IR P L ρ a b) : IR P L σ a b := by
 cases x with
 | code h => exact .code h
 | inBlock id => exact .inBlock id
 | inLoop h => exact .inLoop h
 | inRegion h t => exact .inRegion h t
 | inRangeFunc x => exact .inRangeFunc (h _ _ x)
 | endRangeFunc x => exact .endRangeFunc (h _ _ x)
 | beginRound => exact .beginRound
theorem DR.mono (h : ρ.le σ) {a b : Deferred} (x : DR ρ a b) : DR σ a b := by
 cases x with
 | mark x => exact .mark (h _ _ x)
theorem OptR.mono (h : ρ.le σ) {a b : Option Nat} (x : OptR ρ a b) : OptR σ a b := by
 cases x with
 | none => exact .none
 | some x => exact .some (h _ _ x)
theorem FR.mono (h : ρ.le σ) {f f' : Frame} (x : FR P L F ρ f f') : FR P L F σ f f' :=
 ⟨x.fn, x.nice, x.tmps.mono fun _ _ y => y.mono h, x.todo.mono fun _ _ y => y.mono h, x.defers.mono fun _ _ y => y.mono h, x.kind, x.kind', x.round.mono h⟩
theorem FR.eval {f f' : Frame} (h : FR P L F ρ f f') : EnvR (cfg P L F) L ρ f.eval f'.eval := by
 intro x hx
 cases x with
 | tmp t =>
  show VR _ _ (f.tmps.getD t undef) (f'.tmps.getD t undef)
  cases e : f.tmps[t]? with
  | none =>
   have e' := h.tmps.getNone e
   rw [Array.getD_eq_getD_getElem?, Array.getD_eq_getD_getElem?, e, e']
   exact VR.undef
  | some u =>
   obtain ⟨u', h1, h2⟩ := h.tmps.getSome e
   rw [Array.getD_eq_getD_getElem?, Array.getD_eq_getD_getElem?, e, h1]
   exact h2
 | const v => exact VR.plain hx
 | func g => exact .func (N := cfg P L F) hx rfl (fun i v v' h => by simp at h) rfl (fun i v v' h => by simp at h)
 | global g => cases hx
theorem FR.withTodo {f f' : Frame} (h : FR P L F ρ f f') {t t' : List Item} (ht : LR (IR P L ρ) t t') : FR P L F ρ { f with todo := t } { f' with todo := t' } :=
 ⟨h.fn, h.nice, h.tmps, ht, h.defers, h.kind, h.kind', h.round⟩
theorem FR.withMode {f f' : Frame} (h : FR P L F ρ f f') (m m' : FrameMode) : FR P L F ρ { f with mode := m } { f' with mode := m' } :=
 ⟨h.fn, h.nice, h.tmps, h.todo, h.defers, h.kind, h.kind', h.round⟩
theorem FR.finish {f f' : Frame} (h : FR P L F ρ f f') {v v' : Value} (hv : VR (cfg P L F) ρ v v') : FR P L F ρ (f.finish v) (f'.finish v') := by
 obtain ⟨fn, tmps, todo, defers, mode, kind, roundOf⟩ := f
 obtain ⟨fn', tmps', todo', defers', mode', kind', roundOf'⟩ := f'
 obtain ⟨h1, h2, h3, h4, h5, h6, h7, h8⟩ := h
 dsimp only at h1 h2 h3 h4 h5 h6 h7 h8
 subst h1 h6 h7
 cases h4 with
 | nil => exact ⟨rfl, h2, h3, .nil, h5, rfl, rfl, h8⟩
 | cons hi ht =>
  cases hi with
  | code h => exact ⟨rfl, h2, h3, .cons (.code h) ht, h5, rfl, rfl, h8⟩
  | inBlock id => exact ⟨rfl, h2, h3, .cons (.inBlock id) ht, h5, rfl, rfl, h8⟩
  | inLoop h => exact ⟨rfl, h2, h3, .cons (.inLoop h) ht, h5, rfl, rfl, h8⟩
  | @inRegion ops h t =>
   cases t with
   | nil => exact ⟨rfl, h2, h3, .cons (.inRegion h []) ht, h5, rfl, rfl, h8⟩
   | cons i rest =>
    refine ⟨rfl, h2, ?_, .cons (.inRegion h rest) ht, h5, rfl, rfl, h8⟩
    show AR _ (match (ops[i]?).bind (·.dst) with | some d => tmps.setIfInBounds d v | none => tmps) (match (ops[i]?).bind (·.dst) with | some d => tmps'.setIfInBounds d v' | none => tmps')
    split
    ·exact h3.set _ hv
    ·exact h3
  | inRangeFunc h => exact ⟨rfl, h2, h3, .cons (.endRangeFunc h) ht, h5, rfl, rfl, h8⟩
  | endRangeFunc h => exact ⟨rfl, h2, h3, .cons (.endRangeFunc h) ht, h5, rfl, rfl, h8⟩
  | beginRound => exact ⟨rfl, h2, h3, ht, h5, rfl, rfl, h8⟩
theorem Frame.finish_mode (f : Frame) (v : Value) : (f.finish v).mode = f.mode := by
 unfold Frame.finish
 split <;> rfl
theorem Frame.finish_round (f : Frame) (v : Value) : (f.finish v).roundOf = f.roundOf := by
 unfold Frame.finish
 split <;> rfl
theorem exitTo_rel (id : Nat) {k k' : List Item} (h : LR (IR P L ρ) k k') : (exitTo id k = none ∧ exitTo id k' = none) ∨ ∃ r r', exitTo id k = some r ∧ exitTo id k' = some r' ∧ LR (IR P L ρ) r r' := by
 induction h with
 | nil => exact .inl ⟨rfl, rfl⟩
 | cons hi ht ih =>
  cases hi with
  | inBlock id' =>
   unfold exitTo
   split
   ·exact .inr ⟨_, _, rfl, rfl, ht⟩
   ·exact ih
  | _ => exact ih
theorem yielded_rel {N : Cfg} (ops : Array Oper) {t t' : Array Value} (h : AR (VR N ρ) t t') : yielded ops t = yielded ops t' := by
 funext j
 unfold yielded
 cases (ops[j]?).bind (·.dst) with
 | none => rfl
 | some d =>
  simp only [Option.bind_some]
  cases e : t[d]? with
  | none => rw [h.getNone e]
  | some v =>
   obtain ⟨v', h1, h2⟩ := h.getSome e
   rw [h1]
   cases h2 <;> first | rfl | skip
   rename_i hn
   cases v' <;> first | rfl | exact absurd hn (by simp [notNil])
end
end Go.Proofs.Ytjgleaakgbnjgaa.Par
end

section
namespace Go.Proofs.Ytjgleaakgbnjgaa.Par
open Go
def botOk (f : Frame) (fs : List Frame) : Prop := ∀ c, (f :: fs).getLast? = some c → c.roundOf = none
theorem botOk.push {f : Frame} {fs : List Frame} (h : botOk f fs) (g : Frame) : botOk g (f :: fs) := fun c hc => h c (by simpa using hc)
theorem botOk.pop {f c : Frame} {fs : List Frame} (h : botOk f (c :: fs)) : botOk c fs := fun d hd => h d (by simpa using hd)
theorem botOk.top {f g : Frame} {fs : List Frame} (h : botOk f fs) (e : g.roundOf = f.roundOf) : botOk g fs := by
 intro c hc
 cases fs with
 | nil =>
  obtain rfl : g = c := by simpa using hc
  rw [e]
  exact h f rfl
 | cons d ds => exact h c (by simpa using hc)
def CR (P : Program) (L : Fns) (F : Array Func) (ρ : Emb) (c c' : Frame) : Prop := FR P L F ρ c c' ∧ c.mode = .run ∧ c'.mode = .run
theorem CR.mono {P : Program} {L : Fns} {F : Array Func} {ρ σ : Emb} (h : ρ.le σ) {a b : Frame} (x : CR P L F ρ a b) : CR P L F σ a b := ⟨x.1.mono h, x.2⟩
inductive GR (P : Program) (L : Fns) (F : Array Func) (base base' : List Frame) (ρ : Emb) : Goroutine → Goroutine → Prop
 | mk {f f' : Frame} {fs fs' : List Frame} (hf : FR P L F ρ f f') (hm : f'.mode = f.mode) (hr : f.mode = .run ∨ f.mode = .returning ∧ f.roundOf = none) (hs : LR (CR P L F ρ) fs fs') (hb : botOk f fs) :
   GR P L F base base' ρ { frame := f, callers := fs ++ base, status := .running, dying := none } { frame := f', callers := fs' ++ base', status := .running, dying := none }
inductive Bad (P : Program) (L : Fns) (F : Array Func) (Poi Ro : Nat → Prop) (base : List Frame) : Goroutine → World → Prop
 | mk {f f' : Frame} {fs fs' : List Frame} {ρ : Emb} {v w : World} (hf : FR P L F ρ f f') {c : List PanicEntry} (hr : f.mode = .panicking c) (hs : LR (CR P L F ρ) fs fs') (hw : WR (cfg P L F) (fun c => okCode P L c = true) Poi Ro ρ v w) :
   Bad P L F Poi Ro base { frame := f, callers := fs ++ base, status := .running, dying := none } v
inductive Out (P : Program) (L : Fns) (F : Array Func) (Poi Ro : Nat → Prop) (base base' : List Frame) (ρ : Emb) (v w : World) : GStep → GStep → Prop
 | go {σ : Emb} {g g' : Goroutine} {v' w' : World} {es es' : Array Event} (le : ρ.le σ) (hg : GR P L F base base' σ g g') (hw : WR (cfg P L F) (fun c => okCode P L c = true) Poi Ro σ v' w') (he : ∀ e ∈ es', EvOk Ro σ e) (hf : Fr Ro ρ σ w w')
   (hv : v.heap.size ≤ v'.heap.size ∧ v'.os = v.os ∧ v'.output = v.output) : Out P L F Poi Ro base base' ρ v w (.go g v' es) (.go g' w' es')
 | spec {σ : Emb} {g : FuncId} {a a' : Array Value} {f f' : Frame} {fs fs' : List Frame} {v' w' : World} {es es' : Array Event} (le : ρ.le σ) (hg : L.spec.contains (g, a.size) = true) (hf : FR P L F σ f f') (hm : f.mode = .run) (hm' : f'.mode = .run) (hs : LR (CR P L F σ) fs fs') (hb : botOk f fs) (ha : AR (VR (cfg P L F) σ) a a') (hw : WR (cfg P L F) (fun c => okCode P L c = true) Poi Ro σ v' w') (he : ∀ e ∈ es', EvOk Ro σ e) (hr : Fr Ro ρ σ w w')
   (hv : v.heap.size ≤ v'.heap.size ∧ v'.os = v.os ∧ v'.output = v.output) : Out P L F Poi Ro base base' ρ v w (.go { frame := Frame.enter P g a .normal, callers := f :: (fs ++ base), status := .running, dying := none } v' es) (.go { frame := Frame.enter ((cfg P L F).here P) g a' .normal, callers := f' :: (fs' ++ base'), status := .running, dying := none } w' es')
 | bad {g : Goroutine} {v' : World} {es : Array Event} {s : GStep} (h : Bad P L F Poi Ro base g v') : Out P L F Poi Ro base base' ρ v w (.go g v' es) s
 | ended {o : Outcome} {v' : World} {es : Array Event} {s : GStep} : Out P L F Poi Ro base base' ρ v w (.ended o v' es) s
section
variable {P : Program} {L : Fns} {F : Array Func} {Poi Ro : Nat → Prop} {base base' : List Frame} {ρ : Emb} {v w : World}
theorem no_call {t t' : List Item} (h : LR (IR P L ρ) t t') {d : Deferred} {b : Bool} {r : String} {s : Array Value} {k : List Item} : t ≠ .call d b r s :: k ∧ t' ≠ .call d b r s :: k := by
 cases h with
 | nil => exact ⟨nofun, nofun⟩
 | cons h _ => cases h <;> exact ⟨nofun, nofun⟩
theorem enter_rel {g : FuncId} (hg : L.contains g = true) {fn : Func} {c : Code} (h1 : P.funcs[g]? = some fn) (h1' : F[g]? = some fn) (h2 : fn.body = some c) (h3 : okCode P L c = true) {a a' : Array Value} (ha : AR (VR (cfg P L F) ρ) a a') : FR P L F ρ (Frame.enter P g a .normal) (Frame.enter ((cfg P L F).here P) g a' .normal) := by
 have e1 : ((cfg P L F).here P).funcs[g]? = some fn := h1'
 refine ⟨rfl, fun _ => hg, ?_, ?_, .nil, rfl, rfl, .none⟩
 ·unfold Frame.enter
  dsimp only
  rw [← ha.1, h1, e1]
  exact ha.append (AR.replicate _ VR.undef)
 ·unfold Frame.enter
  dsimp only
  rw [h1, e1]
  simp only [Option.bind_some, h2, Option.getD_some]
  exact .cons (.code h3) .nil
theorem raise_run {f : Frame} (h : f.mode = .run) (c : List PanicEntry) : f.raise c = { f with mode := .panicking c } := by
 unfold Frame.raise
 rw [h]
theorem apply_out {f f' : Frame} {fs fs' : List Frame} (hf : FR P L F ρ f f') (hm : f.mode = .run) (hm' : f'.mode = .run) (hs : LR (CR P L F ρ) fs fs') (hb : botOk f fs) (hw : WR (cfg P L F) (fun c => okCode P L c = true) Poi Ro ρ v w)
  {s s' : Sem Next} (h : SR P (cfg P L F) (fun c => okCode P L c = true) Poi (NR P (cfg P L F) (fun c => okCode P L c = true)) ρ s s') :
  Out P L F Poi Ro base base' ρ v w (stepG.apply P true f (fs ++ base) none s v) (stepG.apply ((cfg P L F).here P) true f' (fs' ++ base') none s' w) := by
 have k1 : (f.kind == CallKind.early) = false := by rw [hf.kind]; rfl
 have k2 : (f'.kind == CallKind.early) = false := by rw [hf.kind']; rfl
 cases hr : s.run P v with
 | halt x v' =>
  obtain ⟨ho, σ, w', hle, hw'⟩ := h.halts hw hr
  unfold stepG.apply
  simp only [if_true, Sem.runT_eq, k1, hr]
  cases x with
  | panic u =>
   simp only [GStep.after]
   rw [raise_run hm]
   exact .bad (.mk (hf.mono hle |>.withMode (.panicking [{ v := u, recovered := false }]) (.panicking [])) rfl (hs.mono fun _ _ x => CR.mono hle x) hw')
  | stuck m => exact .ended
  | unsupported u =>
   cases u <;> first | exact .ended | exact absurd ho (by simp [HaltOk])
  | _ => exact absurd ho (by simp [HaltOk])
 | ok nx v' =>
  obtain ⟨σ, nx', w', es', g1, g2, g3, g4, g5, g6, g7⟩ := h.sound hw hr #[]
  have g2r : s'.run ((cfg P L F).here P) w = .ok nx' w' := by rw [← Sem.runT_fst ((cfg P L F).here P) s' w #[], g2]
  have g2e : s'.events ((cfg P L F).here P) w #[] = es' := by
   unfold Sem.events
   rw [g2]
   simp
  have he : ∀ e ∈ seen ((cfg P L F).here P) f'.fn es', EvOk Ro σ e := fun e he => g5 e (Go.Conc.mem_seen he)
  have hfσ := hf.mono g1
  have hsσ := hs.mono fun _ _ x => CR.mono g1 x
  unfold stepG.apply
  simp only [if_true, Sem.runT_eq, k1, k2, hr, g2r, g2e, Bool.false_eq_true, if_false]
  cases g3 with
  | @value u u' hu =>
   simp only [GStep.after]
   have hx := hfσ.finish hu
   refine .go g1 (.mk hx (by rw [Frame.finish_mode, Frame.finish_mode, hm, hm']) (.inl (by rw [Frame.finish_mode, hm])) hsσ (hb.top (Frame.finish_round _ _))) g4 (fun e h => ?_) g6 g7
   exact he e (by simpa using h)
  | skip =>
   simp only [GStep.after]
   have hx := hfσ.finish (v := undef) (v' := undef) VR.undef
   refine .go g1 (.mk hx (by rw [Frame.finish_mode, Frame.finish_mode, hm, hm']) (.inl (by rw [Frame.finish_mode, hm])) hsσ (hb.top (Frame.finish_round _ _))) g4 (fun e h => ?_) g6 g7
   exact he e (by simpa using h)
  | @enter g hg fn c h1 h1' h2 h3 a a' ha =>
   simp only [GStep.after]
   have e1 : (match f.todo with | .call _ true _ _ :: _ => CallKind.wrapped | _ => .normal) = .normal := by
    split
    ·rename_i h
     exact absurd h (no_call hf.todo).1
    ·rfl
   have e2 : (match f'.todo with | .call _ true _ _ :: _ => CallKind.wrapped | _ => .normal) = .normal := by
    split
    ·rename_i h
     exact absurd h (no_call hf.todo).2
    ·rfl
   have hx := enter_rel (P := P) hg h1 h1' h2 h3 ha
   have key : ∀ k k' : CallKind, k = .normal → k' = .normal → Out P L F Poi Ro base base' ρ v w (.go { frame := Frame.enter P g a k, callers := f :: (fs ++ base), status := .running, dying := none } v' (seen P f.fn (s.events P v #[]) ++ #[])) (.go { frame := Frame.enter ((cfg P L F).here P) g a' k', callers := f' :: (fs' ++ base'), status := .running, dying := none } w' (seen ((cfg P L F).here P) f'.fn es' ++ #[])) := by
    rintro k k' rfl rfl
    exact .go g1 (.mk (base := base) (base' := base') (fs := f :: fs) (fs' := f' :: fs') hx rfl (.inl rfl) (.cons ⟨hfσ, hm, hm'⟩ hsσ) (hb.push _)) g4 (fun e h => he e (by simpa using h)) g6 g7
   exact key _ _ e1 e2
  | @spec g a a' hg fn fn' c c' h1 h1' h2 h2' ha =>
   simp only [GStep.after]
   have e1 : (match f.todo with | .call _ true _ _ :: _ => CallKind.wrapped | _ => .normal) = .normal := by
    split
    ·rename_i h
     exact absurd h (no_call hf.todo).1
    ·rfl
   have e2 : (match f'.todo with | .call _ true _ _ :: _ => CallKind.wrapped | _ => .normal) = .normal := by
    split
    ·rename_i h
     exact absurd h (no_call hf.todo).2
    ·rfl
   have key : ∀ k k' : CallKind, k = .normal → k' = .normal → Out P L F Poi Ro base base' ρ v w (.go { frame := Frame.enter P g a k, callers := f :: (fs ++ base), status := .running, dying := none } v' (seen P f.fn (s.events P v #[]) ++ #[])) (.go { frame := Frame.enter ((cfg P L F).here P) g a' k', callers := f' :: (fs' ++ base'), status := .running, dying := none } w' (seen ((cfg P L F).here P) f'.fn es' ++ #[])) := by
    rintro k k' rfl rfl
    exact .spec g1 hg hfσ hm hm' hsσ hb ha g4 (fun e h => he e (by simpa using h)) g6 g7
   exact key _ _ e1 e2
  | @round l l' hl fn t t' ht a b ha hb' =>
   simp only [GStep.after]
   have hx : FR P L F σ (Frame.round l fn t a b .normal) (Frame.round l' fn t' a b .normal) := ⟨rfl, nofun, ht, .cons (.code ha) (.cons .beginRound (.cons (.code hb') .nil)), .nil, rfl, rfl, .some hl⟩
   exact .go g1 (.mk (base := base) (base' := base') (fs := f :: fs) (fs' := f' :: fs') hx rfl (.inl rfl) (.cons ⟨hfσ, hm, hm'⟩ hsσ) (hb.push _)) g4 (fun e h => he e (by simpa using h)) g6 g7
end
end Go.Proofs.Ytjgleaakgbnjgaa.Par
end

section
namespace Go.Proofs.Ytjgleaakgbnjgaa.Par
open Go
section
variable {P : Program} {L : Fns} {F : Array Func} {Poi Ro : Nat → Prop} {base base' : List Frame} {ρ : Emb} {v w : World}
theorem Out.still (hw : WR (cfg P L F) (fun c => okCode P L c = true) Poi Ro ρ v w) {g g' : Goroutine} (hg : GR P L F base base' ρ g g') : Out P L F Poi Ro base base' ρ v w (.go g v) (.go g' w) :=
 .go (Emb.le.refl _) hg hw (fun e h => by simp at h) (Fr.refl _ _) ⟨Nat.le_refl _, rfl, rfl⟩
theorem sr_endRound {N : Cfg} {ok : Code → Prop} {l l' : Nat} (h : ρ l = some l') {j : Option Code} (hj : ∀ c, j = some c → ok c) : SR P N ok Poi (RV N) ρ (Instr.endRound l j) (Instr.endRound l' j) := by
 unfold Instr.endRound
 refine (sr_getLoop h).bind fun σ r r' hσ e => ?_
 cases e with
 | loop hs hp hpo hfn ht hpa has hao hbo hbk hd =>
  refine .setObj (hσ _ _ h) (.loop (by rfl) (by rfl) hj hfn ht hpa has hao hbo hbk hd) ?_
  exact .pure (.bool _)
theorem sr_endLoop {N : Cfg} {ok : Code → Prop} {l l' : Nat} (h : ρ l = some l') : SR P N ok Poi (fun _ a b => a = b ∧ ∀ c, a = some c → ok c) ρ (Instr.endLoop l) (Instr.endLoop l') := by
 unfold Instr.endLoop
 refine (sr_getLoop h).bind fun σ r r' hσ e => ?_
 cases e with
 | loop hs hp hpo hfn ht hpa has hao hbo hbk hd =>
  rw [hs, hp]
  dsimp only
  split
  ·exact (sr_runtimePanic (A := fun _ _ _ => False) _ _).bind fun _ _ _ _ h => h.elim
  ·refine .setObj (hσ _ _ h) (.loop (by rfl) (by rfl) hpo hfn ht hpa has hao hbo hbk hd) ?_
   exact .pure ⟨rfl, hpo⟩
theorem sr_beginRound {N : Cfg} {ok : Code → Prop} {l l' : Nat} (h : ρ l = some l') : SR P N ok Poi (fun _ _ _ => True) ρ (Instr.beginRound l) (Instr.beginRound l') := by
 unfold Instr.beginRound
 refine (sr_getLoop h).bind fun σ r r' hσ e => ?_
 cases e with
 | loop hs hp hpo hfn ht hpa has hao hbo hbk hd =>
  rw [hs]
  refine .setObj (hσ _ _ h) (.loop (by rfl) hp hpo hfn ht hpa has hao hbo hbk hd) ?_
  split
  ·exact .pure trivial
  ·exact SR.bind (A := fun _ _ _ => True) (.pure trivial) fun _ _ _ _ _ => sr_runtimePanic _ _
  ·exact SR.bind (A := fun _ _ _ => True) (.pure trivial) fun _ _ _ _ _ => sr_runtimePanic _ _
  ·exact SR.bind (A := fun _ _ _ => True) (.pure trivial) fun _ _ _ _ _ => sr_runtimePanic _ _
theorem sr_takeDeferred {N : Cfg} {ok : Code → Prop} {r r' : Nat} (h : ρ r = some r') : SR P N ok Poi (fun _ a b => a = [] ∧ b = []) ρ (Instr.takeDeferred r) (Instr.takeDeferred r') := by
 unfold Instr.takeDeferred
 refine SR.bind (A := fun τ o o' => OR N ok τ o o') (.getObj h fun o o' ho => .pure ho) fun τ o o' hτ ho => ?_
 cases ho with
 | undeferred => exact .setObj (hτ _ _ h) .taken (.pure ⟨rfl, rfl⟩)
 | _ => exact sr_stuck _ _
theorem sr_enterLoop {N : Cfg} {ok : Code → Prop} (fn : FuncId) {t t' : Array Value} (ht : AR (VR N ρ) t t') (ps : Array Tmp) {a b : Code} (ha : ok a) (hb : ok b) {x x' : Option Nat} (hx : OptR ρ x x') :
  SR P N ok Poi (fun σ p q => σ p.1 = some q.1 ∧ LR (DR σ) p.2 q.2) ρ (Instr.enterLoop fn t ps a b x) (Instr.enterLoop fn t' ps a b x') := by
 unfold Instr.enterLoop
 have tail : ∀ {σ : Emb} {d d' : Nat} {m m' : List Deferred}, ρ.le σ → σ d = some d' → LR (DR σ) m m' → SR P N ok Poi (fun σ p q => σ p.1 = some q.1 ∧ LR (DR σ) p.2 q.2) σ
   (do pure (← newObj (.loop { state := .ready, pending := none, fn, tmps := t, params := ps, assign := a, body := b, defers := d }), m))
   (do pure (← newObj (.loop { state := .ready, pending := none, fn, tmps := t', params := ps, assign := a, body := b, defers := d' }), m')) := by
  intro σ d d' m m' hσ hd hm
  refine SR.bind (A := fun τ n r => τ n = some r) (.new (.loop rfl rfl nofun rfl (ht.mono fun _ _ y => y.mono hσ) rfl rfl ha rfl hb hd) fun n r hn hg => .pure (Emb.add_new _ _ _)) fun τ n r hτ hn => ?_
  exact .pure ⟨hn, hm.mono fun _ _ y => y.mono hτ⟩
 cases hx with
 | none =>
  dsimp only
  refine SR.bind (A := fun τ n r => τ n = some r) (.new .undeferred fun n r hn hg => .pure (Emb.add_new _ _ _)) fun τ n r hτ hn => ?_
  exact tail hτ hn (.cons (.mark hn) .nil)
 | @some l l' hl =>
  dsimp only
  refine (sr_getLoop hl).bind fun σ r r' hσ e => ?_
  cases e with
  | loop hs hp hpo hfn ht' hpa has hao hbo hbk hd => exact tail hσ hd .nil
end
end Go.Proofs.Ytjgleaakgbnjgaa.Par
end

section
namespace Go.Proofs.Ytjgleaakgbnjgaa.Par
open Go
section
theorem LR.append {α β : Type} {R : α → β → Prop} {l₁ l₂ : List α} {m₁ m₂ : List β} (h : LR R l₁ m₁) (h' : LR R l₂ m₂) : LR R (l₁ ++ l₂) (m₁ ++ m₂) := by
 induction h with
 | nil => exact h'
 | cons x _ ih => exact .cons x ih
theorem LR.reverse {α β : Type} {R : α → β → Prop} {l : List α} {m : List β} (h : LR R l m) : LR R l.reverse m.reverse := by
 induction h with
 | nil => exact .nil
 | cons x _ ih => rw [List.reverse_cons, List.reverse_cons]; exact ih.append (.cons x .nil)
theorem LR.length {α β : Type} {R : α → β → Prop} {l : List α} {m : List β} (h : LR R l m) : l.length = m.length := by
 induction h with
 | nil => rfl
 | cons _ _ ih => simp [ih]
theorem LR.get {α β : Type} {R : α → β → Prop} {l : List α} {m : List β} (h : LR R l m) : ∀ (i : Nat) (a : α) (b : β), l[i]? = some a → m[i]? = some b → R a b := by
 induction h with
 | nil => intro i a b h; simp at h
 | cons x _ ih =>
  intro i a b ha hb
  cases i with
  | zero =>
   simp only [List.getElem?_cons_zero, Option.some.injEq] at ha hb
   subst ha hb
   exact x
  | succ i => exact ih i a b (by simpa using ha) (by simpa using hb)
theorem LR.toArray {α β : Type} {R : α → β → Prop} {l : List α} {m : List β} (h : LR R l m) : AR R l.toArray m.toArray := ⟨by simpa using h.length, fun i a b ha hb => h.get i a b (by simpa using ha) (by simpa using hb)⟩
variable {P : Program} {N : Cfg} {ok : Code → Prop} {Poi : Nat → Prop} {ρ : Emb}
theorem sr_asAddr {v v' : Value} (h : VR N ρ v v') : SR P N ok Poi (fun σ a a' => AdR N σ a a') ρ (asAddr v) (asAddr v') := by
 unfold asAddr
 cases h with
 | ptr x g => exact .pure ⟨x, rfl, rfl, g⟩
 | nilPtr => exact sr_runtimePanic _ _
 | _ => exact sr_stuck _ _
theorem sr_mapM2 {α β γ : Type} {A : Emb → β → γ → Prop} (hA : ∀ {σ τ : Emb} {b : β} {c : γ}, σ.le τ → A σ b c → A τ b c) (f : α → Sem β) (f' : α → Sem γ) (xs : Array α) (hf : ∀ x σ, ρ.le σ → SR P N ok Poi A σ (f x) (f' x)) : SR P N ok Poi (fun σ a b => AR (A σ) a b) ρ (xs.mapM f) (xs.mapM f') := by
 have key : ∀ (l : List α) (acc : List β) (acc' : List γ) (σ : Emb), ρ.le σ → LR (A σ) acc acc' → SR P N ok Poi (fun τ a b => LR (A τ) a b) σ (List.mapM.loop f l acc) (List.mapM.loop f' l acc') := by
  intro l
  induction l with
  | nil => intro acc acc' σ _ h; exact .pure h.reverse
  | cons x l ih =>
   intro acc acc' σ hσ h
   show SR _ _ _ _ _ _ (f x >>= fun y => List.mapM.loop f l (y :: acc)) (f' x >>= fun y => List.mapM.loop f' l (y :: acc'))
   exact (hf x σ hσ).bind fun τ a b hτ hab => ih _ _ τ (hσ.trans hτ) (.cons hab (h.mono fun _ _ y => hA hτ y))
 rw [Array.mapM_eq_mapM_toList, Array.mapM_eq_mapM_toList]
 refine SR.bind (A := fun τ a b => LR (A τ) a b) (key xs.toList [] [] ρ (Emb.le.refl _) .nil) fun τ a b _ h => .pure h.toArray
theorem sr_results (fn : Func) {t t' : Array Value} (h : AR (VR N ρ) t t') : SR P N ok Poi (fun σ a b => VR N σ a b) ρ (results fn t) (results fn t') := by
 have hg : ∀ (i : Nat) {σ : Emb}, ρ.le σ → VR N σ (t.getD i undef) (t'.getD i undef) := by
  intro i σ hσ
  cases e : t[i]? with
  | none =>
   have e' := h.getNone e
   rw [Array.getD_eq_getD_getElem?, Array.getD_eq_getD_getElem?, e, e']
   exact VR.undef
  | some u =>
   obtain ⟨u', h1, h2⟩ := h.getSome e
   rw [Array.getD_eq_getD_getElem?, Array.getD_eq_getD_getElem?, e, h1]
   exact h2.mono hσ
 unfold results
 refine SR.bind (A := fun σ a b => AR (VR N σ) a b) (sr_mapM2 (fun h x => x.mono h) _ _ _ fun x σ hσ => ?_) fun σ a b hσ hab => .pure ?_
 ·cases x with
  | tmp i => exact .pure (hg i hσ)
  | cell i ty => exact (sr_asAddr (hg i hσ)).bind fun τ a a' _ ha => sr_loadVar ty ha
 ·by_cases hz : a.size = 1
  ·have hz' : b.size = 1 := by rw [← hab.1]; exact hz
   rw [dif_pos hz, dif_pos hz']
   exact hab.2 0 _ _ (Array.getElem?_eq_getElem (by omega)) (Array.getElem?_eq_getElem (by omega))
  ·have hz' : ¬b.size = 1 := by rw [← hab.1]; exact hz
   rw [dif_neg hz, dif_neg hz']
   exact .tuple hab.1 hab.2
end
section
variable {P : Program} {L : Fns} {F : Array Func} {Poi Ro : Nat → Prop} {base base' : List Frame} {ρ : Emb} {v w : World}
theorem doReturn_pop {m : Bool} {f c : Frame} {fs : List Frame} (k : f.kind = .normal) (u : Value) : doReturn P m f (c :: fs) none u v = .go { frame := c.finish u, callers := fs, status := .running, dying := none } v := by
 unfold doReturn
 simp only [k]
theorem ret_out {m m' : Bool} {f f' : Frame} {fs fs' : List Frame} (hf : FR P L F ρ f f') (hs : LR (CR P L F ρ) fs fs') (hb : botOk f fs) (hne : fs ≠ []) {σ : Emb} {v' w' : World} (g1 : ρ.le σ) (g4 : WR (cfg P L F) (fun c => okCode P L c = true) Poi Ro σ v' w')
  {u u' : Value} (hu : VR (cfg P L F) σ u u') (g6 : Fr Ro ρ σ w w') (g7 : v.heap.size ≤ v'.heap.size ∧ v'.os = v.os ∧ v'.output = v.output) {es es' : Array Event} (he : ∀ e ∈ es', EvOk Ro σ e) :
  Out P L F Poi Ro base base' ρ v w ((doReturn P m f (fs ++ base) none u v').after es) ((doReturn ((cfg P L F).here P) m' f' (fs' ++ base') none u' w').after es') := by
 cases hs with
 | nil => exact absurd rfl hne
 | cons hc ht =>
  rw [List.cons_append, List.cons_append, doReturn_pop hf.kind, doReturn_pop hf.kind']
  refine .go g1 (.mk ((hc.1.mono g1).finish hu) (by rw [Frame.finish_mode, Frame.finish_mode, hc.2.1, hc.2.2]) (.inl (by rw [Frame.finish_mode]; exact hc.2.1)) (ht.mono fun _ _ x => CR.mono g1 x) (hb.pop.top (Frame.finish_round _ _))) g4 (fun e h => he e (by simpa using h)) g6 g7
end
end Go.Proofs.Ytjgleaakgbnjgaa.Par
end

section
namespace Go.Proofs.Ytjgleaakgbnjgaa.Par
open Go
section
variable {P : Program} {L : Fns} {F : Array Func} {Poi Ro : Nat → Prop} {base base' : List Frame} {ρ : Emb} {v w : World}
theorem evNone {σ : Emb} : ∀ e ∈ (#[] : Array Event), EvOk Ro σ e := fun e h => by simp at h
theorem evSeen {σ : Emb} {fn : FuncId} {es : Array Event} (h : ∀ e ∈ es, EvOk Ro σ e) : ∀ e ∈ seen P fn es, EvOk Ro σ e := fun e he => h e (Go.Conc.mem_seen he)
theorem piece {α β : Type} {A : Emb → α → β → Prop} {s : Sem α} {s' : Sem β} (h : SR P (cfg P L F) (fun c => okCode P L c = true) Poi A ρ s s') (hw : WR (cfg P L F) (fun c => okCode P L c = true) Poi Ro ρ v w) {a : α} {v' : World} (hr : s.run P v = .ok a v') :
  ∃ σ b w', ρ.le σ ∧ s'.run ((cfg P L F).here P) w = .ok b w' ∧ A σ a b ∧ WR (cfg P L F) (fun c => okCode P L c = true) Poi Ro σ v' w' ∧ (∀ e ∈ s'.events ((cfg P L F).here P) w #[], EvOk Ro σ e) ∧ Fr Ro ρ σ w w' ∧ v.heap.size ≤ v'.heap.size ∧ v'.os = v.os ∧ v'.output = v.output := by
 obtain ⟨σ, b, w', es', g1, g2, g3, g4, g5, g6, g7⟩ := h.sound hw hr #[]
 have g2r : s'.run ((cfg P L F).here P) w = .ok b w' := by rw [← Sem.runT_fst ((cfg P L F).here P) s' w #[], g2]
 have g2e : s'.events ((cfg P L F).here P) w #[] = es' := by
  unfold Sem.events
  rw [g2]
  simp
 exact ⟨σ, b, w', g1, g2r, g3, g4, by rw [g2e]; exact g5, g6, g7⟩
variable {m m' : Bool} {f f' : Frame} {fs fs' : List Frame}
theorem Out.later {σ : Emb} {v' w' : World} (g1 : ρ.le σ) (g6 : Fr Ro ρ σ w w') (g7 : v.heap.size ≤ v'.heap.size ∧ v'.os = v.os ∧ v'.output = v.output) {es es' : Array Event} (he : ∀ e ∈ es', EvOk Ro σ e) {s s' : GStep} (h : Out P L F Poi Ro base base' σ v' w' s s') :
  Out P L F Poi Ro base base' ρ v w (s.after es) (s'.after es') := by
 cases h with
 | go le hg hw he2 hf hv =>
  refine .go (g1.trans le) hg hw (fun e h => ?_) (g6.trans hf) ⟨Nat.le_trans g7.1 hv.1, hv.2.1.trans g7.2.1, hv.2.2.trans g7.2.2⟩
  rw [Array.mem_append] at h
  rcases h with h | h
  ·exact (he e h).mono le
  ·exact he2 e h
 | spec le hg hf hm hm' hs hb ha hw he2 hr hv =>
  refine .spec (g1.trans le) hg hf hm hm' hs hb ha hw (fun e h => ?_) (g6.trans hr) ⟨Nat.le_trans g7.1 hv.1, hv.2.1.trans g7.2.1, hv.2.2.trans g7.2.2⟩
  rw [Array.mem_append] at h
  rcases h with h | h
  ·exact (he e h).mono le
  ·exact he2 e h
 | bad h => exact .bad h
 | ended => exact .ended
theorem exec_out (hN : FnsOk P L F (fun c => okCode P L c = true) Poi) (hP : ∀ g, g < P.globals.size → Poi g) (hf : FR P L F ρ f f') (hm : f.mode = .run) (hm' : f'.mode = .run) (hs : LR (CR P L F ρ) fs fs') (hb : botOk f fs)
  (hw : WR (cfg P L F) (fun c => okCode P L c = true) Poi Ro ρ v w) : Out P L F Poi Ro base base' ρ v w (stepG.exec P m true f (fs ++ base) none v) (stepG.exec ((cfg P L F).here P) m' true f' (fs' ++ base') none w) := by
 have tz : ∀ {t t' : List Item}, LR (IR P L ρ) t t' → Out P L F Poi Ro base base' ρ v w (.go { frame := { f with todo := t }, callers := fs ++ base, status := .running, dying := none } v) (.go { frame := { f' with todo := t' }, callers := fs' ++ base', status := .running, dying := none } w) :=
  fun ht => .still hw (.mk (hf.withTodo ht) (hm'.trans hm.symm) (.inl hm) hs (hb.top rfl))
 unfold stepG.exec
 have ht := hf.todo
 generalize e1 : f.todo = t at ht
 generalize e2 : f'.todo = t' at ht
 cases ht with
 | nil =>
  have hr := hf.round
  generalize e3 : f.roundOf = x at hr
  generalize e4 : f'.roundOf = x' at hr
  cases hr with
  | none =>
   first
   | exact .ended
   | exact .still hw (.mk ⟨hf.fn, fun _ => hf.nice e3, hf.tmps, (by first | exact .nil | exact .cons (.code hc) hk), hf.defers, hf.kind, hf.kind', .none⟩ rfl (.inr ⟨rfl, rfl⟩) hs (hb.top e3.symm))
  | @some l l' hl =>
   have hne : fs ≠ [] := by
    rintro rfl
    have := hb f rfl
    rw [e3] at this
    cases this
   dsimp only
   have key : ∀ (j : Option Code), (∀ c, j = some c → okCode P L c = true) → Out P L F Poi Ro base base' ρ v w
     (GStep.after (seen P f.fn ((Instr.endRound l j).runT P v #[]).2) (match ((Instr.endRound l j).runT P v #[]).1 with | .ok u w => doReturn P m f (fs ++ base) none u w | .halt _ w => .ended (.stuck "range over a function: no such loop" (f.pos P)) w))
     (GStep.after (seen ((cfg P L F).here P) f'.fn ((Instr.endRound l' j).runT ((cfg P L F).here P) w #[]).2) (match ((Instr.endRound l' j).runT ((cfg P L F).here P) w #[]).1 with | .ok u w => doReturn ((cfg P L F).here P) m' f' (fs' ++ base') none u w | .halt _ w => .ended (.stuck "range over a function: no such loop" (f'.pos ((cfg P L F).here P))) w)) := by
    intro j hj
    have hsr := sr_endRound (P := P) (N := cfg P L F) (ok := fun c => okCode P L c = true) (Poi := Poi) hl hj
    simp only [Sem.runT_eq]
    cases hr : (Instr.endRound l j).run P v with
    | halt y v' => exact .ended
    | ok u v' =>
     obtain ⟨σ, b, w', g1, g2, g3, g4, g5, g6, g7⟩ := piece hsr hw hr
     simp only [g2]
     exact ret_out hf hs hb hne g1 g4 g3 g6 g7 (evSeen g5)
   exact key _ (by
    intro c hc
    first
    | (cases hc; done)
    | (cases hc; rfl))
 | @cons i i' k k' hi hk =>
  cases hi with
  | @code c hc =>
   cases c with
   | skip => exact tz hk
   | seq a b =>
    simp only [okCode, Bool.and_eq_true] at hc
    exact tz (.cons (.code hc.1) (.cons (.code hc.2) hk))
   | cond c a b =>
    simp only [okCode, Bool.and_eq_true] at hc
    have hx := hf.eval c hc.1.1
    dsimp only
    generalize f.eval c = x at hx
    generalize f'.eval c = x' at hx
    cases hx with
    | bool b' =>
     refine tz (.cons (.code ?_) hk)
     cases b'
     ·exact hc.2
     ·exact hc.1.2
    | _ => exact .ended
   | block id b => exact tz (.cons (.code hc) (.cons (.inBlock id) hk))
   | loop b => exact tz (.cons (.code hc) (.cons (.inLoop hc) hk))
   | exit id =>
    dsimp only
    rcases exitTo_rel id hk with ⟨x1, x2⟩ | ⟨r, r', x1, x2, x3⟩
    ·rw [x1, x2]
     dsimp only [Option.elim]
     have hr := hf.round
     generalize e3 : f.roundOf = x at hr
     generalize e4 : f'.roundOf = x' at hr
     cases hr with
     | none =>
      first
      | exact .ended
      | exact .still hw (.mk ⟨hf.fn, fun _ => hf.nice e3, hf.tmps, (by first | exact .nil | exact .cons (.code hc) hk), hf.defers, hf.kind, hf.kind', .none⟩ rfl (.inr ⟨rfl, rfl⟩) hs (hb.top e3.symm))
     | @some l l' hl =>
      have hne : fs ≠ [] := by
       rintro rfl
       have := hb f rfl
       rw [e3] at this
       cases this
      dsimp only
      have key : ∀ (j : Option Code), (∀ c, j = some c → okCode P L c = true) → Out P L F Poi Ro base base' ρ v w
        (GStep.after (seen P f.fn ((Instr.endRound l j).runT P v #[]).2) (match ((Instr.endRound l j).runT P v #[]).1 with | .ok u w => doReturn P m f (fs ++ base) none u w | .halt _ w => .ended (.stuck "range over a function: no such loop" (f.pos P)) w))
        (GStep.after (seen ((cfg P L F).here P) f'.fn ((Instr.endRound l' j).runT ((cfg P L F).here P) w #[]).2) (match ((Instr.endRound l' j).runT ((cfg P L F).here P) w #[]).1 with | .ok u w => doReturn ((cfg P L F).here P) m' f' (fs' ++ base') none u w | .halt _ w => .ended (.stuck "range over a function: no such loop" (f'.pos ((cfg P L F).here P))) w)) := by
       intro j hj
       have hsr := sr_endRound (P := P) (N := cfg P L F) (ok := fun c => okCode P L c = true) (Poi := Poi) hl hj
       simp only [Sem.runT_eq]
       cases hr : (Instr.endRound l j).run P v with
       | halt y v' => exact .ended
       | ok u v' =>
        obtain ⟨σ, b, w', g1, g2, g3, g4, g5, g6, g7⟩ := piece hsr hw hr
        simp only [g2]
        exact ret_out hf hs hb hne g1 g4 g3 g6 g7 (evSeen g5)
      exact key _ (by
       intro c hc
       first
       | (cases hc; done)
       | (cases hc; rfl))
    ·rw [x1, x2]
     exact tz x3
   | ret =>
    have hr := hf.round
    generalize e3 : f.roundOf = x at hr
    generalize e4 : f'.roundOf = x' at hr
    cases hr with
    | none =>
     first
     | exact .ended
     | exact .still hw (.mk ⟨hf.fn, fun _ => hf.nice e3, hf.tmps, (by first | exact .nil | exact .cons (.code hc) hk), hf.defers, hf.kind, hf.kind', .none⟩ rfl (.inr ⟨rfl, rfl⟩) hs (hb.top e3.symm))
    | @some l l' hl =>
     have hne : fs ≠ [] := by
      rintro rfl
      have := hb f rfl
      rw [e3] at this
      cases this
     dsimp only
     have key : ∀ (j : Option Code), (∀ c, j = some c → okCode P L c = true) → Out P L F Poi Ro base base' ρ v w
       (GStep.after (seen P f.fn ((Instr.endRound l j).runT P v #[]).2) (match ((Instr.endRound l j).runT P v #[]).1 with | .ok u w => doReturn P m f (fs ++ base) none u w | .halt _ w => .ended (.stuck "range over a function: no such loop" (f.pos P)) w))
       (GStep.after (seen ((cfg P L F).here P) f'.fn ((Instr.endRound l' j).runT ((cfg P L F).here P) w #[]).2) (match ((Instr.endRound l' j).runT ((cfg P L F).here P) w #[]).1 with | .ok u w => doReturn ((cfg P L F).here P) m' f' (fs' ++ base') none u w | .halt _ w => .ended (.stuck "range over a function: no such loop" (f'.pos ((cfg P L F).here P))) w)) := by
      intro j hj
      have hsr := sr_endRound (P := P) (N := cfg P L F) (ok := fun c => okCode P L c = true) (Poi := Poi) hl hj
      simp only [Sem.runT_eq]
      cases hr : (Instr.endRound l j).run P v with
      | halt y v' => exact .ended
      | ok u v' =>
       obtain ⟨σ, b, w', g1, g2, g3, g4, g5, g6, g7⟩ := piece hsr hw hr
       simp only [g2]
       exact ret_out hf hs hb hne g1 g4 g3 g6 g7 (evSeen g5)
     exact key _ (by
      intro c hc
      first
      | (cases hc; done)
      | (cases hc; rfl))
   | rangeFunc g ps a b =>
    simp only [okCode, Bool.and_eq_true] at hc
    dsimp only
    have hsr := sr_enterLoop (P := P) (N := cfg P L F) (ok := fun c => okCode P L c = true) (Poi := Poi) f.fn hf.tmps ps hc.1.2 hc.2 hf.round
    simp only [Sem.runT_eq]
    rw [hf.fn]
    cases hr : (Instr.enterLoop f.fn f.tmps ps a b f.roundOf).run P v with
    | halt y v' => exact .ended
    | ok u v' =>
     obtain ⟨σ, u', w', g1, g2, g3, g4, g5, g6, g7⟩ := piece hsr hw hr
     simp only [g2]
     obtain ⟨l, mk⟩ := u
     obtain ⟨l', mk'⟩ := u'
     dsimp only at g3 ⊢
     refine Out.later g1 g6 g7 (evSeen g5) ?_
     have hf2 := hf.mono g1
     refine apply_out (f := { f with todo := .inRangeFunc l :: k, defers := mk ++ f.defers }) (f' := { f' with fn := f.fn, todo := .inRangeFunc l' :: k', defers := mk' ++ f'.defers }) ⟨rfl, hf2.nice, hf2.tmps, .cons (.inRangeFunc g3.1) (hk.mono fun _ _ x => x.mono g1), g3.2.append hf2.defers, hf2.kind, hf2.kind', hf2.round⟩ hm hm' (hs.mono fun _ _ x => CR.mono g1 x) (hb.top rfl) g4 ?_
     have ha : AR (VR (cfg P L F) σ) #[.func (.yield l) #[] #[]] #[.func (.yield l') #[] #[]] := AR.empty.push (VR.yield g3.1)
     refine sr_callValue hN.fns (hf2.eval g hc.1.1) ?_
     dsimp only
     rw [List.map_toArray, List.map_toArray]
     exact ha
   | region id ops draw =>
    dsimp only
    cases draw with
    | false => exact tz (.cons (.inRegion hc _) hk)
    | true =>
     simp only [Bool.not_true, Bool.false_eq_true, if_false]
     rw [hf.fn]
     have hsr : SR P (cfg P L F) (fun c => okCode P L c = true) Poi (fun _ a b => a = b) ρ (choose (.order f.fn id)) (choose (.order f.fn id)) := .choose fun n => .pure rfl
     cases hr : (choose (.order f.fn id)).run P v with
     | halt y v' => exact .ended
     | ok u v' =>
      obtain ⟨σ, u', w', g1, g2, g3, g4, g5, g6, g7⟩ := piece hsr hw hr
      subst g3
      simp only [g2]
      have hf2 := hf.mono g1
      exact .go g1 (.mk ⟨hf.fn ▸ rfl, hf2.nice, hf2.tmps, .cons (.inRegion hc _) (hk.mono fun _ _ x => x.mono g1), hf2.defers, hf2.kind, hf2.kind', hf2.round⟩ (hm'.trans hm.symm) (.inl hm) (hs.mono fun _ _ x => CR.mono g1 x) (hb.top rfl)) g4 evNone g6 g7
   | _ => cases hc
  | inBlock id => exact tz hk
  | inLoop h => exact tz (.cons (.code h) (.cons (.inLoop h) hk))
  | @inRegion ops ho todo =>
   cases todo with
   | nil => exact tz hk
   | cons i rest =>
    dsimp only
    rw [yielded_rel ops hf.tmps]
    split
    ·have hop : stepG.oper P true f (fs ++ base) none v = match ops[i]? with | none => .ended (.stuck "no operation here" (f.pos P)) v | some o => stepG.apply P true f (fs ++ base) none (execOp f.eval o) v := by
      unfold stepG.oper Frame.oper?
      rw [e1]
      dsimp only
      cases ho2 : ops[i]? with
      | none => rfl
      | some o =>
       dsimp only
       have : okOp P L o.op = true := by
        rw [Array.all_eq_true_iff_forall_mem] at ho
        exact ho o (Array.mem_of_getElem? ho2)
       split
       ·rename_i c _ h
        rw [h] at this
        cases this
       ·rfl
     have hop' : stepG.oper ((cfg P L F).here P) true f' (fs' ++ base') none w = match ops[i]? with | none => .ended (.stuck "no operation here" (f'.pos ((cfg P L F).here P))) w | some o => stepG.apply ((cfg P L F).here P) true f' (fs' ++ base') none (execOp f'.eval o) w := by
      unfold stepG.oper Frame.oper?
      rw [e2]
      dsimp only
      cases ho2 : ops[i]? with
      | none => rfl
      | some o =>
       dsimp only
       have : okOp P L o.op = true := by
        rw [Array.all_eq_true_iff_forall_mem] at ho
        exact ho o (Array.mem_of_getElem? ho2)
       split
       ·rename_i c _ h
        rw [h] at this
        cases this
       ·rfl
     rw [hop, hop']
     cases ho2 : ops[i]? with
     | none => exact .ended
     | some o =>
      have h2 : okOp P L o.op = true := by
       rw [Array.all_eq_true_iff_forall_mem] at ho
       exact ho o (Array.mem_of_getElem? ho2)
      exact apply_out hf hm hm' hs hb hw (sr_execOp hN hP hf.eval (fun g => rfl) (fun g => ⟨rfl, rfl⟩) h2)
    ·refine .still hw (.mk (hf.finish .undef) ?_ ?_ hs (hb.top (Frame.finish_round _ _)))
     ·rw [Frame.finish_mode, Frame.finish_mode, hm, hm']
     ·rw [Frame.finish_mode, hm]
      exact .inl rfl
  | @inRangeFunc l l' h => exact .ended
  | @endRangeFunc l l' h =>
   dsimp only
   have hsr := sr_endLoop (P := P) (N := cfg P L F) (ok := fun c => okCode P L c = true) (Poi := Poi) h
   simp only [Sem.runT_eq]
   cases hr : (Instr.endLoop l).run P v with
   | halt y v' =>
    obtain ⟨ho, σ, w', hle, hw'⟩ := hsr.halts hw hr
    cases y with
    | panic u =>
     simp only [GStep.after]
     rw [raise_run hm]
     exact .bad (.mk ⟨hf.fn, hf.nice, hf.tmps.mono fun _ _ x => x.mono hle, hf.todo.mono fun _ _ x => x.mono hle, hf.defers.mono fun _ _ x => x.mono hle, hf.kind, hf.kind', hf.round.mono hle⟩ rfl (hs.mono fun _ _ x => CR.mono hle x) hw')
    | _ => exact .ended
   | ok u v' =>
    obtain ⟨σ, u', w', g1, g2, g3, g4, g5, g6, g7⟩ := piece hsr hw hr
    simp only [g2]
    obtain ⟨rfl, hu⟩ := g3
    have hf2 := hf.mono g1
    refine .go g1 (.mk ⟨hf2.fn, hf2.nice, hf2.tmps, LR.append ?_ (hk.mono fun _ _ x => x.mono g1), hf2.defers, hf2.kind, hf2.kind', hf2.round⟩ (hm'.trans hm.symm) (.inl hm) (hs.mono fun _ _ x => CR.mono g1 x) (hb.top rfl)) g4 (fun e h => evSeen g5 e (by simpa using h)) g6 g7
    cases u with
    | none => exact .nil
    | some c => exact .cons (.code (hu c rfl)) .nil
  | beginRound =>
   refine apply_out hf hm hm' hs hb hw ?_
   refine SR.bind (A := fun _ _ _ => True) ?_ fun _ _ _ _ _ => .pure .skip
   have hr := hf.round
   generalize f.roundOf = x at hr
   generalize f'.roundOf = x' at hr
   cases hr with
   | none => exact sr_stuck _ _
   | some hl => exact sr_beginRound hl
end
end Go.Proofs.Ytjgleaakgbnjgaa.Par
end

section
namespace Go.Proofs.Ytjgleaakgbnjgaa.Par
open Go
section
variable {P : Program} {L : Fns} {F : Array Func} {Poi Ro : Nat → Prop} {base base' : List Frame} {ρ : Emb} {v w : World} {m m' : Bool} {f f' : Frame} {fs fs' : List Frame}
theorem unwind_out (hN : FnsOk P L F (fun c => okCode P L c = true) Poi) (hf : FR P L F ρ f f') (hm : f.mode = .returning) (hr0 : f.roundOf = none) (hm' : f'.mode = .returning) (hs : LR (CR P L F ρ) fs fs') (hb : botOk f fs)
  (hw : WR (cfg P L F) (fun c => okCode P L c = true) Poi Ro ρ v w) (hne : f.defers = [] → fs ≠ []) : Out P L F Poi Ro base base' ρ v w (unwind P m f (fs ++ base) none v) (unwind ((cfg P L F).here P) m' f' (fs' ++ base') none w) := by
 unfold unwind
 have hd := hf.defers
 generalize e1 : f.defers = d at hd
 generalize e2 : f'.defers = d' at hd
 cases hd with
 | nil =>
  dsimp only
  rw [hm, hm', hf.fn]
  dsimp only
  obtain ⟨fn, hfn, hfn', -⟩ := hN.fns _ (hf.nice hr0)
  have hfn' : ((cfg P L F).here P).funcs[f.fn]? = some fn := hfn'
  simp only [hfn, hfn', Sem.runT_eq]
  have hsr := sr_results (P := P) (ok := fun c => okCode P L c = true) (Poi := Poi) fn hf.tmps
  cases hr : (results fn f.tmps).run P v with
  | halt y v' => cases y <;> exact .ended
  | ok u v' =>
   obtain ⟨σ, b, w', g1, g2, g3, g4, g5, g6, g7⟩ := piece hsr hw hr
   simp only [g2]
   exact ret_out hf hs hb (hne e1) g1 g4 g3 g6 g7 (evSeen g5)
 | cons hx ht =>
  cases hx with
  | @mark r r' h =>
   dsimp only
   have hsr := sr_takeDeferred (P := P) (N := cfg P L F) (ok := fun c => okCode P L c = true) (Poi := Poi) h
   simp only [Sem.runT_eq]
   cases hr : (Instr.takeDeferred r).run P v with
   | halt y v' => exact .ended
   | ok u v' =>
    obtain ⟨σ, b, w', g1, g2, g3, g4, g5, g6, g7⟩ := piece hsr hw hr
    obtain ⟨rfl, rfl⟩ := g3
    simp only [g2]
    have hf2 := hf.mono g1
    exact .go g1 (.mk ⟨hf2.fn, hf2.nice, hf2.tmps, hf2.todo, ht.mono fun _ _ x => x.mono g1, hf2.kind, hf2.kind', hf2.round⟩ (hm'.trans hm.symm) (.inr ⟨hm, hr0⟩) (hs.mono fun _ _ x => CR.mono g1 x) (hb.top rfl)) g4 (fun e h => evSeen g5 e (by simpa using h)) g6 g7
def Home (base : List Frame) (g : Goroutine) : Prop := g.callers = base ∧ g.frame.mode = .returning ∧ g.frame.defers = []
theorem exec_home {g : Goroutine} (h : ¬Home base g) {fs : List Frame} (hc : g.callers = fs ++ base) (hm : g.frame.mode = .returning) : g.frame.defers = [] → fs ≠ [] := by
 rintro hd rfl
 exact h ⟨hc, hm, hd⟩
theorem step_out (hN : FnsOk P L F (fun c => okCode P L c = true) Poi) (hP : ∀ g, g < P.globals.size → Poi g) {g g' : Goroutine} (hg : GR P L F base base' ρ g g') (hw : WR (cfg P L F) (fun c => okCode P L c = true) Poi Ro ρ v w) (hh : ¬Home base g) :
  Out P L F Poi Ro base base' ρ v w (stepG P m g v) (stepG ((cfg P L F).here P) m' g' w) := by
 cases hg with
 | @mk f f' fs fs' hf hm hr hs hb =>
  rcases hr with hr | ⟨hr, hr0⟩
  ·unfold stepG
   rw [hr] at hm
   simp only [hr, hm]
   exact exec_out hN hP hf hr hm hs hb hw
  ·unfold stepG
   have hm' := hm.trans hr
   simp only [hr, hm']
   exact unwind_out hN hf hr hr0 hm' hs hb hw (exec_home hh rfl hr)
end
end Go.Proofs.Ytjgleaakgbnjgaa.Par
end

section
namespace Go.Proofs.Ytjgleaakgbnjgaa.Par
open Go
def _root_.Go.World.re (w : World) (t : Nat → Question → Nat) (d : Nat) : World := { w with tape := t, drawn := d }
def Agree (v v' : World) (t : Nat → Question → Nat) (d : Nat) : Prop := ∀ k q, v.drawn + k < v'.drawn → t (d + k) q = v.tape (v.drawn + k) q
section
variable {P : Program} {N : Cfg} {ok : Code → Prop} {Poi Ro : Nat → Prop}
theorem SR.retape {α β : Type} {A : Emb → α → β → Prop} {ρ : Emb} {s : Sem α} {s' : Sem β} (h : SR P N ok Poi A ρ s s') : ∀ {v w : World} {a : α} {v' : World}, WR N ok Poi Ro ρ v w → s.run P v = .ok a v' →
  v.drawn ≤ v'.drawn ∧ v'.tape = v.tape ∧ ∀ t d, Agree v v' t d → s.run P (v.re t d) = .ok a (v'.re t (d + (v'.drawn - v.drawn))) := by
 induction h with
 | pure y =>
  intro v w x v' _ hr
  simp only [Sem.run, Result.ok.injEq] at hr
  obtain ⟨rfl, rfl⟩ := hr
  exact ⟨Nat.le_refl _, rfl, fun t d _ => by simp [Sem.run, World.re]⟩
 | @load ρ m a b k k' y _ ih =>
  intro v w x v' hw hr
  simp only [Sem.run] at hr
  cases hc : v.cell? a with
  | none =>
   obtain ⟨z, hz, h⟩ := (stuckAt (P := P) hw (.inl ⟨b, y⟩) (m == .atomic)).1
   rw [hc] at hr
   simp only [hz] at hr
   cases hr
  | some u =>
   rw [hc] at hr
   obtain ⟨u', _, h2⟩ := hw.cell y hc
   obtain ⟨i1, i2, i3⟩ := ih u u' h2 hw hr
   refine ⟨i1, i2, fun t d hd => ?_⟩
   have hc' : (v.re t d).cell? a = some u := hc
   simp only [Sem.run, hc']
   exact i3 t d hd
 | @loadPoison ρ m a k t' y =>
  intro v w x v' hw hr
  have h1 := (hw.poison (P := P) y (m == .atomic)).1
  obtain ⟨z, hz, h⟩ := (stuckAt (P := P) hw (.inr y) (m == .atomic)).1
  simp only [Sem.run, h1, hz] at hr
  cases hr
 | @store ρ m a b u u' k k' y hu _ ih =>
  intro v w x v' hw hr
  cases hc : v.cell? a with
  | none =>
   obtain ⟨z, hz, h⟩ := (stuckAt (P := P) hw (.inl ⟨b, y⟩) (m == .atomic)).2 u
   cases u <;> simp only [Sem.run, hc, hz] at hr <;> cases hr
  | some z =>
   by_cases hf : v.frozen? a = true
   ·cases u <;> simp only [Sem.run, hc, hf, if_true] at hr <;> cases hr
   ·have hf : v.frozen? a = false := by simpa using hf
    have nr := hw.notRo hc hf
    have key : k.run P (v.setCell a u) = .ok x v' := by
     cases u <;> simp only [Sem.run, hc, hf, Bool.false_eq_true, if_false] at hr <;> first | exact hr | cases hr
    obtain ⟨i1, i2, i3⟩ := ih (hw.store y hu nr) key
    refine ⟨i1, i2, fun t d hd => ?_⟩
    have hc' : (v.re t d).cell? a = some z := hc
    have hf' : (v.re t d).frozen? a = false := hf
    have e : (Sem.store m a u k).run P (v.re t d) = k.run P ((v.re t d).setCell a u) := by
     cases u <;> first | (simp only [Sem.run, hc', hf', Bool.false_eq_true, if_false]; done) | (simp only [Sem.run] at hr; cases hr)
    rw [e]
    exact i3 t d hd
 | @new ρ o o' k k' ho _ ih =>
  intro v w x v' hw hr
  simp only [Sem.run] at hr
  obtain ⟨i1, i2, i3⟩ := ih v.heap.size w.heap.size hw.fresh hw.gsize (hw.new ho) hr
  exact ⟨i1, i2, fun t d hd => i3 t d hd⟩
 | @shape ρ r r' k k' y _ ih =>
  intro v w x v' hw hr
  simp only [Sem.run] at hr
  obtain ⟨i1, i2, i3⟩ := ih (v.shape? r) hw hr
  exact ⟨i1, i2, fun t d hd => i3 t d hd⟩
 | @getObj ρ r r' k k' y _ ih =>
  intro v w x v' hw hr
  obtain ⟨o, o', h1, h2, ho⟩ := hw.dom _ _ y
  have nc : ∀ c e fr, o ≠ .cells c e fr := by
   rintro c e fr rfl
   simp only [Sem.run, h1] at hr
   cases hr
  have e : ∀ u : World, u.heap[r]? = some o → (Sem.getObj r k).run P u = (k o).run P u := by
   intro u hu
   cases o <;> first | (simp only [Sem.run, hu]; done) | exact absurd rfl (nc _ _ _)
  rw [e v h1] at hr
  obtain ⟨i1, i2, i3⟩ := ih _ _ ho hw hr
  exact ⟨i1, i2, fun t d hd => (e (v.re t d) h1).trans (i3 t d hd)⟩
 | @setObj ρ r r' o o' k k' y ho _ ih =>
  intro v w x v' hw hr
  obtain ⟨z, z', h1, h2, hz⟩ := hw.dom _ _ y
  have nc : ∀ c e fr, z ≠ .cells c e fr := by
   rintro c e fr rfl
   simp only [Sem.run, h1] at hr
   cases hr
  have e : ∀ u : World, u.heap[r]? = some z → (Sem.setObj r o k).run P u = k.run P { u with heap := u.heap.setIfInBounds r o } := by
   intro u hu
   cases z <;> first | (simp only [Sem.run, hu]; done) | exact absurd rfl (nc _ _ _)
  rw [e v h1] at hr
  obtain ⟨i1, i2, i3⟩ := ih (hw.setObj y h1 nc ho) hr
  exact ⟨i1, i2, fun t d hd => (e (v.re t d) h1).trans (i3 t d hd)⟩
 | @choose ρ q k k' _ ih =>
  intro v w x v' hw hr
  simp only [Sem.run] at hr
  split at hr <;> rename_i hq
  ·obtain ⟨i1, i2, i3⟩ := ih 0 hw hr
   refine ⟨i1, i2, fun t d hd => ?_⟩
   simp only [Sem.run]
   rw [if_pos hq]
   exact i3 t d hd
  ·have hw' : WR N ok Poi Ro ρ { v with drawn := v.drawn + 1 } { w with drawn := v.drawn + 1 } := ⟨hw.dom, hw.inj, hw.poi, hw.ro, hw.glob, hw.gsize, hw.tape, rfl, hw.globR, hw.gsizeR⟩
   obtain ⟨i1, i2, i3⟩ := ih _ hw' hr
   dsimp only at i1 i2
   refine ⟨Nat.le_of_succ_le i1, i2, fun t d hd => ?_⟩
   simp only [Sem.run]
   rw [if_neg hq]
   have e0 : (v.re t d).tape (v.re t d).drawn q = v.tape v.drawn q := hd 0 q i1
   rw [e0]
   have h3 := i3 t (d + 1) (fun k q hk => by
    have := hd (k + 1) q (by dsimp only at hk; omega)
    show t (d + 1 + k) q = v.tape (v.drawn + 1 + k) q
    rw [show d + 1 + k = d + (k + 1) by omega, show v.drawn + 1 + k = v.drawn + (k + 1) by omega]
    exact this)
   rw [show d + (v'.drawn - v.drawn) = d + 1 + (v'.drawn - (v.drawn + 1)) by omega]
   exact h3
 | @program ρ k k' _ ih =>
  intro v w x v' hw hr
  simp only [Sem.run] at hr
  exact ih hw hr
 | @progL ρ k t' _ ih =>
  intro v w x v' hw hr
  simp only [Sem.run] at hr
  exact ih hw hr
 | @mark ρ m k k' y _ ih =>
  intro v w x v' hw hr
  simp only [Sem.run] at hr
  exact ih hw hr
 | halt y =>
  intro v w x v' hw hr
  simp only [Sem.run] at hr
  cases hr
 | doom y =>
  intro v w x v' hw hr
  obtain ⟨z, w', h, hz, g⟩ := y v
  rw [h] at hr
  cases hr
end
end Go.Proofs.Ytjgleaakgbnjgaa.Par
end

section
namespace Go.Proofs.Ytjgleaakgbnjgaa.Par
open Go
section
variable {P : Program} {L : Fns} {F : Array Func} {Poi Ro : Nat → Prop} {base base' : List Frame} {ρ : Emb} {v w : World} {f f' : Frame} {fs fs' cs : List Frame} {m : Bool}
def Again (P : Program) (S : World → GStep) (v : World) : Prop :=
 ∀ g₁ v₁ es, S v = .go g₁ v₁ es → (∀ c, g₁.frame.mode ≠ .panicking c) → v.drawn ≤ v₁.drawn ∧ v₁.tape = v.tape ∧ ∀ t d, Agree v v₁ t d → ∃ es', S (v.re t d) = .go g₁ (v₁.re t (d + (v₁.drawn - v.drawn))) es'
theorem Again.still {S : World → GStep} {g : Goroutine} (h : ∀ u, S u = .go g u) : Again P S v := by
 intro g₁ v₁ es hs _
 rw [h] at hs
 simp only [GStep.go.injEq] at hs
 obtain ⟨rfl, rfl, rfl⟩ := hs
 refine ⟨Nat.le_refl _, rfl, fun t d _ => ⟨#[], ?_⟩⟩
 rw [h, Nat.sub_self]
 rfl
theorem Again.ended {S : World → GStep} (h : ∃ o u es, S v = .ended o u es) : Again P S v := by
 intro g₁ v₁ es hs _
 obtain ⟨o, u, es', h⟩ := h
 rw [h] at hs
 cases hs
theorem Again.piece {α β : Type} {A : Emb → α → β → Prop} {s : Sem α} {s' : Sem β} (h : SR P (cfg P L F) (fun c => okCode P L c = true) Poi A ρ s s') (hw : WR (cfg P L F) (fun c => okCode P L c = true) Poi Ro ρ v w) {S : World → GStep} {K : α → Goroutine}
  (hok : ∀ u a u', s.run P u = .ok a u' → ∃ es, S u = .go (K a) u' es) (hno : ∀ x u', s.run P v = .halt x u' → (∃ o u es, S v = .ended o u es) ∨ ∃ g u es c, S v = .go g u es ∧ g.frame.mode = .panicking c) : Again P S v := by
 intro g₁ v₁ es hs hnb
 cases hr : s.run P v with
 | halt x u' =>
  rcases hno x u' hr with ⟨o, u, es', e⟩ | ⟨g, u, es', c, e, hc⟩
  ·rw [e] at hs
   cases hs
  ·rw [e] at hs
   simp only [GStep.go.injEq] at hs
   obtain ⟨rfl, rfl, rfl⟩ := hs
   exact absurd hc (hnb c)
 | ok a u' =>
  obtain ⟨es', e⟩ := hok v a u' hr
  rw [e] at hs
  simp only [GStep.go.injEq] at hs
  obtain ⟨rfl, rfl, rfl⟩ := hs
  obtain ⟨i1, i2, i3⟩ := h.retape hw hr
  exact ⟨i1, i2, fun t d hd => hok _ _ _ (i3 t d hd)⟩
theorem apply_again (hf : FR P L F ρ f f') (hm : f.mode = .run) (hw : WR (cfg P L F) (fun c => okCode P L c = true) Poi Ro ρ v w) {s s' : Sem Next} (h : SR P (cfg P L F) (fun c => okCode P L c = true) Poi (NR P (cfg P L F) (fun c => okCode P L c = true)) ρ s s') :
  Again P (fun u => stepG.apply P true f cs none s u) v := by
 have k1 : (f.kind == CallKind.early) = false := by rw [hf.kind]; rfl
 intro g₁ v₁ es hs hnb
 dsimp only at hs ⊢
 cases hr : s.run P v with
 | halt x v' =>
  obtain ⟨ho, -⟩ := h.halts hw hr
  unfold stepG.apply at hs
  simp only [if_true, Sem.runT_eq, k1, hr] at hs
  cases x with
  | panic u =>
   simp only [GStep.after, GStep.go.injEq] at hs
   rw [raise_run hm] at hs
   exact absurd (by rw [← hs.1]) (hnb [{ v := u, recovered := false }])
  | stuck m => cases hs
  | unsupported u => cases u <;> first | (cases hs; done) | exact absurd ho (by simp [HaltOk])
  | _ => exact absurd ho (by simp [HaltOk])
 | ok nx v' =>
  obtain ⟨σ, nx', w', es', g1, g2, g3, g4, g5, g6, g7⟩ := h.sound hw hr #[]
  obtain ⟨i1, i2, i3⟩ := h.retape hw hr
  have key : ∀ g, (∀ u u', s.run P u = .ok nx u' → ∃ es, stepG.apply P true f cs none s u = .go g u' es) → v.drawn ≤ v₁.drawn ∧ v₁.tape = v.tape ∧ ∀ t d, Agree v v₁ t d → ∃ es', stepG.apply P true f cs none s (v.re t d) = .go g₁ (v₁.re t (d + (v₁.drawn - v.drawn))) es' := by
   intro g hg
   obtain ⟨es'', e⟩ := hg v v' hr
   rw [e] at hs
   simp only [GStep.go.injEq] at hs
   obtain ⟨rfl, rfl, rfl⟩ := hs
   exact ⟨i1, i2, fun t d hd => hg _ _ (i3 t d hd)⟩
  cases g3 with
  | @value u u' hu =>
   refine key { frame := f.finish u, callers := cs, status := .running, dying := none } fun x x' hx => ?_
   unfold stepG.apply
   simp only [if_true, Sem.runT_eq, k1, hx, Bool.false_eq_true, if_false, GStep.after]
   exact ⟨_, rfl⟩
  | skip =>
   refine key { frame := f.finish undef, callers := cs, status := .running, dying := none } fun x x' hx => ?_
   unfold stepG.apply
   simp only [if_true, Sem.runT_eq, k1, hx, Bool.false_eq_true, if_false, GStep.after]
   exact ⟨_, rfl⟩
  | @enter g hg fn c h1 h1' h2 h3 a a' ha =>
   refine key { frame := Frame.enter P g a (match f.todo with | .call _ true _ _ :: _ => .wrapped | _ => .normal), callers := f :: cs, status := .running, dying := none } fun x x' hx => ?_
   unfold stepG.apply
   simp only [if_true, Sem.runT_eq, k1, hx, Bool.false_eq_true, if_false, GStep.after]
   exact ⟨_, rfl⟩
  | @spec g a a' hg fn fn' c c' h1 h1' h2 h2' ha =>
   refine key { frame := Frame.enter P g a (match f.todo with | .call _ true _ _ :: _ => .wrapped | _ => .normal), callers := f :: cs, status := .running, dying := none } fun x x' hx => ?_
   unfold stepG.apply
   simp only [if_true, Sem.runT_eq, k1, hx, Bool.false_eq_true, if_false, GStep.after]
   exact ⟨_, rfl⟩
  | @round l l' hl fn t t' ht a b ha hb' =>
   refine key { frame := Frame.round l fn t a b .normal, callers := f :: cs, status := .running, dying := none } fun x x' hx => ?_
   unfold stepG.apply
   simp only [if_true, Sem.runT_eq, k1, hx, Bool.false_eq_true, if_false, GStep.after]
   exact ⟨_, rfl⟩
end
end Go.Proofs.Ytjgleaakgbnjgaa.Par
end

section
namespace Go.Proofs.Ytjgleaakgbnjgaa.Par
open Go
section
variable {P : Program} {L : Fns} {F : Array Func} {Poi Ro : Nat → Prop} {base base' : List Frame} {ρ : Emb} {v w : World} {f f' : Frame} {fs fs' cs : List Frame} {m : Bool}
theorem exec_again (hN : FnsOk P L F (fun c => okCode P L c = true) Poi) (hP : ∀ g, g < P.globals.size → Poi g) (hf : FR P L F ρ f f') (hm : f.mode = .run) (hs : LR (CR P L F ρ) fs fs') (hb : botOk f fs)
  (hw : WR (cfg P L F) (fun c => okCode P L c = true) Poi Ro ρ v w) : Again P (fun u => stepG.exec P m true f (fs ++ base) none u) v := by
 unfold stepG.exec
 have ht := hf.todo
 generalize e1 : f.todo = t at ht
 generalize e2 : f'.todo = t' at ht
 cases ht with
 | nil =>
   have hr := hf.round
   generalize e3 : f.roundOf = x at hr
   generalize e4 : f'.roundOf = x' at hr
   cases hr with
   | none =>
    first
    | exact .ended ⟨_, _, _, rfl⟩
    | exact .still fun u => rfl
   | @some l l' hl =>
    have hne : fs ≠ [] := by
     rintro rfl
     have := hb f rfl
     rw [e3] at this
     cases this
    cases hs with
    | nil => exact absurd rfl hne
    | @cons c c' ls ls' hc hls =>
     dsimp only
     have key : ∀ (j : Option Code), (∀ c, j = some c → okCode P L c = true) → Again P (fun u => GStep.after (seen P f.fn ((Instr.endRound l j).runT P u #[]).2) (match ((Instr.endRound l j).runT P u #[]).1 with | .ok x u => doReturn P m f (c :: ls ++ base) none x u | .halt _ u => .ended (.stuck "range over a function: no such loop" (f.pos P)) u)) v := by
      intro j hj
      have hsr := sr_endRound (P := P) (N := cfg P L F) (ok := fun c => okCode P L c = true) (Poi := Poi) hl hj
      refine Again.piece (K := fun x => { frame := c.finish x, callers := ls ++ base, status := .running, dying := none }) hsr hw (fun u a u' hu => ?_) (fun x u' hu => ?_)
      ·simp only [Sem.runT_eq, hu]
       rw [List.cons_append, doReturn_pop hf.kind]
       exact ⟨_, rfl⟩
      ·simp only [Sem.runT_eq, hu]
       exact .inl ⟨_, _, _, rfl⟩
     exact key _ (by
      intro c hc
      first
      | (cases hc; done)
      | (cases hc; rfl))
 | @cons i i' k k' hi hk =>
  cases hi with
  | @code c hc =>
   cases c with
   | skip => exact .still fun u => rfl
   | seq a b => exact .still fun u => rfl
   | cond c a b =>
    simp only [okCode, Bool.and_eq_true] at hc
    have hx := hf.eval c hc.1.1
    dsimp only
    generalize f.eval c = x at hx
    generalize f'.eval c = x' at hx
    cases hx with
    | bool b' => exact .still fun u => rfl
    | _ => exact .ended ⟨_, _, _, rfl⟩
   | block id b => exact .still fun u => rfl
   | loop b => exact .still fun u => rfl
   | exit id =>
    dsimp only
    rcases exitTo_rel id hk with ⟨x1, x2⟩ | ⟨r, r', x1, x2, x3⟩
    ·rw [x1]
     dsimp only [Option.elim]
     have hr := hf.round
     generalize e3 : f.roundOf = x at hr
     generalize e4 : f'.roundOf = x' at hr
     cases hr with
     | none =>
      first
      | exact .ended ⟨_, _, _, rfl⟩
      | exact .still fun u => rfl
     | @some l l' hl =>
      have hne : fs ≠ [] := by
       rintro rfl
       have := hb f rfl
       rw [e3] at this
       cases this
      cases hs with
      | nil => exact absurd rfl hne
      | @cons c c' ls ls' hc hls =>
       dsimp only
       have key : ∀ (j : Option Code), (∀ c, j = some c → okCode P L c = true) → Again P (fun u => GStep.after (seen P f.fn ((Instr.endRound l j).runT P u #[]).2) (match ((Instr.endRound l j).runT P u #[]).1 with | .ok x u => doReturn P m f (c :: ls ++ base) none x u | .halt _ u => .ended (.stuck "range over a function: no such loop" (f.pos P)) u)) v := by
        intro j hj
        have hsr := sr_endRound (P := P) (N := cfg P L F) (ok := fun c => okCode P L c = true) (Poi := Poi) hl hj
        refine Again.piece (K := fun x => { frame := c.finish x, callers := ls ++ base, status := .running, dying := none }) hsr hw (fun u a u' hu => ?_) (fun x u' hu => ?_)
        ·simp only [Sem.runT_eq, hu]
         rw [List.cons_append, doReturn_pop hf.kind]
         exact ⟨_, rfl⟩
        ·simp only [Sem.runT_eq, hu]
         exact .inl ⟨_, _, _, rfl⟩
       exact key _ (by
        intro c hc
        first
        | (cases hc; done)
        | (cases hc; rfl))
    ·rw [x1]
     exact .still fun u => rfl
   | ret =>
     have hr := hf.round
     generalize e3 : f.roundOf = x at hr
     generalize e4 : f'.roundOf = x' at hr
     cases hr with
     | none =>
      first
      | exact .ended ⟨_, _, _, rfl⟩
      | exact .still fun u => rfl
     | @some l l' hl =>
      have hne : fs ≠ [] := by
       rintro rfl
       have := hb f rfl
       rw [e3] at this
       cases this
      cases hs with
      | nil => exact absurd rfl hne
      | @cons c c' ls ls' hc hls =>
       dsimp only
       have key : ∀ (j : Option Code), (∀ c, j = some c → okCode P L c = true) → Again P (fun u => GStep.after (seen P f.fn ((Instr.endRound l j).runT P u #[]).2) (match ((Instr.endRound l j).runT P u #[]).1 with | .ok x u => doReturn P m f (c :: ls ++ base) none x u | .halt _ u => .ended (.stuck "range over a function: no such loop" (f.pos P)) u)) v := by
        intro j hj
        have hsr := sr_endRound (P := P) (N := cfg P L F) (ok := fun c => okCode P L c = true) (Poi := Poi) hl hj
        refine Again.piece (K := fun x => { frame := c.finish x, callers := ls ++ base, status := .running, dying := none }) hsr hw (fun u a u' hu => ?_) (fun x u' hu => ?_)
        ·simp only [Sem.runT_eq, hu]
         rw [List.cons_append, doReturn_pop hf.kind]
         exact ⟨_, rfl⟩
        ·simp only [Sem.runT_eq, hu]
         exact .inl ⟨_, _, _, rfl⟩
       exact key _ (by
        intro c hc
        first
        | (cases hc; done)
        | (cases hc; rfl))
   | rangeFunc g ps a b =>
    simp only [okCode, Bool.and_eq_true] at hc
    dsimp only
    have hsr := sr_enterLoop (P := P) (N := cfg P L F) (ok := fun c => okCode P L c = true) (Poi := Poi) f.fn hf.tmps ps hc.1.2 hc.2 hf.round
    intro g₁ v₁ es hst hnb
    simp only [Sem.runT_eq] at hst ⊢
    cases hr : (Instr.enterLoop f.fn f.tmps ps a b f.roundOf).run P v with
    | halt y v' =>
     rw [hr] at hst
     cases hst
    | ok u v' =>
     obtain ⟨σ, u', w', g1, g2, g3, g4, g5, g6, g7⟩ := piece hsr hw hr
     obtain ⟨j1, j2, j3⟩ := hsr.retape hw hr
     rw [hr] at hst
     obtain ⟨l, mk⟩ := u
     obtain ⟨l', mk'⟩ := u'
     dsimp only at g3 hst
     have hf2 := hf.mono g1
     have ha : AR (VR (cfg P L F) σ) #[.func (.yield l) #[] #[]] #[.func (.yield l') #[] #[]] := AR.empty.push (VR.yield g3.1)
     have hcall : SR P (cfg P L F) (fun c => okCode P L c = true) Poi (NR P (cfg P L F) (fun c => okCode P L c = true)) σ (do let d ← resolve (Frame.eval { f with todo := .inRangeFunc l :: k, defers := mk ++ f.defers }) { callee := .value g, args := #[.const (.func (.yield l) #[] #[])], argTypes := #[] } 0; invoke d.target d.args) (do let d ← Deferred.ofValue (f'.eval g) #[.func (.yield l') #[] #[]]; invoke d.target d.args) := by
      refine sr_callValue hN.fns (hf2.eval g hc.1.1) ?_
      dsimp only
      rw [List.map_toArray]
      exact ha
     have A := apply_again (cs := fs ++ base) (f := { f with todo := .inRangeFunc l :: k, defers := mk ++ f.defers }) (f' := { f' with fn := f.fn, todo := .inRangeFunc l' :: k', defers := mk' ++ f'.defers }) ⟨rfl, hf2.nice, hf2.tmps, .cons (.inRangeFunc g3.1) (hk.mono fun _ _ x => x.mono g1), g3.2.append hf2.defers, hf2.kind, hf2.kind', hf2.round⟩ hm g4 hcall
     have hst2 : ∃ es2, stepG.apply P true { f with todo := .inRangeFunc l :: k, defers := mk ++ f.defers } (fs ++ base) none (do let d ← resolve (Frame.eval { f with todo := .inRangeFunc l :: k, defers := mk ++ f.defers }) { callee := .value g, args := #[.const (.func (.yield l) #[] #[])], argTypes := #[] } 0; invoke d.target d.args) v' = .go g₁ v₁ es2 := by
      have hst3 : (stepG.apply P true { f with todo := .inRangeFunc l :: k, defers := mk ++ f.defers } (fs ++ base) none (do let d ← resolve (Frame.eval { f with todo := .inRangeFunc l :: k, defers := mk ++ f.defers }) { callee := .value g, args := #[.const (.func (.yield l) #[] #[])], argTypes := #[] } 0; invoke d.target d.args) v').after (seen P f.fn ((Instr.enterLoop f.fn f.tmps ps a b f.roundOf).events P v #[])) = .go g₁ v₁ es := hst
      generalize stepG.apply P true { f with todo := .inRangeFunc l :: k, defers := mk ++ f.defers } (fs ++ base) none (do let d ← resolve (Frame.eval { f with todo := .inRangeFunc l :: k, defers := mk ++ f.defers }) { callee := .value g, args := #[.const (.func (.yield l) #[] #[])], argTypes := #[] } 0; invoke d.target d.args) v' = z at hst3
      cases z <;> simp only [GStep.after] at hst3 <;> try (cases hst3; done)
      simp only [GStep.go.injEq] at hst3
      obtain ⟨rfl, rfl, rfl⟩ := hst3
      exact ⟨_, rfl⟩
     obtain ⟨es2, hst2⟩ := hst2
     obtain ⟨i1, i2, i3⟩ := A g₁ v₁ es2 hst2 hnb
     refine ⟨Nat.le_trans j1 i1, i2.trans j2, fun t d hd => ?_⟩
     have e1 := j3 t d fun x q hx => hd x q (Nat.lt_of_lt_of_le hx i1)
     obtain ⟨es3, e2⟩ := i3 t (d + (v'.drawn - v.drawn)) fun x q hx => by
      rw [j2]
      have := hd (v'.drawn - v.drawn + x) q (by omega)
      rw [show d + (v'.drawn - v.drawn) + x = d + (v'.drawn - v.drawn + x) by omega, show v'.drawn + x = v.drawn + (v'.drawn - v.drawn + x) by omega]
      exact this
     rw [e1]
     refine ⟨seen P f.fn ((Instr.enterLoop f.fn f.tmps ps a b f.roundOf).events P (v.re t d) #[]) ++ es3, ?_⟩
     show GStep.after (seen P f.fn ((Instr.enterLoop f.fn f.tmps ps a b f.roundOf).events P (v.re t d) #[])) (stepG.apply P true { f with todo := .inRangeFunc l :: k, defers := mk ++ f.defers } (fs ++ base) none (do let d ← resolve (Frame.eval { f with todo := .inRangeFunc l :: k, defers := mk ++ f.defers }) { callee := .value g, args := #[.const (.func (.yield l) #[] #[])], argTypes := #[] } 0; invoke d.target d.args) (v'.re t (d + (v'.drawn - v.drawn)))) = _
     have e3 : stepG.apply P true { f with todo := .inRangeFunc l :: k, defers := mk ++ f.defers } (fs ++ base) none (do let d ← resolve (Frame.eval { f with todo := .inRangeFunc l :: k, defers := mk ++ f.defers }) { callee := .value g, args := #[.const (.func (.yield l) #[] #[])], argTypes := #[] } 0; invoke d.target d.args) (v'.re t (d + (v'.drawn - v.drawn))) = .go g₁ (v₁.re t (d + (v'.drawn - v.drawn) + (v₁.drawn - v'.drawn))) es3 := e2
     rw [e3, show d + (v'.drawn - v.drawn) + (v₁.drawn - v'.drawn) = d + (v₁.drawn - v.drawn) by omega]
     rfl
   | region id ops draw =>
    dsimp only
    cases draw with
    | false => exact .still fun u => rfl
    | true =>
     simp only [Bool.not_true, Bool.false_eq_true, if_false]
     have hsr : SR P (cfg P L F) (fun c => okCode P L c = true) Poi (fun _ a b => a = b) ρ (choose (.order f.fn id)) (choose (.order f.fn id)) := .choose fun n => .pure rfl
     refine Again.piece (K := fun t => { frame := { f with todo := .inRegion ops (Region.schedule (P.follows .mixedOrders) ops t) :: k }, callers := fs ++ base, status := .running, dying := none }) hsr hw (fun u a u' hu => ?_) (fun x u' hu => ?_)
     ·simp only [hu]
      exact ⟨_, rfl⟩
     ·simp only [hu]
      exact .inl ⟨_, _, _, rfl⟩
   | _ => cases hc
  | inBlock id => exact .still fun u => rfl
  | inLoop h => exact .still fun u => rfl
  | @inRegion ops ho todo =>
   cases todo with
   | nil => exact .still fun u => rfl
   | cons i rest =>
    dsimp only
    split
    ·have hop : ∀ u, stepG.oper P true f (fs ++ base) none u = match ops[i]? with | none => .ended (.stuck "no operation here" (f.pos P)) u | some o => stepG.apply P true f (fs ++ base) none (execOp f.eval o) u := by
      intro u
      unfold stepG.oper Frame.oper?
      rw [e1]
      dsimp only
      cases ho2 : ops[i]? with
      | none => rfl
      | some o =>
       dsimp only
       have : okOp P L o.op = true := by
        rw [Array.all_eq_true_iff_forall_mem] at ho
        exact ho o (Array.mem_of_getElem? ho2)
       split
       ·rename_i c _ h
        rw [h] at this
        cases this
       ·rfl
     simp only [hop]
     cases ho2 : ops[i]? with
     | none => exact .ended ⟨_, _, _, rfl⟩
     | some o =>
      have h2 : okOp P L o.op = true := by
       rw [Array.all_eq_true_iff_forall_mem] at ho
       exact ho o (Array.mem_of_getElem? ho2)
      exact apply_again hf hm hw (sr_execOp hN hP hf.eval (fun g => rfl) (fun g => ⟨rfl, rfl⟩) h2)
    ·exact .still fun u => rfl
  | @inRangeFunc l l' h => exact .ended ⟨_, _, _, rfl⟩
  | @endRangeFunc l l' h =>
   dsimp only
   have hsr := sr_endLoop (P := P) (N := cfg P L F) (ok := fun c => okCode P L c = true) (Poi := Poi) h
   refine Again.piece (K := fun jump => { frame := { f with todo := (jump.map Item.code).toList ++ k }, callers := fs ++ base, status := .running, dying := none }) hsr hw (fun u a u' hu => ?_) (fun x u' hu => ?_)
   ·simp only [Sem.runT_eq, hu]
    exact ⟨_, rfl⟩
   ·simp only [Sem.runT_eq, hu]
    cases x with
    | panic y =>
     exact .inr ⟨_, _, _, [{ v := y, recovered := false }], rfl, by rw [raise_run hm]⟩
    | _ => exact .inl ⟨_, _, _, rfl⟩
  | beginRound =>
   refine apply_again hf hm hw ?_ (s' := do f'.roundOf.elim (stuck "beginRound: no round") Instr.beginRound; pure .skip)
   refine SR.bind (A := fun _ _ _ => True) ?_ fun _ _ _ _ _ => .pure .skip
   have hr := hf.round
   generalize f.roundOf = x at hr
   generalize f'.roundOf = x' at hr
   cases hr with
   | none => exact sr_stuck _ _
   | some hl => exact sr_beginRound hl
end
end Go.Proofs.Ytjgleaakgbnjgaa.Par
end

section
namespace Go.Proofs.Ytjgleaakgbnjgaa.Par
open Go
section
variable {P : Program} {L : Fns} {F : Array Func} {Poi Ro : Nat → Prop} {base base' : List Frame} {ρ : Emb} {v w : World} {f f' : Frame} {fs fs' cs : List Frame} {m : Bool}
theorem unwind_again (hN : FnsOk P L F (fun c => okCode P L c = true) Poi) (hf : FR P L F ρ f f') (hm : f.mode = .returning) (hr0 : f.roundOf = none) (hs : LR (CR P L F ρ) fs fs') (hb : botOk f fs)
  (hw : WR (cfg P L F) (fun c => okCode P L c = true) Poi Ro ρ v w) (hne : f.defers = [] → fs ≠ []) : Again P (fun u => unwind P m f (fs ++ base) none u) v := by
 unfold unwind
 have hd := hf.defers
 generalize e1 : f.defers = d at hd
 generalize e2 : f'.defers = d' at hd
 cases hd with
 | nil =>
  dsimp only
  rw [hm]
  dsimp only
  obtain ⟨fn, hfn, -, -⟩ := hN.fns _ (hf.nice hr0)
  simp only [hfn, Sem.runT_eq]
  have hsr := sr_results (P := P) (ok := fun c => okCode P L c = true) (Poi := Poi) fn hf.tmps
  cases hs with
  | nil => exact absurd rfl (hne e1)
  | @cons c c' ls ls' hc hls =>
   refine Again.piece (K := fun x => { frame := c.finish x, callers := ls ++ base, status := .running, dying := none }) hsr hw (fun u a u' hu => ?_) (fun x u' hu => ?_)
   ·simp only [hu]
    rw [List.cons_append, doReturn_pop hf.kind]
    exact ⟨_, rfl⟩
   ·simp only [hu]
    cases x <;> exact .inl ⟨_, _, _, rfl⟩
 | @cons x0 x0' l l' hx ht =>
  cases hx with
  | @mark r r' h =>
   dsimp only
   have hsr := sr_takeDeferred (P := P) (N := cfg P L F) (ok := fun c => okCode P L c = true) (Poi := Poi) h
   refine Again.piece (K := fun calls => { frame := { f with defers := calls ++ l }, callers := fs ++ base, status := .running, dying := none }) hsr hw (fun u a u' hu => ?_) (fun x u' hu => ?_)
   ·simp only [Sem.runT_eq, hu]
    exact ⟨_, rfl⟩
   ·simp only [Sem.runT_eq, hu]
    exact .inl ⟨_, _, _, rfl⟩
theorem step_again (hN : FnsOk P L F (fun c => okCode P L c = true) Poi) (hP : ∀ g, g < P.globals.size → Poi g) {g g' : Goroutine} (hg : GR P L F base base' ρ g g') (hw : WR (cfg P L F) (fun c => okCode P L c = true) Poi Ro ρ v w) (hh : ¬Home base g) :
  Again P (fun u => stepG P m g u) v := by
 cases hg with
 | @mk f f' fs fs' hf hm hr hs hb =>
  rcases hr with hr | ⟨hr, hr0⟩
  ·unfold stepG
   simp only [hr]
   exact exec_again hN hP hf hr hs hb hw
  ·unfold stepG
   simp only [hr]
   exact unwind_again hN hf hr hr0 hs hb hw (exec_home hh rfl hr)
end
end Go.Proofs.Ytjgleaakgbnjgaa.Par
end

section
namespace Go.Proofs.Ytjgleaakgbnjgaa.Par
open Go
section
variable {P : Program} {L : Fns} {F : Array Func} {Poi Ro : Nat → Prop} {base base' : List Frame}
theorem WR.re {N : Cfg} {ok : Code → Prop} {ρ : Emb} {v w : World} (h : WR N ok Poi Ro ρ v w) (t : Nat → Question → Nat) (d : Nat) : WR N ok Poi Ro ρ (v.re t d) (w.re t d) := ⟨h.dom, h.inj, h.poi, h.ro, h.glob, h.gsize, rfl, rfl, h.globR, h.gsizeR⟩
def Fit (P : Program) (L : Fns) (F : Array Func) (Poi Ro : Nat → Prop) (base : List Frame) (g : Goroutine) (v : World) : Prop := ∃ ρ g' w, GR P L F base base ρ g g' ∧ WR (cfg P L F) (fun c => okCode P L c = true) Poi Ro ρ v w
theorem Fit.re {g : Goroutine} {v : World} (h : Fit P L F Poi Ro base g v) (t : Nat → Question → Nat) (d : Nat) : Fit P L F Poi Ro base g (v.re t d) := by
 obtain ⟨ρ, g', w, h1, h2⟩ := h
 exact ⟨ρ, g', _, h1, h2.re t d⟩
inductive Run (P : Program) (base : List Frame) (Q : Goroutine → World → Prop) : Goroutine → World → Prop
 | home {g : Goroutine} {v : World} (h : Home base g) (hq : Q g v) : Run P base Q g v
 | step {g g₁ : Goroutine} {v v₁ : World} {es : Array Event} (hn : ¬Home base g) (hs : stepG P true g v = .go g₁ v₁ es) (hr : Run P base Q g₁ v₁) : Run P base Q g v
inductive Tot (P : Program) (base : List Frame) (Q : Goroutine → World → Prop) : Goroutine → World → Prop
 | home {g : Goroutine} {v : World} (h : Home base g) (hq : ∀ t d, Q g (v.re t d)) : Tot P base Q g v
 | step {g : Goroutine} {v : World} (hn : ¬Home base g) (hs : ∀ t d, ∃ g₁ v₁ es, stepG P true g (v.re t d) = .go g₁ v₁ es ∧ ∀ c, g₁.frame.mode ≠ .panicking c) (hk : ∀ t d g₁ v₁ es, stepG P true g (v.re t d) = .go g₁ v₁ es → Tot P base Q g₁ v₁) : Tot P base Q g v
def Lost (P : Program) (L : Fns) (F : Array Func) (Poi Ro : Nat → Prop) (base : List Frame) (g : Goroutine) (v : World) : Prop :=
 Bad P L F Poi Ro base g v ∨ ∃ c, g = { frame := { (base.headD default) with mode := .panicking c }, callers := base.tail, status := .running, dying := none }
structure Floor (P : Program) (base : List Frame) : Prop where
 one : ∃ b, base = [b] ∧ b.mode = .run
 stops : ∀ c v, ∃ o u es, stepG P true { frame := { (base.headD default) with mode := .panicking c }, callers := base.tail, status := .running, dying := none } v = .ended o u es
 after : ∀ x v, ∃ o u es, stepG P true { frame := (base.headD default).finish x, callers := base.tail, status := .running, dying := none } v = .ended o u es
theorem Lost.mode {g : Goroutine} {v : World} (h : Lost P L F Poi Ro base g v) : ∃ c, g.frame.mode = .panicking c := by
 rcases h with h | ⟨c, rfl⟩
 ·cases h with
  | mk hf hr hs hw => exact ⟨_, hr⟩
 ·exact ⟨c, rfl⟩
theorem Lost.plain {g : Goroutine} {v : World} (h : Lost P L F Poi Ro base g v) : g.status = .running ∧ g.dying = none ∧ g = { frame := g.frame, callers := g.callers, status := .running, dying := none } := by
 rcases h with h | ⟨c, rfl⟩
 ·cases h with
  | mk hf hr hs hw => exact ⟨rfl, rfl, rfl⟩
 ·exact ⟨rfl, rfl, rfl⟩
theorem catches_no {f f' : Frame} {ρ : Emb} (hf : FR P L F ρ f f') : f.catches P = false := by
 unfold Frame.catches
 split
 ·rename_i h
  exact absurd h (no_call hf.todo).1
 ·rfl
theorem lost_step (hb : Floor P base) {g : Goroutine} {v : World} (h : Lost P L F Poi Ro base g v) : (∃ o u es, stepG P true g v = .ended o u es) ∨ ∃ g₁ v₁ es, stepG P true g v = .go g₁ v₁ es ∧ Lost P L F Poi Ro base g₁ v₁ := by
 rcases h with h | ⟨c, rfl⟩
 ·cases h with
  | @mk f f' fs fs' ρ v w hf c hr hs hw =>
   have hd := hf.defers
   unfold stepG
   simp only [hr]
   unfold unwind
   generalize e1 : f.defers = d at hd
   generalize e2 : f'.defers = d' at hd
   cases hd with
   | nil =>
    dsimp only
    rw [hr]
    simp only [catches_no hf, Bool.false_eq_true, if_false]
    cases hs with
    | nil =>
     obtain ⟨b, rfl, hb1⟩ := hb.one
     refine .inr ⟨_, _, _, rfl, .inr ⟨c, ?_⟩⟩
     simp only [List.nil_append, List.headD_cons, List.tail_cons]
     rw [raise_run hb1]
    | @cons x x' ls ls' hx hls =>
     refine .inr ⟨_, _, _, rfl, .inl (.mk (f' := { x' with mode := .run }) ?_ ?_ hls hw (c := c))⟩
     ·rw [raise_run hx.2.1]
      exact hx.1.withMode _ _
     ·rw [raise_run hx.2.1]
   | @cons x0 x0' l l' hx ht =>
    cases hx with
    | @mark r r' h =>
     dsimp only
     have hsr := sr_takeDeferred (P := P) (N := cfg P L F) (ok := fun c => okCode P L c = true) (Poi := Poi) h
     simp only [Sem.runT_eq]
     cases hr2 : (Instr.takeDeferred r).run P v with
     | halt y v' => exact .inl ⟨_, _, _, rfl⟩
     | ok u v' =>
      obtain ⟨σ, b, w', g1, g2, g3, g4, g5, g6, g7⟩ := piece hsr hw hr2
      obtain ⟨rfl, rfl⟩ := g3
      have hf2 := hf.mono g1
      exact .inr ⟨_, _, _, rfl, .inl (.mk (f' := { f' with defers := l' }) ⟨hf2.fn, hf2.nice, hf2.tmps, hf2.todo, ht.mono fun _ _ x => x.mono g1, hf2.kind, hf2.kind', hf2.round⟩ hr (hs.mono fun _ _ x => CR.mono g1 x) g4)⟩
 ·obtain ⟨o, u, es, e⟩ := hb.stops c v
  exact .inl ⟨o, u, es, e⟩
theorem lost_run (hb : Floor P base) {Q : Goroutine → World → Prop} {g : Goroutine} {v : World} (h : Run P base Q g v) : ¬Lost P L F Poi Ro base g v := by
 induction h with
 | home hh _ =>
  intro hl
  obtain ⟨c, hc⟩ := hl.mode
  rw [hh.2.1] at hc
  cases hc
 | step hn hs _ ih =>
  intro hl
  rcases lost_step hb hl with ⟨o, u, es, e⟩ | ⟨g₁, v₁, es, e, hl1⟩
  ·rw [hs] at e
   cases e
  ·rw [hs] at e
   simp only [GStep.go.injEq] at e
   obtain ⟨rfl, rfl, rfl⟩ := e
   exact ih hl1
end
end Go.Proofs.Ytjgleaakgbnjgaa.Par
end

section
namespace Go.Proofs.Ytjgleaakgbnjgaa.Par
open Go
section
variable {P : Program} {L : Fns} {F : Array Func} {Poi Ro : Nat → Prop} {base : List Frame} {Q : Goroutine → World → Prop}
theorem fit_step (hL : L.spec = []) (hN : FnsOk P L F (fun c => okCode P L c = true) Poi) (hP : ∀ g, g < P.globals.size → Poi g) {g g₁ : Goroutine} {v v₁ : World} {es : Array Event} (h : Fit P L F Poi Ro base g v) (hh : ¬Home base g) (hs : stepG P true g v = .go g₁ v₁ es) (hl : ¬Lost P L F Poi Ro base g₁ v₁) :
  Fit P L F Poi Ro base g₁ v₁ ∧ ∀ c, g₁.frame.mode ≠ .panicking c := by
 obtain ⟨ρ, g', w, h1, h2⟩ := h
 have o := step_out (m := true) (m' := true) hN hP h1 h2 hh
 rw [hs] at o
 generalize stepG ((cfg P L F).here P) true g' w = s at o
 cases o with
 | go le hg hw he hf hv =>
  refine ⟨⟨_, _, _, hg, hw⟩, fun c hc => ?_⟩
  cases hg with
  | mk _ _ hr _ _ => rcases hr with hr | ⟨hr, _⟩ <;> (dsimp only at hc; rw [hr] at hc; cases hc)
 | spec le hg => rw [hL] at hg; cases hg
 | bad h => exact absurd (.inl h) hl
theorem again_step (hL : L.spec = []) (hN : FnsOk P L F (fun c => okCode P L c = true) Poi) (hP : ∀ g, g < P.globals.size → Poi g) {g : Goroutine} {v : World} (h : Fit P L F Poi Ro base g v) (hh : ¬Home base g) : Again P (fun u => stepG P true g u) v := by
 obtain ⟨ρ, g', w, h1, h2⟩ := h
 exact step_again hN hP h1 h2 hh
theorem run_shift (hL : L.spec = []) (hN : FnsOk P L F (fun c => okCode P L c = true) Poi) (hP : ∀ g, g < P.globals.size → Poi g) (hb : Floor P base) (hQ : ∀ g v t d, Q g v → Q g (v.re t d)) {g : Goroutine} {u : World} (h : Run P base Q g u) (hf : Fit P L F Poi Ro base g u) :
  ∀ t d, (∀ k q, t (d + k) q = u.tape (u.drawn + k) q) → Run P base Q g (u.re t d) := by
 induction h with
 | home hh hq => exact fun t d _ => .home hh (hQ _ _ t d hq)
 | @step g g₁ v v₁ es hn hs hr ih =>
  intro t d hd
  obtain ⟨hf1, hm⟩ := fit_step hL hN hP hf hn hs (lost_run hb hr)
  obtain ⟨i1, i2, i3⟩ := again_step hL hN hP hf hn g₁ v₁ es hs hm
  obtain ⟨es', e⟩ := i3 t d fun k q _ => hd k q
  refine .step hn e (ih hf1 t _ fun k q => ?_)
  rw [i2]
  have := hd (v₁.drawn - v.drawn + k) q
  rw [show d + (v₁.drawn - v.drawn) + k = d + (v₁.drawn - v.drawn + k) by omega, show v₁.drawn + k = v.drawn + (v₁.drawn - v.drawn + k) by omega]
  exact this
def All (P : Program) (base : List Frame) (Q : Goroutine → World → Prop) (g : Goroutine) (v : World) : Prop := ∀ t d, Run P base Q g (v.re t d)
theorem all_step (hL : L.spec = []) (hN : FnsOk P L F (fun c => okCode P L c = true) Poi) (hP : ∀ g, g < P.globals.size → Poi g) (hb : Floor P base) (hQ : ∀ g v t d, Q g v → Q g (v.re t d)) {g : Goroutine} {v : World} (ha : All P base Q g v) (hf : Fit P L F Poi Ro base g v) (hh : ¬Home base g) (t : Nat → Question → Nat) (d : Nat) :
  ∃ g₁ v₁ es, stepG P true g (v.re t d) = .go g₁ v₁ es ∧ (∀ c, g₁.frame.mode ≠ .panicking c) ∧ Fit P L F Poi Ro base g₁ v₁ ∧ All P base Q g₁ v₁ := by
 have h := ha t d
 generalize hu : v.re t d = u at h
 cases h with
 | home h _ => exact absurd h hh
 | @step _ g₁ _ v₁ es _ hs hr =>
  subst hu
  obtain ⟨hf1, hm⟩ := fit_step hL hN hP (hf.re t d) hh hs (lost_run hb hr)
  obtain ⟨i1, i2, i3⟩ := again_step hL hN hP (hf.re t d) hh g₁ v₁ es hs hm
  refine ⟨g₁, v₁, es, hs, hm, hf1, fun t' d' => ?_⟩
  have i1 : d ≤ v₁.drawn := i1
  let T : Nat → Question → Nat := fun i q => if i < v₁.drawn then t i q else t' (d' + (i - v₁.drawn)) q
  obtain ⟨es', e⟩ := i3 T d fun k q hk => if_pos hk
  have e2 : stepG P true g (v.re T d) = .go g₁ (v₁.re T (d + (v₁.drawn - d))) es' := e
  have h2 := ha T d
  generalize hu : v.re T d = u at h2
  cases h2 with
  | home h _ => exact absurd h hh
  | @step _ g₂ _ v₂ es₂ _ hs₂ hr₂ =>
   subst hu
   rw [hs₂] at e2
   simp only [GStep.go.injEq] at e2
   obtain ⟨rfl, rfl, rfl⟩ := e2
   refine run_shift hL hN hP hb hQ hr₂ (hf1.re _ _) t' d' fun k q => ?_
   show t' (d' + k) q = (if d + (v₁.drawn - d) + k < v₁.drawn then t (d + (v₁.drawn - d) + k) q else t' (d' + (d + (v₁.drawn - d) + k - v₁.drawn)) q)
   rw [if_neg (by omega), show d + (v₁.drawn - d) + k - v₁.drawn = k by omega]
theorem exists_tape (D : Nat → Nat) (hD : ∀ i, D i ≤ D (i + 1)) (a : Nat → Nat → Question → Nat) : ∃ T : Nat → Question → Nat, ∀ i k q, D i + k < D (i + 1) → T (D i + k) q = a i k q := by
 have mono : ∀ i j, i ≤ j → D i ≤ D j := fun i j h => by
  induction h with
  | refl => exact Nat.le_refl _
  | step _ ih => exact Nat.le_trans ih (hD _)
 have uniq : ∀ n i j, D i ≤ n → n < D (i + 1) → D j ≤ n → n < D (j + 1) → i = j := by
  intro n i j h1 h2 h3 h4
  rcases Nat.lt_trichotomy i j with h | h | h
  ·have := mono (i + 1) j h
   omega
  ·exact h
  ·have := mono (j + 1) i h
   omega
 classical
 refine ⟨fun n q => if h : ∃ i, D i ≤ n ∧ n < D (i + 1) then a h.choose (n - D h.choose) q else 0, fun i k q hk => ?_⟩
 have hx : ∃ j, D j ≤ D i + k ∧ D i + k < D (j + 1) := ⟨i, Nat.le_add_right _ _, hk⟩
 have e : hx.choose = i := uniq (D i + k) _ _ hx.choose_spec.1 hx.choose_spec.2 (Nat.le_add_right _ _) hk
 show (if h : ∃ j, D j ≤ D i + k ∧ D i + k < D (j + 1) then a h.choose (D i + k - D h.choose) q else 0) = _
 rw [dif_pos hx, e, Nat.add_sub_cancel_left]
theorem tot_of_all (hL : L.spec = []) (hN : FnsOk P L F (fun c => okCode P L c = true) Poi) (hP : ∀ g, g < P.globals.size → Poi g) (hb : Floor P base) (hQ : ∀ g v t d, Q g v → Q g (v.re t d)) {g : Goroutine} {v : World} (ha : All P base Q g v) (hf : Fit P L F Poi Ro base g v) : Tot P base Q g v := by
 classical
 refine Classical.byContradiction fun hno => ?_
 let S := { x : Goroutine × World // Fit P L F Poi Ro base x.1 x.2 ∧ All P base Q x.1 x.2 ∧ ¬Tot P base Q x.1 x.2 }
 have next : ∀ s : S, ∃ (p : (Nat → Question → Nat) × Nat × S), ¬Home base s.1.1 ∧ ∃ es, stepG P true s.1.1 (s.1.2.re p.1 p.2.1) = .go p.2.2.1.1 p.2.2.1.2 es ∧ ∀ c, p.2.2.1.1.frame.mode ≠ .panicking c := by
  rintro ⟨⟨g, v⟩, hf, ha, hno⟩
  dsimp only at hf ha hno
  have hh : ¬Home base g := fun h => hno (.home h fun t d => by
   have h2 := ha t d
   cases h2 with
   | home _ hq => exact hq
   | step hn _ _ => exact absurd h hn)
  have : ∃ t d g₁ v₁ es, stepG P true g (v.re t d) = .go g₁ v₁ es ∧ ¬Tot P base Q g₁ v₁ := by
   refine Classical.byContradiction fun hc => hno (.step hh (fun t d => ?_) fun t d g₁ v₁ es hs => ?_)
   ·obtain ⟨g₁, v₁, es, e, hm, _⟩ := all_step hL hN hP hb hQ ha hf hh t d
    exact ⟨g₁, v₁, es, e, hm⟩
   ·exact Classical.byContradiction fun hn => hc ⟨t, d, g₁, v₁, es, hs, hn⟩
  obtain ⟨t, d, g₁, v₁, es, e, hn⟩ := this
  obtain ⟨g₂, v₂, es₂, e₂, hm, hf₂, ha₂⟩ := all_step hL hN hP hb hQ ha hf hh t d
  rw [e] at e₂
  simp only [GStep.go.injEq] at e₂
  obtain ⟨rfl, rfl, rfl⟩ := e₂
  exact ⟨(t, d, ⟨(g₁, v₁), hf₂, ha₂, hn⟩), hh, es, e, hm⟩
 let nx : S → (Nat → Question → Nat) × Nat × S := fun s => (next s).choose
 have hnx : ∀ s : S, ¬Home base s.1.1 ∧ ∃ es, stepG P true s.1.1 (s.1.2.re (nx s).1 (nx s).2.1) = .go (nx s).2.2.1.1 (nx s).2.2.1.2 es ∧ ∀ c, (nx s).2.2.1.1.frame.mode ≠ .panicking c := fun s => (next s).choose_spec
 let sq : Nat → S := fun i => Nat.rec ⟨(g, v), hf, ha, hno⟩ (fun _ s => (nx s).2.2) i
 have sq0 : (sq 0).1 = (g, v) := rfl
 have sqs : ∀ i, sq (i + 1) = (nx (sq i)).2.2 := fun i => rfl
 let D : Nat → Nat := fun i => Nat.rec 0 (fun i n => n + ((sq (i + 1)).1.2.drawn - (nx (sq i)).2.1)) i
 have Ds : ∀ i, D (i + 1) = D i + ((sq (i + 1)).1.2.drawn - (nx (sq i)).2.1) := fun i => rfl
 obtain ⟨T, hT⟩ := exists_tape D (fun i => by rw [Ds]; exact Nat.le_add_right _ _) fun i k q => (nx (sq i)).1 ((nx (sq i)).2.1 + k) q
 have step : ∀ i, ∃ es, stepG P true (sq i).1.1 ((sq i).1.2.re T (D i)) = .go (sq (i + 1)).1.1 ((sq (i + 1)).1.2.re T (D (i + 1))) es := by
  intro i
  obtain ⟨hh, es, e, hm⟩ := hnx (sq i)
  obtain ⟨i1, i2, i3⟩ := again_step hL hN hP ((sq i).2.1.re (nx (sq i)).1 (nx (sq i)).2.1) hh _ _ es e hm
  obtain ⟨es', e'⟩ := i3 T (D i) fun k q hk => by
   have hk : (nx (sq i)).2.1 + k < (nx (sq i)).2.2.1.2.drawn := hk
   refine hT i k q ?_
   rw [Ds, sqs]
   omega
  exact ⟨es', e'⟩
 have final : ∀ g u, Run P base Q g u → ∀ i, g = (sq i).1.1 → u = (sq i).1.2.re T (D i) → False := by
  intro g u h
  induction h with
  | home hh _ => rintro i rfl rfl; exact (hnx (sq i)).1 hh
  | step hn hs _ ih =>
   rintro i rfl rfl
   obtain ⟨es', e⟩ := step i
   rw [hs] at e
   simp only [GStep.go.injEq] at e
   exact ih (i + 1) e.1 e.2.1
 exact final _ _ (ha T 0) 0 rfl rfl
end
end Go.Proofs.Ytjgleaakgbnjgaa.Par
end

section
namespace Go.Proofs.Ytjgleaakgbnjgaa.Par
open Go
section
variable {P : Program} {L : Fns} {F : Array Func} {Poi Ro : Nat → Prop} {base : List Frame} {Q : Goroutine → World → Prop}
def floor (P : Program) : Frame := { fn := P.funcs.size, tmps := #[], todo := [.code (.refuse "")], defers := [{ target := .nil, args := #[] }], mode := .run, kind := .normal }
theorem floor_ok (P : Program) : Floor P [floor P] := by
 refine ⟨⟨_, rfl, rfl⟩, fun c v => ⟨_, _, _, rfl⟩, fun x v => ⟨_, _, _, rfl⟩⟩
theorem lone_next {g : Goroutine} (hg : g = { frame := g.frame, callers := g.callers, status := .running, dying := none }) {v v₁ : World} {g₁ : Goroutine} (hg₁ : g₁ = { frame := g₁.frame, callers := g₁.callers, status := .running, dying := none }) {es : Array Event} (h : stepG P true g v = .go g₁ v₁ es) : step P (lone g.frame g.callers v) = .next (lone g₁.frame g₁.callers v₁) := by
 refine step_lone_go ?_
 rw [← hg, h, ← hg₁]
 rfl
theorem lone_ended {g : Goroutine} (hg : g = { frame := g.frame, callers := g.callers, status := .running, dying := none }) {v v₁ : World} {o : Outcome} {es : Array Event} (h : stepG P true g v = .ended o v₁ es) : step P (lone g.frame g.callers v) = .ended o v₁ := by
 refine step_lone_ended ?_
 rw [← hg, h]
 rfl
theorem fit_plain {g : Goroutine} {v : World} (h : Fit P L F Poi Ro base g v) : g = { frame := g.frame, callers := g.callers, status := .running, dying := none } := by
 obtain ⟨ρ, g', w, h1, h2⟩ := h
 cases h1 with
 | mk => rfl
theorem lone_inj {f f' : Frame} {cs cs' : List Frame} {v v' : World} (h : Stepped.next (lone f cs v) = .next (lone f' cs' v')) : f = f' ∧ cs = cs' ∧ v = v' := by
 unfold lone at h
 simp only [Stepped.next.injEq, Machine.mk.injEq, and_true] at h
 have h2 := h.2
 simp at h2
 exact ⟨h2.1, h2.2, h.1⟩
theorem home_step (hL : L.spec = []) (hN : FnsOk P L F (fun c => okCode P L c = true) Poi) (hb : Floor P base) {g : Goroutine} {v : World} (h : Fit P L F Poi Ro base g v) (hh : Home base g) :
  (∃ o u es, stepG P true g v = .ended o u es) ∨ ∃ x v₁ es, stepG P true g v = .go { frame := (base.headD default).finish x, callers := base.tail, status := .running, dying := none } v₁ es := by
 obtain ⟨ρ, g', w, h1, h2⟩ := h
 obtain ⟨b, rfl, hb1⟩ := hb.one
 cases h1 with
 | @mk f f' fs fs' hf hm hr hs hbo =>
  obtain ⟨hc, hm2, hd⟩ := hh
  dsimp only at hc hm2 hd
  rcases hr with hr | ⟨hr, hr0⟩
  ·rw [hr] at hm2
   cases hm2
  ·unfold stepG
   simp only [hr]
   unfold unwind
   simp only [hd, hr]
   obtain ⟨fn, hfn, -, -⟩ := hN.fns _ (hf.nice hr0)
   simp only [hfn, Sem.runT_eq]
   cases hx : (results fn f.tmps).run P v with
   | halt y v' => cases y <;> exact .inl ⟨_, _, _, rfl⟩
   | ok u v' =>
    refine .inr ⟨u, v', seen P f.fn ((results fn f.tmps).events P v #[]) ++ #[], ?_⟩
    rw [hc]
    simp only [doReturn_pop hf.kind, GStep.after]
    rfl
theorem run_of_lone (hL : L.spec = []) (hN : FnsOk P L F (fun c => okCode P L c = true) Poi) (hP : ∀ g, g < P.globals.size → Poi g) (hb : Floor P base) : ∀ (n : Nat) {g : Goroutine} {v : World} {fr : Frame} {w' : World}, Fit P L F Poi Ro base g v ∨ Lost P L F Poi Ro base g v → runN P n (lone g.frame g.callers v) = .next (lone fr base w') → fr.mode = .returning → fr.defers = [] →
  Q { frame := fr, callers := base, status := .running, dying := none } w' → Run P base Q g v := by
 intro n
 induction n with
 | zero =>
  intro g v fr w' hg hr hm hd hq
  have hp : g = { frame := g.frame, callers := g.callers, status := .running, dying := none } := by
   rcases hg with hg | hg
   ·exact fit_plain hg
   ·exact hg.plain.2.2
  obtain ⟨e1, e2, e3⟩ := lone_inj hr
  subst e1 e3
  rw [e2] at hp
  rw [← hp] at hq
  exact .home ⟨e2, hm, hd⟩ hq
 | succ n ih =>
  intro g v fr w' hg hr hm hd hq
  have noEnd : ∀ {o u es}, g = { frame := g.frame, callers := g.callers, status := .running, dying := none } → stepG P true g v ≠ .ended o u es := by
   intro o u es hp e
   unfold runN at hr
   rw [lone_ended hp e] at hr
   cases hr
  have onward : ∀ {g₁ v₁ es}, g = { frame := g.frame, callers := g.callers, status := .running, dying := none } → g₁ = { frame := g₁.frame, callers := g₁.callers, status := .running, dying := none } → stepG P true g v = .go g₁ v₁ es → runN P n (lone g₁.frame g₁.callers v₁) = .next (lone fr base w') := by
   intro g₁ v₁ es hp hp₁ e
   unfold runN at hr
   rw [lone_next hp hp₁ e] at hr
   exact hr
  rcases hg with hg | hg
  ·have hp := fit_plain hg
   by_cases hh : Home base g
   ·rcases home_step hL hN hb hg hh with ⟨o, u, es, e⟩ | ⟨x, v₁, es, e⟩
    ·exact absurd e (noEnd hp)
    ·have h1 := onward hp rfl e
     obtain ⟨b, rfl, hb1⟩ := hb.one
     cases n with
     | zero =>
      have := (lone_inj h1).2.1
      cases this
     | succ n =>
      obtain ⟨o, u, es', e'⟩ := hb.after x v₁
      unfold runN at h1
      rw [lone_ended (g := { frame := ([b].headD default).finish x, callers := [b].tail, status := .running, dying := none }) rfl e'] at h1
      cases h1
   ·obtain ⟨ρ, g', w, h1, h2⟩ := hg
    have o := step_out (m := true) (m' := true) hN hP h1 h2 hh
    generalize stepG ((cfg P L F).here P) true g' w = s at o
    generalize e : stepG P true g v = z at o
    cases o with
    | go le hg hw he hf hv =>
     have hf1 : Fit P L F Poi Ro base _ _ := ⟨_, _, _, hg, hw⟩
     exact .step hh e (ih (.inl hf1) (onward hp (fit_plain hf1) e) hm hd hq)
    | bad h =>
     have hl : Lost P L F Poi Ro base _ _ := .inl h
     exact .step hh e (ih (.inr hl) (onward hp hl.plain.2.2 e) hm hd hq)
    | spec le hg => rw [hL] at hg; cases hg
    | ended => exact absurd e (noEnd hp)
  ·have hp := hg.plain.2.2
   have hh : ¬Home base g := fun h => by
    obtain ⟨c, hc⟩ := hg.mode
    rw [h.2.1] at hc
    cases hc
   rcases lost_step hb hg with ⟨o, u, es, e⟩ | ⟨g₁, v₁, es, e, hl⟩
   ·exact absurd e (noEnd hp)
   ·exact .step hh e (ih (.inr hl) (onward hp hl.plain.2.2 e) hm hd hq)
def AtHome (P : Program) (R : Value → World → Prop) (g : Goroutine) (w : World) : Prop := ∃ x fn t d, P.funcs[g.frame.fn]? = some fn ∧ (results fn g.frame.tmps).run P (w.re t d) = .ok x (w.re t d) ∧ R x w
theorem tot_of_calls (hL : L.spec = []) (hN : FnsOk P L F (fun c => okCode P L c = true) Poi) (hP : ∀ g, g < P.globals.size → Poi g) {f : FuncId} {args : Array Value} {v : World} {R : Value → World → Prop} (hR : ∀ x v t d, R x v → R x (v.re t d))
  (hc : ∀ t d, Calls P f args (v.re t d) fun e w => ∃ x, e = .returned x ∧ R x w) (hf : Fit P L F Poi Ro [floor P] { frame := Frame.enter P f args .normal, callers := [floor P], status := .running, dying := none } v) :
  Tot P [floor P] (AtHome P R) { frame := Frame.enter P f args .normal, callers := [floor P], status := .running, dying := none } v := by
 refine tot_of_all hL hN hP (floor_ok P) (fun g v t d h => ?_) (fun t d => ?_) hf
 ·obtain ⟨x, fn, t', d', h1, h2, h3⟩ := h
  exact ⟨x, fn, t', d', h1, h2, hR _ _ _ _ h3⟩
 ·obtain ⟨e, w', fr, ⟨x, rfl, hx⟩, ⟨n, hn⟩, hfn, hm, hd, hk, fn, hfn', hres⟩ := hc t d [floor P]
  exact run_of_lone hL hN hP (floor_ok P) n (.inl (hf.re t d)) hn hm hd ⟨x, fn, w'.tape, w'.drawn, hfn', hres, hx⟩
end
end Go.Proofs.Ytjgleaakgbnjgaa.Par
end

section
namespace Go.Proofs.Ytjgleaakgbnjgaa.Par
open Go
structure Keeps (own Ro : Nat → Prop) (w w₁ : World) : Prop where
 size : w.heap.size ≤ w₁.heap.size
 keep : ∀ b, own b ∨ Ro b → w₁.heap[b]? = w.heap[b]?
 os : w₁.os = w.os
 output : w₁.output = w.output
def grown (own : Nat → Prop) (w w' : World) : Nat → Prop := fun b => own b ∨ (w.heap.size ≤ b ∧ b < w'.heap.size)
def EvMine (own Ro : Nat → Prop) (e : Event) : Prop :=
 match e.loc with
 | .cell a => own a.block ∨ Ro a.block ∧ e.write = false
 | .obj r => own r ∨ Ro r ∧ e.write = false
 | .mark m => m = .noRoom ∨ ∃ f, m = .extern f
 | _ => False
structure Mine (own Ro : Nat → Prop) (w w' : World) (es : Array Event) : Prop where
 size : w.heap.size ≤ w'.heap.size
 keep : ∀ b, b < w.heap.size → ¬own b → w'.heap[b]? = w.heap[b]?
 os : w'.os = w.os
 output : w'.output = w.output
 tape : w'.tape = w.tape
 events : ∀ e ∈ es, EvMine (grown own w w') Ro e
inductive Live (P : Program) (m : Bool) (Ro : Nat → Prop) (Stop : (Nat → Prop) → Goroutine → World → Prop) : (Nat → Prop) → Goroutine → World → Prop
 | stop {own : Nat → Prop} {g : Goroutine} {w : World} (h : Stop own g w) : Live P m Ro Stop own g w
 | step {own : Nat → Prop} {g : Goroutine} {w : World} (hg : g.status = .running ∧ g.dying = none) (hs : ∀ w₁, Keeps own Ro w w₁ → ∃ g₂ w₂ es, stepG P m g w₁ = .go g₂ w₂ es ∧ Mine own Ro w₁ w₂ es)
   (hk : ∀ w₁ g₂ w₂ es, Keeps own Ro w w₁ → stepG P m g w₁ = .go g₂ w₂ es → Live P m Ro Stop (grown own w₁ w₂) g₂ w₂) : Live P m Ro Stop own g w
section
variable {P : Program} {L : Fns} {F : Array Func} {Poi Ro : Nat → Prop} {base base' : List Frame} {Q : Goroutine → World → Prop} {ρ : Emb}
structure Owns (ρ : Emb) (Ro own : Nat → Prop) (w : World) : Prop where
 shared : ∀ b, Ro b → ρ b = some b
 mine : ∀ b c, ρ b = some c → own c ∨ Ro b
 below : ∀ c, own c → c < w.heap.size
 apart : ∀ c, own c → ¬Ro c
theorem WR.keeps {N : Cfg} {ok : Code → Prop} {own : Nat → Prop} {v w w₁ : World} (h : WR N ok Poi Ro ρ (v.re w.tape w.drawn) w) (ho : Owns ρ Ro own w) (hk : Keeps own Ro w w₁) : WR N ok Poi Ro ρ (v.re w₁.tape w₁.drawn) w₁ := by
 refine ⟨fun b c hb => ?_, h.inj, h.poi, h.ro, h.glob, h.gsize, rfl, rfl, h.globR, Nat.le_trans h.gsizeR hk.size⟩
 obtain ⟨o, o', h1, h2, h3⟩ := h.dom b c hb
 refine ⟨o, o', h1, ?_, h3⟩
 rw [hk.keep c ?_]
 ·exact h2
 ·rcases ho.mine b c hb with x | x
  ·exact .inl x
  ·have := ho.shared b x
   rw [hb] at this
   cases this
   exact .inr x
theorem Owns.keeps {own : Nat → Prop} {w w₁ : World} (ho : Owns ρ Ro own w) (hk : Keeps own Ro w w₁) : Owns ρ Ro own w₁ := ⟨ho.shared, ho.mine, fun c h => Nat.lt_of_lt_of_le (ho.below c h) hk.size, ho.apart⟩
theorem Owns.step {own : Nat → Prop} {σ : Emb} {w w₂ : World} (ho : Owns ρ Ro own w) (hle : ρ.le σ) (hf : Fr Ro ρ σ w w₂) (hlt : ∀ b c, σ b = some c → c < w₂.heap.size) (hro : ∀ b, Ro b → b < w.heap.size) : Owns σ Ro (grown own w w₂) w₂ := by
 refine ⟨fun b h => hle _ _ (ho.shared b h), fun b c h => ?_, fun c h => ?_, fun c h hr => ?_⟩
 ·rcases hf.new b c h with x | x
  ·rcases ho.mine b c x with y | y
   ·exact .inl (.inl y)
   ·exact .inr y
  ·exact .inl (.inr ⟨x, hlt b c h⟩)
 ·rcases h with h | h
  ·exact Nat.lt_of_lt_of_le (ho.below c h) hf.size
  ·exact h.2
 ·rcases h with h | h
  ·exact ho.apart c h hr
  ·exact absurd (hro c hr) (by omega)
theorem mine_of {own : Nat → Prop} {σ : Emb} {w w₂ : World} {es : Array Event} (ho : Owns ρ Ro own w) (hle : ρ.le σ) (hf : Fr Ro ρ σ w w₂) (hlt : ∀ b c, σ b = some c → c < w₂.heap.size) (hro : ∀ b, Ro b → b < w.heap.size) (he : ∀ e ∈ es, EvOk Ro σ e) : Mine own Ro w w₂ es := by
 have hs := ho.step hle hf hlt hro
 refine ⟨hf.size, fun b hb hn => hf.keep b hb fun c hc => ?_, hf.os, hf.output, hf.tape, fun e h => ?_⟩
 ·rcases ho.mine c b hc with x | x
  ·exact absurd x hn
  ·exact x
 ·have h1 := he e h
  have key : ∀ (b c : Nat), σ b = some c → (e.write = true → ¬Ro b) → grown own w w₂ c ∨ Ro c ∧ e.write = false := by
   intro b c hb hw
   rcases hs.mine b c hb with x | x
   ·exact .inl x
   ·have := hs.shared b x
    rw [hb] at this
    cases this
    refine .inr ⟨x, ?_⟩
    cases e2 : e.write with
    | false => rfl
    | true => exact absurd x (hw e2)
  unfold EvOk at h1
  unfold EvMine
  cases hl : e.loc with
  | cell a =>
   rw [hl] at h1
   obtain ⟨b, h2, h3⟩ := h1
   exact key _ _ h2 h3
  | obj r =>
   rw [hl] at h1
   obtain ⟨b, h2, h3⟩ := h1
   exact key _ _ h2 h3
  | mark m =>
   rw [hl] at h1
   exact h1
  | output => rw [hl] at h1; exact h1
  | goroutines => rw [hl] at h1; exact h1
def Back (P : Program) (L : Fns) (F : Array Func) (Poi Ro : Nat → Prop) (R : Value → World → Prop) (c : Frame) (cs : List Frame) (own : Nat → Prop) (g : Goroutine) (w : World) : Prop :=
 ∃ ρ x x' v, R x v ∧ VR (cfg P L F) ρ x x' ∧ WR (cfg P L F) (fun c => okCode P L c = true) Poi Ro ρ v w ∧ Owns ρ Ro own w ∧ g = { frame := c.finish x', callers := cs, status := .running, dying := none }
theorem live_of_tot (hL : L.spec = []) (hN : FnsOk P L F (fun c => okCode P L c = true) Poi) (hP : ∀ g, g < P.globals.size → Poi g) {m : Bool} {R : Value → World → Prop} (hR : ∀ x v t d, R x v → R x (v.re t d)) {c : Frame} {cs : List Frame} {g : Goroutine} {v : World} (ht : Tot P base (AtHome P R) g v) :
  ∀ {ρ : Emb} {g' : Goroutine} {w : World} {own : Nat → Prop}, GR P L F base (c :: cs) ρ g g' → WR (cfg P L F) (fun c => okCode P L c = true) Poi Ro ρ (v.re w.tape w.drawn) w → Owns ρ Ro own w → (∀ b, Ro b → b < w.heap.size) → Live ((cfg P L F).here P) m Ro (Back P L F Poi Ro R c cs) own g' w := by
 induction ht with
 | @home g v hh hq =>
  intro ρ g' w own hg hw ho hro
  have hp : g'.status = .running ∧ g'.dying = none := by cases hg; exact ⟨rfl, rfl⟩
  have main : ∀ w₁, Keeps own Ro w w₁ → ∃ g₂ w₂ es, stepG ((cfg P L F).here P) m g' w₁ = .go g₂ w₂ es ∧ Mine own Ro w₁ w₂ es ∧ Live ((cfg P L F).here P) m Ro (Back P L F Poi Ro R c cs) (grown own w₁ w₂) g₂ w₂ := by
   intro w₁ hkp
   have hw₁ := hw.keeps ho hkp
   have ho₁ := ho.keeps hkp
   have hro₁ : ∀ b, Ro b → b < w₁.heap.size := fun b h => Nat.lt_of_lt_of_le (hro b h) hkp.size
   obtain ⟨x, fn, t, d, hfn, hres, hx⟩ := hq w₁.tape w₁.drawn
   obtain ⟨hc, hmode, hdef⟩ := hh
   cases hg with
   | @mk f f' fs fs' hf hm hr hs hb =>
    dsimp only at hc hmode hdef hfn hres hx
    have hr0 : f.roundOf = none := by
     rcases hr with hr | hr
     ·rw [hmode] at hr; cases hr
     ·exact hr.2
    have hfs : fs = [] := by
     cases fs with
     | nil => rfl
     | cons a l =>
      have := congrArg List.length hc
      simp at this
      omega
    subst hfs
    cases hs
    have hd' : f'.defers = [] := by
     have := hf.defers
     rw [hdef] at this
     cases h : f'.defers with
     | nil => rfl
     | cons a l => rw [h] at this; cases this
    have hsr := sr_results (P := P) (ok := fun c => okCode P L c = true) (Poi := Poi) fn hf.tmps
    have hres2 : (results fn f.tmps).run P ((v.re w₁.tape w₁.drawn).re t d) = .ok x ((v.re w₁.tape w₁.drawn).re t d) := hres
    obtain ⟨r1, r2, r3⟩ := hsr.retape (hw₁.re t d) hres2
    have r4 := r3 w₁.tape w₁.drawn fun k q hk => absurd hk (by omega)
    have r5 : (results fn f.tmps).run P (v.re w₁.tape w₁.drawn) = .ok x (v.re w₁.tape w₁.drawn) := by
     have e : w₁.drawn + (((v.re w₁.tape w₁.drawn).re t d).drawn - ((v.re w₁.tape w₁.drawn).re t d).drawn) = w₁.drawn := by omega
     rw [e] at r4
     exact r4
    obtain ⟨σ, x', w₂, g1, g2, g3, g4, g5, g6, g7⟩ := piece hsr hw₁ r5
    have hlt : ∀ b c, σ b = some c → c < w₂.heap.size := fun b c h => (g4.lt h).2
    have e : stepG ((cfg P L F).here P) m { frame := f', callers := [] ++ c :: cs, status := .running, dying := none } w₁ = .go { frame := c.finish x', callers := cs, status := .running, dying := none } w₂ (seen ((cfg P L F).here P) f'.fn ((results fn f'.tmps).events ((cfg P L F).here P) w₁ #[]) ++ #[]) := by
     have hm' := hm.trans hmode
     unfold stepG
     simp only [hm']
     unfold unwind
     simp only [hd', hm']
     have hfn' : ((cfg P L F).here P).funcs[f.fn]? = some fn := by
      obtain ⟨fn₂, k1, k2, -⟩ := hN.fns _ (hf.nice hr0)
      rw [hfn] at k1
      cases k1
      exact k2
     rw [hf.fn, hfn']
     simp only [Sem.runT_eq, g2, List.nil_append]
     rw [doReturn_pop hf.kind']
     rfl
    refine ⟨_, _, _, e, mine_of ho₁ g1 g6 hlt hro₁ (fun e h => evSeen g5 e (by simpa using h)), .stop ?_⟩
    exact ⟨σ, x, x', _, hR _ _ _ _ hx, g3, g4, ho₁.step g1 g6 hlt hro₁, rfl⟩
  refine .step hp (fun w₁ h => ?_) fun w₁ g₂ w₂ es h e => ?_
  ·obtain ⟨g₂, w₂, es, e, hm, _⟩ := main w₁ h
   exact ⟨g₂, w₂, es, e, hm⟩
  ·obtain ⟨g₃, w₃, es₃, e₃, _, hl⟩ := main w₁ h
   rw [e] at e₃
   simp only [GStep.go.injEq] at e₃
   obtain ⟨rfl, rfl, rfl⟩ := e₃
   exact hl
 | @step g v hn hs hk ih =>
  intro ρ g' w own hg hw ho hro
  have main : ∀ w₁, Keeps own Ro w w₁ → ∃ g₂ w₂ es, stepG ((cfg P L F).here P) m g' w₁ = .go g₂ w₂ es ∧ Mine own Ro w₁ w₂ es ∧ Live ((cfg P L F).here P) m Ro (Back P L F Poi Ro R c cs) (grown own w₁ w₂) g₂ w₂ := by
   intro w₁ hkp
   have hw₁ := hw.keeps ho hkp
   have ho₁ := ho.keeps hkp
   have hro₁ : ∀ b, Ro b → b < w₁.heap.size := fun b h => Nat.lt_of_lt_of_le (hro b h) hkp.size
   obtain ⟨g₁, v₁, es, e, hm⟩ := hs w₁.tape w₁.drawn
   have o := step_out (m := true) (m' := m) hN hP hg hw₁ hn
   rw [e] at o
   generalize e2 : stepG ((cfg P L F).here P) m g' w₁ = z at o
   cases o with
   | @go σ _ g₂ _ w₂ _ es' le hg₂ hw₂ he hf hv =>
    have hlt : ∀ b c, σ b = some c → c < w₂.heap.size := fun b c h => (hw₂.lt h).2
    refine ⟨_, _, _, rfl, mine_of ho₁ le hf hlt hro₁ he, ?_⟩
    refine ih _ _ _ _ _ e hg₂ ?_ (ho₁.step le hf hlt hro₁) fun b h => Nat.lt_of_lt_of_le (hro₁ b h) hf.size
    have : v₁.re w₂.tape w₂.drawn = v₁ := by
     rw [← hw₂.tape, ← hw₂.drawn]
     rfl
    rw [this]
    exact hw₂
   | spec le hg => rw [hL] at hg; cases hg
   | bad h =>
    cases h with
    | mk _ hr _ _ => exact absurd hr (hm _)
  have hp : g'.status = .running ∧ g'.dying = none := by cases hg; exact ⟨rfl, rfl⟩
  refine .step hp (fun w₁ h => ?_) fun w₁ g₂ w₂ es h e => ?_
  ·obtain ⟨g₂, w₂, es, e, hm, _⟩ := main w₁ h
   exact ⟨g₂, w₂, es, e, hm⟩
  ·obtain ⟨g₃, w₃, es₃, e₃, _, hl⟩ := main w₁ h
   rw [e] at e₃
   simp only [GStep.go.injEq] at e₃
   obtain ⟨rfl, rfl, rfl⟩ := e₃
   exact hl
end
end Go.Proofs.Ytjgleaakgbnjgaa.Par
end

section
namespace Go.Proofs.Ytjgleaakgbnjgaa.Par
open Go
section
variable {P : Program} {L : Fns} {F : Array Func}
def same (Ro : Nat → Bool) : Emb := fun b => if Ro b then some b else none
structure Sharable (P : Program) (L : Fns) (F : Array Func) (Ro : Nat → Bool) (w : World) : Prop where
 size : P.globals.size ≤ w.heap.size
 cells : ∀ b, Ro b = true → P.globals.size ≤ b ∧ ∃ c t fr, w.heap[b]? = some (.cells c t fr) ∧ (∀ i, fr.1 ≤ i → i < fr.2 → i < c.size) ∧ ∀ (i : Nat) (x : Value), c[i]? = some x → VR (cfg P L F) (same Ro) x x
def Away (Ro : Nat → Bool) (w : World) : Nat → Prop := fun b => b < w.heap.size ∧ Ro b = false
theorem same_some {Ro : Nat → Bool} {b c : Nat} (h : same Ro b = some c) : Ro b = true ∧ c = b := by
 unfold same at h
 split at h
 ·rename_i h2
  cases h
  exact ⟨h2, rfl⟩
 ·cases h
end
end Go.Proofs.Ytjgleaakgbnjgaa.Par
end

section
namespace Go.Proofs.Ytjgleaakgbnjgaa.Par
open Go
section
variable {P : Program} {L : Fns} {F : Array Func}
structure Ownable (P : Program) (L : Fns) (F : Array Func) (Ro Mn : Nat → Bool) (w : World) : Prop where
 size : P.globals.size ≤ w.heap.size
 apart : ∀ b, Ro b = true → Mn b = false
 cells : ∀ b, Ro b = true ∨ Mn b = true → P.globals.size ≤ b ∧ ∃ c t fr, w.heap[b]? = some (.cells c t fr) ∧ (∀ i, fr.1 ≤ i → i < fr.2 → i < c.size) ∧ ∀ (i : Nat) (x : Value), c[i]? = some x → VR (cfg P L F) (same fun b => Ro b || Mn b) x x
end
end Go.Proofs.Ytjgleaakgbnjgaa.Par
end

section
namespace Go.Proofs.Ytjgleaakgbnjgaa.Par
open Go Go.Conc
open Go.ConcN (sumTo upd sumTo_upd upd_ne upd_same)
inductive Will (P : Program) (Q : Machine → Outcome → World → Trace → Prop) : Machine → Trace → Prop
 | ended {m : Machine} {t : Trace} {o : Outcome} {w : World} {ops : Array MemOp} (h : stepT P m = (.ended o w, ops)) (hq : Q m o w (t ++ ops)) : Will P Q m t
 | step {m : Machine} {t : Trace} {m' : Machine} {ops : Array MemOp} (h : stepT P m = (.next m', ops)) (hw : Will P Q m' (t ++ ops)) : Will P Q m t
section
variable {P : Program} {Q : Machine → Outcome → World → Trace → Prop}
theorem Will.run {m : Machine} {t : Trace} (h : Will P Q m t) : ∃ n last o w t', runNT P (n + 1) m t = (.ended o w, t') ∧ runN P n m = .next last ∧ Go.step P last = .ended o w ∧ Q last o w t' := by
 induction h with
 | @ended m t o w ops hs hq => exact ⟨0, m, o, w, t ++ ops, by simp [runNT, hs], rfl, by simp [Go.step, hs], hq⟩
 | @step m t m' ops hs _ ih =>
  obtain ⟨n, last, o, w, t', h1, h2, h3, h4⟩ := ih
  exact ⟨n + 1, last, o, w, t', by rw [runNT_succ_next hs]; exact h1, by rw [runN_succ_next hs]; exact h2, h3, h4⟩
theorem will_of_inv {α : Type} {r : α → α → Prop} (wf : WellFounded r) (Inv : α → Machine → Trace → Prop)
  (h : ∀ μ m t, Inv μ m t → ∃ m' ops, stepT P m = (.next m', ops) ∧ (Will P Q m' (t ++ ops) ∨ ∃ μ', r μ' μ ∧ Inv μ' m' (t ++ ops))) : ∀ μ m t, Inv μ m t → Will P Q m t := by
 intro μ
 induction μ using wf.induction with
 | _ μ ih =>
  intro m t hI
  obtain ⟨m', ops, hs, hw | ⟨μ', hr, hI'⟩⟩ := h μ m t hI
  ·exact .step hs hw
  ·exact .step hs (ih μ' hr _ _ hI')
abbrev NoShun : Loc → Prop := fun _ => False
def Calm (P : Program) (Q : Machine → Outcome → World → Trace → Prop) (g : Goroutine) (w : World) : Prop :=
 ∀ d gs sl t q, gs[0]? = some g → Leavers P t gs q → Past NoShun w.heap.size t → Will P Q (crowd gs (w.at d) sl) t
theorem calm_main {g : Goroutine} {w : World} (hrun : g.status = .running)
  (h : ∀ d gs sl t q, gs[0]? = some g → Leavers P t gs q → Past NoShun w.heap.size t → (∃ m' ops, runT P (crowd gs (w.at d) sl) 0 = (.next m', ops) ∧ Will P Q m' (t ++ ops)) ∨ ∃ o w' ops, runT P (crowd gs (w.at d) sl) 0 = (.ended o w', ops) ∧ ∀ d' sl', Q (crowd gs (w.at d') sl') o w' (t ++ ops)) :
  Calm P Q g w := by
 have key : ∀ M d gs sl t q, sumTo gs.size q ≤ M → gs[0]? = some g → Leavers P t gs q → Past NoShun w.heap.size t → Will P Q (crowd gs (w.at d) sl) t := by
  intro M
  induction M with
  | zero =>
   intro d gs sl t q hM h0 hL hP
   have haw : ∀ x ∈ gs, awake x := by
    intro x hx
    obtain ⟨i, hi, rfl⟩ := Array.mem_iff_getElem.1 hx
    rcases Nat.eq_zero_or_pos i with rfl | hpos
    ·have : gs[0] = g := by simpa [Array.getElem?_eq_getElem hi] using h0
     rw [this]; exact awake_of (.inl hrun)
    ·exact awake_of ((hL.old i _ hpos (Array.getElem?_eq_getElem hi)).status.elim .inl fun x => .inr (.inr x))
   obtain ⟨i, x, d', sl', hi, hx, hst⟩ := crowd_pick (P := P) (w := w.at d) (sl := sl) haw ⟨0, g, h0, hrun⟩
   rcases Nat.eq_zero_or_pos i with rfl | hpos
   ·rcases h d' gs sl' t q h0 hL hP with ⟨m', ops, e, hw⟩ | ⟨o, w', ops, e, hq⟩
    ·exact .step (hst.trans e) hw
    ·exact .ended (hst.trans e) (hq d sl)
   ·have hq := hL.old i x hpos hi
    have hlt : i < gs.size := (Array.getElem?_eq_some_iff.1 hi).1
    have := Go.ConcN.le_sumTo (f := q) hlt
    have e0 : q i = 0 := by omega
    rw [e0] at hq
    rw [hq.1] at hx
    cases hx
  | succ M ih =>
   intro d gs sl t q hM h0 hL hP
   have haw : ∀ x ∈ gs, awake x := by
    intro x hx
    obtain ⟨i, hi, rfl⟩ := Array.mem_iff_getElem.1 hx
    rcases Nat.eq_zero_or_pos i with rfl | hpos
    ·have : gs[0] = g := by simpa [Array.getElem?_eq_getElem hi] using h0
     rw [this]; exact awake_of (.inl hrun)
    ·exact awake_of ((hL.old i _ hpos (Array.getElem?_eq_getElem hi)).status.elim .inl fun x => .inr (.inr x))
   obtain ⟨i, x, d', sl', hi, hx, hst⟩ := crowd_pick (P := P) (w := w.at d) (sl := sl) haw ⟨0, g, h0, hrun⟩
   rcases Nat.eq_zero_or_pos i with rfl | hpos
   ·rcases h d' gs sl' t q h0 hL hP with ⟨m', ops, e, hw⟩ | ⟨o, w', ops, e, hq⟩
    ·exact .step (hst.trans e) hw
    ·exact .ended (hst.trans e) (hq d sl)
   ·have hq := hL.old i x hpos hi
    have hi0 : (i == 0) = false := by simp; omega
    have hlt : i < gs.size := (Array.getElem?_eq_some_iff.1 hi).1
    cases hqi : q i with
    | zero => rw [hqi] at hq; rw [hq.1] at hx; cases hx
    | succ k =>
     rw [hqi] at hq
     rcases hq with ⟨hf, _⟩ | ⟨_, g', es, hm, hstp, hq'⟩
     ·rw [hf] at hx; cases hx
     have hrunT := runT_crowd_go (P := P) (sl := sl') (i := i) hi (by rw [hi0]; exact hstp ((w.at d).at d'))
     have hsz : ((gs.map (woken P x g' ((w.at d).at d'))).setIfInBounds i g').size = gs.size := by simp
     have hsum : sumTo gs.size (upd q i k) + (k + 1) = sumTo gs.size q + k := by
      have := sumTo_upd q k id hlt
      simpa [hqi] using this
     refine .step (hst.trans hrunT) (ih d' _ sl' _ (upd q i k) (by rw [hsz]; omega) ?_ ⟨fun j y hj hy => ?_, fun j hj => ?_⟩ (hP.mute (by omega) hm))
     ·have hne : i ≠ 0 := by omega
      rw [Array.getElem?_setIfInBounds_ne hne, Array.getElem?_map, h0]
      simp [woken_running hrun]
     ·by_cases hji : i = j
      ·subst hji
       rw [Array.getElem?_setIfInBounds_self_of_lt (by simpa using hlt)] at hy
       obtain rfl := Option.some.inj hy
       rw [upd_same, Deaf_own]
       exact hq'
      ·rw [Array.getElem?_setIfInBounds_ne hji, Array.getElem?_map] at hy
       obtain ⟨z, hz, rfl⟩ := Option.map_eq_some_iff.1 hy
       have hqj := hL.old j z hj hz
       rw [woken_quitsD hqj, upd_ne q k (Ne.symm hji), Deaf_other t hji _ (fun op hop => by obtain ⟨e, _, rfl⟩ := Go.Conc.mem_ofEvents hop; rfl)]
       exact hqj
     ·rw [Deaf_other t (g' := i) (by simp at hj; omega) _ (fun op hop => by obtain ⟨e, _, rfl⟩ := Go.Conc.mem_ofEvents hop; rfl)]
      exact hL.above j (by simpa using hj)
 exact fun d gs sl t q => key _ d gs sl t q (Nat.le_refl _)
theorem calm_step {g : Goroutine} {w : World} (hrun : g.status = .running) (h : ∀ d, ∃ g' w' es, stepG P true g (w.at d) = .go g' w' es ∧ w.heap.size ≤ w'.heap.size ∧ (∀ e ∈ es, EvL NoShun w'.heap.size e) ∧ Calm P Q g' w') : Calm P Q g w := by
 refine calm_main hrun fun d gs sl t q h0 hL hP => .inl ?_
 obtain ⟨g', w', es, e, hs, he, hC⟩ := h d
 refine ⟨_, _, runT_crowd_go (P := P) (sl := sl) (i := 0) h0 (show stepG P (0 == 0) g (w.at d) = _ from e), hC w'.drawn _ _ _ q ?_ ⟨fun j x hj hx => ?_, fun j hj => ?_⟩ ((hP.mono hs).own he)⟩
 ·have hlt : 0 < gs.size := (Array.getElem?_eq_some_iff.1 h0).1
  rw [Array.getElem?_setIfInBounds_self_of_lt (by simpa using hlt)]
 ·have hne : 0 ≠ j := by omega
  rw [Array.getElem?_setIfInBounds_ne hne, Array.getElem?_map] at hx
  obtain ⟨y, hy, rfl⟩ := Option.map_eq_some_iff.1 hx
  have hq := hL.old j y hj hy
  rw [woken_quitsD hq, Deaf_other t (by omega) _ (fun op hop => by obtain ⟨e, _, rfl⟩ := Go.Conc.mem_ofEvents hop; rfl)]
  exact hq
 ·have hlt : 0 < gs.size := (Array.getElem?_eq_some_iff.1 h0).1
  rw [Deaf_other t (g' := 0) (by simp at hj; omega) _ (fun op hop => by obtain ⟨e, _, rfl⟩ := Go.Conc.mem_ofEvents hop; rfl)]
  exact hL.above j (by simpa using hj)
theorem evL_of_mine {own Ro : Nat → Prop} {B : Nat} {e : Event} (h : EvMine own Ro e) (ho : ∀ b, own b → b < B) (hr : ∀ b, Ro b → b < B) : EvL NoShun B e := by
 obtain ⟨loc, wr, sy⟩ := e
 unfold EvMine at h
 cases loc with
 | cell a =>
  have hb : a.block < B := h.elim (ho _) fun x => hr _ x.1
  refine ⟨fun x _ hs => hs.elim, by simp, by simp, ?_⟩
  cases wr <;> cases sy <;> exact hb
 | obj r =>
  have hb : r < B := h.elim (ho _) fun x => hr _ x.1
  refine ⟨fun x _ hs => hs.elim, by simp, by simp, ?_⟩
  cases wr <;> cases sy <;> exact hb
 | mark m =>
  rcases h with rfl | ⟨f, rfl⟩
  ·refine ⟨fun x _ hs => hs.elim, by simp, by simp, ?_⟩
   cases wr <;> cases sy <;> trivial
  ·refine ⟨fun x _ hs => hs.elim, by simp, by simp, ?_⟩
   cases wr <;> cases sy <;> trivial
 | output => exact h.elim
 | goroutines => exact h.elim
structure Since (own : Nat → Prop) (w w' : World) : Prop where
 size : w.heap.size ≤ w'.heap.size
 keep : ∀ b, b < w.heap.size → ¬own b → w'.heap[b]? = w.heap[b]?
 os : w'.os = w.os
 output : w'.output = w.output
 tape : w'.tape = w.tape
theorem Since.refl (own : Nat → Prop) (w : World) : Since own w w := ⟨Nat.le_refl _, fun _ _ _ => rfl, rfl, rfl, rfl⟩
theorem keeps_at {own Ro : Nat → Prop} (w : World) (d : Nat) : Keeps own Ro w (w.at d) := ⟨Nat.le_refl _, fun _ _ => rfl, rfl, rfl⟩
theorem calm_of_live {Ro own : Nat → Prop} {Stop : (Nat → Prop) → Goroutine → World → Prop} {g : Goroutine} {w : World} (hL : Live P true Ro Stop own g w) :
  ∀ (ho : ∀ b, own b → b < w.heap.size) (hr : ∀ b, Ro b → b < w.heap.size) (hS : ∀ own' g' w', Stop own' g' w' → (∀ b, own' b → b < w'.heap.size) → (∀ b, own b → own' b) → Since own w w' → Calm P Q g' w'), Calm P Q g w := by
 induction hL with
 | @stop own g w h => exact fun ho hr hS => hS own g w h ho (fun _ h => h) (Since.refl _ _)
 | @step own g w hg hs hk ih =>
  intro ho hr hS
  refine calm_step hg.1 fun d => ?_
  obtain ⟨g', w', es, e, hm⟩ := hs _ (keeps_at w d)
  have ho' : ∀ b, grown own (w.at d) w' b → b < w'.heap.size := fun b hb => hb.elim (fun h => Nat.lt_of_lt_of_le (ho b h) hm.size) fun h => h.2
  have hr' : ∀ b, Ro b → b < w'.heap.size := fun b hb => Nat.lt_of_lt_of_le (hr b hb) hm.size
  refine ⟨g', w', es, e, hm.size, fun x hx => evL_of_mine (hm.events x hx) ho' hr', ?_⟩
  refine ih _ _ _ _ (keeps_at w d) e ho' hr' fun own' g'' w'' h1 h2 h3 h4 => hS own' g'' w'' h1 h2 (fun b hb => h3 b (.inl hb)) ?_
  refine ⟨Nat.le_trans hm.size h4.size, fun b hb hn => ?_, h4.os.trans hm.os, h4.output.trans hm.output, h4.tape.trans hm.tape⟩
  rw [h4.keep b (Nat.lt_of_lt_of_le hb hm.size) (fun hx => hx.elim hn fun h => absurd h.1 (Nat.not_le.2 hb))]
  exact hm.keep b hb hn
theorem Calm.start {g : Goroutine} {w : World} (h : Calm P Q g w) (sl : Option (Nat × Nat)) : Will P Q (crowd #[g] w sl) #[] :=
 h w.drawn #[g] sl #[] (fun _ => 0) rfl (leavers_one P g) (past_nil.mono (Nat.zero_le _))
end
end Go.Proofs.Ytjgleaakgbnjgaa.Par
end

section
namespace Go.Proofs.Ytjgleaakgbnjgaa.Par
open Go Go.Conc
def blockOf : Loc → Nat
 | .cell a => a.block
 | .obj r => r
 | _ => 0
structure TInv (t : Trace) (B : Nat) (who : Nat → Option Nat) (act pend : Nat → Prop) : Prop where
 clean : ∀ said, ¬Race said t
 own : ∀ i a, touchAt t i = some a → a.loc.isMemory = true → ∀ g, who (blockOf a.loc) = some g → Knows t g i
 ro : ∀ i a, touchAt t i = some a → a.loc.isMemory = true → who (blockOf a.loc) = none → a.write = true → ∀ g, act g → Knows t g i
 known : ∀ i a, touchAt t i = some a → a.loc.isMemory = true → Knows t 0 i ∨ ∃ op, t[i]? = some op ∧ pend op.g
 hears : ∀ g, act g → Deaf t g = 0
 seen : ∀ op ∈ t, op.act.low B
def Plain (op : MemOp) : Prop := op.act ≠ .mark .disable ∧ op.act ≠ .mark .enable
theorem deafStep_plain {op : MemOp} (h : Plain op) (g d : Nat) : deafStep g d op = d := by
 unfold deafStep
 split
 ·rename_i e; exact absurd e h.1
 ·rename_i e; exact absurd e h.2
 ·rfl
theorem deaf_plain {t u : Trace} (hu : ∀ op ∈ u, Plain op) (g : Nat) : ∀ n, n ≤ u.size → (t ++ u).deaf g (t.size + n) = Deaf t g
 | 0, _ => by rw [Nat.add_zero]; exact deaf_old (Nat.le_refl _)
 | n + 1, hn => by
  have hlt : n < u.size := hn
  have hy : (t ++ u)[t.size + n]? = some u[n] := by
   rw [Array.getElem?_append_right (Nat.le_add_right _ _), Nat.add_sub_cancel_left]
   exact Array.getElem?_eq_getElem hlt
  rw [← Nat.add_assoc, deaf_succ hy, deaf_plain hu g n (Nat.le_of_lt hlt), deafStep_plain (hu _ (Array.getElem_mem hlt))]
theorem Deaf_plain {t u : Trace} (hu : ∀ op ∈ u, Plain op) (g : Nat) : Deaf (t ++ u) g = Deaf t g := by
 have h := deaf_plain (t := t) hu g u.size (Nat.le_refl _)
 unfold Deaf at h ⊢
 rw [Array.size_append]
 exact h
theorem heard_new {t u : Trace} (hu : ∀ op ∈ u, Plain op) {i : Nat} {op : MemOp} (hi : t.size ≤ i) (hop : (t ++ u)[i]? = some op) (hd : Deaf t op.g = 0) : (t ++ u).heard i := by
 refine ⟨op.g, by simp [Trace.g?, hop], ?_⟩
 have hlt := lt_size_of_getElem? hop
 rw [Array.size_append] at hlt
 have := deaf_plain (t := t) hu op.g (i - t.size) (by omega)
 rw [show t.size + (i - t.size) = i by omega] at this
 rw [this, hd]
theorem touchAt_app {t u : Trace} {i : Nat} {a : Touch} (h : touchAt (t ++ u) i = some a) : (i < t.size ∧ touchAt t i = some a) ∨ (t.size ≤ i ∧ ∃ op ∈ u, (t ++ u)[i]? = some op ∧ op.act.touch? = some a) := by
 obtain ⟨x, hx, hxa⟩ := touch_of h
 rcases getElem?_append_cases hx with ⟨hi, hx'⟩ | ⟨hi, hxu⟩
 ·exact .inl ⟨hi, by rw [touchAt_of hx']; exact hxa⟩
 ·exact .inr ⟨hi, x, hxu, hx, hxa⟩
theorem touch_mine {own Ro : Nat → Prop} {e : Event} {b : Touch} (h : EvMine own Ro e) (ht : (MemAct.ofEvent e).touch? = some b) : b.loc = e.loc ∧ b.write = e.write := by
 obtain ⟨loc, wr, sy⟩ := e
 unfold EvMine at h
 cases loc with
 | cell a => cases wr <;> cases sy <;> simp [MemAct.ofEvent, MemAct.touch?] at ht <;> subst ht <;> exact ⟨rfl, rfl⟩
 | obj r => cases wr <;> cases sy <;> simp [MemAct.ofEvent, MemAct.touch?] at ht <;> subst ht <;> exact ⟨rfl, rfl⟩
 | mark m =>
  rcases h with rfl | ⟨f, rfl⟩ <;> cases wr <;> cases sy <;> simp [MemAct.ofEvent, MemAct.touch?] at ht
 | output => exact h.elim
 | goroutines => exact h.elim
theorem plain_mine {own Ro : Nat → Prop} {e : Event} (h : EvMine own Ro e) (g : Nat) (fn : FuncId) (pos : String) : Plain { g, fn, pos, act := .ofEvent e } := by
 obtain ⟨loc, wr, sy⟩ := e
 unfold EvMine at h
 cases loc with
 | cell a => cases wr <;> cases sy <;> exact ⟨nofun, nofun⟩
 | obj r => cases wr <;> cases sy <;> exact ⟨nofun, nofun⟩
 | mark m => rcases h with rfl | ⟨f, rfl⟩ <;> cases wr <;> cases sy <;> exact ⟨nofun, nofun⟩
 | output => exact h.elim
 | goroutines => exact h.elim
theorem low_block {B : Nat} {op : MemOp} {a : Touch} (h : op.act.low B) (ht : op.act.touch? = some a) (hm : a.loc.isMemory = true) : blockOf a.loc < B := by
 obtain ⟨g, fn, pos, act⟩ := op
 cases act with
 | access e =>
  simp only [MemAct.touch?, Option.some.injEq] at ht
  subst ht
  obtain ⟨loc, wr, sy⟩ := e
  cases loc with
  | cell a => exact h
  | obj r => exact h
  | _ => cases hm
 | mark m =>
  cases m with
  | read a => simp only [MemAct.touch?, Option.some.injEq] at ht; subst ht; exact h
  | write a => simp only [MemAct.touch?, Option.some.injEq] at ht; subst ht; exact h
  | _ => cases ht
 | _ => cases ht
section
variable {t u : Trace} {B : Nat} {who : Nat → Option Nat} {act pend : Nat → Prop}
theorem TInv.step (h : TInv t B who act pend) {g : Nat} {own Ro : Nat → Prop} {B' : Nat} {es : Array Event} {fn : FuncId} {pos : String} (hg : act g) (hp : g = 0 ∨ pend g) (hB : B ≤ B')
  (he : ∀ e ∈ es, EvMine (fun b => own b ∨ B ≤ b ∧ b < B') Ro e) (ho : ∀ b, own b → who b = some g ∧ b < B) (hr : ∀ b, Ro b → who b = none ∧ b < B) :
  TInv (t ++ MemOp.ofEvents g fn pos es) B' (fun b => if B ≤ b ∧ b < B' then some g else who b) act pend := by
 have hu : ∀ op ∈ MemOp.ofEvents g fn pos es, op.g = g := fun op hop => by obtain ⟨e, _, rfl⟩ := Go.Conc.mem_ofEvents hop; rfl
 have hpl : ∀ op ∈ MemOp.ofEvents g fn pos es, Plain op := fun op hop => by obtain ⟨e, he', rfl⟩ := Go.Conc.mem_ofEvents hop; exact plain_mine (he e he') _ _ _
 have hold : ∀ i a, touchAt t i = some a → a.loc.isMemory = true → blockOf a.loc < B := fun i a ha hm => by
  obtain ⟨x, hx, hxa⟩ := touch_of ha
  exact low_block (h.seen x (mem_of_getElem? hx)) hxa hm
 have hnew : ∀ op ∈ MemOp.ofEvents g fn pos es, ∀ a, op.act.touch? = some a → a.loc.isMemory = true → (own (blockOf a.loc)) ∨ (B ≤ blockOf a.loc ∧ blockOf a.loc < B') ∨ (Ro (blockOf a.loc) ∧ a.write = false) := by
  intro op hop a ha hm
  obtain ⟨e, he', rfl⟩ := Go.Conc.mem_ofEvents hop
  have hm' := he e he'
  obtain ⟨h1, h2⟩ := touch_mine hm' ha
  unfold EvMine at hm'
  rw [h1, h2]
  rw [h1] at hm
  cases hl : e.loc with
  | cell a => rw [hl] at hm'; rcases hm' with (x | x) | x <;> simp [blockOf, x]
  | obj r => rw [hl] at hm'; rcases hm' with (x | x) | x <;> simp [blockOf, x]
  | mark m => rw [hl] at hm; cases hm
  | output => rw [hl] at hm; cases hm
  | goroutines => rw [hl] at hm; cases hm
 refine ⟨fun said => noRace_append (h.clean said) hu fun i a ha op hop b hb hc => ?_, fun i a ha hm x hx => ?_, fun i a ha hm hx hw x hxa => ?_, fun i a ha hm => ?_, fun x hx => ?_, fun op hop => ?_⟩
 ·obtain ⟨hl, hm, hw, _⟩ := hc
  have hb' := hold i a ha hm
  rcases hnew op hop b hb (hl ▸ hm) with x | x | ⟨x, y⟩
  ·exact h.own i a ha hm g (by rw [hl]; exact (ho _ x).1)
  ·rw [hl] at hb'; exact absurd x.1 (Nat.not_le.2 hb')
  ·rw [y] at hw
   exact h.ro i a ha hm (by rw [hl]; exact (hr _ x).1) (by simpa using hw) g hg
 ·rcases touchAt_app ha with ⟨hi, ha'⟩ | ⟨hi, op, hop, hop', hopa⟩
  ·have hb' := hold i a ha' hm
   rw [if_neg (by omega)] at hx
   exact (h.own i a ha' hm x hx).app _
  ·have hk := knows_own hop'
   rw [hu op hop] at hk
   rcases hnew op hop a hopa hm with y | y | ⟨y, _⟩
   ·have := ho _ y
    rw [if_neg (by omega), this.1] at hx
    cases hx
    exact hk
   ·rw [if_pos y] at hx
    cases hx
    exact hk
   ·have := hr _ y
    rw [if_neg (by omega), this.1] at hx
    cases hx
 ·rcases touchAt_app ha with ⟨hi, ha'⟩ | ⟨hi, op, hop, hop', hopa⟩
  ·have hb' := hold i a ha' hm
   rw [if_neg (by omega)] at hx
   exact (h.ro i a ha' hm hx hw x hxa).app _
  ·rcases hnew op hop a hopa hm with y | y | ⟨y, z⟩
   ·have := ho _ y
    rw [if_neg (by omega), this.1] at hx
    cases hx
   ·rw [if_pos y] at hx
    cases hx
   ·rw [hw] at z
    cases z
 ·rcases touchAt_app ha with ⟨hi, ha'⟩ | ⟨hi, op, hop, hop', hopa⟩
  ·rcases h.known i a ha' hm with x | ⟨op, h1, h2⟩
   ·exact .inl (x.app _)
   ·exact .inr ⟨op, by rw [getElem?_append_old hi]; exact h1, h2⟩
  ·rcases hp with rfl | hp
   ·have hk := knows_own hop'
    rw [hu op hop] at hk
    exact .inl hk
   ·exact .inr ⟨op, hop', by rw [hu op hop]; exact hp⟩
 ·rw [Deaf_plain hpl]
  exact h.hears x hx
 ·rcases Array.mem_append.1 hop with hop | hop
  ·exact MemAct.low_mono hB (h.seen op hop)
  ·obtain ⟨e, he', rfl⟩ := Go.Conc.mem_ofEvents hop
   exact (evL_of_mine (he e he') (fun b hb => hb.elim (fun x => Nat.lt_of_lt_of_le (ho b x).2 hB) fun x => x.2) fun b hb => Nat.lt_of_lt_of_le (hr b hb).2 hB).2.2.2
theorem TInv.quiet (h : TInv t B who act pend) (hn : ∀ op ∈ u, op.act.touch? = none) (hl : ∀ op ∈ u, op.act.low B) (hd : ∀ g, act g → Deaf (t ++ u) g = Deaf t g) : TInv (t ++ u) B who act pend := by
 have old : ∀ {i a}, touchAt (t ++ u) i = some a → i < t.size ∧ touchAt t i = some a := fun {i a} ha => by
  rcases touchAt_app ha with x | ⟨hi, op, hop, hop', hopa⟩
  ·exact x
  ·rw [hn op hop] at hopa
   cases hopa
 refine ⟨fun said => ?_, fun i a ha hm x hx => (h.own i a (old ha).2 hm x hx).app _, fun i a ha hm hx hw x hxa => (h.ro i a (old ha).2 hm hx hw x hxa).app _, fun i a ha hm => ?_, fun x hx => (hd x hx).trans (h.hears x hx), seen_app h.seen hl⟩
 ·rintro ⟨i, j, hij, ⟨a, b, ha, hb, hc⟩, n1, n2⟩
  have hi := old (i := i) (a := a) ha
  have hj := old (i := j) (a := b) hb
  exact h.clean said ⟨i, j, hij, ⟨a, b, hi.2, hj.2, hc⟩, fun e => n1 (hb_app u e), fun e => n2 (hb_app u e)⟩
 ·rcases h.known i a (old ha).2 hm with x | ⟨op, h1, h2⟩
  ·exact .inl (x.app _)
  ·exact .inr ⟨op, by rw [getElem?_append_old (old ha).1]; exact h1, h2⟩
theorem TInv.quietPlain (h : TInv t B who act pend) (hn : ∀ op ∈ u, op.act.touch? = none) (hl : ∀ op ∈ u, op.act.low B) (hp : ∀ op ∈ u, Plain op) : TInv (t ++ u) B who act pend := h.quiet hn hl fun g _ => Deaf_plain hp g
theorem TInv.mute (h : TInv t B who act pend) {g : Nat} {fn : FuncId} {pos : String} {es : Array Event} (hg : ¬act g) (hm : ∀ e ∈ es, e.mute = true) : TInv (t ++ MemOp.ofEvents g fn pos es) B who act pend := by
 refine h.quiet (fun op hop => by obtain ⟨e, he, rfl⟩ := Go.Conc.mem_ofEvents hop; exact touch_mute (hm e he)) (fun op hop => by obtain ⟨e, he, rfl⟩ := Go.Conc.mem_ofEvents hop; exact low_mute (hm e he) B) fun x hx => ?_
 exact Deaf_other t (g' := g) (fun e => hg (e ▸ hx)) _ fun op hop => by obtain ⟨e, _, rfl⟩ := Go.Conc.mem_ofEvents hop; rfl
theorem TInv.sub (h : TInv t B who act pend) {act' pend' : Nat → Prop} (ha : ∀ g, act' g → act g) (hp : ∀ i a op, touchAt t i = some a → a.loc.isMemory = true → t[i]? = some op → pend op.g → pend' op.g ∨ Knows t 0 i) : TInv t B who act' pend' :=
 ⟨h.clean, h.own, fun i a h1 h2 h3 h4 g hg => h.ro i a h1 h2 h3 h4 g (ha g hg), fun i a h1 h2 => by
  rcases h.known i a h1 h2 with x | ⟨op, h3, h4⟩
  ·exact .inl x
  ·rcases hp i a op h1 h2 h3 h4 with x | x
   ·exact .inr ⟨op, h3, x⟩
   ·exact .inl x, fun g hg => h.hears g (ha g hg), h.seen⟩
theorem TInv.ofPast (h : Past NoShun B t) (who : Nat → Option Nat) (hw : ∀ b g, who b = some g → g = 0) : TInv t B who (fun g => g = 0) fun _ => False := by
 have kn : ∀ i a, touchAt t i = some a → a.loc.isMemory = true → Knows t 0 i := fun i a ha hm => (h.known i a ha hm).elim id fun x => x.1.elim
 exact ⟨h.clean, fun i a ha hm g hg => by rw [hw _ _ hg]; exact kn i a ha hm, fun i a ha hm _ _ g hg => by rw [hg]; exact kn i a ha hm, fun i a ha hm => .inl (kn i a ha hm), fun g hg => by rw [hg]; exact h.hears, h.seen⟩
theorem TInv.toPast (h : TInv t B who act fun _ => False) (h0 : act 0) : Past NoShun B t := by
 have kn : ∀ i a, touchAt t i = some a → a.loc.isMemory = true → Knows t 0 i := fun i a ha hm => (h.known i a ha hm).elim id fun ⟨_, _, x⟩ => x.elim
 refine ⟨h.clean, fun i a ha hm => .inl (kn i a ha hm), fun i g hg hne hc => ?_, h.hears 0 h0, h.seen⟩
 obtain ⟨x, hx, hm, _⟩ := hc
 obtain ⟨q, z, h1, h2, h3⟩ := kn i x hx hm
 refine ⟨q, by simp [Trace.g?, h1, h2], ?_⟩
 rcases h3 with rfl | h3
 ·simp [Trace.g?, h1] at hg
  omega
 ·exact h3
theorem TInv.spawn (h : TInv t B who act pend) {k : Nat} {fn fn' : FuncId} {pos pos' : String} (h0 : act 0) (hk : Deaf t k = 0) (hw : ∀ b, who b ≠ some k) : TInv (t ++ #[{ g := 0, fn, pos, act := .go k }, { g := k, fn := fn', pos := pos', act := .start }]) B who (fun g => act g ∨ g = k) (fun g => pend g ∨ g = k) := by
 have hpl : ∀ op ∈ (#[{ g := 0, fn, pos, act := .go k }, { g := k, fn := fn', pos := pos', act := .start }] : Array MemOp), Plain op ∧ op.act.touch? = none ∧ op.act.low B := by
  intro op hop
  simp at hop
  rcases hop with rfl | rfl <;> exact ⟨⟨nofun, nofun⟩, rfl, trivial⟩
 have h' := h.quietPlain (u := #[{ g := 0, fn, pos, act := .go k }, { g := k, fn := fn', pos := pos', act := .start }]) (fun op hop => (hpl op hop).2.1) (fun op hop => (hpl op hop).2.2) fun op hop => (hpl op hop).1
 generalize hu : (#[{ g := 0, fn, pos, act := .go k }, { g := k, fn := fn', pos := pos', act := .start }] : Array MemOp) = u at *
 have e0 : (t ++ u)[t.size]? = some { g := 0, fn, pos, act := .go k } := by
  rw [Array.getElem?_append_right (Nat.le_refl _)]
  subst hu
  simp
 have e1 : (t ++ u)[t.size + 1]? = some { g := k, fn := fn', pos := pos', act := .start } := by
  rw [Array.getElem?_append_right (by omega)]
  subst hu
  simp
 have edge : HappensBefore (t ++ u) t.size (t.size + 1) := by
  refine .single (.inr ⟨.spawn (child := k) (by simp [Trace.act?, e0]) (by simp [Trace.act?, e1]) (by simp [Trace.g?, e1]), heard_new (fun op hop => (hpl op hop).1) (Nat.le_refl _) e0 (h.hears 0 h0), heard_new (fun op hop => (hpl op hop).1) (by omega) e1 hk⟩)
 refine ⟨h'.clean, h'.own, fun i a ha hm hx hwr g hg => ?_, fun i a ha hm => ?_, fun g hg => ?_, h'.seen⟩
 ·rcases hg with hg | rfl
  ·exact h'.ro i a ha hm hx hwr g hg
  ·rcases touchAt_app ha with ⟨hi, ha'⟩ | ⟨hi, op, hop, hop', hopa⟩
   ·have := h.ro i a ha' hm hx hwr 0 h0
    exact ⟨t.size + 1, _, e1, rfl, .inr ((this.hb_new (Nat.le_refl _) e0 rfl).trans edge)⟩
   ·rw [(hpl op hop).2.1] at hopa
    cases hopa
 ·rcases h'.known i a ha hm with x | ⟨op, h3, h4⟩
  ·exact .inl x
  ·exact .inr ⟨op, h3, .inl h4⟩
 ·rcases hg with hg | rfl
  ·exact h'.hears g hg
  ·rw [Deaf_plain fun op hop => (hpl op hop).1]
   exact hk
structure SentAt (t : Trace) (k c n p : Nat) : Prop where
 op : ∃ op, t[p]? = some op ∧ op.g = k ∧ op.act = .send c n
 heard : t.heard p
 last : ∀ i op, t[i]? = some op → op.g = k → op.act.touch? ≠ none → i < p
theorem SentAt.app {k c n p : Nat} (h : SentAt t k c n p) (hu : ∀ op ∈ u, op.g = k → op.act.touch? = none) : SentAt (t ++ u) k c n p := by
 obtain ⟨op, h1, h2, h3⟩ := h.op
 have hlt := lt_size_of_getElem? h1
 refine ⟨⟨op, by rw [getElem?_append_old hlt]; exact h1, h2, h3⟩, (heard_old hlt).2 h.heard, fun i x hx hg ht => ?_⟩
 rcases getElem?_append_cases hx with ⟨hi, hx'⟩ | ⟨_, hxu⟩
 ·exact h.last i x hx' hg ht
 ·exact absurd (hu x hxu hg) ht
theorem TInv.received (h : TInv t B who act pend) {k c n p q : Nat} (hs : SentAt t k c n p) {op : MemOp} (hq : t[q]? = some op) (hg : op.g = 0) (ha : op.act = .recvDone c n) (hh : t.heard q) : TInv t B who act fun g => pend g ∧ g ≠ k := by
 refine h.sub (fun g hg => hg) fun i a x h1 h2 h3 h4 => ?_
 by_cases hk : x.g = k
 ·right
  obtain ⟨y, hy, hyg, hya⟩ := hs.op
  have ht : x.act.touch? ≠ none := by
   rw [touchAt_of h3] at h1
   rw [h1]
   nofun
  have hlt := hs.last i x h3 hk ht
  have e1 : HappensBefore t i p := hb_po hlt h3 hy (hk.trans hyg.symm)
  have e2 : HappensBefore t p q := .single (.inr ⟨.handOver (c := c) (k := n) (by simp [Trace.act?, hy, hya]) (by simp [Trace.act?, hq, ha]), hs.heard, hh⟩)
  exact ⟨q, op, hq, hg, .inr (e1.trans e2)⟩
 ·exact .inl ⟨h4, hk⟩
end
end Go.Proofs.Ytjgleaakgbnjgaa.Par
end

section
namespace Go.Proofs.Ytjgleaakgbnjgaa.Par
open Go Go.Conc
open Go.ConcN (sumTo upd sumTo_upd upd_ne upd_same)
section
variable {P : Program} {Ro own : Nat → Prop} {gs gs' : Array Goroutine} {w w' : World} {t u : Trace} {q : Nat → Nat} {who : Nat → Option Nat} {busy pend : Nat → Prop}
structure Core (P : Program) (Ro : Nat → Prop) (gs : Array Goroutine) (w : World) (t : Trace) (q : Nat → Nat) (who : Nat → Option Nat) (busy pend : Nat → Prop) : Prop where
 tinv : TInv t w.heap.size who (fun g => g = 0 ∨ busy g) pend
 leave : ∀ i g, 0 < i → ¬busy i → gs[i]? = some g → QuitsD P (q i) (Deaf t i) g
 above : ∀ i, gs.size ≤ i → Deaf t i = 0
 ro : ∀ b, Ro b → who b = none ∧ b < w.heap.size
 whoLt : ∀ b k, who b = some k → k < gs.size
 size : 0 < gs.size
 busyPend : ∀ g, busy g → pend g ∧ 0 < g
def whoNew (who : Nat → Option Nat) (i : Nat) (w w' : World) : Nat → Option Nat := fun b => if w.heap.size ≤ b ∧ b < w'.heap.size then some i else who b
theorem whoNew_old {i b : Nat} (h : b < w.heap.size) : whoNew who i w w' b = who b := if_neg fun x => absurd x.1 (Nat.not_le.2 h)
theorem Core.at (h : Core P Ro gs w t q who busy pend) (d : Nat) : Core P Ro gs (w.at d) t q who busy pend := ⟨h.tinv, h.leave, h.above, h.ro, h.whoLt, h.size, h.busyPend⟩
theorem Core.step (h : Core P Ro gs w t q who busy pend) {i : Nat} (hi : i = 0 ∨ busy i) (hlt : i < gs.size) {es : Array Event} {fn : FuncId} {pos : String} (hm : Mine own Ro w w' es) (ho : ∀ b, own b → who b = some i ∧ b < w.heap.size)
  (hsz : gs'.size = gs.size) (hgs : ∀ j, j ≠ i → gs'[j]? = gs[j]?) : Core P Ro gs' w' (t ++ MemOp.ofEvents i fn pos es) q (whoNew who i w w') busy pend := by
 refine ⟨h.tinv.step hi (hi.imp id fun x => (h.busyPend _ x).1) hm.size hm.events ho h.ro, fun j g hj hb hg => ?_, fun j hj => ?_, fun b hb => ?_, fun b k hk => ?_, hsz ▸ h.size, h.busyPend⟩
 ·have hne : i ≠ j := by
   rintro rfl
   rcases hi with rfl | hi
   ·omega
   ·exact hb hi
  rw [hgs j (Ne.symm hne)] at hg
  rw [Deaf_other t hne _ fun op hop => by obtain ⟨e, _, rfl⟩ := Go.Conc.mem_ofEvents hop; rfl]
  exact h.leave j g hj hb hg
 ·rw [Deaf_other t (g' := i) (by omega) _ fun op hop => by obtain ⟨e, _, rfl⟩ := Go.Conc.mem_ofEvents hop; rfl]
  exact h.above j (by omega)
 ·have := h.ro b hb
  rw [whoNew_old this.2]
  exact ⟨this.1, Nat.lt_of_lt_of_le this.2 hm.size⟩
 ·unfold whoNew at hk
  split at hk
  ·cases hk
   omega
  ·rw [hsz]
   exact h.whoLt b k hk
theorem Core.slip (h : Core P Ro gs w t q who busy pend) {i k : Nat} (hi : 0 < i) (hb : ¬busy i) {g' : Goroutine} {fn : FuncId} {pos : String} {es : Array Event} (hm : ∀ e ∈ es, e.mute = true) (hq : QuitsD P k (deafBehind (Deaf t i) es) g')
  (hsz : gs'.size = gs.size) (hgi : gs'[i]? = some g') (hgs : ∀ j, j ≠ i → gs'[j]? = gs[j]?) : Core P Ro gs' w (t ++ MemOp.ofEvents i fn pos es) (upd q i k) who busy pend := by
 have hlt : i < gs.size := by
  rw [← hsz]
  exact (Array.getElem?_eq_some_iff.1 hgi).1
 refine ⟨h.tinv.mute (fun x => x.elim (by omega) hb) hm, fun j g hj hbj hg => ?_, fun j hj => ?_, h.ro, fun b k hk => by rw [hsz]; exact h.whoLt b k hk, hsz ▸ h.size, h.busyPend⟩
 ·by_cases e : j = i
  ·subst e
   rw [hgi] at hg
   cases hg
   rw [upd_same, Deaf_own]
   exact hq
  ·rw [hgs j e] at hg
   rw [upd_ne q k e, Deaf_other t (Ne.symm e) _ fun op hop => by obtain ⟨e, _, rfl⟩ := Go.Conc.mem_ofEvents hop; rfl]
   exact h.leave j g hj hbj hg
 ·rw [Deaf_other t (g' := i) (by omega) _ fun op hop => by obtain ⟨e, _, rfl⟩ := Go.Conc.mem_ofEvents hop; rfl]
  exact h.above j (by omega)
theorem Core.quiet (h : Core P Ro gs w t q who busy pend) (hs : w'.heap.size = w.heap.size) (hn : ∀ op ∈ u, op.act.touch? = none ∧ op.act.low w.heap.size ∧ Plain op) (hsz : gs'.size = gs.size) (hgs : ∀ j, 0 < j → ¬busy j → gs'[j]? = gs[j]?) :
  Core P Ro gs' w' (t ++ u) q who busy pend := by
 refine ⟨hs ▸ h.tinv.quietPlain (fun op hop => (hn op hop).1) (fun op hop => (hn op hop).2.1) fun op hop => (hn op hop).2.2, fun j g hj hbj hg => ?_, fun j hj => ?_, fun b hb => by rw [hs]; exact h.ro b hb, fun b k hk => by rw [hsz]; exact h.whoLt b k hk, hsz ▸ h.size, h.busyPend⟩
 ·rw [hgs j hj hbj] at hg
  rw [Deaf_plain fun op hop => (hn op hop).2.2]
  exact h.leave j g hj hbj hg
 ·rw [Deaf_plain fun op hop => (hn op hop).2.2]
  exact h.above j (by omega)
theorem Core.leaves (h : Core P Ro gs w t q who busy pend) {i k : Nat} (hb : busy i) {g : Goroutine} (hg : gs[i]? = some g) (hq : QuitsD P k 0 g) : Core P Ro gs w t (upd q i k) who (fun g => busy g ∧ g ≠ i) pend := by
 refine ⟨h.tinv.sub (fun g hg => hg.imp id fun x => x.1) fun _ _ _ _ _ _ x => .inl x, fun j x hj hbj hx => ?_, h.above, h.ro, h.whoLt, h.size, fun g hg => h.busyPend g hg.1⟩
 by_cases e : j = i
 ·subst e
  rw [hg] at hx
  cases hx
  rw [upd_same, h.tinv.hears j (.inr hb)]
  exact hq
 ·rw [upd_ne q k e]
  exact h.leave j x hj (fun y => hbj ⟨y, e⟩) hx
theorem Core.spawn (h : Core P Ro gs w t q who busy pend) {fn fn' : FuncId} {pos pos' : String} {child : Goroutine} (hsz : gs'.size = gs.size) (hgs : ∀ j, j ≠ 0 → gs'[j]? = gs[j]?) :
  Core P Ro (gs'.push child) w (t ++ #[{ g := 0, fn, pos, act := .go gs.size }, { g := gs.size, fn := fn', pos := pos', act := .start }]) q who (fun g => busy g ∨ g = gs.size) (fun g => pend g ∨ g = gs.size) := by
 have hpl : ∀ op ∈ (#[{ g := 0, fn, pos, act := .go gs.size }, { g := gs.size, fn := fn', pos := pos', act := .start }] : Array MemOp), Plain op := by
  intro op hop
  simp at hop
  rcases hop with rfl | rfl <;> exact ⟨nofun, nofun⟩
 have h1 := h.tinv.spawn (k := gs.size) (fn := fn) (fn' := fn') (pos := pos) (pos' := pos') (.inl rfl) (h.above _ (Nat.le_refl _)) fun b hb => absurd (h.whoLt b _ hb) (Nat.lt_irrefl _)
 refine ⟨h1.sub (fun g hg => ?_) fun _ _ _ _ _ _ x => .inl x, fun j x hj hbj hx => ?_, fun j hj => ?_, h.ro, fun b k hk => ?_, by simp, fun g hg => ?_⟩
 ·rcases hg with hg | hg | hg
  ·exact .inl (.inl hg)
  ·exact .inl (.inr hg)
  ·exact .inr hg
 ·have hne : j ≠ gs.size := fun e => hbj (.inr e)
  rw [Array.getElem?_push, hsz, if_neg hne, hgs j (by omega)] at hx
  rw [Deaf_plain hpl]
  exact h.leave j x hj (fun y => hbj (.inl y)) hx
 ·rw [Deaf_plain hpl]
  simp at hj
  exact h.above j (by omega)
 ·simp
  have := h.whoLt b k hk
  omega
 ·rcases hg with hg | rfl
  ·exact ⟨.inl (h.busyPend g hg).1, (h.busyPend g hg).2⟩
  ·exact ⟨.inr rfl, h.size⟩
theorem Core.setPend (h : Core P Ro gs w t q who busy pend) {pend' : Nat → Prop} (ht : TInv t w.heap.size who (fun g => g = 0 ∨ busy g) pend') (hp : ∀ g, busy g → pend' g) : Core P Ro gs w t q who busy pend' :=
 ⟨ht, h.leave, h.above, h.ro, h.whoLt, h.size, fun g hg => ⟨hp g hg, (h.busyPend g hg).2⟩⟩
theorem Core.ofCalm (hP : Past NoShun w.heap.size t) (hL : Leavers P t gs q) (h0 : 0 < gs.size) (hro : ∀ b, Ro b → b < w.heap.size) (own : Nat → Prop) (hne : ∀ b, own b → ¬Ro b) [DecidablePred own] : Core P Ro gs w t q (fun b => if own b then some 0 else none) (fun _ => False) fun _ => False := by
 refine ⟨(TInv.ofPast hP _ fun b g hb => ?_).sub (fun g hg => hg.elim id fun x => x.elim) fun _ _ _ _ _ _ x => x.elim, fun i g hi _ hg => hL.old i g hi hg, hL.above, fun b hb => ⟨if_neg fun x => hne b x hb, hro b hb⟩, fun b k hk => ?_, h0, fun g hg => hg.elim⟩
 ·split at hb
  ·cases hb
   rfl
  ·cases hb
 ·split at hk
  ·cases hk
   exact h0
  ·cases hk
theorem Core.toCalm (h : Core P Ro gs w t q who (fun _ => False) fun _ => False) : Past NoShun w.heap.size t ∧ Leavers P t gs q :=
 ⟨h.tinv.toPast (.inl rfl), fun i g hi hg => h.leave i g hi (fun x => x) hg, h.above⟩
theorem keeps_of_mine {own' : Nat → Prop} {es : Array Event} {i j : Nat} (hm : Mine own Ro w w' es) (ho : ∀ b, own b → who b = some i ∧ b < w.heap.size) (ho' : ∀ b, own' b → who b = some j ∧ b < w.heap.size) (hij : i ≠ j) (hr : ∀ b, Ro b → who b = none ∧ b < w.heap.size) : Keeps own' Ro w w' := by
 refine ⟨hm.size, fun b hb => hm.keep b (hb.elim (fun x => (ho' b x).2) fun x => (hr b x).2) fun x => ?_, hm.os, hm.output⟩
 have h1 := (ho b x).1
 rcases hb with hb | hb
 ·have := (ho' b hb).1
  rw [h1] at this
  cases this
  exact hij rfl
 ·have := (hr b hb).1
  rw [h1] at this
  cases this
theorem Keeps.trans {own Ro : Nat → Prop} {w₀ w₁ w₂ : World} (h : Keeps own Ro w₀ w₁) (h' : Keeps own Ro w₁ w₂) : Keeps own Ro w₀ w₂ := ⟨Nat.le_trans h.size h'.size, fun b hb => (h'.keep b hb).trans (h.keep b hb), h'.os.trans h.os, h'.output.trans h.output⟩
theorem Keeps.refl (own Ro : Nat → Prop) (w : World) : Keeps own Ro w w := ⟨Nat.le_refl _, fun _ _ => rfl, rfl, rfl⟩
theorem Keeps.chan {c cap s r : Nat} {buf : Array Value} {closed tm : Bool} (h : ¬own c) (h' : ¬Ro c) : Keeps own Ro w (w.setChan c cap buf closed s r tm) :=
 ⟨by simp [World.setChan], fun b hb => by
  have hne : c ≠ b := by
   rintro rfl
   exact hb.elim h h'
  simp [World.setChan, Array.getElem?_setIfInBounds_ne hne], rfl, rfl⟩
structure Pt where
 Stop : (Nat → Prop) → Goroutine → World → Prop
 m : Bool
 own : Nat → Prop
 g : Goroutine
 w : World
def Nx (P : Program) (Ro : Nat → Prop) (y x : Pt) : Prop :=
 ¬x.Stop x.own x.g x.w ∧ y.Stop = x.Stop ∧ y.m = x.m ∧ ∃ w₁ es, Keeps x.own Ro x.w w₁ ∧ stepG P x.m x.g w₁ = .go y.g y.w es ∧ y.own = grown x.own w₁ y.w
theorem acc_of_live {m : Bool} {Stop : (Nat → Prop) → Goroutine → World → Prop} {own : Nat → Prop} {g : Goroutine} {w : World} (h : Live P m Ro Stop own g w) : Acc (Nx P Ro) ⟨Stop, m, own, g, w⟩ := by
 induction h with
 | stop h => exact ⟨_, fun y hy => absurd h hy.1⟩
 | step hg hs hk ih =>
  refine ⟨_, fun y hy => ?_⟩
  obtain ⟨_, e1, e2, w₁, es, h1, h2, h3⟩ := hy
  obtain ⟨S, m, o, g, w⟩ := y
  dsimp only at e1 e2 h2 h3
  subst e1 e2 h3
  exact ih _ _ _ _ h1 h2
def Xt (P : Program) (Ro : Nat → Prop) := { x : Pt // Acc (Nx P Ro) x }
def XLt (P : Program) (Ro : Nat → Prop) : Option (Xt P Ro) → Option (Xt P Ro) → Prop
 | some y, some x => Nx P Ro y.1 x.1
 | none, some _ => True
 | _, none => False
theorem xlt_wf (P : Program) (Ro : Nat → Prop) : WellFounded (XLt P Ro) := by
 have hn : Acc (XLt P Ro) none := ⟨_, fun y hy => by cases y <;> exact hy.elim⟩
 have hs : ∀ x (h : Acc (Nx P Ro) x), Acc (XLt P Ro) (some ⟨x, h⟩) := by
  intro x h
  induction h with
  | intro x hx ih =>
   refine ⟨_, fun y hy => ?_⟩
   cases y with
   | none => exact hn
   | some y => exact ih y.1 hy
 exact ⟨fun a => by
  cases a with
  | none => exact hn
  | some x => exact hs x.1 x.2⟩
def LiveX {P : Program} {Ro : Nat → Prop} (x : Xt P Ro) : Prop := Live P x.1.m Ro x.1.Stop x.1.own x.1.g x.1.w
theorem Xt.next (x : Xt P Ro) (hl : LiveX x) (hn : ¬x.1.Stop x.1.own x.1.g x.1.w) {w₁ : World} (hk : Keeps x.1.own Ro x.1.w w₁) :
  ∃ (y : Xt P Ro) (es : Array Event), stepG P x.1.m x.1.g w₁ = .go y.1.g y.1.w es ∧ Mine x.1.own Ro w₁ y.1.w es ∧ y.1.own = grown x.1.own w₁ y.1.w ∧ y.1.Stop = x.1.Stop ∧ y.1.m = x.1.m ∧ LiveX y ∧ XLt P Ro (some y) (some x) := by
 obtain ⟨⟨S, m, o, g, w⟩, ha⟩ := x
 unfold LiveX at hl
 dsimp only at hl hn hk
 cases hl with
 | stop h => exact absurd h hn
 | step hg hs hc =>
  obtain ⟨g₂, w₂, es, e, hm⟩ := hs w₁ hk
  have hl2 := hc _ _ _ _ hk e
  exact ⟨⟨⟨S, m, grown o w₁ w₂, g₂, w₂⟩, acc_of_live hl2⟩, es, e, hm, rfl, rfl, rfl, hl2, hn, rfl, rfl, w₁, es, hk, e, rfl⟩
theorem Xt.of {m : Bool} {Stop : (Nat → Prop) → Goroutine → World → Prop} {own : Nat → Prop} {g : Goroutine} {w : World} (h : Live P m Ro Stop own g w) : ∃ x : Xt P Ro, x.1 = ⟨Stop, m, own, g, w⟩ ∧ LiveX x := ⟨⟨_, acc_of_live h⟩, rfl, h⟩
theorem LiveX.running {x : Xt P Ro} (h : LiveX x) (hS : x.1.Stop x.1.own x.1.g x.1.w → x.1.g.status = .running) : x.1.g.status = .running := by
 obtain ⟨⟨S, m, o, g, w⟩, ha⟩ := x
 unfold LiveX at h
 dsimp only at h hS ⊢
 cases h with
 | stop h => exact hS h
 | step hg _ _ => exact hg.1
theorem woken_get {i : Nat} {g g' : Goroutine} (hi : gs[i]? = some g) (h : ∀ j y, j ≠ i → gs[j]? = some y → woken P g g' w' y = y) : (∀ j, j ≠ i → ((gs.map (woken P g g' w')).setIfInBounds i g')[j]? = gs[j]?) ∧ ((gs.map (woken P g g' w')).setIfInBounds i g')[i]? = some g' ∧ ((gs.map (woken P g g' w')).setIfInBounds i g').size = gs.size := by
 have hlt := (Array.getElem?_eq_some_iff.1 hi).1
 refine ⟨fun j hj => ?_, ?_, by simp⟩
 ·rw [Array.getElem?_setIfInBounds_ne (Ne.symm hj), Array.getElem?_map]
  cases e : gs[j]? with
  | none => rfl
  | some y => simp [h j y hj e]
 ·rw [Array.getElem?_setIfInBounds_self_of_lt (by simpa using hlt)]
end
end Go.Proofs.Ytjgleaakgbnjgaa.Par
end

section
namespace Go.Proofs.Ytjgleaakgbnjgaa.Par
open Go Go.Conc
section
variable {P : Program} {gs : Array Goroutine} {w w₁ : World} {sl : Option (Nat × Nat)} {g g₂ : Goroutine} {es : Array Event} {z : Value}
theorem sel_recv {c s r : Bool → Nat} {buf : Bool → Array Value} {tm : Bool → Bool} (hi : gs[0]? = some g) (h : stepG P true g w = .comm g₂ #[rcase (c false) z, rcase (c true) z] true .select w₁ es)
  (hc : ∀ j, w₁.heap[c j]? = some (.chan 1 (buf j) false (s j) (r j) (tm j))) (hp : ∀ c, partners (gs.setIfInBounds 0 ph) c true = []) (hne : ∃ j, 0 < (buf j).size) :
  ∃ (j : Bool) (d : Nat), 0 < (buf j).size ∧ runT P (crowd gs w sl) 0 = (.next (crowd (gs.setIfInBounds 0 (g₂.finishComm P #[rcase (c false) z, rcase (c true) z] .select (j.toNat : Int) ((buf j).getD 0 undef) true)) ((w₁.at d).setChan (c j) 1 ((buf j).extract 1 (buf j).size) false (s j) (r j + 1) (tm j)) sl),
   MemOp.ofEvents 0 g.frame.fn g.frame.place es ++ #[{ g := 0, fn := g₂.frame.fn, pos := g₂.frame.place, act := .recv (c j) (r j) 1 }, { g := 0, fn := g₂.frame.fn, pos := g₂.frame.place, act := .recvDone (c j) (r j) }]) := by
 by_cases h0 : 0 < (buf false).size
 ·by_cases h1 : 0 < (buf true).size
  ·rw [runT_crowd_comm hi h]
   have w0 : ways w₁ (gs.setIfInBounds 0 ph) (rcase (c false) z) = [.buffer] := by simp [ways, rcase, hc, h0]
   have w1 : ways w₁ (gs.setIfInBounds 0 ph) (rcase (c true) z) = [.buffer] := by simp [ways, rcase, hc, h1]
   obtain ⟨n, hn, hn2⟩ : ∃ n, (Question.select 2).cut (w₁.tape w₁.drawn (.select 2)) = n ∧ n < 2 := ⟨_, rfl, by simp [Question.cut]; exact Nat.mod_lt _ (by decide)⟩
   have i0 := hc false
   have i1 := hc true
   have ill : (#[rcase (c false) z, rcase (c true) z] : Array CommCase).any (illMade w₁) = false := by
    refine any_ill fun cc hcc => ?_
    simp only [List.mem_toArray, List.mem_cons, List.not_mem_nil, or_false] at hcc
    rcases hcc with rfl | rfl
    ·exact made_recv z i0
    ·exact made_recv z i1
   have rdy : (((#[rcase (c false) z, rcase (c true) z] : Array CommCase).zipIdx.toList.map fun (c, k) => (k, c, ways w₁ (gs.setIfInBounds 0 ph) c)).filter fun (_, _, ws) => !ws.isEmpty) = [(0, rcase (c false) z, [.buffer]), (1, rcase (c true) z, [.buffer])] := by
    simp [w0, w1]
   have hn3 : n = 0 ∨ n = 1 := by omega
   rcases hn3 with rfl | rfl
   ·refine ⟨false, w₁.drawn + 1, h0, ?_⟩
    unfold communicate
    simp only [rdy]
    rw [if_neg]
    ·simp [choose, Sem.run, Question.forced, hn, bind, Sem.bind, pure]
     have d0 : w₁.drew.heap = w₁.heap := rfl
     simp [rcase, d0, i0, hp, World.setChan, crowd, World.at, - World.drew_eq]
     exact ⟨rfl, rfl⟩
    ·rw [Bool.not_eq_true]; exact ill
   ·refine ⟨true, w₁.drawn + 1, h1, ?_⟩
    unfold communicate
    simp only [rdy]
    rw [if_neg]
    ·simp [choose, Sem.run, Question.forced, hn, bind, Sem.bind, pure]
     have d0 : w₁.drew.heap = w₁.heap := rfl
     simp [rcase, d0, i1, hp, World.setChan, crowd, World.at, - World.drew_eq]
     exact ⟨rfl, rfl⟩
    ·rw [Bool.not_eq_true]; exact ill
  ·have hb : buf true = #[] := Array.eq_empty_of_size_eq_zero (by omega)
   have i1 := hc true
   rw [hb] at i1
   exact ⟨false, w₁.drawn, h0, crowd_sel_recv_buf (k := 0) hi h rfl (fun m c' hm hm' => by
    match m, hm, hm' with
    | 0, hm, _ => exact absurd rfl hm
    | 1, _, hm' => cases hm'; exact ways_recv_none i1 (hp _)
    | m + 2, _, hm' => simp at hm') (hc false) h0 (hp _)⟩
 ·obtain ⟨j, hj⟩ := hne
  cases j with
  | false => exact absurd hj h0
  | true =>
   have hb : buf false = #[] := Array.eq_empty_of_size_eq_zero (by omega)
   have i1 := hc false
   rw [hb] at i1
   exact ⟨true, w₁.drawn, hj, crowd_sel_recv_buf (k := 1) hi h rfl (fun m c' hm hm' => by
    match m, hm, hm' with
    | 1, hm, _ => exact absurd rfl hm
    | 0, _, hm' => cases hm'; exact ways_recv_none i1 (hp _)
    | m + 2, _, hm' => simp at hm') (hc true) hj (hp _)⟩
end
end Go.Proofs.Ytjgleaakgbnjgaa.Par
end

section
namespace Go.Proofs.Ytjgleaakgbnjgaa.Par
open Go Go.Conc
open Go.ConcN (sumTo upd sumTo_upd upd_ne upd_same)
section
variable (P : Program) (Q : Machine → Outcome → World → Trace → Prop) (Ro : Nat → Prop) (c : Bool → Nat) (v : Bool → Value) (z : Value)
abbrev cases2 : Array CommCase := #[rcase (c false) z, rcase (c true) z]
def SendStop (ch : Nat) (x : Value) (own : Nat → Prop) (g : Goroutine) (w : World) : Prop :=
 g.status = .running ∧ ∀ w₁, Keeps own Ro w w₁ → ∃ g₂ z' es, stepG P false g w₁ = .comm g₂ #[scase ch x z'] true .send w₁ es ∧ (∀ e ∈ es, EvMine own Ro e) ∧ ∃ n, QuitsD P n 0 (Go.Conc.served g₂ undef)
def SelStop (js : Bool → Prop) (K : Bool → (Nat → Prop) → Goroutine → World → Prop) (own : Nat → Prop) (g : Goroutine) (w : World) : Prop :=
 g.status = .running ∧ ∀ w₁, Keeps own Ro w w₁ → ∃ es, stepG P true g w₁ = .comm (core g) (cases2 c z) true .select w₁ es ∧ (∀ e ∈ es, EvMine own Ro e) ∧ ∀ j, js j → K j own ((core g).finishComm P (cases2 c z) .select (j.toNat : Int) (v j) true) w₁
def EndStop (own : Nat → Prop) (g : Goroutine) (w : World) : Prop := ∀ w₁, Keeps own Ro w w₁ → Calm P Q g w₁
def Sel1 (j : Bool) : (Nat → Prop) → Goroutine → World → Prop := SelStop P Ro c v z (fun i => i = !j) fun _ => EndStop P Q Ro
def Sel2 : (Nat → Prop) → Goroutine → World → Prop := SelStop P Ro c v z (fun _ => True) fun j => Live P true Ro (Sel1 P Q Ro c v z j)
def GoStop (own : Nat → Prop) (g : Goroutine) (w : World) : Prop :=
 g.status = .running ∧ ∀ w₁, Keeps own Ro w w₁ → ∃ g' child es, stepG P true g w₁ = .spawn g' child w₁ es ∧ (∀ e ∈ es, EvMine own Ro e) ∧ Live P false Ro (SendStop P Ro (c true) (v true)) (fun _ => False) child w₁ ∧ Live P true Ro (Sel2 P Q Ro c v z) own g' w₁
end
inductive KidSt (P : Program) (Ro : Nat → Prop)
 | fresh
 | run (k : Nat) (x : Xt P Ro)
 | sent (k p : Nat)
 | got (k : Nat)
section
variable {P : Program} {Ro : Nat → Prop}
def KidSt.x? : KidSt P Ro → Option (Xt P Ro)
 | .run _ x => some x
 | _ => none
def KidSt.num : KidSt P Ro → Option Nat
 | .fresh => none
 | .run k _ => some k
 | .sent k _ => some k
 | .got k => some k
def KidSt.up (s : KidSt P Ro) : Prop := ∃ k, (∃ x, s = .run k x) ∨ ∃ p, s = .sent k p
def busyOf (kd : Bool → KidSt P Ro) (g : Nat) : Prop := ∃ j x, kd j = .run g x
def pendOf (kd : Bool → KidSt P Ro) (g : Nat) : Prop := ∃ j, (∃ x, kd j = .run g x) ∨ ∃ p, kd j = .sent g p
def updK (kd : Bool → KidSt P Ro) (j : Bool) (s : KidSt P Ro) : Bool → KidSt P Ro := fun i => if i = j then s else kd i
theorem updK_same (kd : Bool → KidSt P Ro) (j : Bool) (s : KidSt P Ro) : updK kd j s j = s := if_pos rfl
theorem updK_ne (kd : Bool → KidSt P Ro) {i j : Bool} (s : KidSt P Ro) (h : i ≠ j) : updK kd j s i = kd i := if_neg h
theorem ne_not {i j : Bool} (h : i ≠ j) : i = !j := by cases i <;> cases j <;> simp_all
end
def ChanAt (w : World) (ch : Nat) (buf : Array Value) (s r : Nat) : Prop := ∃ tm, w.heap[ch]? = some (.chan 1 buf false s r tm)
section
variable (P : Program) (Q : Machine → Outcome → World → Trace → Prop) (Ro : Nat → Prop) (c : Bool → Nat) (v : Bool → Value) (z : Value)
def KidOk (gs : Array Goroutine) (w : World) (t : Trace) (who : Nat → Option Nat) (j : Bool) : KidSt P Ro → Prop
 | .fresh => ChanAt w (c j) #[] 0 0
 | .run k x => 0 < k ∧ gs[k]? = some x.1.g ∧ x.1.m = false ∧ x.1.Stop = SendStop P Ro (c j) (v j) ∧ LiveX x ∧ Keeps x.1.own Ro x.1.w w ∧ (∀ b, x.1.own b → who b = some k ∧ b < w.heap.size) ∧ ChanAt w (c j) #[] 0 0
 | .sent k p => 0 < k ∧ k < gs.size ∧ SentAt t k (c j) 0 p ∧ ChanAt w (c j) #[v j] 1 0
 | .got k => 0 < k ∧ k < gs.size ∧ ChanAt w (c j) #[] 1 1
structure Sys (gs : Array Goroutine) (w : World) (t : Trace) (q : Nat → Nat) (who : Nat → Option Nat) (kd : Bool → KidSt P Ro) : Prop where
 core : Core P Ro gs w t q who (busyOf kd) (pendOf kd)
 kid : ∀ j, KidOk P Ro c v gs w t who j (kd j)
 apart : ∀ k, (kd false).num = some k → (kd true).num ≠ some k
 chan : ∀ j, who (c j) = none ∧ ¬Ro (c j)
 cne : c false ≠ c true
inductive Phase (kd : Bool → KidSt P Ro) : Nat → ((Nat → Prop) → Goroutine → World → Prop) → Prop
 | three (h0 : (kd false).up) (h1 : kd true = .fresh) : Phase kd 3 (GoStop P Q Ro c v z)
 | two (h : ∀ j, (kd j).up) : Phase kd 2 (Sel2 P Q Ro c v z)
 | one (j : Bool) (k : Nat) (h0 : kd j = .got k) (h1 : (kd (!j)).up) : Phase kd 1 (Sel1 P Q Ro c v z j)
def MainOk (gs : Array Goroutine) (w : World) (who : Nat → Option Nat) (kd : Bool → KidSt P Ro) (N : Nat) : Option (Xt P Ro) → Prop
 | some x => gs[0]? = some x.1.g ∧ x.1.m = true ∧ LiveX x ∧ Keeps x.1.own Ro x.1.w w ∧ (∀ b, x.1.own b → who b = some 0 ∧ b < w.heap.size) ∧ Phase P Q Ro c v z kd N x.1.Stop
 | none => ∃ own g w0 St, gs[0]? = some (parked (Go.Conc.core g) (cases2 c z) .select) ∧ Phase P Q Ro c v z kd N St ∧ N ≤ 2 ∧ (∀ j k p, kd j ≠ .sent k p) ∧ St own g w0 ∧ Keeps own Ro w0 w ∧ ∀ b, own b → who b = some 0 ∧ b < w.heap.size
abbrev Ix (P : Program) (Ro : Nat → Prop) := Nat × Option (Xt P Ro) × Option (Xt P Ro) × Option (Xt P Ro) × Nat
def Inv (μ : Ix P Ro) (m : Machine) (t : Trace) : Prop :=
 ∃ gs w sl q who kd, m = crowd gs w sl ∧ Sys P Ro c v gs w t q who kd ∧ MainOk P Q Ro c v z gs w who kd μ.1 μ.2.1 ∧ μ.2.2 = ((kd false).x?, (kd true).x?, sumTo gs.size q)
abbrev ILt : Ix P Ro → Ix P Ro → Prop := Prod.Lex (· < ·) (Prod.Lex (XLt P Ro) (Prod.Lex (XLt P Ro) (Prod.Lex (XLt P Ro) (· < ·))))
theorem ilt_wf : WellFounded (ILt P Ro) := (Prod.lex Nat.lt_wfRel (Prod.lex ⟨_, xlt_wf P Ro⟩ (Prod.lex ⟨_, xlt_wf P Ro⟩ (Prod.lex ⟨_, xlt_wf P Ro⟩ Nat.lt_wfRel)))).wf
end
section
variable {P : Program} {Q : Machine → Outcome → World → Trace → Prop} {Ro own : Nat → Prop} {c : Bool → Nat} {v : Bool → Value} {z : Value} {gs gs' : Array Goroutine} {w w' : World} {t u : Trace} {q : Nat → Nat} {who : Nat → Option Nat} {kd : Bool → KidSt P Ro} {N : Nat} {a : Option (Xt P Ro)} {St : (Nat → Prop) → Goroutine → World → Prop} {j : Bool} {s : KidSt P Ro}
theorem KidOk.chan (h : KidOk P Ro c v gs w t who j s) : ∃ buf s r tm, w.heap[c j]? = some (.chan 1 buf false s r tm) := by
 cases s with
 | fresh => obtain ⟨tm, e⟩ := h; exact ⟨_, _, _, _, e⟩
 | run k x => obtain ⟨_, _, _, _, _, _, _, tm, e⟩ := h; exact ⟨_, _, _, _, e⟩
 | sent k p => obtain ⟨_, _, _, tm, e⟩ := h; exact ⟨_, _, _, _, e⟩
 | got k => obtain ⟨_, _, tm, e⟩ := h; exact ⟨_, _, _, _, e⟩
theorem KidOk.lt (h : KidOk P Ro c v gs w t who j s) : c j < w.heap.size := by
 obtain ⟨_, _, _, _, e⟩ := h.chan
 exact (Array.getElem?_eq_some_iff.1 e).1
theorem KidOk.num (h : KidOk P Ro c v gs w t who j s) {k : Nat} (hk : s.num = some k) : 0 < k ∧ k < gs.size := by
 cases s with
 | fresh => cases hk
 | run k' x => cases hk; exact ⟨h.1, (Array.getElem?_eq_some_iff.1 h.2.1).1⟩
 | sent k' p => cases hk; exact ⟨h.1, h.2.1⟩
 | got k' => cases hk; exact ⟨h.1, h.2.1⟩
theorem KidOk.running {k : Nat} {x : Xt P Ro} (h : KidOk P Ro c v gs w t who j (.run k x)) : x.1.g.status = .running := by
 obtain ⟨_, _, _, h4, h5, _⟩ := h
 exact h5.running fun hs => by rw [h4] at hs; exact hs.1
theorem KidOk.other (h : KidOk P Ro c v gs w t who j s) {i : Nat} {es : Array Event} {fn : FuncId} {pos : String} (hm : Mine own Ro w w' es) (ho : ∀ b, own b → who b = some i ∧ b < w.heap.size) (hne : ∀ k, s.num = some k → k ≠ i)
  (hr : ∀ b, Ro b → who b = none ∧ b < w.heap.size) (hc : who (c j) = none) (hsz : gs'.size = gs.size) (hgs : ∀ k, k ≠ i → gs'[k]? = gs[k]?) : KidOk P Ro c v gs' w' (t ++ MemOp.ofEvents i fn pos es) (whoNew who i w w') j s := by
 have hch : w'.heap[c j]? = w.heap[c j]? := hm.keep _ h.lt fun x => by rw [(ho _ x).1] at hc; cases hc
 have hop : ∀ op ∈ MemOp.ofEvents i fn pos es, op.g = i := fun op hop => by obtain ⟨e, _, rfl⟩ := Go.Conc.mem_ofEvents hop; rfl
 have hcc : ∀ {buf s r}, ChanAt w (c j) buf s r → ChanAt w' (c j) buf s r := fun ⟨tm, e⟩ => ⟨tm, hch.trans e⟩
 cases s with
 | fresh => exact hcc h
 | run k x =>
  obtain ⟨h1, h2, h3, h4, h5, h6, h7, h8⟩ := h
  have hk := hne k rfl
  refine ⟨h1, (hgs k hk).trans h2, h3, h4, h5, h6.trans (keeps_of_mine hm ho h7 (Ne.symm hk) hr), fun b hb => ?_, hcc h8⟩
  have := h7 b hb
  rw [whoNew_old this.2]
  exact ⟨this.1, Nat.lt_of_lt_of_le this.2 hm.size⟩
 | sent k p =>
  obtain ⟨h1, h2, h3, h4⟩ := h
  exact ⟨h1, hsz ▸ h2, h3.app fun op hx hg => absurd ((hop op hx).symm.trans hg) (Ne.symm (hne k rfl)), hcc h4⟩
 | got k => exact ⟨h.1, hsz ▸ h.2.1, hcc h.2.2⟩
theorem KidOk.quiet (h : KidOk P Ro c v gs w t who j s) (hs : w'.heap.size = w.heap.size) (hK : ∀ own : Nat → Prop, (∀ b, own b → ∃ k, who b = some k) → Keeps own Ro w w') (hch : w'.heap[c j]? = w.heap[c j]?) (hn : ∀ op ∈ u, op.act.touch? = none) (hsz : gs.size ≤ gs'.size)
  (hgs : ∀ k x, s = .run k x → gs'[k]? = gs[k]?) : KidOk P Ro c v gs' w' (t ++ u) who j s := by
 have hcc : ∀ {buf s r}, ChanAt w (c j) buf s r → ChanAt w' (c j) buf s r := fun ⟨tm, e⟩ => ⟨tm, hch.trans e⟩
 cases s with
 | fresh => exact hcc h
 | run k x =>
  obtain ⟨h1, h2, h3, h4, h5, h6, h7, h8⟩ := h
  refine ⟨h1, (hgs k x rfl).trans h2, h3, h4, h5, h6.trans (hK _ fun b hb => ⟨k, (h7 b hb).1⟩), fun b hb => ?_, hcc h8⟩
  rw [hs]
  exact h7 b hb
 | sent k p =>
  obtain ⟨h1, h2, h3, h4⟩ := h
  exact ⟨h1, Nat.lt_of_lt_of_le h2 hsz, h3.app fun op hx _ => hn op hx, hcc h4⟩
 | got k => exact ⟨h.1, Nat.lt_of_lt_of_le h.2.1 hsz, hcc h.2.2⟩
theorem Phase.running (h : Phase P Q Ro c v z kd N St) {own : Nat → Prop} {g : Goroutine} {w : World} (hs : St own g w) : g.status = .running := by
 cases h with
 | three => exact hs.1
 | two => exact hs.1
 | one => exact hs.1
theorem Phase.sub (h : Phase P Q Ro c v z kd N St) {kd' : Bool → KidSt P Ro} (hu : ∀ j, (kd j).up → (kd' j).up) (hf : ∀ j, kd j = .fresh → kd' j = .fresh) (hg : ∀ j k, kd j = .got k → kd' j = .got k) : Phase P Q Ro c v z kd' N St := by
 cases h with
 | three h0 h1 => exact .three (hu _ h0) (hf _ h1)
 | two h => exact .two fun j => hu j (h j)
 | one j k h0 h1 => exact .one j k (hg _ _ h0) (hu _ h1)
theorem MainOk.status (h : MainOk P Q Ro c v z gs w who kd N a) : ∃ g, gs[0]? = some g ∧ (g.status = .running ∨ ∃ g', g = parked (Go.Conc.core g') (cases2 c z) .select) := by
 cases a with
 | some x =>
  obtain ⟨h1, h2, h3, h4, h5, h6⟩ := h
  exact ⟨_, h1, .inl (h3.running h6.running)⟩
 | none =>
  obtain ⟨own, g, w0, St, h1, _⟩ := h
  exact ⟨_, h1, .inr ⟨g, rfl⟩⟩
theorem Sys.whois (h : Sys P Ro c v gs w t q who kd) {i : Nat} {g : Goroutine} (hi : 0 < i) (hg : gs[i]? = some g) : (∃ j x, kd j = .run i x ∧ g = x.1.g ∧ g.status = .running) ∨ (¬busyOf kd i ∧ QuitsD P (q i) (Deaf t i) g) := by
 by_cases hb : busyOf kd i
 ·obtain ⟨j, x, e⟩ := hb
  have hk := h.kid j
  rw [e] at hk
  have e2 := hk.2.1
  rw [hg] at e2
  cases e2
  exact .inl ⟨j, x, e, rfl, hk.running⟩
 ·exact .inr ⟨hb, h.core.leave i g hi hb hg⟩
theorem Sys.status (h : Sys P Ro c v gs w t q who kd) (hM : MainOk P Q Ro c v z gs w who kd N a) {i : Nat} {g : Goroutine} (hg : gs[i]? = some g) : g.status = .running ∨ g.status = .finished ∨ (i = 0 ∧ ∃ g', g = parked (Go.Conc.core g') (cases2 c z) .select) := by
 rcases Nat.eq_zero_or_pos i with rfl | hi
 ·obtain ⟨g', h1, h2⟩ := hM.status
  rw [hg] at h1
  cases h1
  rcases h2 with h2 | h2
  ·exact .inl h2
  ·exact .inr (.inr ⟨rfl, h2⟩)
 ·rcases h.whois hi hg with ⟨_, _, _, _, hr⟩ | ⟨_, hq⟩
  ·exact .inl hr
  ·exact hq.status.elim .inl fun x => .inr (.inl x)
theorem Sys.awake (h : Sys P Ro c v gs w t q who kd) (hM : MainOk P Q Ro c v z gs w who kd N a) : ∀ g ∈ gs, awake g := by
 intro g hg
 obtain ⟨i, hi, rfl⟩ := Array.mem_iff_getElem.1 hg
 rcases h.status hM (Array.getElem?_eq_getElem hi) with h1 | h1 | ⟨_, g', h1⟩
 ·exact awake_of (.inl h1)
 ·exact awake_of (.inr (.inr h1))
 ·rw [h1]
  exact awake_of (.inr (.inl rfl))
theorem Sys.still (h : Sys P Ro c v gs w t q who kd) (hM : MainOk P Q Ro c v z gs w who kd N a) {g g' : Goroutine} (hch : ∀ j, ∃ buf s r tm, w'.heap[c j]? = some (.chan 1 buf false s r tm)) {i : Nat} {y : Goroutine} (hy : gs[i]? = some y) : woken P g g' w' y = y := by
 unfold woken
 split
 ·rcases h.status hM hy with h1 | h1 | ⟨_, g', h1⟩
  ·exact again_running _ (.inl h1)
  ·exact again_running _ (.inr h1)
  ·rw [h1]
   refine again_all_open fun cc hcc => ?_
   simp only [cases2, List.mem_toArray, List.mem_cons, List.not_mem_nil, or_false] at hcc
   rcases hcc with rfl | rfl
   ·obtain ⟨b, s, r, tm, e⟩ := hch false
    exact ⟨_, _, _, _, _, _, _, rfl, e⟩
   ·obtain ⟨b, s, r, tm, e⟩ := hch true
    exact ⟨_, _, _, _, _, _, _, rfl, e⟩
 ·rfl
theorem Sys.noSender (h : Sys P Ro c v gs w t q who kd) (hM : MainOk P Q Ro c v z gs w who kd N a) (i ch : Nat) : partners (gs.setIfInBounds i ph) ch true = [] := by
 refine partners_nil fun k g hk => ?_
 rcases getElem?_stand _ _ _ _ hk with ⟨_, rfl⟩ | ⟨_, hk'⟩
 ·rfl
 ·rcases h.status hM hk' with h1 | h1 | ⟨_, g', h1⟩
  ·exact offersAt_of_not_blocked (by rw [h1]; nofun) _ _
  ·exact offersAt_of_not_blocked (by rw [h1]; nofun) _ _
  ·rw [h1]
   refine offersAt_parked_sends (fun cc hcc => ?_) _
   simp only [cases2, List.mem_toArray, List.mem_cons, List.not_mem_nil, or_false] at hcc
   rcases hcc with rfl | rfl <;> rfl
theorem Sys.at (h : Sys P Ro c v gs w t q who kd) (d : Nat) : Sys P Ro c v gs (w.at d) t q who kd := by
 refine ⟨h.core.at d, fun j => ?_, h.apart, h.chan, h.cne⟩
 have hk := h.kid j
 cases e : kd j with
 | fresh => rw [e] at hk; exact hk
 | run k x => rw [e] at hk; obtain ⟨h1, h2, h3, h4, h5, h6, h7, h8⟩ := hk; exact ⟨h1, h2, h3, h4, h5, h6.trans (keeps_at w d), h7, h8⟩
 | sent k p => rw [e] at hk; exact hk
 | got k => rw [e] at hk; exact hk
theorem MainOk.at (h : MainOk P Q Ro c v z gs w who kd N a) (d : Nat) : MainOk P Q Ro c v z gs (w.at d) who kd N a := by
 cases a with
 | some x => obtain ⟨h1, h2, h3, h4, h5, h6⟩ := h; exact ⟨h1, h2, h3, h4.trans (keeps_at w d), h5, h6⟩
 | none => obtain ⟨own, g, w0, St, h1, h2, h3, h4, h5, h6, h7⟩ := h; exact ⟨own, g, w0, St, h1, h2, h3, h4, h5, h6.trans (keeps_at w d), h7⟩
theorem mine_still {es : Array Event} (h : ∀ e ∈ es, EvMine own Ro e) (w : World) : Mine own Ro w w es := by
 refine ⟨Nat.le_refl _, fun _ _ _ => rfl, rfl, rfl, rfl, fun e he => ?_⟩
 have h1 := h e he
 unfold EvMine at h1 ⊢
 cases hl : e.loc with
 | cell a => rw [hl] at h1; exact h1.imp .inl id
 | obj r => rw [hl] at h1; exact h1.imp .inl id
 | mark m => rw [hl] at h1; exact h1
 | output => rw [hl] at h1; exact h1
 | goroutines => rw [hl] at h1; exact h1
theorem sent_new {k ch n : Nat} {x : MemOp} {l : List MemOp} (hd : Deaf t k = 0) (hx : x.g = k ∧ x.act = .send ch n) (hn : ∀ op ∈ (x :: l).toArray, op.act.touch? = none ∧ Plain op) : SentAt (t ++ (x :: l).toArray) k ch n t.size := by
 have e0 : (t ++ (x :: l).toArray)[t.size]? = some x := by
  rw [Array.getElem?_append_right (Nat.le_refl _)]
  simp
 refine ⟨⟨x, e0, hx.1, hx.2⟩, heard_new (fun op hop => (hn op hop).2) (Nat.le_refl _) e0 (by rw [hx.1]; exact hd), fun i op hi hg ht => ?_⟩
 rcases getElem?_append_cases hi with ⟨hlt, _⟩ | ⟨_, hu⟩
 ·exact hlt
 ·exact absurd (hn op hu).1 ht
end
end Go.Proofs.Ytjgleaakgbnjgaa.Par
end

section
namespace Go.Proofs.Ytjgleaakgbnjgaa.Par
open Go Go.Conc
open Go.ConcN (sumTo upd sumTo_upd upd_ne upd_same)
section
variable {P : Program} {Q : Machine → Outcome → World → Trace → Prop} {Ro own : Nat → Prop} {c : Bool → Nat} {v : Bool → Value} {z : Value} {gs gs' : Array Goroutine} {w w' : World} {sl : Option (Nat × Nat)} {t u : Trace} {q : Nat → Nat} {who : Nat → Option Nat} {kd : Bool → KidSt P Ro} {N : Nat} {a : Option (Xt P Ro)} {St : (Nat → Prop) → Goroutine → World → Prop} {j : Bool} {s : KidSt P Ro}
theorem Core.congr {busy pend busy' pend' : Nat → Prop} (h : Core P Ro gs w t q who busy pend) (hb : ∀ g, busy g ↔ busy' g) (hp : ∀ g, pend g ↔ pend' g) : Core P Ro gs w t q who busy' pend' := by
 obtain rfl : busy = busy' := funext fun g => propext (hb g)
 obtain rfl : pend = pend' := funext fun g => propext (hp g)
 exact h
theorem own_new {i : Nat} {x : Nat → Prop} (h5 : ∀ b, x b → who b = some i ∧ b < w.heap.size) (hs : w.heap.size ≤ w'.heap.size) : ∀ b, grown x w w' b → whoNew who i w w' b = some i ∧ b < w'.heap.size := by
 intro b hb
 rcases hb with hb | hb
 ·have := h5 b hb
  rw [whoNew_old this.2]
  exact ⟨this.1, Nat.lt_of_lt_of_le this.2 hs⟩
 ·exact ⟨if_pos hb, hb.2⟩
theorem own_old {i k : Nat} {x : Nat → Prop} (h5 : ∀ b, x b → who b = some i ∧ b < w.heap.size) (hs : w.heap.size ≤ w'.heap.size) : ∀ b, x b → whoNew who k w w' b = some i ∧ b < w'.heap.size := by
 intro b hb
 have := h5 b hb
 rw [whoNew_old this.2]
 exact ⟨this.1, Nat.lt_of_lt_of_le this.2 hs⟩
theorem chan_kept (hS : Sys P Ro c v gs w t q who kd) {i : Nat} {es : Array Event} (hm : Mine own Ro w w' es) (ho : ∀ b, own b → who b = some i ∧ b < w.heap.size) (j : Bool) : w'.heap[c j]? = w.heap[c j]? :=
 hm.keep _ (hS.kid j).lt fun b => by
  have := (ho _ b).1
  rw [(hS.chan j).1] at this
  cases this
theorem chan_open (hS : Sys P Ro c v gs w t q who kd) {i : Nat} {es : Array Event} (hm : Mine own Ro w w' es) (ho : ∀ b, own b → who b = some i ∧ b < w.heap.size) (j : Bool) : ∃ buf s r tm, w'.heap[c j]? = some (.chan 1 buf false s r tm) := by
 rw [chan_kept hS hm ho j]
 exact (hS.kid j).chan
theorem MainOk.other (h : MainOk P Q Ro c v z gs w who kd N a) {i : Nat} (hi : i ≠ 0) {es : Array Event} (hm : Mine own Ro w w' es) (ho : ∀ b, own b → who b = some i ∧ b < w.heap.size) (hr : ∀ b, Ro b → who b = none ∧ b < w.heap.size) (hgs : gs'[0]? = gs[0]?)
  {kd' : Bool → KidSt P Ro} (hu : ∀ j, (kd j).up → (kd' j).up) (hf : ∀ j, kd j = .fresh → kd' j = .fresh) (hg : ∀ j k, kd j = .got k → kd' j = .got k) (hns : (∀ j k p, kd j ≠ .sent k p) → ∀ j k p, kd' j ≠ .sent k p) :
  MainOk P Q Ro c v z gs' w' (whoNew who i w w') kd' N a := by
 cases a with
 | some x =>
  obtain ⟨h1, h2, h3, h4, h5, h6⟩ := h
  exact ⟨hgs.trans h1, h2, h3, h4.trans (keeps_of_mine hm ho h5 hi hr), own_old h5 hm.size, h6.sub hu hf hg⟩
 | none =>
  obtain ⟨own', g, w0, St, h1, h2, h3, h4, h5, h6, h7⟩ := h
  exact ⟨own', g, w0, St, hgs.trans h1, h2.sub hu hf hg, h3, hns h4, h5, h6.trans (keeps_of_mine hm ho h7 hi hr), own_old h7 hm.size⟩
theorem main_go (hS : Sys P Ro c v gs w t q who kd) {x : Xt P Ro} (hM : MainOk P Q Ro c v z gs w who kd N (some x)) (hn : ¬x.1.Stop x.1.own x.1.g x.1.w) :
  ∃ m' ops, runT P (crowd gs w sl) 0 = (.next m', ops) ∧ ∃ μ', ILt P Ro μ' (N, some x, (kd false).x?, (kd true).x?, sumTo gs.size q) ∧ Inv P Q Ro c v z μ' m' (t ++ ops) := by
 obtain ⟨h1, h2, h3, h4, h5, h6⟩ := id hM
 obtain ⟨y, es, e, hm, ho, hSt, hmm, hl, hlt⟩ := x.next h3 hn h4
 rw [h2] at e
 obtain ⟨g1, g2, g3⟩ := woken_get (P := P) (w' := y.1.w) h1 (g' := y.1.g) fun j y' hj hy => hS.still hM (chan_open hS hm h5) hy
 refine ⟨_, _, runT_crowd_go (sl := sl) (i := 0) h1 (show stepG P (0 == 0) x.1.g w = _ from e), (N, some y, _, _, _), .right _ (.left _ _ hlt), _, _, _, q, whoNew who 0 w y.1.w, kd, rfl,
  ⟨hS.core.step (.inl rfl) hS.core.size hm h5 g3 g1, fun j => (hS.kid j).other hm h5 (fun k hk => Nat.ne_of_gt ((hS.kid j).num hk).1) hS.core.ro (hS.chan j).1 g3 g1, hS.apart, fun j => ⟨?_, (hS.chan j).2⟩, hS.cne⟩, ⟨g2, hmm.trans h2, hl, Keeps.refl _ _ _, ?_, ?_⟩, by rw [g3]⟩
 ·rw [whoNew_old (hS.kid j).lt]
  exact (hS.chan j).1
 ·rw [ho]
  exact own_new h5 hm.size
 ·show Phase P Q Ro c v z kd N y.1.Stop
  rw [hSt]
  exact h6
theorem kid_go (hS : Sys P Ro c v gs w t q who kd) (hM : MainOk P Q Ro c v z gs w who kd N a) {i : Nat} {x : Xt P Ro} (hx : kd j = .run i x) (hn : ¬x.1.Stop x.1.own x.1.g x.1.w) :
  ∃ m' ops, runT P (crowd gs w sl) i = (.next m', ops) ∧ ∃ μ', ILt P Ro μ' (N, a, (kd false).x?, (kd true).x?, sumTo gs.size q) ∧ Inv P Q Ro c v z μ' m' (t ++ ops) := by
 have hk := hS.kid j
 rw [hx] at hk
 obtain ⟨k1, k2, k3, k4, k5, k6, k7, k8⟩ := id hk
 obtain ⟨y, es, e, hm, ho, hSt, hmm, hl, hlt⟩ := x.next k5 hn k6
 rw [k3] at e
 have hi0 : (i == 0) = false := by simp; omega
 obtain ⟨g1, g2, g3⟩ := woken_get (P := P) (w' := y.1.w) k2 (g' := y.1.g) fun j y' hj hy => hS.still hM (chan_open hS hm k7) hy
 have hother : ∀ j', j' ≠ j → ∀ k, (kd j').num = some k → k ≠ i := by
  intro j' hj k hk e
  subst e
  have h1 : (kd j).num = some k := by rw [hx]; rfl
  cases j <;> cases j' <;> first | exact absurd rfl hj | exact hS.apart _ hk h1 | exact hS.apart _ h1 hk
 have hup : ∀ j', (kd j').up → (updK kd j (.run i y) j').up := fun j' hu => by
  by_cases e : j' = j
  ·rw [e, updK_same]
   exact ⟨i, .inl ⟨y, rfl⟩⟩
  ·rw [updK_ne _ _ e]
   exact hu
 have hb : ∀ g, busyOf kd g ↔ busyOf (updK kd j (.run i y)) g := fun g => by
  constructor
  ·rintro ⟨j', x', e⟩
   by_cases e2 : j' = j
   ·subst e2
    rw [hx] at e
    cases e
    exact ⟨j', y, updK_same _ _ _⟩
   ·exact ⟨j', x', (updK_ne _ _ e2).trans e⟩
  ·rintro ⟨j', x', e⟩
   by_cases e2 : j' = j
   ·subst e2
    rw [updK_same] at e
    cases e
    exact ⟨j', x, hx⟩
   ·rw [updK_ne _ _ e2] at e
    exact ⟨j', x', e⟩
 have hp : ∀ g, pendOf kd g ↔ pendOf (updK kd j (.run i y)) g := fun g => by
  constructor
  ·rintro ⟨j', e⟩
   by_cases e2 : j' = j
   ·subst e2
    rw [hx] at e
    rcases e with ⟨x', e⟩ | ⟨p, e⟩
    ·cases e
     exact ⟨j', .inl ⟨y, updK_same _ _ _⟩⟩
    ·cases e
   ·exact ⟨j', by rw [updK_ne _ _ e2]; exact e⟩
  ·rintro ⟨j', e⟩
   by_cases e2 : j' = j
   ·subst e2
    rw [updK_same] at e
    rcases e with ⟨x', e⟩ | ⟨p, e⟩
    ·cases e
     exact ⟨j', .inl ⟨x, hx⟩⟩
    ·cases e
   ·rw [updK_ne _ _ e2] at e
    exact ⟨j', e⟩
 refine ⟨_, _, runT_crowd_go (sl := sl) (i := i) k2 (by rw [hi0]; exact e), (N, a, (updK kd j (.run i y) false).x?, (updK kd j (.run i y) true).x?, sumTo gs.size q), .right _ (.right _ ?_), _, _, _, q, whoNew who i w y.1.w, updK kd j (.run i y), rfl,
  ⟨(hS.core.step (.inr ⟨j, x, hx⟩) (Array.getElem?_eq_some_iff.1 k2).1 hm k7 g3 g1).congr hb hp, fun j' => ?_, fun k h1 h2 => ?_, fun j' => ⟨?_, (hS.chan j').2⟩, hS.cne⟩, hM.other (by omega) hm k7 hS.core.ro (g1 0 (by omega)) hup (fun j' e => ?_) (fun j' k e => ?_) fun hns j' k p e => ?_, by rw [g3]⟩
 ·cases j with
  | false =>
   rw [updK_same, hx]
   exact .left _ _ hlt
  | true =>
   rw [updK_same, hx, updK_ne _ _ (by decide)]
   exact .right _ (.left _ _ hlt)
 ·by_cases e2 : j' = j
  ·subst e2
   rw [updK_same]
   refine ⟨k1, g2, hmm.trans k3, hSt.trans k4, hl, Keeps.refl _ _ _, ?_, ?_⟩
   ·rw [ho]
    exact own_new k7 hm.size
   ·obtain ⟨tm, e3⟩ := k8
    exact ⟨tm, (chan_kept hS hm k7 j').trans e3⟩
  ·rw [updK_ne _ _ e2]
   exact (hS.kid j').other hm k7 (hother j' e2) hS.core.ro (hS.chan j').1 g3 g1
 ·have hnum : ∀ j', (updK kd j (.run i y) j').num = (kd j').num := fun j' => by
   by_cases e2 : j' = j
   ·subst e2
    rw [updK_same, hx]
    rfl
   ·rw [updK_ne _ _ e2]
  rw [hnum] at h1 h2
  exact hS.apart k h1 h2
 ·rw [whoNew_old (hS.kid j').lt]
  exact (hS.chan j').1
 ·by_cases e2 : j' = j
  ·subst e2
   rw [hx] at e
   cases e
  ·rw [updK_ne _ _ e2]
   exact e
 ·by_cases e2 : j' = j
  ·subst e2
   rw [hx] at e
   cases e
  ·rw [updK_ne _ _ e2]
   exact e
 ·by_cases e2 : j' = j
  ·subst e2
   rw [updK_same] at e
   cases e
  ·rw [updK_ne _ _ e2] at e
   exact hns j' k p e
theorem slip_go (hS : Sys P Ro c v gs w t q who kd) (hM : MainOk P Q Ro c v z gs w who kd N a) {i : Nat} {g : Goroutine} (hi : 0 < i) (hg : gs[i]? = some g) (hr : g.status = .running) (hb : ¬busyOf kd i) :
  ∃ m' ops, runT P (crowd gs w sl) i = (.next m', ops) ∧ ∃ μ', ILt P Ro μ' (N, a, (kd false).x?, (kd true).x?, sumTo gs.size q) ∧ Inv P Q Ro c v z μ' m' (t ++ ops) := by
 have hq := hS.core.leave i g hi hb hg
 have hi0 : (i == 0) = false := by simp; omega
 have hlt : i < gs.size := (Array.getElem?_eq_some_iff.1 hg).1
 cases hqi : q i with
 | zero => rw [hqi] at hq; rw [hq.1] at hr; cases hr
 | succ k =>
  rw [hqi] at hq
  rcases hq with ⟨hf, _⟩ | ⟨_, g', es, hm, hstp, hq'⟩
  ·rw [hf] at hr; cases hr
  obtain ⟨g1, g2, g3⟩ := woken_get (P := P) (w' := w) hg (g' := g') fun j y' hj hy => hS.still hM (fun j => (hS.kid j).chan) hy
  have hn : ∀ op ∈ MemOp.ofEvents i g.frame.fn g.frame.place es, op.act.touch? = none := fun op hop => by obtain ⟨e, he, rfl⟩ := Go.Conc.mem_ofEvents hop; exact touch_mute (hm e he)
  have hsum : sumTo gs.size (upd q i k) + (k + 1) = sumTo gs.size q + k := by
   have := sumTo_upd q k id hlt
   simpa [hqi] using this
  refine ⟨_, _, runT_crowd_go (sl := sl) (i := i) hg (by rw [hi0]; exact hstp w), (N, a, (kd false).x?, (kd true).x?, sumTo gs.size (upd q i k)), .right _ (.right _ (.right _ (.right _ (by omega)))), _, _, _, upd q i k, who, kd, rfl,
   ⟨hS.core.slip hi hb hm hq' g3 g2 g1, fun j => (hS.kid j).quiet rfl (fun own _ => Keeps.refl _ _ _) rfl hn (by omega) fun k x e => g1 k fun e2 => hb (e2 ▸ ⟨j, x, e⟩), hS.apart, hS.chan, hS.cne⟩, ?_, by rw [g3]⟩
  have g0 := g1 0 (by omega)
  cases a with
  | some x => obtain ⟨h1, h2⟩ := hM; exact ⟨g0.trans h1, h2⟩
  | none => obtain ⟨own, g, w0, St, h1, h2⟩ := hM; exact ⟨own, g, w0, St, g0.trans h1, h2⟩
end
end Go.Proofs.Ytjgleaakgbnjgaa.Par
end

section
namespace Go.Proofs.Ytjgleaakgbnjgaa.Par
open Go Go.Conc
open Go.ConcN (sumTo upd sumTo_upd upd_ne upd_same)
section
variable {P : Program} {Q : Machine → Outcome → World → Trace → Prop} {Ro own : Nat → Prop} {c : Bool → Nat} {v : Bool → Value} {z : Value} {gs gs' : Array Goroutine} {w w' w₀ w₁ : World} {sl : Option (Nat × Nat)} {t u : Trace} {q : Nat → Nat} {who : Nat → Option Nat} {kd : Bool → KidSt P Ro} {N : Nat} {a : Option (Xt P Ro)} {St : (Nat → Prop) → Goroutine → World → Prop} {j : Bool} {s : KidSt P Ro}
theorem whoNew_self (i : Nat) (w : World) : whoNew who i w w = who := by
 funext b
 unfold whoNew
 exact if_neg (by omega)
def bufOf (x : Value) : KidSt P Ro → Array Value
 | .sent _ _ => #[x]
 | _ => #[]
def sOf : KidSt P Ro → Nat
 | .sent _ _ => 1
 | .got _ => 1
 | _ => 0
def rOf : KidSt P Ro → Nat
 | .got _ => 1
 | _ => 0
theorem KidOk.chan2 (h : KidOk P Ro c v gs w t who j s) : ∃ tm, w.heap[c j]? = some (.chan 1 (bufOf (v j) s) false (sOf s) (rOf s) tm) := by
 cases s with
 | fresh => exact h
 | run k x => exact h.2.2.2.2.2.2.2
 | sent k p => exact h.2.2.2
 | got k => exact h.2.2
theorem chan_all (hS : Sys P Ro c v gs w t q who kd) : ∃ tm : Bool → Bool, ∀ j, w.heap[c j]? = some (.chan 1 (bufOf (v j) (kd j)) false (sOf (kd j)) (rOf (kd j)) (tm j)) := by
 obtain ⟨a, ha⟩ := (hS.kid false).chan2
 obtain ⟨b, hb⟩ := (hS.kid true).chan2
 exact ⟨fun j => if j then b else a, fun j => by cases j <;> assumption⟩
theorem up_run {k : Nat} {x : Xt P Ro} : (KidSt.run k x : KidSt P Ro).up := ⟨k, .inl ⟨x, rfl⟩⟩
theorem up_sent {k p : Nat} : (KidSt.sent k p : KidSt P Ro).up := ⟨k, .inr ⟨p, rfl⟩⟩
theorem not_up_got {k : Nat} : ¬(KidSt.got k : KidSt P Ro).up := by rintro ⟨k', ⟨x, e⟩ | ⟨p, e⟩⟩ <;> cases e
theorem num_other (hS : Sys P Ro c v gs w t q who kd) {i : Nat} (hx : (kd j).num = some i) : ∀ j', j' ≠ j → ∀ k, (kd j').num = some k → k ≠ i := by
 intro j' hj k hk e
 subst e
 cases j <;> cases j' <;> first | exact absurd rfl hj | exact hS.apart _ hk hx | exact hS.apart _ hx hk
theorem apart_upd (hS : Sys P Ro c v gs w t q who kd) {s : KidSt P Ro} (hn : s.num = (kd j).num) : ∀ k, (updK kd j s false).num = some k → (updK kd j s true).num ≠ some k := by
 have hnum : ∀ j', (updK kd j s j').num = (kd j').num := fun j' => by
  by_cases e2 : j' = j
  ·subst e2
   rw [updK_same, hn]
  ·rw [updK_ne _ _ e2]
 intro k h1 h2
 rw [hnum] at h1 h2
 exact hS.apart k h1 h2
theorem after_recv {g : Goroutine} {k : Nat} (hS : Sys P Ro c v gs w t q who (updK kd j (.got k))) (h0 : gs[0]? = some ((Go.Conc.core g).finishComm P (cases2 c z) .select (j.toNat : Int) (v j) true)) (hph : Phase P Q Ro c v z kd N St) (hN : N ≤ 2) (hSt : St own g w₀) (hk : Keeps own Ro w₀ w₁) (hw : Keeps own Ro w₁ w)
  (hj : (kd j).up) (ho : ∀ b, own b → who b = some 0 ∧ b < w.heap.size) : Will P Q (crowd gs w sl) t ∨ ∃ μ' : Ix P Ro, μ'.1 < N ∧ Inv P Q Ro c v z μ' (crowd gs w sl) t := by
 cases hph with
 | three => omega
 | two h =>
  obtain ⟨_, hs⟩ := hSt
  obtain ⟨es, _, _, hK⟩ := hs w₁ hk
  obtain ⟨y, e, hl⟩ := Xt.of (hK j trivial)
  refine .inr ⟨(1, some y, (updK kd j (.got k) false).x?, (updK kd j (.got k) true).x?, sumTo gs.size q), (by show (1 : Nat) < 2; omega), gs, w, sl, q, who, _, rfl, hS, ⟨?_, ?_, hl, ?_, ?_, ?_⟩, rfl⟩
  ·rw [e]; exact h0
  ·rw [e]
  ·rw [e]; exact hw
  ·rw [e]; exact ho
  ·show Phase P Q Ro c v z _ 1 y.1.Stop
   rw [e]
   refine .one j k (updK_same _ _ _) ?_
   rw [updK_ne _ _ (by cases j <;> decide)]
   exact h _
 | one j0 k0 g0 g1 =>
  obtain ⟨_, hs⟩ := hSt
  obtain ⟨es, _, _, hK⟩ := hs w₁ hk
  have hne : j ≠ j0 := by
   rintro rfl
   rw [g0] at hj
   exact not_up_got hj
  have hC := hK j (ne_not hne) w hw
  left
  have hall : ∀ i, ∃ k', updK kd j (.got k) i = .got k' := fun i => by
   by_cases e : i = j
   ·subst e
    exact ⟨k, updK_same _ _ _⟩
   ·have : i = j0 := by
     have h1 := ne_not e
     have h2 := ne_not hne
     rw [h1, h2]
     simp
    subst this
    exact ⟨k0, by rw [updK_ne _ _ e]; exact g0⟩
  have nb : ∀ g, ¬busyOf (updK kd j (.got k)) g := fun g hb => by
   obtain ⟨i, x, e⟩ := hb
   obtain ⟨k', e'⟩ := hall i
   rw [e'] at e
   cases e
  have np : ∀ g, ¬pendOf (updK kd j (.got k)) g := fun g hb => by
   obtain ⟨i, e⟩ := hb
   obtain ⟨k', e'⟩ := hall i
   rw [e'] at e
   rcases e with ⟨x, e⟩ | ⟨p, e⟩ <;> cases e
  have hcore := hS.core.congr (busy' := fun _ => False) (pend' := fun _ => False) (fun g => ⟨fun x => nb g x, False.elim⟩) fun g => ⟨fun x => np g x, False.elim⟩
  obtain ⟨hP, hL⟩ := hcore.toCalm
  exact hC w.drawn gs sl t q h0 hL hP
theorem main_spawn (hS : Sys P Ro c v gs w t q who kd) {x : Xt P Ro} (hM : MainOk P Q Ro c v z gs w who kd 3 (some x)) (hst : x.1.Stop x.1.own x.1.g x.1.w) :
  ∃ m' ops, runT P (crowd gs w sl) 0 = (.next m', ops) ∧ ∃ μ' : Ix P Ro, μ'.1 < 3 ∧ Inv P Q Ro c v z μ' m' (t ++ ops) := by
 obtain ⟨h1, h2, h3, h4, h5, h6⟩ := id hM
 generalize hSt : x.1.Stop = St at h6 hst
 cases h6 with
 | three k0 k1 =>
  obtain ⟨_, hgo⟩ := hst
  obtain ⟨g', child, es, e, he, hlc, hlm⟩ := hgo w h4
  obtain ⟨xc, ec, hxc⟩ := Xt.of hlc
  obtain ⟨y, ey, hy⟩ := Xt.of hlm
  have hrt := runT_crowd_spawn (P := P) (sl := sl) (i := 0) h1 (show stepG P (0 == 0) x.1.g w = _ from e)
  have hlt : 0 < gs.size := hS.core.size
  have hm := mine_still he w
  have hsz : (gs.setIfInBounds 0 g').size = gs.size := by simp
  have hgs : ∀ k, k ≠ 0 → (gs.setIfInBounds 0 g')[k]? = gs[k]? := fun k hk => Array.getElem?_setIfInBounds_ne (Ne.symm hk)
  have hC1 := hS.core.step (gs' := gs.setIfInBounds 0 g') (fn := x.1.g.frame.fn) (pos := x.1.g.frame.place) (.inl rfl) hlt hm h5 hsz hgs
  rw [whoNew_self] at hC1
  have hC2 := hC1.spawn (gs' := gs.setIfInBounds 0 g') (child := child) (fn := x.1.g.frame.fn) (fn' := child.frame.fn) (pos := x.1.g.frame.place) (pos' := x.1.g.frame.place) rfl fun _ _ => rfl
  rw [hsz] at hC2
  have htr : t ++ ((MemOp.ofEvents 0 x.1.g.frame.fn x.1.g.frame.place es).push { g := 0, fn := x.1.g.frame.fn, pos := x.1.g.frame.place, act := .go gs.size } |>.push { g := gs.size, fn := child.frame.fn, pos := x.1.g.frame.place, act := .start }) =
    t ++ MemOp.ofEvents 0 x.1.g.frame.fn x.1.g.frame.place es ++ #[{ g := 0, fn := x.1.g.frame.fn, pos := x.1.g.frame.place, act := .go gs.size }, { g := gs.size, fn := child.frame.fn, pos := x.1.g.frame.place, act := .start }] := by
   apply Array.ext'
   simp
  have hf : updK kd true (.run gs.size xc) false = kd false := updK_ne _ _ (by decide)
  have ht : updK kd true (.run gs.size xc) true = .run gs.size xc := updK_same _ _ _
  have hmem : ∀ {p : Nat → Prop}, (∃ j, p j) → True := fun _ => trivial
  refine ⟨_, _, hrt, (2, some y, (updK kd true (.run gs.size xc) false).x?, (updK kd true (.run gs.size xc) true).x?, sumTo ((gs.setIfInBounds 0 g').push child).size q), (by show (2 : Nat) < 3; omega), _, w, sl, q, who, updK kd true (.run gs.size xc), rfl, ⟨?_, fun j => ?_, fun k e1 e2 => ?_, hS.chan, hS.cne⟩, ⟨?_, ?_, hy, ?_, ?_, ?_⟩, rfl⟩
  ·rw [htr]
   refine hC2.congr (fun g => ⟨?_, ?_⟩) fun g => ⟨?_, ?_⟩
   ·rintro (⟨i, x', e'⟩ | rfl)
    ·cases i with
     | false => exact ⟨false, x', by rw [hf]; exact e'⟩
     | true => rw [k1] at e'; cases e'
    ·exact ⟨true, xc, ht⟩
   ·rintro ⟨i, x', e'⟩
    cases i with
    | false => rw [hf] at e'; exact .inl ⟨false, x', e'⟩
    | true => rw [ht] at e'; cases e'; exact .inr rfl
   ·rintro (⟨i, e'⟩ | rfl)
    ·cases i with
     | false => exact ⟨false, by rw [hf]; exact e'⟩
     | true => rw [k1] at e'; rcases e' with ⟨_, e'⟩ | ⟨_, e'⟩ <;> cases e'
    ·exact ⟨true, .inl ⟨xc, ht⟩⟩
   ·rintro ⟨i, e'⟩
    cases i with
    | false => rw [hf] at e'; exact .inl ⟨false, e'⟩
    | true =>
     rw [ht] at e'
     rcases e' with ⟨_, e'⟩ | ⟨_, e'⟩
     ·cases e'; exact .inr rfl
     ·cases e'
  ·rw [htr]
   cases j with
   | false =>
    rw [hf]
    have hk1 := (hS.kid false).other (gs' := gs.setIfInBounds 0 g') (fn := x.1.g.frame.fn) (pos := x.1.g.frame.place) hm h5 (fun k hk => Nat.ne_of_gt ((hS.kid false).num hk).1) hS.core.ro (hS.chan false).1 hsz hgs
    rw [whoNew_self] at hk1
    refine hk1.quiet rfl (fun own _ => Keeps.refl _ _ _) rfl (fun op hop => ?_) (by simp) fun k x' e' => ?_
    ·simp at hop
     rcases hop with rfl | rfl <;> rfl
    ·have := hk1.num (k := k) (by rw [e']; rfl)
     rw [hsz] at this
     rw [Array.getElem?_push, hsz, if_neg (by omega)]
   | true =>
    rw [ht]
    have hk := hS.kid true
    rw [k1] at hk
    refine ⟨hlt, ?_, by rw [ec], by rw [ec], hxc, by rw [ec]; exact Keeps.refl _ _ _, by rw [ec]; exact fun b hb => hb.elim, hk⟩
    rw [ec, Array.getElem?_push, hsz, if_pos rfl]
  ·rw [hf] at e1
   rw [ht] at e2
   cases e2
   have := ((hS.kid false).num e1).2
   omega
  ·rw [ey, Array.getElem?_push, hsz, if_neg (by omega), Array.getElem?_setIfInBounds_self_of_lt hlt]
  ·rw [ey]
  ·rw [ey]; exact Keeps.refl _ _ _
  ·rw [ey]; exact h5
  ·show Phase P Q Ro c v z _ 2 y.1.Stop
   rw [ey]
   refine .two fun i => ?_
   cases i with
   | false => rw [hf]; exact k0
   | true => rw [ht]; exact up_run
end
end Go.Proofs.Ytjgleaakgbnjgaa.Par
end

section
namespace Go.Proofs.Ytjgleaakgbnjgaa.Par
open Go Go.Conc
open Go.ConcN (sumTo upd sumTo_upd upd_ne upd_same)
section
variable {P : Program} {Q : Machine → Outcome → World → Trace → Prop} {Ro own : Nat → Prop} {c : Bool → Nat} {v : Bool → Value} {z : Value} {gs gs' : Array Goroutine} {w w' w₀ w₁ : World} {sl : Option (Nat × Nat)} {t u : Trace} {q : Nat → Nat} {who : Nat → Option Nat} {kd : Bool → KidSt P Ro} {N : Nat} {a : Option (Xt P Ro)} {St : (Nat → Prop) → Goroutine → World → Prop} {j : Bool} {s : KidSt P Ro}
theorem keeps_set {ch cap s r d : Nat} {buf : Array Value} {closed tm : Bool} (ho : ∀ b, own b → ∃ k, who b = some k) (hw : who ch = none) (hr : ¬Ro ch) : Keeps own Ro w ((w.at d).setChan ch cap buf closed s r tm) :=
 (keeps_at w d).trans (Keeps.chan (fun x => by obtain ⟨k, e⟩ := ho _ x; rw [hw] at e; cases e) hr)
theorem set_at {ch cap s r d : Nat} {buf : Array Value} {closed tm : Bool} (h : ch < w.heap.size) : ((w.at d).setChan ch cap buf closed s r tm).heap[ch]? = some (.chan cap buf closed s r tm) := by
 unfold World.setChan
 simp only
 rw [Array.getElem?_setIfInBounds_self_of_lt (by exact h)]
theorem set_off {ch b cap s r d : Nat} {buf : Array Value} {closed tm : Bool} (h : ch ≠ b) : ((w.at d).setChan ch cap buf closed s r tm).heap[b]? = w.heap[b]? := by
 unfold World.setChan
 simp only
 rw [Array.getElem?_setIfInBounds_ne h]
 rfl
theorem set_size {ch cap s r d : Nat} {buf : Array Value} {closed tm : Bool} : ((w.at d).setChan ch cap buf closed s r tm).heap.size = w.heap.size := by
 unfold World.setChan
 simp only
 exact Array.size_setIfInBounds
theorem Sys.cneq (hS : Sys P Ro c v gs w t q who kd) {i j : Bool} (h : i ≠ j) : c i ≠ c j := by
 cases i <;> cases j <;> first | exact absurd rfl h | exact hS.cne | exact hS.cne.symm
theorem Sys.list (hS : Sys P Ro c v gs w t q who kd) {i : Nat} (hi : i = 0 ∨ busyOf kd i) (hlt : i < gs.size) {es : Array Event} {fn : FuncId} {pos : String} (he : ∀ e ∈ es, EvMine own Ro e) (ho : ∀ b, own b → who b = some i ∧ b < w.heap.size) :
  Sys P Ro c v gs w (t ++ MemOp.ofEvents i fn pos es) q who kd := by
 have hC := hS.core.step (gs' := gs) (fn := fn) (pos := pos) hi hlt (mine_still he w) ho rfl fun _ _ => rfl
 rw [whoNew_self] at hC
 refine ⟨hC, fun j => ?_, hS.apart, hS.chan, hS.cne⟩
 have hk := hS.kid j
 cases e : kd j with
 | run k x => rw [e] at hk; exact hk
 | fresh => rw [e] at hk; exact hk
 | got k => rw [e] at hk; exact hk
 | sent k p =>
  rw [e] at hk
  have hne : i ≠ k := by
   rcases hi with rfl | ⟨j', x, e'⟩
   ·exact Nat.ne_of_lt hk.1
   ·have hjj : j ≠ j' := by
     rintro rfl
     rw [e] at e'
     cases e'
    exact (num_other hS (j := j') (i := i) (by rw [e']; rfl) j hjj k (by rw [e]; rfl)).symm
  exact ⟨hk.1, hk.2.1, hk.2.2.1.app fun op hop hg => by
   obtain ⟨x, _, rfl⟩ := Go.Conc.mem_ofEvents hop
   exact absurd hg hne, hk.2.2.2⟩
theorem Sys.recv (hS : Sys P Ro c v gs w t q who kd) {k p d : Nat} {tm : Bool} (hk : kd j = .sent k p) (hsz : gs'.size = gs.size) (hgs : ∀ i, i ≠ 0 → gs'[i]? = gs[i]?) {fn fn' : FuncId} {pos pos' : String} :
  Sys P Ro c v gs' ((w.at d).setChan (c j) 1 #[] false 1 1 tm) (t ++ #[{ g := 0, fn, pos, act := .recv (c j) 0 1 }, { g := 0, fn := fn', pos := pos', act := .recvDone (c j) 0 }]) q who (updK kd j (.got k)) := by
 have hkk := hS.kid j
 rw [hk] at hkk
 obtain ⟨h1, h2, h3, h4⟩ := hkk
 have hlt := (hS.kid j).lt
 have hpl : ∀ op ∈ (#[{ g := 0, fn, pos, act := .recv (c j) 0 1 }, { g := 0, fn := fn', pos := pos', act := .recvDone (c j) 0 }] : Array MemOp), op.act.touch? = none ∧ op.act.low w.heap.size ∧ Plain op := by
  intro op hop
  simp at hop
  rcases hop with rfl | rfl <;> exact ⟨rfl, hlt, nofun, nofun⟩
 generalize hu : (#[{ g := 0, fn, pos, act := .recv (c j) 0 1 }, { g := 0, fn := fn', pos := pos', act := .recvDone (c j) 0 }] : Array MemOp) = u at *
 have e1 : (t ++ u)[t.size + 1]? = some { g := 0, fn := fn', pos := pos', act := .recvDone (c j) 0 } := by
  rw [Array.getElem?_append_right (by omega)]
  subst hu
  simp
 have hC := hS.core.quiet (gs' := gs') (u := u) (w' := (w.at d).setChan (c j) 1 #[] false 1 1 tm) set_size hpl hsz fun i hi _ => hgs i (by omega)
 have hT := hC.tinv.received (h3.app (u := u) fun op hop _ => (hpl op hop).1) e1 rfl rfl (heard_new (fun op hop => (hpl op hop).2.2) (by omega) e1 (hS.core.tinv.hears 0 (.inl rfl)))
 have hnb : ∀ g, busyOf kd g → g ≠ k := by
  rintro g ⟨j', x, e'⟩
  have hjj : j' ≠ j := by
   rintro rfl
   rw [hk] at e'
   cases e'
  exact num_other hS (j := j) (i := k) (by rw [hk]; rfl) j' hjj g (by rw [e']; rfl)
 have hC2 := hC.setPend hT fun g hg => ⟨(hS.core.busyPend g hg).1, hnb g hg⟩
 refine ⟨hC2.congr (fun g => ⟨?_, ?_⟩) fun g => ⟨?_, ?_⟩, fun j' => ?_, apart_upd hS (by rw [hk]; rfl), hS.chan, hS.cne⟩
 ·rintro ⟨j', x, e'⟩
  have hjj : j' ≠ j := by
   rintro rfl
   rw [hk] at e'
   cases e'
  exact ⟨j', x, by rw [updK_ne _ _ hjj]; exact e'⟩
 ·rintro ⟨j', x, e'⟩
  by_cases hjj : j' = j
  ·subst hjj
   rw [updK_same] at e'
   cases e'
  ·rw [updK_ne _ _ hjj] at e'
   exact ⟨j', x, e'⟩
 ·rintro ⟨⟨j', e'⟩, hne⟩
  by_cases hjj : j' = j
  ·subst hjj
   rw [hk] at e'
   rcases e' with ⟨x, e'⟩ | ⟨p', e'⟩
   ·cases e'
   ·cases e'
    exact absurd rfl hne
  ·exact ⟨j', by rw [updK_ne _ _ hjj]; exact e'⟩
 ·rintro ⟨j', e'⟩
  by_cases hjj : j' = j
  ·subst hjj
   rw [updK_same] at e'
   rcases e' with ⟨x, e'⟩ | ⟨p', e'⟩ <;> cases e'
  ·rw [updK_ne _ _ hjj] at e'
   refine ⟨⟨j', e'⟩, num_other hS (j := j) (i := k) (by rw [hk]; rfl) j' hjj g ?_⟩
   rcases e' with ⟨x, e'⟩ | ⟨p', e'⟩ <;> rw [e'] <;> rfl
 ·by_cases hjj : j' = j
  ·subst hjj
   rw [updK_same]
   exact ⟨h1, hsz ▸ h2, tm, set_at hlt⟩
  ·rw [updK_ne _ _ hjj]
   refine (hS.kid j').quiet set_size (fun own ho => keeps_set ho (hS.chan j).1 (hS.chan j).2) (set_off (hS.cneq (Ne.symm hjj))) (fun op hop => (hpl op hop).1) (by omega) fun i x e' => hgs i ?_
   have := (hS.kid j').num (k := i) (by rw [e']; rfl)
   omega
theorem Sys.buffer (hS : Sys P Ro c v gs w t q who kd) {i d n : Nat} {x : Xt P Ro} {tm : Bool} (hk : kd j = .run i x) (hsz : gs'.size = gs.size) (hgs : ∀ k, k ≠ i → gs'[k]? = gs[k]?) {gk : Goroutine} (hgi : gs'[i]? = some gk) (hq : QuitsD P n 0 gk) {fn fn' : FuncId} {pos pos' : String} :
  Sys P Ro c v gs' ((w.at d).setChan (c j) 1 #[v j] false 1 0 tm) (t ++ #[{ g := i, fn, pos, act := .send (c j) 0 }, { g := i, fn := fn', pos := pos', act := .sendDone (c j) 0 }]) (upd q i n) who (updK kd j (.sent i t.size)) := by
 have hkk := hS.kid j
 rw [hk] at hkk
 obtain ⟨h1, h2, _⟩ := hkk
 have hlt := (hS.kid j).lt
 have hbi : busyOf kd i := ⟨j, x, hk⟩
 have hpl : ∀ op ∈ (#[{ g := i, fn, pos, act := .send (c j) 0 }, { g := i, fn := fn', pos := pos', act := .sendDone (c j) 0 }] : Array MemOp), op.act.touch? = none ∧ op.act.low w.heap.size ∧ Plain op := by
  intro op hop
  simp at hop
  rcases hop with rfl | rfl <;> exact ⟨rfl, hlt, nofun, nofun⟩
 have hC := hS.core.quiet (gs' := gs') (u := #[{ g := i, fn, pos, act := .send (c j) 0 }, { g := i, fn := fn', pos := pos', act := .sendDone (c j) 0 }]) (w' := (w.at d).setChan (c j) 1 #[v j] false 1 0 tm) set_size hpl hsz fun k hk' hb => hgs k fun e => hb (e ▸ hbi)
 have hC2 := hC.leaves hbi hgi hq
 refine ⟨hC2.congr (fun g => ⟨?_, ?_⟩) fun g => ⟨?_, ?_⟩, fun j' => ?_, apart_upd hS (by rw [hk]; rfl), hS.chan, hS.cne⟩
 ·rintro ⟨⟨j', x', e'⟩, hne⟩
  have hjj : j' ≠ j := by
   rintro rfl
   rw [hk] at e'
   cases e'
   exact hne rfl
  exact ⟨j', x', by rw [updK_ne _ _ hjj]; exact e'⟩
 ·rintro ⟨j', x', e'⟩
  by_cases hjj : j' = j
  ·subst hjj
   rw [updK_same] at e'
   cases e'
  ·rw [updK_ne _ _ hjj] at e'
   exact ⟨⟨j', x', e'⟩, num_other hS (j := j) (i := i) (by rw [hk]; rfl) j' hjj g (by rw [e']; rfl)⟩
 ·rintro ⟨j', e'⟩
  by_cases hjj : j' = j
  ·subst hjj
   rw [hk] at e'
   rcases e' with ⟨x', e'⟩ | ⟨p', e'⟩
   ·cases e'
    exact ⟨j', .inr ⟨_, updK_same _ _ _⟩⟩
   ·cases e'
  ·exact ⟨j', by rw [updK_ne _ _ hjj]; exact e'⟩
 ·rintro ⟨j', e'⟩
  by_cases hjj : j' = j
  ·subst hjj
   rw [updK_same] at e'
   rcases e' with ⟨x', e'⟩ | ⟨p', e'⟩
   ·cases e'
   ·cases e'
    exact ⟨j', .inl ⟨x, hk⟩⟩
  ·rw [updK_ne _ _ hjj] at e'
   exact ⟨j', e'⟩
 ·by_cases hjj : j' = j
  ·subst hjj
   rw [updK_same]
   exact ⟨h1, by rw [hsz]; exact (Array.getElem?_eq_some_iff.1 h2).1, sent_new (hS.core.tinv.hears i (.inr hbi)) ⟨rfl, rfl⟩ fun op hop => ⟨(hpl op hop).1, (hpl op hop).2.2⟩, tm, set_at hlt⟩
  ·rw [updK_ne _ _ hjj]
   exact (hS.kid j').quiet set_size (fun own ho => keeps_set ho (hS.chan j).1 (hS.chan j).2) (set_off (hS.cneq (Ne.symm hjj))) (fun op hop => (hpl op hop).1) (by omega) fun k x' e' => hgs k (num_other hS (j := j) (i := i) (by rw [hk]; rfl) j' hjj k (by rw [e']; rfl))
theorem Sys.hand (hS : Sys P Ro c v gs w t q who kd) {i d n : Nat} {x : Xt P Ro} {tm : Bool} (hk : kd j = .run i x) (hsz : gs'.size = gs.size) (hgs : ∀ k, k ≠ i → k ≠ 0 → gs'[k]? = gs[k]?) {gk : Goroutine} (hgi : gs'[i]? = some gk) (hq : QuitsD P n 0 gk) {f1 f2 f3 f4 : FuncId} {p1 p2 p3 p4 : String} :
  Sys P Ro c v gs' ((w.at d).setChan (c j) 1 #[] false 1 1 tm) (t ++ #[{ g := i, fn := f1, pos := p1, act := .send (c j) 0 }, { g := 0, fn := f2, pos := p2, act := .recv (c j) 0 1 }, { g := i, fn := f3, pos := p3, act := .sendDone (c j) 0 }, { g := 0, fn := f4, pos := p4, act := .recvDone (c j) 0 }]) (upd q i n) who (updK kd j (.got i)) := by
 have hkk := hS.kid j
 rw [hk] at hkk
 obtain ⟨h1, h2, _⟩ := hkk
 have hlt := (hS.kid j).lt
 have hbi : busyOf kd i := ⟨j, x, hk⟩
 have hpl : ∀ op ∈ (#[{ g := i, fn := f1, pos := p1, act := .send (c j) 0 }, { g := 0, fn := f2, pos := p2, act := .recv (c j) 0 1 }, { g := i, fn := f3, pos := p3, act := .sendDone (c j) 0 }, { g := 0, fn := f4, pos := p4, act := .recvDone (c j) 0 }] : Array MemOp), op.act.touch? = none ∧ op.act.low w.heap.size ∧ Plain op := by
  intro op hop
  simp at hop
  rcases hop with rfl | rfl | rfl | rfl <;> exact ⟨rfl, hlt, nofun, nofun⟩
 have hsent := sent_new (t := t) (ch := c j) (n := 0) (hS.core.tinv.hears i (.inr hbi)) (x := { g := i, fn := f1, pos := p1, act := .send (c j) 0 }) (l := [{ g := 0, fn := f2, pos := p2, act := .recv (c j) 0 1 }, { g := i, fn := f3, pos := p3, act := .sendDone (c j) 0 }, { g := 0, fn := f4, pos := p4, act := .recvDone (c j) 0 }]) ⟨rfl, rfl⟩ fun op hop => ⟨(hpl op hop).1, (hpl op hop).2.2⟩
 generalize hu : (#[{ g := i, fn := f1, pos := p1, act := .send (c j) 0 }, { g := 0, fn := f2, pos := p2, act := .recv (c j) 0 1 }, { g := i, fn := f3, pos := p3, act := .sendDone (c j) 0 }, { g := 0, fn := f4, pos := p4, act := .recvDone (c j) 0 }] : Array MemOp) = u at *
 have e1 : (t ++ u)[t.size + 3]? = some { g := 0, fn := f4, pos := p4, act := .recvDone (c j) 0 } := by
  rw [Array.getElem?_append_right (by omega)]
  subst hu
  simp
 have hC := hS.core.quiet (gs' := gs') (u := u) (w' := (w.at d).setChan (c j) 1 #[] false 1 1 tm) set_size hpl hsz fun k hk' hb => hgs k (fun e => hb (e ▸ hbi)) (by omega)
 have hC2 := hC.leaves hbi hgi hq
 have hT := hC2.tinv.received hsent e1 rfl rfl (heard_new (fun op hop => (hpl op hop).2.2) (by omega) e1 (hS.core.tinv.hears 0 (.inl rfl)))
 have hC3 := hC2.setPend hT fun g hg => ⟨(hS.core.busyPend g hg.1).1, hg.2⟩
 refine ⟨hC3.congr (fun g => ⟨?_, ?_⟩) fun g => ⟨?_, ?_⟩, fun j' => ?_, apart_upd hS (by rw [hk]; rfl), hS.chan, hS.cne⟩
 ·rintro ⟨⟨j', x', e'⟩, hne⟩
  have hjj : j' ≠ j := by
   rintro rfl
   rw [hk] at e'
   cases e'
   exact hne rfl
  exact ⟨j', x', by rw [updK_ne _ _ hjj]; exact e'⟩
 ·rintro ⟨j', x', e'⟩
  by_cases hjj : j' = j
  ·subst hjj
   rw [updK_same] at e'
   cases e'
  ·rw [updK_ne _ _ hjj] at e'
   exact ⟨⟨j', x', e'⟩, num_other hS (j := j) (i := i) (by rw [hk]; rfl) j' hjj g (by rw [e']; rfl)⟩
 ·rintro ⟨⟨j', e'⟩, hne⟩
  by_cases hjj : j' = j
  ·subst hjj
   rw [hk] at e'
   rcases e' with ⟨x', e'⟩ | ⟨p', e'⟩
   ·cases e'
    exact absurd rfl hne
   ·cases e'
  ·exact ⟨j', by rw [updK_ne _ _ hjj]; exact e'⟩
 ·rintro ⟨j', e'⟩
  by_cases hjj : j' = j
  ·subst hjj
   rw [updK_same] at e'
   rcases e' with ⟨x', e'⟩ | ⟨p', e'⟩ <;> cases e'
  ·rw [updK_ne _ _ hjj] at e'
   refine ⟨⟨j', e'⟩, num_other hS (j := j) (i := i) (by rw [hk]; rfl) j' hjj g ?_⟩
   rcases e' with ⟨x', e'⟩ | ⟨p', e'⟩ <;> rw [e'] <;> rfl
 ·by_cases hjj : j' = j
  ·subst hjj
   rw [updK_same]
   exact ⟨h1, by rw [hsz]; exact (Array.getElem?_eq_some_iff.1 h2).1, tm, set_at hlt⟩
  ·rw [updK_ne _ _ hjj]
   refine (hS.kid j').quiet set_size (fun own ho => keeps_set ho (hS.chan j).1 (hS.chan j).2) (set_off (hS.cneq (Ne.symm hjj))) (fun op hop => (hpl op hop).1) (by omega) fun k x' e' => hgs k (num_other hS (j := j) (i := i) (by rw [hk]; rfl) j' hjj k (by rw [e']; rfl)) ?_
   have := (hS.kid j').num (k := k) (by rw [e']; rfl)
   omega
end
end Go.Proofs.Ytjgleaakgbnjgaa.Par
end

section
namespace Go.Proofs.Ytjgleaakgbnjgaa.Par
open Go Go.Conc
open Go.ConcN (sumTo upd sumTo_upd upd_ne upd_same)
section
variable {P : Program} {Q : Machine → Outcome → World → Trace → Prop} {Ro own : Nat → Prop} {c : Bool → Nat} {v : Bool → Value} {z : Value} {gs gs' : Array Goroutine} {w w' w₀ w₁ : World} {sl : Option (Nat × Nat)} {t u : Trace} {q : Nat → Nat} {who : Nat → Option Nat} {kd : Bool → KidSt P Ro} {N : Nat} {a : Option (Xt P Ro)} {St : (Nat → Prop) → Goroutine → World → Prop} {j : Bool} {s : KidSt P Ro}
theorem phase_sel {g : Goroutine} (h : Phase P Q Ro c v z kd N St) (hN : N ≤ 2) (hst : St own g w₀) (hk : Keeps own Ro w₀ w) : ∃ es, stepG P true g w = .comm (Go.Conc.core g) (cases2 c z) true .select w es ∧ ∀ e ∈ es, EvMine own Ro e := by
 cases h with
 | three => omega
 | two h => obtain ⟨es, h1, h2, _⟩ := hst.2 w hk; exact ⟨es, h1, h2⟩
 | one j k g0 g1 => obtain ⟨es, h1, h2, _⟩ := hst.2 w hk; exact ⟨es, h1, h2⟩
theorem Sys.lay (hS : Sys P Ro c v gs w t q who kd) (hsz : gs'.size = gs.size) (hgs : ∀ i, i ≠ 0 → gs'[i]? = gs[i]?) : Sys P Ro c v gs' w t q who kd := by
 obtain ⟨⟨a1, a2, a3, a4, a5, a6, a7⟩, hk, h3, h4, h5⟩ := id hS
 refine ⟨⟨a1, fun i g hi hb hg => a2 i g hi hb (by rw [← hgs i (by omega)]; exact hg), by rw [hsz]; exact a3, a4, by rw [hsz]; exact a5, by rw [hsz]; exact a6, a7⟩, fun j => ?_, h3, h4, h5⟩
 have h := (hk j).quiet (gs' := gs') (u := #[]) (w' := w) rfl (fun own _ => Keeps.refl _ _ _) rfl (fun op hop => by simp at hop) (by omega) fun k x e => hgs k (by
  have := (hk j).num (k := k) (by rw [e]; rfl)
  omega)
 rw [Array.append_empty] at h
 exact h
theorem bufOf_sent {x : Value} (h : 0 < (bufOf x s).size) : ∃ k p, s = .sent k p := by
 cases s with
 | sent k p => exact ⟨k, p, rfl⟩
 | _ => simp [bufOf] at h
theorem main_sel (hS : Sys P Ro c v gs w t q who kd) {x : Xt P Ro} (hM : MainOk P Q Ro c v z gs w who kd N (some x)) (hN : N ≤ 2) (hst : x.1.Stop x.1.own x.1.g x.1.w) :
  ∃ m' ops, runT P (crowd gs w sl) 0 = (.next m', ops) ∧ (Will P Q m' (t ++ ops) ∨ ∃ μ' : Ix P Ro, ILt P Ro μ' (N, some x, (kd false).x?, (kd true).x?, sumTo gs.size q) ∧ Inv P Q Ro c v z μ' m' (t ++ ops)) := by
 obtain ⟨h1, h2, h3, h4, h5, h6⟩ := id hM
 obtain ⟨es, e, he⟩ := phase_sel h6 hN hst h4
 have e' : stepG P (0 == 0) x.1.g w = .comm (Go.Conc.core x.1.g) (cases2 c z) true .select w es := e
 obtain ⟨tm, hc⟩ := chan_all hS
 have hlt := hS.core.size
 by_cases hsn : ∃ j k p, kd j = .sent k p
 ·obtain ⟨j, d, hb, hrt⟩ := sel_recv (P := P) (sl := sl) (z := z) h1 e hc (fun ch => hS.noSender hM 0 ch) (by
   obtain ⟨j, k, p, ej⟩ := hsn
   exact ⟨j, by rw [ej]; exact Nat.zero_lt_one⟩)
  obtain ⟨k, p, ej⟩ := bufOf_sent hb
  refine ⟨_, _, hrt, ?_⟩
  have hl := hS.list (i := 0) (fn := x.1.g.frame.fn) (pos := x.1.g.frame.place) (.inl rfl) hlt he h5
  have hsz : ∀ y, (gs.setIfInBounds 0 y).size = gs.size := fun y => by simp
  have hr := hl.recv (d := d) (tm := tm j) ej (hsz ((Go.Conc.core x.1.g).finishComm P (cases2 c z) .select (j.toNat : Int) (v j) true)) (fun i hi => Array.getElem?_setIfInBounds_ne (Ne.symm hi)) (fn := (Go.Conc.core x.1.g).frame.fn) (fn' := (Go.Conc.core x.1.g).frame.fn) (pos := (Go.Conc.core x.1.g).frame.place) (pos' := (Go.Conc.core x.1.g).frame.place)
  have hbe : ∀ {n}, n = (bufOf (v j) (kd j)).size → (bufOf (v j) (kd j)).extract 1 n = #[] := by
   rintro n rfl
   rw [ej]
   rfl
  have hb0 : (bufOf (v j) (kd j)).getD 0 undef = v j := by rw [ej]; rfl
  have hs1 : sOf (kd j) = 1 := by rw [ej]; rfl
  have hr0 : rOf (kd j) = 0 := by rw [ej]; rfl
  rw [hbe rfl, hb0, hs1, hr0, ← Array.append_assoc]
  rcases after_recv (Q := Q) (z := z) (sl := sl) (N := N) (St := x.1.Stop) (own := x.1.own) (w₀ := x.1.w) (w₁ := w) hr (by rw [Array.getElem?_setIfInBounds_self_of_lt hlt]) h6 hN hst h4 (keeps_set (fun b hb => ⟨0, (h5 b hb).1⟩) (hS.chan j).1 (hS.chan j).2) (by rw [ej]; exact up_sent) (fun b hb => by rw [set_size]; exact h5 b hb) with hw | ⟨μ', hμ, hI⟩
  ·exact .inl hw
  ·obtain ⟨n', r⟩ := μ'
   exact .inr ⟨(n', r), .left _ _ hμ, hI⟩
 ·have hns : ∀ j k p, kd j ≠ .sent k p := fun j k p ej => hsn ⟨j, k, p, ej⟩
  have hbe : ∀ j, bufOf (v j) (kd j) = #[] := fun j => by
   cases ej : kd j with
   | sent k p => exact absurd ej (hns j k p)
   | _ => rfl
  have hrt := crowd_waits (P := P) (sl := sl) (i := 0) h1 e' fun cc hcc => by
   simp only [cases2, List.mem_toArray, List.mem_cons, List.not_mem_nil, or_false] at hcc
   rcases hcc with rfl | rfl
   ·exact ways_recv_none (by have := hc false; rw [hbe] at this; exact this) (hS.noSender hM 0 _)
   ·exact ways_recv_none (by have := hc true; rw [hbe] at this; exact this) (hS.noSender hM 0 _)
  have hl := (hS.list (i := 0) (fn := x.1.g.frame.fn) (pos := x.1.g.frame.place) (.inl rfl) hlt he h5).lay (gs' := gs.setIfInBounds 0 (parked (Go.Conc.core x.1.g) (cases2 c z) .select)) (by simp) fun i hi => Array.getElem?_setIfInBounds_ne (Ne.symm hi)
  refine ⟨_, _, hrt, .inr ⟨(N, none, (kd false).x?, (kd true).x?, sumTo (gs.setIfInBounds 0 (parked (Go.Conc.core x.1.g) (cases2 c z) .select)).size q), .right _ (.left _ _ trivial), _, w, sl, q, who, kd, rfl, hl, ⟨x.1.own, x.1.g, x.1.w, x.1.Stop, ?_, h6, hN, hns, hst, h4, h5⟩, rfl⟩⟩
  rw [Array.getElem?_setIfInBounds_self_of_lt hlt]
theorem kid_send (hS : Sys P Ro c v gs w t q who kd) (hM : MainOk P Q Ro c v z gs w who kd N a) {i : Nat} {x : Xt P Ro} (hx : kd j = .run i x) (hst : x.1.Stop x.1.own x.1.g x.1.w) :
  ∃ m' ops, runT P (crowd gs w sl) i = (.next m', ops) ∧ (Will P Q m' (t ++ ops) ∨ ∃ μ' : Ix P Ro, ILt P Ro μ' (N, a, (kd false).x?, (kd true).x?, sumTo gs.size q) ∧ Inv P Q Ro c v z μ' m' (t ++ ops)) := by
 have hk := hS.kid j
 rw [hx] at hk
 obtain ⟨k1, k2, k3, k4, k5, k6, k7, tm, k8⟩ := id hk
 rw [k4] at hst
 obtain ⟨_, hst⟩ := hst
 obtain ⟨g₂, z', es, e, he, n, hq⟩ := hst w k6
 have hi0 : (i == 0) = false := by simp; omega
 have e' : stepG P (i == 0) x.1.g w = .comm g₂ #[scase (c j) (v j) z'] true .send w es := by rw [hi0]; exact e
 have hlt0 := hS.core.size
 have hlt : i < gs.size := (Array.getElem?_eq_some_iff.1 k2).1
 have hl := hS.list (i := i) (fn := x.1.g.frame.fn) (pos := x.1.g.frame.place) (.inr ⟨j, x, hx⟩) hlt he k7
 have hfc : g₂.finishComm P #[scase (c j) (v j) z'] .send 0 undef false = Go.Conc.served g₂ undef := rfl
 cases a with
 | none =>
  obtain ⟨own', g, w0, St, h1, h2, hN, hns, h4, h5, h6⟩ := id hM
  have hp : partners (gs.setIfInBounds i ph) (c j) false = [(0, j.toNat)] := by
   rw [partners_one (j := 0) (g := parked (Go.Conc.core g) (cases2 c z) .select) (by rw [Array.getElem?_setIfInBounds_ne (by omega)]; exact h1) fun k y hk hy => ?_]
   ·rw [offersAt_parked_at (z := z) (k := j.toNat) (by cases j <;> rfl) fun m cc hm hcc => ?_]
    ·rfl
    ·have hcn := hS.cne
     match m, hm, hcc with
     | 0, hm, hcc =>
      cases j with
      | false => exact absurd rfl hm
      | true => cases hcc; simpa [rcase] using hcn
     | 1, hm, hcc =>
      cases j with
      | false => cases hcc; simpa [rcase] using hcn.symm
      | true => exact absurd rfl hm
     | m + 2, _, hcc => simp at hcc
   ·rcases getElem?_stand _ _ _ _ hy with ⟨_, rfl⟩ | ⟨_, hy'⟩
    ·rfl
    ·rcases hS.status hM hy' with hs | hs | ⟨hs, _⟩
     ·exact offersAt_of_not_blocked (by rw [hs]; nofun) _ _
     ·exact offersAt_of_not_blocked (by rw [hs]; nofun) _ _
     ·exact absurd hs hk
  have hrt := crowd_send_meets_sel (P := P) (sl := sl) (k := j.toNat) (zj := z) k2 e' k8 (by omega) h1 (by cases j <;> rfl) hp
  refine ⟨_, _, hrt, ?_⟩
  have hh := hl.hand (gs' := (gs.setIfInBounds 0 ((Go.Conc.core g).finishComm P (cases2 c z) .select (j.toNat : Int) (v j) true)).setIfInBounds i (Go.Conc.served g₂ undef)) (d := w.drawn) (n := n) (tm := tm) (gk := Go.Conc.served g₂ undef) hx (by simp) (fun k hk hk' => by
   rw [Array.getElem?_setIfInBounds_ne (Ne.symm hk), Array.getElem?_setIfInBounds_ne (Ne.symm hk')]) (by rw [Array.getElem?_setIfInBounds_self_of_lt (by simpa using hlt)]) hq (f1 := g₂.frame.fn) (p1 := g₂.frame.place) (f2 := (Go.Conc.core g).frame.fn) (p2 := (Go.Conc.core g).frame.place) (f3 := g₂.frame.fn) (p3 := g₂.frame.place) (f4 := (Go.Conc.core g).frame.fn) (p4 := (Go.Conc.core g).frame.place)
  rw [← Array.append_assoc]
  rcases after_recv (Q := Q) (z := z) (sl := sl) (N := N) (St := St) (own := own') (w₀ := w0) (w₁ := w) (g := g) hh (by rw [Array.getElem?_setIfInBounds_ne (by omega), Array.getElem?_setIfInBounds_self_of_lt hlt0]) h2 hN h4 h5 (keeps_set (fun b hb => ⟨0, (h6 b hb).1⟩) (hS.chan j).1 (hS.chan j).2) (by rw [hx]; exact up_run) (fun b hb => by rw [set_size]; exact h6 b hb) with hw | ⟨μ', hμ, hI⟩
  ·exact .inl hw
  ·obtain ⟨n', r⟩ := μ'
   exact .inr ⟨(n', r), .left _ _ hμ, hI⟩
 | some x0 =>
  obtain ⟨h1, h2, h3, h4, h5, h6⟩ := id hM
  have hr0 := h3.running h6.running
  have hp : partners (gs.setIfInBounds i ph) (c j) false = [] := by
   refine partners_nil fun k y hy => ?_
   rcases getElem?_stand _ _ _ _ hy with ⟨_, rfl⟩ | ⟨_, hy'⟩
   ·rfl
   ·rcases hS.status hM hy' with hs | hs | ⟨hs, g', hs'⟩
    ·exact offersAt_of_not_blocked (by rw [hs]; nofun) _ _
    ·exact offersAt_of_not_blocked (by rw [hs]; nofun) _ _
    ·subst hs
     rw [h1] at hy'
     cases hy'
     rw [hs'] at hr0
     cases hr0
  have hrt := crowd_send_room (P := P) (sl := sl) k2 e' k8 (by decide) hp
  have hb := hl.buffer (gs' := gs.setIfInBounds i (Go.Conc.served g₂ undef)) (d := w.drawn) (n := n) (tm := tm) (gk := Go.Conc.served g₂ undef) hx (by simp) (fun k hk => Array.getElem?_setIfInBounds_ne (Ne.symm hk)) (by rw [Array.getElem?_setIfInBounds_self_of_lt hlt]) hq (fn := g₂.frame.fn) (pos := g₂.frame.place) (fn' := g₂.frame.fn) (pos' := g₂.frame.place)
  refine ⟨_, _, hrt, .inr ⟨(N, some x0, (updK kd j (.sent i (t ++ MemOp.ofEvents i x.1.g.frame.fn x.1.g.frame.place es).size) false).x?, (updK kd j (.sent i (t ++ MemOp.ofEvents i x.1.g.frame.fn x.1.g.frame.place es).size) true).x?, sumTo (gs.setIfInBounds i (Go.Conc.served g₂ undef)).size (upd q i n)), .right _ (.right _ ?_), _, _, sl, _, who, _, rfl, by rw [← Array.append_assoc]; exact hb, ⟨?_, h2, h3, ?_, ?_, ?_⟩, rfl⟩⟩
  ·cases j with
   | false =>
    rw [updK_same, hx]
    exact .left _ _ trivial
   | true =>
    rw [updK_same, hx, updK_ne _ _ (by decide)]
    exact .right _ (.left _ _ trivial)
  ·rw [Array.getElem?_setIfInBounds_ne (by omega)]
   exact h1
  ·exact h4.trans (keeps_set (d := w.drawn) (fun b hb => ⟨0, (h5 b hb).1⟩) (hS.chan j).1 (hS.chan j).2)
  ·intro b hb
   have := h5 b hb
   exact ⟨this.1, by simp [World.setChan]; exact this.2⟩
  ·refine h6.sub (fun j' hu => ?_) (fun j' ef => ?_) fun j' k eg => ?_
   ·by_cases ej : j' = j
    ·subst ej
     rw [updK_same]
     exact up_sent
    ·rw [updK_ne _ _ ej]
     exact hu
   ·by_cases ej : j' = j
    ·subst ej
     rw [hx] at ef
     cases ef
    ·rw [updK_ne _ _ ej]
     exact ef
   ·by_cases ej : j' = j
    ·subst ej
     rw [hx] at eg
     cases eg
    ·rw [updK_ne _ _ ej]
     exact eg
theorem inv_step (μ : Ix P Ro) (m : Machine) (t : Trace) (h : Inv P Q Ro c v z μ m t) : ∃ m' ops, stepT P m = (.next m', ops) ∧ (Will P Q m' (t ++ ops) ∨ ∃ μ', ILt P Ro μ' μ ∧ Inv P Q Ro c v z μ' m' (t ++ ops)) := by
 obtain ⟨gs, w, sl, q, who, kd, rfl, hS, hM, hμ⟩ := h
 obtain ⟨N, a, r⟩ := μ
 dsimp only at hM hμ
 subst hμ
 have some1 : ∃ (i : Nat) (g : Goroutine), gs[i]? = some g ∧ g.status = .running := by
  cases a with
  | some x =>
   obtain ⟨h1, h2, h3, h4, h5, h6⟩ := id hM
   exact ⟨0, _, h1, h3.running h6.running⟩
  | none =>
   obtain ⟨own', g, w0, St, h1, h2, hN, hns, h4, h5, h6⟩ := id hM
   have up : ∃ j, (kd j).up := by
    cases h2 with
    | three h0 _ => exact ⟨_, h0⟩
    | two h => exact ⟨true, h true⟩
    | one j k _ h1 => exact ⟨_, h1⟩
   obtain ⟨j, k, ⟨x, e⟩ | ⟨p, e⟩⟩ := up
   ·have hk := hS.kid j
    rw [e] at hk
    exact ⟨k, _, hk.2.1, hk.running⟩
   ·exact absurd e (hns _ _ _)
 obtain ⟨i, g, d, sl', hi, hr, hst⟩ := crowd_pick (P := P) (w := w) (sl := sl) (hS.awake hM) some1
 have hS := hS.at d
 have hM := hM.at d
 generalize w.at d = w at *
 rcases Nat.eq_zero_or_pos i with rfl | hpos
 ·cases a with
  | none =>
   obtain ⟨own', g', w0, St, h1, _⟩ := id hM
   rw [hi] at h1
   cases h1
   cases hr
  | some x =>
   by_cases hs : x.1.Stop x.1.own x.1.g x.1.w
   ·by_cases hN : N ≤ 2
    ·obtain ⟨m', ops, h1, h2⟩ := main_sel (sl := sl') hS hM hN hs
     exact ⟨m', ops, hst.trans h1, h2⟩
    ·have hN3 : N = 3 := by
      obtain ⟨h1, h2, h3, h4, h5, h6⟩ := id hM
      generalize x.1.Stop = St at h6
      cases h6 <;> first | rfl | exact absurd (by omega) hN
     subst hN3
     obtain ⟨m', ops, h1, ⟨n', r⟩, h2, h3⟩ := main_spawn (sl := sl') hS hM hs
     exact ⟨m', ops, hst.trans h1, .inr ⟨_, .left _ _ h2, h3⟩⟩
   ·obtain ⟨m', ops, h1, h2⟩ := main_go (sl := sl') hS hM hs
    exact ⟨m', ops, hst.trans h1, .inr h2⟩
 ·rcases hS.whois hpos hi with ⟨j, x, e, rfl, _⟩ | ⟨hb, _⟩
  ·by_cases hs : x.1.Stop x.1.own x.1.g x.1.w
   ·obtain ⟨m', ops, h1, h2⟩ := kid_send (sl := sl') hS hM e hs
    exact ⟨m', ops, hst.trans h1, h2⟩
   ·obtain ⟨m', ops, h1, h2⟩ := kid_go (sl := sl') hS hM e hs
    exact ⟨m', ops, hst.trans h1, .inr h2⟩
  ·obtain ⟨m', ops, h1, h2⟩ := slip_go (sl := sl') hS hM hpos hi hr hb
   exact ⟨m', ops, hst.trans h1, .inr h2⟩
theorem inv_will {μ : Ix P Ro} {m : Machine} {t : Trace} (h : Inv P Q Ro c v z μ m t) : Will P Q m t := will_of_inv (ilt_wf P Ro) (Inv P Q Ro c v z) inv_step μ m t h
end
end Go.Proofs.Ytjgleaakgbnjgaa.Par
end

section
namespace Go.Proofs.Ytjgleaakgbnjgaa.Par
open Go Go.Conc
open Go.ConcN (sumTo upd sumTo_upd upd_ne upd_same)
section
variable {P : Program} {Q : Machine → Outcome → World → Trace → Prop} {Ro own : Nat → Prop} {c : Bool → Nat} {v : Bool → Value} {z : Value}
theorem calm_ask {g : Goroutine} {w : World} (hrun : g.status = .running) (hc : ∀ j, ChanAt w (c j) #[] 0 0) (hne : c false ≠ c true) (ho : ∀ b, own b → b < w.heap.size ∧ ¬Ro b ∧ ∀ j, b ≠ c j) (hr : ∀ b, Ro b → b < w.heap.size ∧ ∀ j, b ≠ c j)
  (h : ∀ d, ∃ g' child es, stepG P true g (w.at d) = .spawn g' child (w.at d) es ∧ (∀ e ∈ es, EvMine own Ro e) ∧ Live P false Ro (SendStop P Ro (c false) (v false)) (fun _ => False) child (w.at d) ∧ Live P true Ro (GoStop P Q Ro c v z) own g' (w.at d)) : Calm P Q g w := by
 classical
 refine calm_main hrun fun d gs sl t q h1 hL hP => .inl ?_
 obtain ⟨g', child, es, e, he, hlc, hlm⟩ := h d
 have hlt : 0 < gs.size := (Array.getElem?_eq_some_iff.1 h1).1
 obtain ⟨xc, ec, hxc⟩ := Xt.of hlc
 obtain ⟨y, ey, hy⟩ := Xt.of hlm
 have hrt := runT_crowd_spawn (P := P) (sl := sl) (i := 0) h1 (show stepG P (0 == 0) g (w.at d) = _ from e)
 refine ⟨_, _, hrt, ?_⟩
 have hC0 : Core P Ro gs (w.at d) t q (fun b => if own b then some 0 else none) (fun _ => False) fun _ => False := Core.ofCalm (w := w.at d) hP hL hlt (fun b hb => (hr b hb).1) own fun b hb => (ho b hb).2.1
 have how : ∀ b, own b → (fun b => if own b then some 0 else none : Nat → Option Nat) b = some 0 ∧ b < (w.at d).heap.size := fun b hb => ⟨if_pos hb, (ho b hb).1⟩
 have hcw : ∀ j, (fun b => if own b then some 0 else none : Nat → Option Nat) (c j) = none := fun j => if_neg fun x => (ho _ x).2.2 j rfl
 generalize hwho : (fun b => if own b then some 0 else none : Nat → Option Nat) = who at *
 have hsz : (gs.setIfInBounds 0 g').size = gs.size := by simp
 have hgs : ∀ k, k ≠ 0 → (gs.setIfInBounds 0 g')[k]? = gs[k]? := fun k hk => Array.getElem?_setIfInBounds_ne (Ne.symm hk)
 have hC1 := hC0.step (gs' := gs.setIfInBounds 0 g') (fn := g.frame.fn) (pos := g.frame.place) (.inl rfl) hlt (mine_still he (w.at d)) how hsz hgs
 rw [whoNew_self] at hC1
 have hC2 := hC1.spawn (gs' := gs.setIfInBounds 0 g') (child := child) (fn := g.frame.fn) (fn' := child.frame.fn) (pos := g.frame.place) (pos' := g.frame.place) rfl fun _ _ => rfl
 rw [hsz] at hC2
 have htr : t ++ ((MemOp.ofEvents 0 g.frame.fn g.frame.place es).push { g := 0, fn := g.frame.fn, pos := g.frame.place, act := .go gs.size } |>.push { g := gs.size, fn := child.frame.fn, pos := g.frame.place, act := .start }) =
   t ++ MemOp.ofEvents 0 g.frame.fn g.frame.place es ++ #[{ g := 0, fn := g.frame.fn, pos := g.frame.place, act := .go gs.size }, { g := gs.size, fn := child.frame.fn, pos := g.frame.place, act := .start }] := by
  apply Array.ext'
  simp
 rw [htr]
 let kd : Bool → KidSt P Ro := fun j => if j then .fresh else .run gs.size xc
 refine inv_will (Q := Q) (c := c) (v := v) (z := z) (μ := (3, some y, (kd false).x?, (kd true).x?, sumTo ((gs.setIfInBounds 0 g').push child).size q)) ⟨_, w.at d, sl, q, who, kd, rfl, ⟨hC2.congr (fun g => ⟨?_, ?_⟩) fun g => ⟨?_, ?_⟩, fun j => ?_, fun k _ e2 => (by cases e2), fun j => ⟨hcw j, fun x => (hr _ x).2 j rfl⟩, hne⟩, ⟨?_, ?_, hy, ?_, ?_, ?_⟩, rfl⟩
 ·rintro (x | rfl)
  ·exact x.elim
  ·exact ⟨false, xc, rfl⟩
 ·rintro ⟨j, x, e'⟩
  cases j with
  | false => cases e'; exact .inr rfl
  | true => cases e'
 ·rintro (x | rfl)
  ·exact x.elim
  ·exact ⟨false, .inl ⟨xc, rfl⟩⟩
 ·rintro ⟨j, e'⟩
  cases j with
  | false =>
   rcases e' with ⟨_, e'⟩ | ⟨_, e'⟩
   ·cases e'; exact .inr rfl
   ·cases e'
  | true => rcases e' with ⟨_, e'⟩ | ⟨_, e'⟩ <;> cases e'
 ·cases j with
  | true => exact hc true
  | false =>
   refine ⟨hlt, ?_, by rw [ec], by rw [ec], hxc, by rw [ec]; exact Keeps.refl _ _ _, by rw [ec]; exact fun b hb => hb.elim, hc false⟩
   rw [ec, Array.getElem?_push, hsz, if_pos rfl]
 ·rw [ey, Array.getElem?_push, hsz, if_neg (by omega), Array.getElem?_setIfInBounds_self_of_lt hlt]
 ·rw [ey]
 ·rw [ey]; exact Keeps.refl _ _ _
 ·rw [ey]; exact how
 ·show Phase P Q Ro c v z _ 3 y.1.Stop
  rw [ey]
  exact .three up_run rfl
end
end Go.Proofs.Ytjgleaakgbnjgaa.Par
end

section
namespace Go.Proofs.Ytjgleaakgbnjgaa.Par
open Go Go.Conc
section
variable {P : Program} {m : Bool} {Ro own : Nat → Prop} {Stop : (Nat → Prop) → Goroutine → World → Prop} {F F' : World → Prop} {g g' : Goroutine} {b : Frame} {a : Act} {k : List Item} {cs : List Frame}
theorem grown_self (own : Nat → Prop) (w : World) : grown own w w = own := by
 funext b
 exact propext ⟨fun h => h.elim id fun x => absurd x.2 (Nat.not_lt.2 x.1), .inl⟩
def Cl (Ro own : Nat → Prop) (F : World → Prop) : Prop := ∀ w w₁, F w → Keeps own Ro w w₁ → F w₁
def LW (P : Program) (m : Bool) (Ro : Nat → Prop) (Stop : (Nat → Prop) → Goroutine → World → Prop) (F : World → Prop) (own : Nat → Prop) (g : Goroutine) : Prop := ∀ w, F w → Live P m Ro Stop own g w
theorem lw_one (hc : Cl Ro own F) (hg : g.status = .running ∧ g.dying = none) (h : ∀ w, F w → ∃ g' w' es, stepG P m g w = .go g' w' es ∧ Mine own Ro w w' es ∧ Live P m Ro Stop (grown own w w') g' w') : LW P m Ro Stop F own g := by
 intro w hw
 refine .step hg (fun w₁ hk => ?_) fun w₁ g₂ w₂ es hk e => ?_
 ·obtain ⟨g', w', es, e, hm, _⟩ := h w₁ (hc _ _ hw hk)
  exact ⟨g', w', es, e, hm⟩
 ·obtain ⟨g', w', es', e', hm, hl⟩ := h w₁ (hc _ _ hw hk)
  rw [e] at e'
  simp only [GStep.go.injEq] at e'
  obtain ⟨rfl, rfl, rfl⟩ := e'
  exact hl
theorem lw_ev (hc : Cl Ro own F) (hg : g.status = .running ∧ g.dying = none) (h : ∀ w, F w → ∃ es, stepG P m g w = .go g' w es ∧ ∀ e ∈ es, EvMine own Ro e) (hl : LW P m Ro Stop F own g') : LW P m Ro Stop F own g :=
 lw_one hc hg fun w hw => by
  obtain ⟨es, e, he⟩ := h w hw
  exact ⟨g', w, es, e, mine_still he w, by rw [grown_self]; exact hl w hw⟩
theorem lw_ctl (hc : Cl Ro own F) (hg : g.status = .running ∧ g.dying = none) (h : ∀ w, stepG P m g w = .go g' w) (hl : LW P m Ro Stop F own g') : LW P m Ro Stop F own g :=
 lw_ev hc hg (fun w hw => ⟨#[], h w, by simp⟩) hl
theorem lw_stop (h : ∀ w, F w → Stop own g w) : LW P m Ro Stop F own g := fun w hw => .stop (h w hw)
theorem lw_skip (hc : Cl Ro own F) (hl : LW P m Ro Stop F own (G (b.at a k) cs)) : LW P m Ro Stop F own (G (b.at a (.code .skip :: k)) cs) := lw_ctl hc ⟨rfl, rfl⟩ (fun w => stepG_skip) hl
theorem lw_inBlock (hc : Cl Ro own F) {id : Nat} (hl : LW P m Ro Stop F own (G (b.at a k) cs)) : LW P m Ro Stop F own (G (b.at a (.inBlock id :: k)) cs) := lw_ctl hc ⟨rfl, rfl⟩ (fun w => stepG_inBlock) hl
theorem lw_seq (hc : Cl Ro own F) {x y : Code} (hl : LW P m Ro Stop F own (G (b.at a (.code x :: .code y :: k)) cs)) : LW P m Ro Stop F own (G (b.at a (.code (.seq x y) :: k)) cs) := lw_ctl hc ⟨rfl, rfl⟩ (fun w => stepG_seq) hl
theorem lw_block (hc : Cl Ro own F) {id : Nat} {x : Code} (hl : LW P m Ro Stop F own (G (b.at a (.code x :: .inBlock id :: k)) cs)) : LW P m Ro Stop F own (G (b.at a (.code (.block id x) :: k)) cs) := lw_ctl hc ⟨rfl, rfl⟩ (fun w => stepG_block) hl
theorem lw_loop (hc : Cl Ro own F) {x : Code} (hl : LW P m Ro Stop F own (G (b.at a (.code x :: .inLoop x :: k)) cs)) : LW P m Ro Stop F own (G (b.at a (.code (.loop x) :: k)) cs) := lw_ctl hc ⟨rfl, rfl⟩ (fun w => stepG_loop) hl
theorem lw_inLoop (hc : Cl Ro own F) {x : Code} (hl : LW P m Ro Stop F own (G (b.at a (.code x :: .inLoop x :: k)) cs)) : LW P m Ro Stop F own (G (b.at a (.inLoop x :: k)) cs) := lw_ctl hc ⟨rfl, rfl⟩ (fun w => stepG_inLoop) hl
theorem lw_exit (hc : Cl Ro own F) {id : Nat} {k' : List Item} (h : exitTo id k = some k') (hl : LW P m Ro Stop F own (G (b.at a k') cs)) : LW P m Ro Stop F own (G (b.at a (.code (.exit id) :: k)) cs) := lw_ctl hc ⟨rfl, rfl⟩ (fun w => stepG_exit h) hl
theorem lw_cond (hc : Cl Ro own F) {c : Operand} {x y : Code} {t : Bool} (h : a.eval c = .bool t) (hl : LW P m Ro Stop F own (G (b.at a (.code (if t then x else y) :: k)) cs)) : LW P m Ro Stop F own (G (b.at a (.code (.cond c x y) :: k)) cs) := lw_ctl hc ⟨rfl, rfl⟩ (fun w => stepG_cond h) hl
theorem lw_region (hc : Cl Ro own F) {id : Nat} {ops : Array Oper} (hl : LW P m Ro Stop F own (G (b.at a (.inRegion ops (List.range ops.size) :: k)) cs)) : LW P m Ro Stop F own (G (b.at a (.code (.region id ops false) :: k)) cs) := lw_ctl hc ⟨rfl, rfl⟩ (fun w => stepG_region) hl
theorem lw_region_end (hc : Cl Ro own F) {ops : Array Oper} (hl : LW P m Ro Stop F own (G (b.at a k) cs)) : LW P m Ro Stop F own (G (b.at a (.inRegion ops [] :: k)) cs) := lw_ctl hc ⟨rfl, rfl⟩ (fun w => stepG_region_end) hl
theorem lw_unwanted (hc : Cl Ro own F) {ops : Array Oper} {i : Nat} {rest : List Nat} {o : Oper} (ho : ops[i]? = some o) (hw : Region.wanted o (yielded ops a.tmps) = false) (hl : LW P m Ro Stop F own (G (b.at (a.put o.dst undef) (.inRegion ops rest :: k)) cs)) :
  LW P m Ro Stop F own (G (b.at a (.inRegion ops (i :: rest) :: k)) cs) := lw_ctl hc ⟨rfl, rfl⟩ (fun w => stepG_unwanted ho hw) hl
theorem lw_ret (hc : Cl Ro own F) (hl : LW P m Ro Stop F own (G { b.at a (.code .ret :: k) with mode := .returning } cs)) : LW P m Ro Stop F own (G (b.at a (.code .ret :: k)) cs) := lw_ctl hc ⟨rfl, rfl⟩ (fun w => stepG_ret') hl
theorem lw_leave1 (hc : Cl Ro own F) {fn : Func} {t : Tmp} {todo : List Item} {c : Frame} (hn : b.kind = .normal) (hd : a.defers = []) (hf : P.funcs[b.fn]? = some fn) (hr : fn.results = #[.tmp t])
  (hl : LW P m Ro Stop F own (G (c.finish (a.tmps.getD t undef)) cs)) : LW P m Ro Stop F own (G { b.at a todo with mode := .returning } (c :: cs)) :=
 lw_ctl hc ⟨rfl, rfl⟩ (fun w => stepG_leave hn hd hf (results_tmp hr _ P w) (events_results_tmp hr _ _)) hl
theorem lw_leave2 (hc : Cl Ro own F) {fn : Func} {t u : Tmp} {todo : List Item} {c : Frame} (hn : b.kind = .normal) (hd : a.defers = []) (hf : P.funcs[b.fn]? = some fn) (hr : fn.results = #[.tmp t, .tmp u])
  (hl : LW P m Ro Stop F own (G (c.finish (.tuple #[a.tmps.getD t undef, a.tmps.getD u undef])) cs)) : LW P m Ro Stop F own (G { b.at a todo with mode := .returning } (c :: cs)) :=
 lw_ctl hc ⟨rfl, rfl⟩ (fun w => stepG_leave hn hd hf (results_tmp2 hr _ P w) (events_results_tmp2 hr _ _)) hl
section
variable {ops : Array Oper} {i : Nat} {rest : List Nat} {o : Oper}
theorem lw_op (hc : Cl Ro own F) (hk : b.kind ≠ .early) (ho : ops[i]? = some o) (hw : Region.wanted o (yielded ops a.tmps) = true)
  (h : ∀ w, F w → ∀ K : Act → World → Prop, (∀ a', (∀ e ∈ listed P b.fn a o w, EvMine own Ro e) → LW P m Ro Stop F own (G (b.at a' (.inRegion ops rest :: k)) cs) → K a' w) → uponK o a K ((execOp a.eval o).run P w)) : LW P m Ro Stop F own (G (b.at a (.inRegion ops (i :: rest) :: k)) cs) := by
 refine lw_one hc ⟨rfl, rfl⟩ fun w hF => ?_
 have hh := h w hF (fun a' w' => w' = w ∧ (∀ e ∈ listed P b.fn a o w, EvMine own Ro e) ∧ LW P m Ro Stop F own (G (b.at a' (.inRegion ops rest :: k)) cs)) fun a' h1 h2 => ⟨rfl, h1, h2⟩
 revert hh
 cases hr : (execOp a.eval o).run P w with
 | halt x w' => intro hh; exact hh.elim
 | ok x w' =>
  intro hh
  cases x <;> first | exact hh.elim | skip
  ·obtain ⟨rfl, he, hl⟩ := hh
   exact ⟨_, _, _, stepG_value ho hw hk hr, mine_still he w', by rw [grown_self]; exact hl w' hF⟩
  ·obtain ⟨rfl, he, hl⟩ := hh
   exact ⟨_, _, _, stepG_none ho hw hk hr, mine_still he w', by rw [grown_self]; exact hl w' hF⟩
theorem lw_new (hc : Cl Ro own F) (hk : b.kind ≠ .early) (ho : ops[i]? = some o) (hw : Region.wanted o (yielded ops a.tmps) = true) {ob : Obj} {v : Nat → Value} {F' : Nat → World → Prop} (hr : ∀ w, F w → (execOp a.eval o).run P w = .ok (.value (v w.heap.size)) (w.alloc ob))
  (he : ∀ w, F w → ∀ e ∈ (execOp a.eval o).events P w #[], EvMine (fun b => own b ∨ b = w.heap.size) Ro e) (hF : ∀ w, F w → F' w.heap.size (w.alloc ob))
  (hl : ∀ n, LW P m Ro Stop (F' n) (fun b => own b ∨ b = n) (G (b.at (a.put o.dst (v n)) (.inRegion ops rest :: k)) cs)) : LW P m Ro Stop F own (G (b.at a (.inRegion ops (i :: rest) :: k)) cs) := by
 refine lw_one hc ⟨rfl, rfl⟩ fun w hw2 => ?_
 have hgr : grown own w (w.alloc ob) = fun b => own b ∨ b = w.heap.size := by
  funext x
  have : (w.alloc ob).heap.size = w.heap.size + 1 := Array.size_push ..
  unfold grown
  rw [this]
  exact propext ⟨fun h => h.imp id fun y => by omega, fun h => h.imp id fun y => by omega⟩
 refine ⟨_, _, _, stepG_value ho hw hk (hr w hw2), ⟨?_, fun b hb _ => ?_, rfl, rfl, rfl, fun e he' => ?_⟩, ?_⟩
 ·show w.heap.size ≤ (w.heap.push ob).size
  rw [Array.size_push]
  omega
 ·show (w.heap.push ob)[b]? = _
  rw [Array.getElem?_push, if_neg (by omega)]
 ·rw [hgr]
  exact he w hw2 e (mem_listed he')
 ·rw [hgr]
  exact hl _ _ (hF w hw2)
theorem lw_put (hc : Cl Ro own F) (hk : b.kind ≠ .early) (ho : ops[i]? = some o) (hw : Region.wanted o (yielded ops a.tmps) = true) {n : Nat} {v : Value} (hn : own n) {F' : World → Prop}
  (hr : ∀ w, F w → ∃ w', ((execOp a.eval o).run P w = .ok .skip w' ∧ v = undef ∨ (execOp a.eval o).run P w = .ok (.value v) w') ∧ w'.heap.size = w.heap.size ∧ (∀ b, b ≠ n → w'.heap[b]? = w.heap[b]?) ∧ w'.os = w.os ∧ w'.output = w.output ∧ w'.tape = w.tape ∧ F' w')
  (he : ∀ w, F w → ∀ e ∈ (execOp a.eval o).events P w #[], EvMine own Ro e)
  (hl : LW P m Ro Stop F' own (G (b.at (a.put o.dst v) (.inRegion ops rest :: k)) cs)) : LW P m Ro Stop F own (G (b.at a (.inRegion ops (i :: rest) :: k)) cs) := by
 refine lw_one hc ⟨rfl, rfl⟩ fun w hw2 => ?_
 obtain ⟨w', hr2, h1, h2, h3, h4, h5, h6⟩ := hr w hw2
 have hgr : grown own w w' = own := by
  funext x
  unfold grown
  rw [h1]
  exact propext ⟨fun h => h.elim id fun y => absurd y.2 (Nat.not_lt.2 y.1), .inl⟩
 have hm : Mine own Ro w w' (listed P b.fn a o w) := ⟨by omega, fun b _ hb => h2 b fun e => hb (e ▸ hn), h3, h4, h5, fun e he' => by rw [hgr]; exact he w hw2 e (mem_listed he')⟩
 rcases hr2 with ⟨hr2, rfl⟩ | hr2
 ·exact ⟨_, _, _, stepG_none ho hw hk hr2, hm, by rw [hgr]; exact hl _ h6⟩
 ·exact ⟨_, _, _, stepG_value ho hw hk hr2, hm, by rw [hgr]; exact hl _ h6⟩
theorem lw_enter (hc : Cl Ro own F) (hk : b.kind ≠ .early) (ho : ops[i]? = some o) (hw : Region.wanted o (yielded ops a.tmps) = true) {f : FuncId} {args : Array Value} (hr : ∀ w, F w → (execOp a.eval o).run P w = .ok (.enter f args) w) (he : ∀ w, F w → (execOp a.eval o).events P w #[] = #[])
  (hl : LW P m Ro Stop F own (G (Frame.enter P f args .normal) (b.at a (.inRegion ops (i :: rest) :: k) :: cs))) : LW P m Ro Stop F own (G (b.at a (.inRegion ops (i :: rest) :: k)) cs) :=
 lw_ev hc ⟨rfl, rfl⟩ (fun w hF => ⟨_, stepG_enter ho hw hk (hr w hF), fun e h => by
  have := mem_listed h
  rw [he w hF] at this
  simp at this⟩) hl
end
theorem Live.weaken {own₁ Ro₁ : Nat → Prop} {Stop₁ : (Nat → Prop) → Goroutine → World → Prop} {w : World} (h : Live P m Ro₁ Stop₁ own₁ g w) : ∀ {own : Nat → Prop}, (∀ b, own₁ b → own b) → (∀ b, Ro₁ b → own b ∨ Ro b) → (∀ b, own b ∨ Ro b → b < w.heap.size) →
  (∀ own' g' w', (∃ o', Stop₁ o' g' w') → (∀ b, own b → own' b) → (∀ b, own' b → b < w'.heap.size) → Keeps (fun b => own b ∧ ¬own₁ b) Ro w w' → Live P m Ro Stop own' g' w') → (∀ b, own₁ b → ¬Ro b) → Live P m Ro Stop own g w := by
 induction h with
 | @stop own₁ g w h => exact fun {own} h1 h2 h3 hS h4 => hS own g w ⟨own₁, h⟩ (fun _ x => x) (fun b hb => h3 b (.inl hb)) (Keeps.refl _ _ _)
 | @step own₁ g w hg hs hk ih =>
  intro own h1 h2 h3 hS h4
  have kp : ∀ w₁, Keeps own Ro w w₁ → Keeps own₁ Ro₁ w w₁ := fun w₁ k => ⟨k.size, fun b hb => k.keep b (hb.elim (fun x => .inl (h1 b x)) fun x => h2 b x), k.os, k.output⟩
  have mn : ∀ {w₁ w₂ es}, Mine own₁ Ro₁ w₁ w₂ es → Mine own Ro w₁ w₂ es := fun {w₁ w₂ es} hm => by
   refine ⟨hm.size, fun b hb hn => hm.keep b hb fun x => hn (h1 b x), hm.os, hm.output, hm.tape, fun e he => ?_⟩
   have := hm.events e he
   have key : ∀ b, (grown own₁ w₁ w₂ b ∨ Ro₁ b ∧ e.write = false) → (grown own w₁ w₂ b ∨ Ro b ∧ e.write = false) := fun b hb => by
    rcases hb with (x | x) | ⟨x, y⟩
    ·exact .inl (.inl (h1 b x))
    ·exact .inl (.inr x)
    ·rcases h2 b x with z | z
     ·exact .inl (.inl z)
     ·exact .inr ⟨z, y⟩
   unfold EvMine at this ⊢
   cases hl : e.loc with
   | cell a => rw [hl] at this; exact key _ this
   | obj r => rw [hl] at this; exact key _ this
   | mark m => rw [hl] at this; exact this
   | output => rw [hl] at this; exact this
   | goroutines => rw [hl] at this; exact this
  refine .step hg (fun w₁ k => ?_) fun w₁ g₂ w₂ es k e => ?_
  ·obtain ⟨g₂, w₂, es, e, hm⟩ := hs w₁ (kp w₁ k)
   exact ⟨g₂, w₂, es, e, mn hm⟩
  ·obtain ⟨g₃, w₃, es₃, e₃, hm⟩ := hs w₁ (kp w₁ k)
   rw [e] at e₃
   simp only [GStep.go.injEq] at e₃
   obtain ⟨rfl, rfl, rfl⟩ := e₃
   have hlt : ∀ b, own b ∨ Ro b → b < w₁.heap.size := fun b hb => Nat.lt_of_lt_of_le (h3 b hb) k.size
   have hlt2 : ∀ b, grown own w₁ w₂ b ∨ Ro b → b < w₂.heap.size := fun b hb => by
    rcases hb with (x | x) | x
    ·exact Nat.lt_of_lt_of_le (hlt b (.inl x)) hm.size
    ·exact x.2
    ·exact Nat.lt_of_lt_of_le (hlt b (.inr x)) hm.size
   refine ih w₁ _ _ _ (kp w₁ k) e (own := grown own w₁ w₂) (fun b hb => hb.imp (h1 b) id) (fun b hb => (h2 b hb).imp .inl id) hlt2 (fun own' g' w' hst ho hlt' hkk => ?_) (fun b hb hr => ?_)
   ·refine hS own' g' w' hst (fun b hb => ho b (.inl hb)) hlt' ?_
    have k1 : Keeps (fun b => own b ∧ ¬own₁ b) Ro w w₁ := ⟨k.size, fun b hb => k.keep b (hb.imp (·.1) id), k.os, k.output⟩
    have k2 : Keeps (fun b => own b ∧ ¬own₁ b) Ro w₁ w₂ := ⟨hm.size, fun b hb => by
     rcases hb with ⟨x, y⟩ | x
     ·exact hm.keep b (hlt b (.inl x)) y
     ·exact hm.keep b (hlt b (.inr x)) fun y => h4 b y x, hm.os, hm.output⟩
    have k3 : Keeps (fun b => own b ∧ ¬own₁ b) Ro w₂ w' := ⟨hkk.size, fun b hb => hkk.keep b (by
     rcases hb with ⟨x, y⟩ | x
     ·exact .inl ⟨.inl x, fun z => z.elim y fun z => absurd (hlt b (.inl x)) (Nat.not_lt.2 z.1)⟩
     ·exact .inr x), hkk.os, hkk.output⟩
    exact (k1.trans k2).trans k3
   ·rcases hb with x | x
    ·exact h4 b x hr
    ·exact absurd (hlt b (.inr hr)) (Nat.not_lt.2 x.1)
end
end Go.Proofs.Ytjgleaakgbnjgaa.Par
end
