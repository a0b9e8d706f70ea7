/- Printed by a program of this session out of the translation: what each function called here computes, and that its call comes to just that. Conditions: none beyond those that each theorem names. -/
import Derived.Test.YtohbdjfabghagaaSx0
namespace Go.Proofs.Ytohbdjfabghagaa.S
open Go.RowKit Go.Proofs.YtohbdjfabghagaaW.PrintWords Go.Proofs.YtohbdjfabghagaaW.PrintLast Go.Proofs.YtohbdjfabghagaaW.PrintMore
attribute [local go_sem] max2_int min2_int max_two min_two max_three min_three max_four min_four   -- for this text's walks alone
attribute [local go_sem] Go.Proofs.Ytohbdjfabghagaa.XWalk.cell2
set_option linter.unusedVariables false
set_option linter.unusedSimpArgs false

/-! ### lombardref02_size: function 68 -/
-- IMPORT BigMath
/-- A row of 260 bits, as a value. -/
def B.bit (N i : Nat) : Int := ((Go.Proofs.Ytohbdjfabghagaa.BigMath.bitN N i : Nat) : Int)
def B.cells (N : Nat) : Array Value := Array.ofFn (n := 260) fun i => .int .u8 (B.bit N i.val)
theorem B.bit_bd (N i : Nat) : 0 ≤ B.bit N i ∧ B.bit N i ≤ 1 := by
  have := Go.Proofs.Ytohbdjfabghagaa.BigMath.bitN_lt N i
  unfold B.bit
  omega
theorem B.size (N : Nat) : (B.cells N).size = 260 := by unfold B.cells; exact Array.size_ofFn
theorem B.get (N i : Nat) (h : i < 260) : (B.cells N)[i]? = some (.int .u8 (B.bit N i)) := by
  unfold B.cells
  rw [Array.getElem?_ofFn, dif_pos h]
theorem B.out (N i : Nat) (h : ¬i < 260) : (B.cells N)[i]? = none := Array.getElem?_eq_none (by rw [B.size]; omega)
/-- rows that are alike bit by bit -/
theorem B.ext (cs : Array Value) (N : Nat) (hs : cs.size = 260) (h : ∀ i, i < 260 → cs[i]? = some (.int .u8 (B.bit N i))) : cs = B.cells N := by
  apply Array.ext_getElem?
  intro i
  by_cases c : i < 260
  · rw [h i c, B.get N i c]
  · rw [B.out N i c]
    exact Array.getElem?_eq_none (by omega)
theorem B.rep : Array.replicate 260 (.int .u8 0) = B.cells 0 := by
  refine B.ext _ _ (by simp) fun i h => ?_
  rw [Array.getElem?_replicate, if_pos h]
  unfold B.bit
  rw [Go.Proofs.Ytohbdjfabghagaa.BigMath.bitN_zero]
  rfl
set_option maxRecDepth 100000 in
theorem B.zero : Try.zeroCells73 = B.cells 0 := by
  have e : Try.zeroCells73 = Array.replicate 260 (.int .u8 0) := by first | rfl | kernel_rfl
  rw [e]
  refine B.ext _ _ (by simp) fun i h => ?_
  rw [Array.getElem?_replicate, if_pos h]
  unfold B.bit
  rw [Go.Proofs.Ytohbdjfabghagaa.BigMath.bitN_zero]
  rfl
/-- one bit written -/
theorem B.put (S i : Nat) (v : Int) (h : i < 260) (hv : v = B.bit S i) : (B.cells (S % 2 ^ i)).setIfInBounds i (.int .u8 v) = B.cells (S % 2 ^ (i + 1)) := by
  refine B.ext _ _ (by rw [Array.size_setIfInBounds, B.size]) fun j hj => ?_
  rw [Array.getElem?_setIfInBounds]
  by_cases c : i = j
  · subst c
    rw [if_pos rfl, if_pos (by rw [B.size]; exact h), hv]
    unfold B.bit
    rw [Go.Proofs.Ytohbdjfabghagaa.BigMath.bitN_mod, if_pos (by omega)]
  · rw [if_neg c, B.get _ _ hj]
    unfold B.bit
    rw [Go.Proofs.Ytohbdjfabghagaa.BigMath.bitN_mod, Go.Proofs.Ytohbdjfabghagaa.BigMath.bitN_mod]
    by_cases d : j < i
    · rw [if_pos d, if_pos (by omega)]
    · rw [if_neg d, if_neg (by omega)]
theorem B.plain (N : Nat) : (B.cells N).all (·.oneCell') = true := by
  rw [Array.all_eq_true]
  intro i hi
  simp [B.cells, Value.oneCell']
theorem B.ix (g i : Nat) (h : i < 260) (W : World) : (Instr.indexAt 73 (.pointer (some ⟨g, 0, none⟩)) (.int .i64 (i : Int))).run Try.prog W = .ok (.pointer (some ⟨g, i, none⟩)) W := by
  rw [run_indexAt_array W 73 _ _ _ (by kernel_rfl)]
  have e : Try.prog.arrayLen 73 = 260 := by kernel_rfl
  rw [e, if_pos (by omega)]
  have z : Try.prog.elem 73 = 5 := by kernel_rfl
  rw [z]
  have s : ∀ W, (sizeOf 5).run Try.prog W = .ok 1 W := fun W => by kernel_rfl
  rw [s]
  simp [add_plain]
/-- a block that holds a row's bits -/
def B.Has (w : World) (g N : Nat) : Prop := w.heap[g]? = some (.cells (B.cells N) 73 (0, 0))
theorem B.Has.cell {w : World} {g N : Nat} (h : B.Has w g N) {i : Nat} (hi : i < 260) : w.cell? ⟨g, i, none⟩ = some (.int .u8 (B.bit N i)) := by
  rw [cell_of_row w g i _ _ _ h, B.get N i hi]
theorem B.Has.drew {w : World} {g N : Nat} (h : B.Has w g N) (n : Nat) : B.Has (w.drewN n) g N := h
theorem B.Has.set {w : World} {g N : Nat} (h : B.Has w g N) (p : Addr) (u : Value) (hp : g ≠ p.block) : B.Has (w.setCell p u) g N := blk_far h hp u
theorem B.Has.alloc {w : World} {g N : Nat} (h : B.Has w g N) (o : Obj) : B.Has (w.alloc o) g N := blk_alloc h o
theorem B.Has.below {w w1 : World} {g N : Nat} (h : B.Has w g N) (hb : Below w.heap.size w w1) : B.Has w1 g N := blk_below h hb
theorem B.Has.new (w : World) (N : Nat) : B.Has (w.alloc (.cells (B.cells N) 73)) w.heap.size N := blk_new w _
theorem B.Has.new0 (w : World) : B.Has (w.alloc (.cells Try.zeroCells73 73)) w.heap.size 0 := by
  have := blk_new w (.cells Try.zeroCells73 73)
  rw [B.zero] at this ⊢
  exact this
theorem B.Has.row {w : World} {g N : Nat} (h : B.Has w g N) (M : Nat) : B.Has (w.setRow g (B.cells M)) g M := setRow_heap w g _ _ _ _ h
theorem B.info : (Try.prog.info? 73).map (·.size) = some 260 := by kernel_rfl
theorem B.under : Try.prog.underlying 73 = some (.array 260 5) := by kernel_rfl
theorem B.Has.put {w : World} {g S i : Nat} {v : Int} (h : B.Has w g (S % 2 ^ i)) (hi : i < 260) (hv : v = B.bit S i) : B.Has (w.setCell ⟨g, i, none⟩ (.int .u8 v)) g (S % 2 ^ (i + 1)) := by
  have := blk_set h i (.int .u8 v)
  rw [B.put S i v hi hv] at this
  exact this
theorem B.Has.setR {w : World} {g N : Nat} (h : B.Has w g N) {k : Nat} (cs : Array Value) (hk : g ≠ k) : B.Has (w.setRow k cs) g N := (setRow_other w k g cs hk).trans h
theorem B.below_row {B : Nat} {a w : World} (h : Below B a w) {k : Nat} (hk : B ≤ k) (cs : Array Value) : Below B a (w.setRow k cs) :=
  ⟨h.os, h.tape, h.output, by rw [setRow_size]; exact h.size, fun j hj => (setRow_other w k j cs (by omega)).trans (h.block j hj)⟩
theorem B.infoN (N : Nat) : (Try.prog.info? 73).map (·.size) = some (B.cells N).size := by rw [B.size]; exact B.info
theorem B.and1 {x : Int} (h0 : 0 ≤ x) (h1 : x < 256) : bits .and .u8 x 1 = x % 2 := bits_mask .u8 8 (by decide) wraps_u8 1 (by decide) x h0 h1
theorem B.w1 {i : Int} (h0 : 0 ≤ i) (h1 : i ≤ 1000) : wrap64 (i + 1) = i + 1 := by unfold wrap64; omega
theorem B.w0 {i : Int} (h0 : 0 ≤ i) (h1 : i ≤ 1000) : wrap64 (i - 1) = i - 1 := by unfold wrap64; omega
def lombardref02_size.ord (a b : Nat) : Int := if a < b then -1 else if b < a then 1 else 0
set_option maxRecDepth 100000 in
set_option maxHeartbeats 4000000 in
theorem lombardref02_size.calls (a b : Nat) (ha : a < 2 ^ 260) (hb : b < 2 ^ 260) (w : World) : Calls Try.prog 68 #[.agg (B.cells a), .agg (B.cells b)] w fun e w' => e = .returned (.int .i64 (lombardref02_size.ord a b)) ∧ Below w.heap.size w w' := by
  obtain ⟨pa, hpa⟩ : ∃ p : Nat, p = 2 ^ 260 := ⟨_, rfl⟩
  rw [← hpa] at ha hb
  have h0 : a / 2 ^ 260 = b / 2 ^ 260 := by rw [← hpa, Nat.div_eq_of_lt ha, Nat.div_eq_of_lt hb]
  have H0 := Aside0.mk h0
  clear h0 ha hb hpa
  go_enter Try.func68, Try.ntmps68
  go_wp2
  go_loopg [5] 260 (fun kq v5 w' => ∃ (i : Int), v5 = .int .i64 i ∧ Aside0 (i + 1 = kq) ∧ Aside0 (kq ≤ 260) ∧ Aside0 (a / 2 ^ kq = b / 2 ^ kq) ∧ Aside0 (B.Has w' w.heap.size a) ∧ Aside0 (B.Has w' (w.heap.size + 1) b) ∧ Aside0 (Below w.heap.size w w'))
  case atStart =>
    refine ⟨259, rfl, ⟨by omega⟩, ⟨by omega⟩, H0, ⟨?_⟩, ⟨?_⟩, ⟨?_⟩⟩
    · exact (B.Has.new w a).alloc _
    · have := B.Has.new (w.alloc (.cells (B.cells a) 73)) b
      rw [World.size_alloc] at this
      exact this
    · exact below_alloc (below_alloc (Below.refl _ w) _) _
  case round =>
    obtain ⟨i, rfl, hik, hk, hq, hA, hB, hW⟩ := hrel
    cases gk with
    | zero =>
      have e : i = -1 := by have := hik.out; omega
      subst e
      have ab : a = b := by have := hq.out; simpa using this
      have o : lombardref02_size.ord a b = 0 := by subst ab; unfold lombardref02_size.ord; simp
      go_wp2
      go_ret
      exact ⟨by rw [o]; rfl, hW.out⟩
    | succ k1 =>
      obtain rfl : i = (k1 : Int) := by have := hik.out; omega
      have hi : k1 < 260 := by have := hk.out; omega
      have q1 : decide ((k1 : Int) ≥ 0) = true := decide_eq_true (by omega)
      have q2 : decide ((0 : Int) ≤ (k1 : Int)) = true := decide_eq_true (by omega)
      have xA := B.ix w.heap.size k1 hi
      have xB := B.ix (w.heap.size + 1) k1 hi
      have cA := hA.out.cell hi
      have cB := hB.out.cell hi
      obtain ⟨s1, s2, s3⟩ := Go.Proofs.Ytohbdjfabghagaa.BigMath.size_step hq.out
      by_cases c : B.bit a k1 = B.bit b k1
      · have c1 : (B.bit a k1 == B.bit b k1) = true := beq_iff_eq.mpr c
        have c2 : (B.bit a k1 != B.bit b k1) = false := bne_eq_false_iff_eq.mpr c
        have s := Aside0.mk (s1 (by unfold B.bit at c; omega))
        have z : wrap64 ((k1 : Int) - 1) = (k1 : Int) - 1 := by unfold wrap64; omega
        have Z := Aside0.mk z
        clear z s1 s2 s3 c
        go_upto_region 3 with (fail)
        repeat (go_quiet (fail); go_upto_region 3 with (fail))
        go_wp2
        go_roundg k1
        case measure => omega
        case rel =>
          exact ⟨(k1 : Int) - 1, by first | rfl | rw [Z.out], ⟨by omega⟩, ⟨by omega⟩, s, ⟨hA.out.drew _⟩, ⟨hB.out.drew _⟩, ⟨pw_below_drewN hW.out _⟩⟩
      · have c1 : (B.bit a k1 == B.bit b k1) = false := beq_eq_false_iff_ne.mpr c
        have c2 : (B.bit a k1 != B.bit b k1) = true := bne_iff_ne.mpr c
        by_cases d : B.bit a k1 < B.bit b k1
        · have d1 : decide (B.bit a k1 < B.bit b k1) = true := decide_eq_true d
          have o : lombardref02_size.ord a b = -1 := by
            unfold lombardref02_size.ord
            rw [if_pos (s2 (by unfold B.bit at d; omega))]
          have O := Aside0.mk o
          clear o c d s1 s2 s3
          go_upto_region 6 with (fail)
          repeat (go_quiet (fail); go_upto_region 6 with (fail))
          go_wp2
          go_ret
          exact ⟨by rw [O.out]; rfl, by repeat (first | exact hW.out | apply pw_below_drewN)⟩
        · have d1 : decide (B.bit a k1 < B.bit b k1) = false := decide_eq_false d
          have o : lombardref02_size.ord a b = 1 := by
            have := s3 (by unfold B.bit at c d; omega)
            unfold lombardref02_size.ord
            rw [if_neg (by omega), if_pos this]
          have O := Aside0.mk o
          clear o c d s1 s2 s3
          go_upto_region 7 with (fail)
          repeat (go_quiet (fail); go_upto_region 7 with (fail))
          go_wp2
          go_ret
          exact ⟨by rw [O.out]; rfl, by repeat (first | exact hW.out | apply pw_below_drewN)⟩


end Go.Proofs.Ytohbdjfabghagaa.S
