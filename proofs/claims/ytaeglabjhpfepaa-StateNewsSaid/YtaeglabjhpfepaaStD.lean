/- Contracts of state.Same, state.Copy and of the document's own functions for states, and plain facts about states as at first; at most 2^40 elements. -/
import Derived.Test.YtaeglabjhpfepaaStC
import Derived.Test.YtaeglabjhpfepaaKB
set_option linter.all false
set_option linter.unusedSimpArgs false
namespace Go.Proofs
open Go.Awp
@[simp] theorem eqOk53 : eqOk Try.prog 53 = true := by kernel_rfl
def sameShape (a b : Shape) : Bool := a.pages == b.pages && (a.slots == b.slots && (a.roots == b.roots && a.room == b.room))
def sameSlot (a b : Slot) : Bool := a.gen == b.gen && (a.live == b.live && (a.two == b.two && (a.at_ == b.at_ && a.len == b.len)))
def sameB (x y : List (List UInt8)) : Bool := sameL (fun x y => (str x).toList == (str y).toList) x y
def sameStt (a b : Stt) : Bool := sameShape a.sh b.sh && (a.mode == b.mode && (a.base == b.base && (sameL sameSlot a.slots b.slots && (sameL sameRoot a.roots b.roots && sameB a.data b.data))))

theorem sameStt_refl (a : Stt) : sameStt a a = true := by
  simp only [sameStt, sameB, sameShape]
  rw [sameL_refl (fun s => by simp [sameSlot]), sameL_refl (fun s => by simp [sameRoot]), sameL_refl (fun s => by simp)]
  simp
def okMode (mode : Int) : Bool := decide (mode = 1 ∨ mode = 2)
def newR (sh : Shape) (mode : Int) : Stt × Int := if shapeS sh && okMode mode then (firstStt sh mode, 0) else (zStt, 1)
theorem newR_eq {sh : Shape} {mode : Int} : newS sh mode = newR sh mode := by
  unfold newS newR
  have : (superS sh mode (baseOf sh mode) && decide (mode ≤ 2)) = (shapeS sh && okMode mode) := by
    unfold superS okMode baseOf
    cases h : shapeS sh with
    | false => simp
    | true =>
      have h2 : 0 ≤ sh.pages := by
        simp only [shapeS, sizedSh, Bool.and_eq_true, decide_eq_true_eq] at h; omega
      simp only [Bool.true_and]
      by_cases h1 : mode = 1
      · subst h1; simp [h2]
      · by_cases h2' : mode = 2
        · subst h2'; simp [h2]
        · rw [if_neg h1, if_neg h2']
          simp [h1, h2']; omega
  rw [this]
theorem shape_sh {sh : Shape} (h : shapeS sh = true) : (1 ≤ sh.pages ∧ sh.pages ≤ 64 ∧ 1 ≤ sh.room ∧ sh.room ≤ 4096 ∧ 2 ≤ sh.slots ∧ sh.slots ≤ 32 ∧ sh.slots.tmod 2 = 0) ∧ 2 ≤ sh.roots ∧ sh.roots ≤ 8 ∧ sh.roots.tmod 2 = 0 := by
  simp only [shapeS, sizedSh, Bool.and_eq_true, decide_eq_true_eq] at h
  omega
end Go.Proofs

set_option linter.unusedSimpArgs false
set_option linter.unusedVariables false
set_option maxHeartbeats 4000000
set_option maxRecDepth 4000
namespace Go.Proofs
open Go.Awp
theorem ct121 (g : Gl) : CtAt Try.prog g 121 [vI 64] (vI 13) := by
  refine ctAt_of_W Try.func121 rfl rfl (Nat.le_of_ble_eq_true rfl) fun B S => ?_
  refine W_seq ?_
  refine W_reg rfl ?_
  refine run_op rfl rfl rfl (by simp; exact .mk) ?_
  refine run_end [0] (by simp) (by simp; exact .mk) ?_
  rintro -
  refine W_seq ?_
  refine W_seq ?_
  refine W_reg rfl ?_
  refine run_op rfl rfl rfl (by simp; exact .mk) ?_
  refine run_op rfl rfl rfl (by simp [eqA, eqFs, isStructTy, eqlNeq, strOp, isBoolTy, isPtrTy, isFnTy]; exact .mk) ?_
  refine run_end [0, 5] (by simp) (by simp; exact .mk) ?_
  rintro -
  refine W_cond rfl ?_ ?_
  · intro h5
    simp at h5
  · intro h5
    refine W_skip ?_
    rintro -
    refine W_seq ?_
    refine W_reg rfl ?_
    refine run_op rfl rfl rfl (by simp; exact .mk) ?_
    refine run_op rfl rfl rfl (by simp [eqA, eqFs, isStructTy, eqlNeq, strOp, isBoolTy, isPtrTy, isFnTy]; exact .mk) ?_
    refine run_op rfl rfl rfl (by simp; exact .mk) ?_
    refine run_op rfl rfl rfl (by simp [eqA, eqFs, isStructTy, eqlNeq, strOp, isBoolTy, isPtrTy, isFnTy]; exact .mk) ?_
    refine run_op rfl rfl rfl (by simp; exact .mk) ?_
    refine run_op rfl rfl rfl (by simp [eqA, eqFs, isStructTy, eqlNeq, strOp, isBoolTy, isPtrTy, isFnTy]; exact .mk) ?_
    refine run_op rfl rfl rfl (by simp; exact .mk) ?_
    refine run_end [0] (by simp) (by simp; exact .mk) ?_
    rintro -
    refine W_seq ?_
    refine W_reg rfl ?_
    iterate 3 (refine run_op rfl rfl rfl (by simp; exact .mk) ?_)
    refine run_end [0] (by simp) (by simp; exact .mk) ?_
    rintro -
    refine W_seq ?_
    refine W_reg rfl ?_
    iterate 2 (refine run_op rfl rfl rfl (by simp; exact .mk) ?_)
    refine run_end [0, 3] (by simp) (by simp; exact .mk) ?_
    rintro -
    refine W_seq ?_
    refine W_block ?_
    refine W_rounds (fun m σ o => ((m = 3 ∧ σ = slots [(0, .d (vI 10)), (3, .d (vI 10))]) ∨ (m = 2 ∧ σ = slots [(0, .d (vI 2)), (3, .d (vI 12))]) ∨ (m = 1 ∧ σ = slots [(0, .d (vI 1)), (3, .d (vI 13))])) ∧ o = []) 3 .refl ⟨.inl ⟨rfl, rfl⟩, rfl⟩ ?_
    rintro m σ o ⟨⟨rfl, rfl⟩ | ⟨rfl, rfl⟩ | ⟨rfl, rfl⟩, rfl⟩ _
    · skip
      skip
      refine W_seq ?_
      refine W_seq ?_
      refine W_reg rfl ?_
      refine run_op rfl rfl rfl (by simp; exact .mk) ?_
      refine run_op rfl rfl rfl (by simp [eqA, eqFs, isStructTy, eqlNeq, strOp, isBoolTy, isPtrTy, isFnTy]; exact .mk) ?_
      refine run_end [0, 3, 16] (by simp) (by simp; exact .mk) ?_
      rintro -
      refine W_cond rfl ?_ ?_
      · intro h16
        refine W_skip ?_
        rintro -
        refine W_block ?_
        refine W_seq ?_
        refine W_reg rfl ?_
        refine run_op rfl rfl rfl (by simp; exact .mk) ?_
        refine run_op rfl rfl rfl (by simp [eqA, eqFs, isStructTy, eqlNeq, strOp, isBoolTy, isPtrTy, isFnTy]; exact .mk) ?_
        refine run_op rfl rfl rfl (by simp; exact .mk) ?_
        refine run_op rfl rfl rfl (by simp [eqA, eqFs, isStructTy, eqlNeq, strOp, isBoolTy, isPtrTy, isFnTy]; exact .mk) ?_
        refine run_op rfl rfl rfl (by simp; exact .mk) ?_
        refine run_op rfl rfl rfl (by simp [eqA, eqFs, isStructTy, eqlNeq, strOp, isBoolTy, isPtrTy, isFnTy]; exact .mk) ?_
        refine run_op rfl rfl rfl (by simp; exact .mk) ?_
        refine run_end [0, 3] (by simp) (by simp; exact .mk) ?_
        rintro -
        refine W_reg rfl ?_
        iterate 2 (refine run_op rfl rfl rfl (by simp; exact .mk) ?_)
        refine run_op rfl rfl rfl (by simp [eqA, eqFs, isStructTy, eqlNeq, strOp, isBoolTy, isPtrTy, isFnTy]; exact .mk) ?_
        refine run_op rfl rfl rfl (by simp; exact .mk) ?_
        refine run_end [0, 3] (by simp) (by simp; exact .mk) ?_
        refine rounds_kill [0, 3] ?_
        exact rounds_next (m' := 2) (by omega) ⟨.inr (.inl ⟨rfl, rfl⟩), rfl⟩
      · intro h16
        simp at h16
    · skip
      skip
      refine W_seq ?_
      refine W_seq ?_
      refine W_reg rfl ?_
      refine run_op rfl rfl rfl (by simp; exact .mk) ?_
      refine run_op rfl rfl rfl (by simp [eqA, eqFs, isStructTy, eqlNeq, strOp, isBoolTy, isPtrTy, isFnTy]; exact .mk) ?_
      refine run_end [0, 3, 16] (by simp) (by simp; exact .mk) ?_
      rintro -
      refine W_cond rfl ?_ ?_
      · intro h16
        refine W_skip ?_
        rintro -
        refine W_block ?_
        refine W_seq ?_
        refine W_reg rfl ?_
        refine run_op rfl rfl rfl (by simp; exact .mk) ?_
        refine run_op rfl rfl rfl (by simp [eqA, eqFs, isStructTy, eqlNeq, strOp, isBoolTy, isPtrTy, isFnTy]; exact .mk) ?_
        refine run_op rfl rfl rfl (by simp; exact .mk) ?_
        refine run_op rfl rfl rfl (by simp [eqA, eqFs, isStructTy, eqlNeq, strOp, isBoolTy, isPtrTy, isFnTy]; exact .mk) ?_
        refine run_op rfl rfl rfl (by simp; exact .mk) ?_
        refine run_op rfl rfl rfl (by simp [eqA, eqFs, isStructTy, eqlNeq, strOp, isBoolTy, isPtrTy, isFnTy]; exact .mk) ?_
        refine run_op rfl rfl rfl (by simp; exact .mk) ?_
        refine run_end [0, 3] (by simp) (by simp; exact .mk) ?_
        rintro -
        refine W_reg rfl ?_
        iterate 2 (refine run_op rfl rfl rfl (by simp; exact .mk) ?_)
        refine run_op rfl rfl rfl (by simp [eqA, eqFs, isStructTy, eqlNeq, strOp, isBoolTy, isPtrTy, isFnTy]; exact .mk) ?_
        refine run_op rfl rfl rfl (by simp; exact .mk) ?_
        refine run_end [0, 3] (by simp) (by simp; exact .mk) ?_
        refine rounds_kill [0, 3] ?_
        exact rounds_next (m' := 1) (by omega) ⟨.inr (.inr ⟨rfl, rfl⟩), rfl⟩
      · intro h16
        simp at h16
    · skip
      skip
      refine W_seq ?_
      refine W_seq ?_
      refine W_reg rfl ?_
      refine run_op rfl rfl rfl (by simp; exact .mk) ?_
      refine run_op rfl rfl rfl (by simp [eqA, eqFs, isStructTy, eqlNeq, strOp, isBoolTy, isPtrTy, isFnTy]; exact .mk) ?_
      refine run_end [0, 3, 16] (by simp) (by simp; exact .mk) ?_
      rintro -
      refine W_cond rfl ?_ ?_
      · intro h16
        simp at h16
      · intro h16
        refine W_exit ?_
        rintro -
        refine W_seq ?_
        refine W_reg rfl ?_
        iterate 2 (refine run_op rfl rfl rfl (by simp; exact .mk) ?_)
        refine run_end [2] (by simp) (by simp; exact .mk) ?_
        rintro -
        refine W_ret ?_
        refine end_ret (by simp [Try.f121]; exact .mk) (by simp [cl, cls]; exact .mk) ?_ (by simp [D.noSn])
        simp [nrmR, nrmRs, nrmK, kindsOf, kinds, Try.f121]

theorem ct102 (g : Gl) (s : Shape) (hs : sizedSh s = true) : CtAt Try.prog g 102 [eShape s] (.agg [vI 1, vI 2, vI s.room, vI (headsS s), vI (tableA s), vI (rootsA s), vI (treeA s), vI (heapA s), vI (linesA s)]) := by
  refine ctAt_of_W Try.func102 rfl rfl (Nat.le_of_ble_eq_true rfl) fun B S => ?_
  simp only [eShape, List.map, argD_agg]
  have hb : 1 ≤ s.pages ∧ s.pages ≤ 64 ∧ 1 ≤ s.room ∧ s.room ≤ 4096 ∧ 2 ≤ s.slots ∧ s.slots ≤ 32 ∧ 2 ≤ s.roots ∧ s.roots ≤ 8 := by simp [sizedSh] at hs; omega
  have d1 : 0 ≤ s.slots.tdiv 2 ∧ s.slots.tdiv 2 ≤ 16 := by rw [Int.tdiv_eq_ediv_of_nonneg (by omega)]; omega
  have d2 : 0 ≤ s.roots.tdiv 2 ∧ s.roots.tdiv 2 ≤ 4 := by rw [Int.tdiv_eq_ediv_of_nonneg (by omega)]; omega
  have q1 : headsS s = 2 + s.room * 2 := rfl
  have q2 : tableA s = headsS s + 1 := rfl
  have q3 : rootsA s = tableA s + s.slots.tdiv 2 := rfl
  have q4 : treeA s = rootsA s + s.roots.tdiv 2 := rfl
  have q5 : heapA s = treeA s + 26 := rfl
  have q6 : linesA s = heapA s + s.pages * 4 := rfl
  have e1 : IntKind.i64.wrap (2 * s.room) = 2 * s.room := wrap64 (by omega) (by omega)
  have e2 : IntKind.i64.wrap (2 + 2 * s.room) = headsS s := (wrap64 (by omega) (by omega)).trans (by omega)
  have e3 : IntKind.i64.wrap (headsS s + 1) = tableA s := (wrap64 (by omega) (by omega)).trans (by omega)
  have e4 : IntKind.i64.wrap (s.slots.tdiv 2) = s.slots.tdiv 2 := wrap64 (by omega) (by omega)
  have e5 : IntKind.i64.wrap (tableA s + s.slots.tdiv 2) = rootsA s := (wrap64 (by omega) (by omega)).trans (by omega)
  have e6 : IntKind.i64.wrap (s.roots.tdiv 2) = s.roots.tdiv 2 := wrap64 (by omega) (by omega)
  have e7 : IntKind.i64.wrap (rootsA s + s.roots.tdiv 2) = treeA s := (wrap64 (by omega) (by omega)).trans (by omega)
  have e8 : IntKind.i64.wrap 26 = 26 := rfl
  have e9 : IntKind.i64.wrap (treeA s + 26) = heapA s := (wrap64 (by omega) (by omega)).trans (by omega)
  have e10 : IntKind.i64.wrap (4 * s.pages) = 4 * s.pages := wrap64 (by omega) (by omega)
  have e11 : IntKind.i64.wrap (heapA s + 4 * s.pages) = linesA s := (wrap64 (by omega) (by omega)).trans (by omega)
  refine W_seq ?_
  refine W_reg rfl ?_
  refine run_op rfl rfl rfl (by simp [boxA, AV.cells, AV.isCell, boxA, AV.cells, AV.isCell]; exact .mk) ?_
  refine run_op rfl rfl rfl (by simp [boxA, AV.cells, AV.isCell, allocA, Value.oneCell']; exact .mk) ?_
  refine run_end [1, 2] (by simp) (by simp; exact .mk) ?_
  rintro -
  refine W_seq ?_
  refine W_reg rfl ?_
  iterate 2 (refine run_op rfl rfl rfl (by simp [boxA, AV.cells, AV.isCell]; exact .mk) ?_)
  iterate 2 (refine run_op rfl rfl rfl (by simp [boxA, AV.cells, AV.isCell, buildA, fillA, placesOf, splice, Value.oneCell', AV.cells, AV.isCell]; exact .mk) ?_)
  refine run_op rfl rfl rfl (by simp [boxA, AV.cells, AV.isCell, allocA, Value.oneCell']; exact .mk) ?_
  refine run_op rfl rfl rfl (by simp [boxA, AV.cells, AV.isCell, storeA, AV.cells, AV.isCell, splice]; exact .mk) ?_
  refine run_end [1, 2, 3] (by simp) (by simp; exact .mk) ?_
  rintro -
  refine W_seq ?_
  refine W_reg rfl ?_
  iterate 2 (refine run_op rfl rfl rfl (by simp [boxA, AV.cells, AV.isCell]; exact .mk) ?_)
  refine run_op rfl rfl rfl (by simp [boxA, AV.cells, AV.isCell, eqA, eqFs, isStructTy, eqlNeq, strOp, isBoolTy, isPtrTy, isFnTy, e1]; exact .mk) ?_
  refine run_op rfl rfl rfl (by simp [boxA, AV.cells, AV.isCell, eqA, eqFs, isStructTy, eqlNeq, strOp, isBoolTy, isPtrTy, isFnTy, e2]; exact .mk) ?_
  refine run_op rfl rfl rfl (by simp [boxA, AV.cells, AV.isCell]; exact .mk) ?_
  refine run_op rfl rfl rfl (by simp [boxA, AV.cells, AV.isCell, storeA, AV.cells, AV.isCell, splice]; exact .mk) ?_
  refine run_end [1, 2, 3] (by simp) (by simp; exact .mk) ?_
  rintro -
  refine W_seq ?_
  refine W_reg rfl ?_
  iterate 2 (refine run_op rfl rfl rfl (by simp [boxA, AV.cells, AV.isCell]; exact .mk) ?_)
  refine run_op rfl rfl rfl (by simp [boxA, AV.cells, AV.isCell, eqA, eqFs, isStructTy, eqlNeq, strOp, isBoolTy, isPtrTy, isFnTy, e3]; exact .mk) ?_
  refine run_op rfl rfl rfl (by simp [boxA, AV.cells, AV.isCell]; exact .mk) ?_
  refine run_op rfl rfl rfl (by simp [boxA, AV.cells, AV.isCell, storeA, AV.cells, AV.isCell, splice]; exact .mk) ?_
  refine run_end [1, 2, 3] (by simp) (by simp; exact .mk) ?_
  rintro -
  refine W_seq ?_
  refine W_reg rfl ?_
  iterate 4 (refine run_op rfl rfl rfl (by simp [boxA, AV.cells, AV.isCell]; exact .mk) ?_)
  refine run_op rfl rfl rfl (by simp [boxA, AV.cells, AV.isCell, eqA, eqFs, isStructTy, eqlNeq, strOp, isBoolTy, isPtrTy, isFnTy, e4]; exact .mk) ?_
  refine run_op rfl rfl rfl (by simp [boxA, AV.cells, AV.isCell, eqA, eqFs, isStructTy, eqlNeq, strOp, isBoolTy, isPtrTy, isFnTy, e5]; exact .mk) ?_
  refine run_op rfl rfl rfl (by simp [boxA, AV.cells, AV.isCell]; exact .mk) ?_
  refine run_op rfl rfl rfl (by simp [boxA, AV.cells, AV.isCell, storeA, AV.cells, AV.isCell, splice]; exact .mk) ?_
  refine run_end [1, 2, 3] (by simp) (by simp; exact .mk) ?_
  rintro -
  refine W_seq ?_
  refine W_reg rfl ?_
  iterate 4 (refine run_op rfl rfl rfl (by simp [boxA, AV.cells, AV.isCell]; exact .mk) ?_)
  refine run_op rfl rfl rfl (by simp [boxA, AV.cells, AV.isCell, eqA, eqFs, isStructTy, eqlNeq, strOp, isBoolTy, isPtrTy, isFnTy, e6]; exact .mk) ?_
  refine run_op rfl rfl rfl (by simp [boxA, AV.cells, AV.isCell, eqA, eqFs, isStructTy, eqlNeq, strOp, isBoolTy, isPtrTy, isFnTy, e7]; exact .mk) ?_
  refine run_op rfl rfl rfl (by simp [boxA, AV.cells, AV.isCell]; exact .mk) ?_
  refine run_op rfl rfl rfl (by simp [boxA, AV.cells, AV.isCell, storeA, AV.cells, AV.isCell, splice]; exact .mk) ?_
  refine run_end [1, 2, 3] (by simp) (by simp; exact .mk) ?_
  rintro -
  refine W_seq ?_
  refine W_regD (by kernel_rfl) [] 4 [0, 1, 2, 3, 4, 5, 6] (by decide +kernel) ?_
  iterate 2 (refine run_op rfl rfl rfl (by simp [boxA, AV.cells, AV.isCell]; exact .mk) ?_)
  refine run_call0 rfl rfl rfl rfl (by simp [boxA, AV.cells, AV.isCell, calleeA]; exact .mk) (by simp [boxA, AV.cells, AV.isCell, kindsOf, kinds, expAs, expA]; exact .mk) (ct121 g) (by simp [boxA, AV.cells, AV.isCell, D.noRo]) (by simp [boxA, AV.cells, AV.isCell, impA, impAs]; exact .mk) ?_
  refine run_op rfl rfl rfl (by simp [boxA, AV.cells, AV.isCell, eqA, eqFs, isStructTy, eqlNeq, strOp, isBoolTy, isPtrTy, isFnTy, e8]; exact .mk) ?_
  refine run_op rfl rfl rfl (by simp [boxA, AV.cells, AV.isCell, eqA, eqFs, isStructTy, eqlNeq, strOp, isBoolTy, isPtrTy, isFnTy, e9]; exact .mk) ?_
  refine run_op rfl rfl rfl (by simp [boxA, AV.cells, AV.isCell]; exact .mk) ?_
  refine run_op rfl rfl rfl (by simp [boxA, AV.cells, AV.isCell, storeA, AV.cells, AV.isCell, splice]; exact .mk) ?_
  refine run_end [1, 2, 3] (by simp) (by simp; exact .mk) ?_
  rintro -
  refine W_seq ?_
  refine W_reg rfl ?_
  iterate 4 (refine run_op rfl rfl rfl (by simp [boxA, AV.cells, AV.isCell]; exact .mk) ?_)
  refine run_op rfl rfl rfl (by simp [boxA, AV.cells, AV.isCell, eqA, eqFs, isStructTy, eqlNeq, strOp, isBoolTy, isPtrTy, isFnTy, e10]; exact .mk) ?_
  refine run_op rfl rfl rfl (by simp [boxA, AV.cells, AV.isCell, eqA, eqFs, isStructTy, eqlNeq, strOp, isBoolTy, isPtrTy, isFnTy, e11]; exact .mk) ?_
  refine run_op rfl rfl rfl (by simp [boxA, AV.cells, AV.isCell]; exact .mk) ?_
  refine run_op rfl rfl rfl (by simp [boxA, AV.cells, AV.isCell, storeA, AV.cells, AV.isCell, splice]; exact .mk) ?_
  refine run_end [2, 3] (by simp) (by simp; exact .mk) ?_
  rintro -
  refine W_seq ?_
  refine W_reg rfl ?_
  refine run_op rfl rfl rfl (by simp [boxA, AV.cells, AV.isCell]; exact .mk) ?_
  refine run_op rfl rfl rfl (by simp [boxA, AV.cells, AV.isCell, storeA, AV.cells, AV.isCell, splice]; exact .mk) ?_
  refine run_end [2] (by simp) (by simp; exact .mk) ?_
  rintro -
  refine W_ret ?_
  refine end_ret (by simp [boxA, AV.cells, AV.isCell, Try.f102]; exact .mk) (by simp [boxA, AV.cells, AV.isCell, cl, cls]; exact .mk) ?_ (by simp [boxA, AV.cells, AV.isCell, D.noSn])
  simp [nrmR, nrmRs, nrmK, kindsOf, kinds, Try.f102]

theorem ct69 (g : Gl) (s : Shape) : CtAt Try.prog g 69 [eShape s] (.v (.bool (shapeS s))) := by
  refine ctAt_of_W Try.func69 rfl rfl (Nat.le_of_ble_eq_true rfl) fun B S => ?_
  simp only [eShape, List.map, argD_agg]
  have m1 : 2 ≤ s.slots → (s.slots.tmod 2 = 0 ∨ s.slots.tmod 2 = 1) := fun h => by rw [Int.tmod_eq_emod_of_nonneg (by omega)]; omega
  have m2 : 2 ≤ s.roots → (s.roots.tmod 2 = 0 ∨ s.roots.tmod 2 = 1) := fun h => by rw [Int.tmod_eq_emod_of_nonneg (by omega)]; omega
  refine W_seq ?_
  refine W_reg rfl ?_
  refine run_op rfl rfl rfl (by simp [boxA, AV.cells, AV.isCell, boxA, AV.cells, AV.isCell]; exact .mk) ?_
  refine run_op rfl rfl rfl (by simp [boxA, AV.cells, AV.isCell]; exact .mk) ?_
  refine run_end [1] (by simp) (by simp; exact .mk) ?_
  rintro -
  refine W_seq ?_
  refine W_seq ?_
  refine W_reg rfl ?_
  iterate 2 (refine run_op rfl rfl rfl (by simp [boxA, AV.cells, AV.isCell]; exact .mk) ?_)
  refine run_op rfl rfl rfl (by simp [boxA, AV.cells, AV.isCell, eqA, eqFs, isStructTy, eqlNeq, strOp, isBoolTy, isPtrTy, isFnTy]; exact .mk) ?_
  refine run_op rfl rfl rfl (by simp [boxA, AV.cells, AV.isCell]; exact .mk) ?_
  refine run_if rfl (by simp [boxA, AV.cells, AV.isCell]; exact .mk) rfl (by simp <;> first | omega | grind) (fun hb => by simp [boxA, AV.cells, AV.isCell]; exact .mk) ?_
  refine run_if rfl (by simp [boxA, AV.cells, AV.isCell]; exact .mk) rfl (by simp <;> first | omega | grind) (fun hb => by simp [boxA, AV.cells, AV.isCell]; exact .mk) ?_
  refine run_if rfl (by simp [boxA, AV.cells, AV.isCell]; exact .mk) rfl (by simp <;> first | omega | grind) (fun hb => by simp [boxA, AV.cells, AV.isCell, eqA, eqFs, isStructTy, eqlNeq, strOp, isBoolTy, isPtrTy, isFnTy]; exact .mk) ?_
  refine run_pick rfl (by simp [boxA, AV.cells, AV.isCell]; exact .mk) rfl rfl (by simp) (by simp [boxA, AV.cells, AV.isCell]; exact .mk) (by simp [boxA, AV.cells, AV.isCell]; exact .mk) (by simp; exact .mk) ?_
  refine run_op1 rfl rfl rfl (by simp <;> first | omega | grind) (by simp [boxA, AV.cells, AV.isCell]; exact .mk) ?_
  refine run_if rfl (by simp [boxA, AV.cells, AV.isCell]; exact .mk) rfl (by simp <;> first | omega | grind) (fun hb => by simp [boxA, AV.cells, AV.isCell]; exact .mk) ?_
  refine run_if rfl (by simp [boxA, AV.cells, AV.isCell]; exact .mk) rfl (by simp <;> first | omega | grind) (fun hb => by simp [boxA, AV.cells, AV.isCell]; exact .mk) ?_
  refine run_if rfl (by simp [boxA, AV.cells, AV.isCell]; exact .mk) rfl (by simp <;> first | omega | grind) (fun hb => by simp [boxA, AV.cells, AV.isCell, eqA, eqFs, isStructTy, eqlNeq, strOp, isBoolTy, isPtrTy, isFnTy]; exact .mk) ?_
  refine run_pick rfl (by simp [boxA, AV.cells, AV.isCell]; exact .mk) rfl rfl (by simp) (by simp [boxA, AV.cells, AV.isCell]; exact .mk) (by simp [boxA, AV.cells, AV.isCell]; exact .mk) (by simp; exact .mk) ?_
  refine run_op1 rfl rfl rfl (by simp <;> first | omega | grind) (by simp [boxA, AV.cells, AV.isCell]; exact .mk) ?_
  refine run_if rfl (by simp [boxA, AV.cells, AV.isCell]; exact .mk) rfl (by simp <;> first | omega | grind) (fun hb => by simp [boxA, AV.cells, AV.isCell]; exact .mk) ?_
  refine run_if rfl (by simp [boxA, AV.cells, AV.isCell]; exact .mk) rfl (by simp <;> first | omega | grind) (fun hb => by simp [boxA, AV.cells, AV.isCell]; exact .mk) ?_
  refine run_if rfl (by simp [boxA, AV.cells, AV.isCell]; exact .mk) rfl (by simp <;> first | omega | grind) (fun hb => by simp [boxA, AV.cells, AV.isCell, eqA, eqFs, isStructTy, eqlNeq, strOp, isBoolTy, isPtrTy, isFnTy]; exact .mk) ?_
  refine run_pick rfl (by simp [boxA, AV.cells, AV.isCell]; exact .mk) rfl rfl (by simp) (by simp [boxA, AV.cells, AV.isCell]; exact .mk) (by simp [boxA, AV.cells, AV.isCell]; exact .mk) (by simp; exact .mk) ?_
  refine run_op1 rfl rfl rfl (by simp <;> first | omega | grind) (by simp [boxA, AV.cells, AV.isCell]; exact .mk) ?_
  refine run_if rfl (by simp [boxA, AV.cells, AV.isCell]; exact .mk) rfl (by simp <;> first | omega | grind) (fun hb => by simp [boxA, AV.cells, AV.isCell]; exact .mk) ?_
  refine run_if rfl (by simp [boxA, AV.cells, AV.isCell]; exact .mk) rfl (by simp <;> first | omega | grind) (fun hb => by simp [boxA, AV.cells, AV.isCell]; exact .mk) ?_
  refine run_if rfl (by simp [boxA, AV.cells, AV.isCell]; exact .mk) rfl (by simp <;> first | omega | grind) (fun hb => by simp [boxA, AV.cells, AV.isCell, eqA, eqFs, isStructTy, eqlNeq, strOp, isBoolTy, isPtrTy, isFnTy]; exact .mk) ?_
  refine run_if rfl (by simp [boxA, AV.cells, AV.isCell]; exact .mk) rfl (by simp <;> first | omega | grind) (fun hb => by simp [boxA, AV.cells, AV.isCell, eqA, eqFs, isStructTy, eqlNeq, strOp, isBoolTy, isPtrTy, isFnTy]; exact .mk) ?_
  refine run_pick rfl (by simp [boxA, AV.cells, AV.isCell]; exact .mk) rfl rfl (by simp) (by simp [boxA, AV.cells, AV.isCell]; exact .mk) (by simp [boxA, AV.cells, AV.isCell]; exact .mk) (by simp; exact .mk) ?_
  refine run_op1 rfl rfl rfl (by simp <;> first | omega | grind) (by simp [boxA, AV.cells, AV.isCell]; exact .mk) ?_
  refine run_if rfl (by simp [boxA, AV.cells, AV.isCell]; exact .mk) rfl (by simp <;> first | omega | grind) (fun hb => by simp [boxA, AV.cells, AV.isCell]; exact .mk) ?_
  refine run_if rfl (by simp [boxA, AV.cells, AV.isCell]; exact .mk) rfl (by simp <;> first | omega | grind) (fun hb => by simp [boxA, AV.cells, AV.isCell]; exact .mk) ?_
  refine run_if rfl (by simp [boxA, AV.cells, AV.isCell]; exact .mk) rfl (by simp <;> first | omega | grind) (fun hb => by simp [boxA, AV.cells, AV.isCell, eqA, eqFs, isStructTy, eqlNeq, strOp, isBoolTy, isPtrTy, isFnTy]; exact .mk) ?_
  refine run_pick rfl (by simp [boxA, AV.cells, AV.isCell]; exact .mk) rfl rfl (by simp) (by simp [boxA, AV.cells, AV.isCell]; exact .mk) (by simp [boxA, AV.cells, AV.isCell]; exact .mk) (by simp; exact .mk) ?_
  refine run_op1 rfl rfl rfl (by simp <;> first | omega | grind) (by simp [boxA, AV.cells, AV.isCell]; exact .mk) ?_
  refine run_if rfl (by simp [boxA, AV.cells, AV.isCell]; exact .mk) rfl (by simp <;> first | omega | grind) (fun hb => by simp [boxA, AV.cells, AV.isCell]; exact .mk) ?_
  refine run_if rfl (by simp [boxA, AV.cells, AV.isCell]; exact .mk) rfl (by simp <;> first | omega | grind) (fun hb => by simp [boxA, AV.cells, AV.isCell]; exact .mk) ?_
  refine run_if rfl (by simp [boxA, AV.cells, AV.isCell]; exact .mk) rfl (by simp <;> first | omega | grind) (fun hb => by simp [boxA, AV.cells, AV.isCell, eqA, eqFs, isStructTy, eqlNeq, strOp, isBoolTy, isPtrTy, isFnTy]; exact .mk) ?_
  refine run_pick rfl (by simp [boxA, AV.cells, AV.isCell]; exact .mk) rfl rfl (by simp) (by simp [boxA, AV.cells, AV.isCell]; exact .mk) (by simp [boxA, AV.cells, AV.isCell]; exact .mk) (by simp; exact .mk) ?_
  refine run_op1 rfl rfl rfl (by simp <;> first | omega | grind) (by simp [boxA, AV.cells, AV.isCell]; exact .mk) ?_
  refine run_if rfl (by simp [boxA, AV.cells, AV.isCell]; exact .mk) rfl (by simp <;> first | omega | grind) (fun hb => by simp [boxA, AV.cells, AV.isCell]; exact .mk) ?_
  refine run_if rfl (by simp [boxA, AV.cells, AV.isCell]; exact .mk) rfl (by simp <;> first | omega | grind) (fun hb => by simp [boxA, AV.cells, AV.isCell]; exact .mk) ?_
  refine run_if rfl (by simp [boxA, AV.cells, AV.isCell]; exact .mk) rfl (by simp <;> first | omega | grind) (fun hb => by simp [boxA, AV.cells, AV.isCell, eqA, eqFs, isStructTy, eqlNeq, strOp, isBoolTy, isPtrTy, isFnTy]; exact .mk) ?_
  refine run_if rfl (by simp [boxA, AV.cells, AV.isCell]; exact .mk) rfl (by simp <;> first | omega | grind) (fun hb => by simp [boxA, AV.cells, AV.isCell, eqA, eqFs, isStructTy, eqlNeq, strOp, isBoolTy, isPtrTy, isFnTy]; exact .mk) ?_
  refine run_pick rfl (by simp [boxA, AV.cells, AV.isCell]; exact .mk) rfl rfl (by simp) (by simp [boxA, AV.cells, AV.isCell]; exact .mk) (by simp [boxA, AV.cells, AV.isCell]; exact .mk) (by simp; exact .mk) ?_
  refine run_op1 rfl rfl rfl (by simp <;> first | omega | grind) (by simp [boxA, AV.cells, AV.isCell]; exact .mk) ?_
  refine run_if rfl (by simp [boxA, AV.cells, AV.isCell]; exact .mk) rfl (by simp <;> first | omega | grind) (fun hb => by simp [boxA, AV.cells, AV.isCell]; exact .mk) ?_
  refine run_if rfl (by simp [boxA, AV.cells, AV.isCell]; exact .mk) rfl (by simp <;> first | omega | grind) (fun hb => by simp [boxA, AV.cells, AV.isCell]; exact .mk) ?_
  refine run_if rfl (by simp [boxA, AV.cells, AV.isCell]; exact .mk) rfl (by simp <;> first | omega | grind) (fun hb => by simp [boxA, AV.cells, AV.isCell, eqA, eqFs, isStructTy, eqlNeq, strOp, isBoolTy, isPtrTy, isFnTy]; exact .mk) ?_
  refine run_pick rfl (by simp [boxA, AV.cells, AV.isCell]; exact .mk) rfl rfl (by simp) (by simp [boxA, AV.cells, AV.isCell]; exact .mk) (by simp [boxA, AV.cells, AV.isCell]; exact .mk) (by simp; exact .mk) ?_
  refine run_op1 rfl rfl rfl (by simp <;> first | omega | grind) (by simp [boxA, AV.cells, AV.isCell]; exact .mk) ?_
  refine run_if rfl (by simp [boxA, AV.cells, AV.isCell]; exact .mk) rfl (by simp <;> first | omega | grind) (fun hb => by simp [boxA, AV.cells, AV.isCell]; exact .mk) ?_
  refine run_if rfl (by simp [boxA, AV.cells, AV.isCell]; exact .mk) rfl (by simp <;> first | omega | grind) (fun hb => by simp [boxA, AV.cells, AV.isCell]; exact .mk) ?_
  refine run_if rfl (by simp [boxA, AV.cells, AV.isCell]; exact .mk) rfl (by simp <;> first | omega | grind) (fun hb => by simp [boxA, AV.cells, AV.isCell, eqA, eqFs, isStructTy, eqlNeq, strOp, isBoolTy, isPtrTy, isFnTy]; exact .mk) ?_
  refine run_pick rfl (by simp [boxA, AV.cells, AV.isCell]; exact .mk) rfl rfl (by simp) (by simp [boxA, AV.cells, AV.isCell]; exact .mk) (by simp [boxA, AV.cells, AV.isCell]; exact .mk) (by simp; exact .mk) ?_
  refine run_end [1, 52] (by simp <;> first | omega | grind) (by simp; exact .mk) ?_
  rintro -
  refine W_cond rfl ?_ ?_
  · intro h52
    have hz : sizedSh s = false := by simp [sizedSh] at h52 ⊢; omega
    have hr : shapeS s = false := by simp [shapeS, hz]
    refine W_seq ?_
    refine W_reg rfl ?_
    refine run_op rfl rfl rfl (by simp [boxA, AV.cells, AV.isCell]; exact .mk) ?_
    refine run_end [2] (by simp) (by simp; exact .mk) ?_
    rintro -
    refine W_ret ?_
    refine end_ret (by simp [boxA, AV.cells, AV.isCell, Try.f69]; exact .mk) (by simp [boxA, AV.cells, AV.isCell, cl, cls]; exact .mk) ?_ (by simp [boxA, AV.cells, AV.isCell, D.noSn])
    simp [nrmR, nrmRs, nrmK, kindsOf, kinds, Try.f69, hr]
  · intro h52
    have hz : sizedSh s = true := by simp [sizedSh] at h52 ⊢; omega
    have hr : shapeS s = decide (linesA s ≤ 4096) := by simp [shapeS, hz]
    refine W_skip ?_
    rintro -
    refine W_seq ?_
    refine W_reg rfl ?_
    refine run_op rfl rfl rfl (by simp [boxA, AV.cells, AV.isCell]; exact .mk) ?_
    refine run_call0 rfl rfl rfl rfl (by simp [boxA, AV.cells, AV.isCell, calleeA]; exact .mk) (by simp [boxA, AV.cells, AV.isCell, kindsOf, kinds, expAs, expA]; exact .mk) (ct102 g s hz) (by simp [boxA, AV.cells, AV.isCell, D.noRo]) (by simp [boxA, AV.cells, AV.isCell, impA, impAs]; exact .mk) ?_
    refine run_op rfl rfl rfl (by simp [boxA, AV.cells, AV.isCell]; exact .mk) ?_
    refine run_op rfl rfl rfl (by simp [boxA, AV.cells, AV.isCell, eqA, eqFs, isStructTy, eqlNeq, strOp, isBoolTy, isPtrTy, isFnTy]; exact .mk) ?_
    refine run_op rfl rfl rfl (by simp [boxA, AV.cells, AV.isCell]; exact .mk) ?_
    refine run_end [2] (by simp) (by simp; exact .mk) ?_
    rintro -
    refine W_ret ?_
    refine end_ret (by simp [boxA, AV.cells, AV.isCell, Try.f69]; exact .mk) (by simp [boxA, AV.cells, AV.isCell, cl, cls]; exact .mk) ?_ (by simp [boxA, AV.cells, AV.isCell, D.noSn])
    simp [nrmR, nrmRs, nrmK, kindsOf, kinds, Try.f69, hr]

theorem ct36 (g : Gl) (sh : Shape) (mode : Int) : CtAt Try.prog g 36 [eShape sh, vI mode] (.tup [oStt (newR sh mode).1, vI (newR sh mode).2]) := by
  refine ctAt_of_W Try.func36 rfl rfl (Nat.le_of_ble_eq_true rfl) fun B S => ?_
  simp only [eShape, List.map, argD_agg, argD_v]
  refine W_seq ?_
  refine W_reg rfl ?_
  refine run_op rfl rfl rfl (by simp [boxA, AV.cells, AV.isCell, boxA, AV.cells, AV.isCell]; exact .mk) ?_
  refine run_op rfl rfl rfl (by simp [boxA, AV.cells, AV.isCell, allocA, Value.oneCell']; exact .mk) ?_
  refine run_op rfl rfl rfl (by simp [boxA, AV.cells, AV.isCell]; exact .mk) ?_
  refine run_end [1, 2, 4] (by simp) (by simp; exact .mk) ?_
  rintro -
  refine W_seq ?_
  refine W_reg rfl ?_
  refine run_op rfl rfl rfl (by simp [boxA, AV.cells, AV.isCell]; exact .mk) ?_
  refine run_call0 rfl rfl rfl rfl (by simp [boxA, AV.cells, AV.isCell, calleeA]; exact .mk) (by simp [boxA, AV.cells, AV.isCell, kindsOf, kinds, expAs, expA]; exact .mk) (ct69 g sh) (by simp [boxA, AV.cells, AV.isCell, D.noRo]) (by simp [boxA, AV.cells, AV.isCell, impA, impAs]; exact .mk) ?_
  refine run_op rfl rfl rfl (by simp [boxA, AV.cells, AV.isCell]; exact .mk) ?_
  refine run_end [1, 2, 4, 6] (by simp) (by simp; exact .mk) ?_
  rintro -
  refine W_seq ?_
  refine W_seq ?_
  refine W_reg rfl ?_
  refine run_op rfl rfl rfl (by simp [boxA, AV.cells, AV.isCell]; exact .mk) ?_
  refine run_op rfl rfl rfl (by simp [boxA, AV.cells, AV.isCell, unA]; exact .mk) ?_
  refine run_op rfl rfl rfl (by simp [boxA, AV.cells, AV.isCell]; exact .mk) ?_
  refine run_if rfl (by simp [boxA, AV.cells, AV.isCell]; exact .mk) rfl (by simp <;> first | omega | grind) (fun hb => by simp [boxA, AV.cells, AV.isCell]; exact .mk) ?_
  refine run_if rfl (by simp [boxA, AV.cells, AV.isCell]; exact .mk) rfl (by simp <;> first | omega | grind) (fun hb => by simp [boxA, AV.cells, AV.isCell, eqA, eqFs, isStructTy, eqlNeq, strOp, isBoolTy, isPtrTy, isFnTy]; exact .mk) ?_
  refine run_if rfl (by simp [boxA, AV.cells, AV.isCell]; exact .mk) rfl (by simp <;> first | omega | grind) (fun hb => by simp [boxA, AV.cells, AV.isCell]; exact .mk) ?_
  refine run_if rfl (by simp [boxA, AV.cells, AV.isCell]; exact .mk) rfl (by simp <;> first | omega | grind) (fun hb => by simp [boxA, AV.cells, AV.isCell]; exact .mk) ?_
  refine run_if rfl (by simp [boxA, AV.cells, AV.isCell]; exact .mk) rfl (by simp <;> first | omega | grind) (fun hb => by simp [boxA, AV.cells, AV.isCell, eqA, eqFs, isStructTy, eqlNeq, strOp, isBoolTy, isPtrTy, isFnTy]; exact .mk) ?_
  refine run_pick rfl (by simp [boxA, AV.cells, AV.isCell]; exact .mk) rfl rfl (by simp) (by simp [boxA, AV.cells, AV.isCell]; exact .mk) (by simp [boxA, AV.cells, AV.isCell]; exact .mk) (by simp; exact .mk) ?_
  refine run_pick rfl (by simp [boxA, AV.cells, AV.isCell]; exact .mk) rfl rfl (by simp) (by simp [boxA, AV.cells, AV.isCell]; exact .mk) (by simp [boxA, AV.cells, AV.isCell]; exact .mk) (by simp; exact .mk) ?_
  refine run_end [1, 2, 4, 19] (by simp <;> first | omega | grind) (by simp; exact .mk) ?_
  rintro -
  refine W_cond rfl ?_ ?_
  · intro h19
    have hr : newR sh mode = (zStt, 1) := by unfold newR; rw [if_neg]; simp [okMode] at h19 ⊢; grind
    refine W_seq ?_
    refine W_reg rfl ?_
    refine run_op rfl rfl rfl (by simp [boxA, AV.cells, AV.isCell, buildA, fillA, placesOf, splice, Value.oneCell', AV.cells, AV.isCell]; exact .mk) ?_
    refine run_op rfl rfl rfl (by simp [boxA, AV.cells, AV.isCell, storeA, AV.cells, AV.isCell, splice]; exact .mk) ?_
    refine run_op rfl rfl rfl (by simp [boxA, AV.cells, AV.isCell]; exact .mk) ?_
    refine run_end [4, 5] (by simp) (by simp; exact .mk) ?_
    rintro -
    refine W_ret ?_
    refine end_ret (by simp [boxA, AV.cells, AV.isCell, Try.f36]; exact .mk) (by simp [boxA, AV.cells, AV.isCell, cl, cls]; exact .mk) ?_ (by simp [boxA, AV.cells, AV.isCell, D.noSn, oStt])
    first | (simp [nrmR, nrmRs, nrmK, kindsOf, kinds, Try.f36, hr, oStt, zStt, ownR]; done) | simp [nrmR, nrmRs, nrmK, kindsOf, kinds, Try.f36, hr, oStt, zStt, firstStt, hb, ownR, eSlot, zSlot, eRoot, zRoot]
  · intro h19
    have hs : shapeS sh = true ∧ okMode mode = true := by simp [okMode] at h19 ⊢; grind
    have hr : newR sh mode = (firstStt sh mode, 0) := by unfold newR; rw [if_pos]; simp [hs]
    have hsh := shape_sh hs.1
    have p1 : 0 ≤ sh.slots := by omega
    have p2 : 0 ≤ sh.roots := by omega
    have p3 : 32 * sh.slots ≤ 140737488355328 := by omega
    have p4 : 24 * sh.slots ≤ 140737488355328 := by omega
    have p5 : 32 * sh.roots ≤ 140737488355328 := by omega
    have p6 : sh.slots ≤ 140737488355328 := by omega
    have p7 : sh.roots ≤ 140737488355328 := by omega
    have p8 : 40 * sh.slots ≤ 140737488355328 := by omega
    have p9 : 40 * sh.roots ≤ 140737488355328 := by omega
    refine W_skip ?_
    rintro -
    refine W_seq ?_
    refine W_regDSK (hard := []) [4, 7, 10, 12] (keepOk_lt (by decide)) (by kernel_rfl) 4 [0, 1, 2, 3, 5, 6, 8, 9, 4, 7, 10, 11, 12, 13] [[0, 1, 2, 3, 5, 6, 8, 9, 4, 7, 12, 10, 11, 13], [0, 1, 2, 3, 5, 6, 8, 9, 4, 10, 7, 11, 12, 13], [0, 1, 2, 3, 5, 6, 8, 9, 4, 10, 12, 7, 11, 13], [0, 1, 2, 3, 5, 6, 8, 9, 4, 12, 7, 10, 11, 13], [0, 1, 2, 3, 5, 6, 8, 9, 4, 12, 10, 7, 11, 13], [0, 1, 2, 3, 5, 6, 8, 9, 7, 4, 10, 11, 12, 13], [0, 1, 2, 3, 5, 6, 8, 9, 7, 4, 12, 10, 11, 13], [0, 1, 2, 3, 5, 6, 8, 9, 7, 10, 4, 11, 12, 13], [0, 1, 2, 3, 5, 6, 8, 9, 7, 10, 12, 4, 11, 13], [0, 1, 2, 3, 5, 6, 8, 9, 7, 12, 4, 10, 11, 13], [0, 1, 2, 3, 5, 6, 8, 9, 7, 12, 10, 4, 11, 13], [0, 1, 2, 3, 5, 6, 8, 9, 10, 4, 7, 11, 12, 13], [0, 1, 2, 3, 5, 6, 8, 9, 10, 4, 12, 7, 11, 13], [0, 1, 2, 3, 5, 6, 8, 9, 10, 7, 4, 11, 12, 13], [0, 1, 2, 3, 5, 6, 8, 9, 10, 7, 12, 4, 11, 13], [0, 1, 2, 3, 5, 6, 8, 9, 10, 12, 4, 7, 11, 13], [0, 1, 2, 3, 5, 6, 8, 9, 10, 12, 7, 4, 11, 13], [0, 1, 2, 3, 5, 6, 8, 9, 12, 4, 7, 10, 11, 13], [0, 1, 2, 3, 5, 6, 8, 9, 12, 4, 10, 7, 11, 13], [0, 1, 2, 3, 5, 6, 8, 9, 12, 7, 4, 10, 11, 13], [0, 1, 2, 3, 5, 6, 8, 9, 12, 7, 10, 4, 11, 13], [0, 1, 2, 3, 5, 6, 8, 9, 12, 10, 4, 7, 11, 13], [0, 1, 2, 3, 5, 6, 8, 9, 12, 10, 7, 4, 11, 13]] (by decide +kernel) ?_
    iterate 8 (refine run_op rfl rfl rfl (by simp [boxA, AV.cells, AV.isCell]; exact .mk) ?_)
    iterate 3 (refine run_op rfl rfl rfl (by simp [boxA, AV.cells, AV.isCell, makeSliceA, elemD, maxLen, kinds, kDs, kD, Value.oneCell', makeSliceA, elemD, maxLen, kinds, kDs, kD, Value.oneCell', p1, p2, p3, p4, p5, p6, p7, p8, p9]; exact .mk) ?_)
    refine run_op rfl rfl rfl (by simp [boxA, AV.cells, AV.isCell, buildA, fillA, placesOf, splice, Value.oneCell', AV.cells, AV.isCell]; exact .mk) ?_
    refine run_op rfl rfl rfl (by simp [boxA, AV.cells, AV.isCell, allocA, Value.oneCell']; exact .mk) ?_
    refine run_op rfl rfl rfl (by simp [boxA, AV.cells, AV.isCell, storeA, AV.cells, AV.isCell, splice]; exact .mk) ?_
    refine run_end [1, 2, 4, 7] (by simp) (by simp; exact .mk) ?_
    refine ⟨_, rfl, ⟨?_, ?_, ?_, ?_, ?_, ?_, ?_, ?_, ?_, ?_, ?_, ?_, ?_, ?_, ?_, ?_, ?_, ?_, ?_, ?_, ?_, ?_, ?_, trivial⟩, ?_⟩
    · skip
      iterate 8 (refine run_op rfl rfl rfl (by simp [boxA, AV.cells, AV.isCell]; exact .mk) ?_)
      iterate 2 (refine run_op rfl rfl rfl (by simp [boxA, AV.cells, AV.isCell, makeSliceA, elemD, maxLen, kinds, kDs, kD, Value.oneCell', makeSliceA, elemD, maxLen, kinds, kDs, kD, Value.oneCell', p1, p2, p3, p4, p5, p6, p7, p8, p9]; exact .mk) ?_)
      refine run_op rfl rfl rfl (by simp [boxA, AV.cells, AV.isCell, allocA, Value.oneCell']; exact .mk) ?_
      refine run_op rfl rfl rfl (by simp [boxA, AV.cells, AV.isCell, makeSliceA, elemD, maxLen, kinds, kDs, kD, Value.oneCell', makeSliceA, elemD, maxLen, kinds, kDs, kD, Value.oneCell', p1, p2, p3, p4, p5, p6, p7, p8, p9]; exact .mk) ?_
      refine run_op rfl rfl rfl (by simp [boxA, AV.cells, AV.isCell, buildA, fillA, placesOf, splice, Value.oneCell', AV.cells, AV.isCell]; exact .mk) ?_
      refine run_op rfl rfl rfl (by simp [boxA, AV.cells, AV.isCell, storeA, AV.cells, AV.isCell, splice]; exact .mk) ?_
      refine run_end [1, 2, 4, 7] (by simp) (by simp; exact .mk) ?_
      exact Weak.perm [0, 1, 2, 3, 5, 4] [0, 1, 2, 3, 5, 4] rfl rfl rfl
    · skip
      iterate 8 (refine run_op rfl rfl rfl (by simp [boxA, AV.cells, AV.isCell]; exact .mk) ?_)
      iterate 3 (refine run_op rfl rfl rfl (by simp [boxA, AV.cells, AV.isCell, makeSliceA, elemD, maxLen, kinds, kDs, kD, Value.oneCell', makeSliceA, elemD, maxLen, kinds, kDs, kD, Value.oneCell', p1, p2, p3, p4, p5, p6, p7, p8, p9]; exact .mk) ?_)
      refine run_op rfl rfl rfl (by simp [boxA, AV.cells, AV.isCell, buildA, fillA, placesOf, splice, Value.oneCell', AV.cells, AV.isCell]; exact .mk) ?_
      refine run_op rfl rfl rfl (by simp [boxA, AV.cells, AV.isCell, allocA, Value.oneCell']; exact .mk) ?_
      refine run_op rfl rfl rfl (by simp [boxA, AV.cells, AV.isCell, storeA, AV.cells, AV.isCell, splice]; exact .mk) ?_
      refine run_end [1, 2, 4, 7] (by simp) (by simp; exact .mk) ?_
      exact Weak.perm [0, 1, 2, 4, 3, 5] [0, 1, 2, 4, 3, 5] rfl rfl rfl
    · skip
      iterate 8 (refine run_op rfl rfl rfl (by simp [boxA, AV.cells, AV.isCell]; exact .mk) ?_)
      iterate 2 (refine run_op rfl rfl rfl (by simp [boxA, AV.cells, AV.isCell, makeSliceA, elemD, maxLen, kinds, kDs, kD, Value.oneCell', makeSliceA, elemD, maxLen, kinds, kDs, kD, Value.oneCell', p1, p2, p3, p4, p5, p6, p7, p8, p9]; exact .mk) ?_)
      refine run_op rfl rfl rfl (by simp [boxA, AV.cells, AV.isCell, allocA, Value.oneCell']; exact .mk) ?_
      refine run_op rfl rfl rfl (by simp [boxA, AV.cells, AV.isCell, makeSliceA, elemD, maxLen, kinds, kDs, kD, Value.oneCell', makeSliceA, elemD, maxLen, kinds, kDs, kD, Value.oneCell', p1, p2, p3, p4, p5, p6, p7, p8, p9]; exact .mk) ?_
      refine run_op rfl rfl rfl (by simp [boxA, AV.cells, AV.isCell, buildA, fillA, placesOf, splice, Value.oneCell', AV.cells, AV.isCell]; exact .mk) ?_
      refine run_op rfl rfl rfl (by simp [boxA, AV.cells, AV.isCell, storeA, AV.cells, AV.isCell, splice]; exact .mk) ?_
      refine run_end [1, 2, 4, 7] (by simp) (by simp; exact .mk) ?_
      exact Weak.perm [0, 1, 2, 4, 5, 3] [0, 1, 2, 5, 3, 4] rfl rfl rfl
    · skip
      iterate 8 (refine run_op rfl rfl rfl (by simp [boxA, AV.cells, AV.isCell]; exact .mk) ?_)
      refine run_op rfl rfl rfl (by simp [boxA, AV.cells, AV.isCell, makeSliceA, elemD, maxLen, kinds, kDs, kD, Value.oneCell', makeSliceA, elemD, maxLen, kinds, kDs, kD, Value.oneCell', p1, p2, p3, p4, p5, p6, p7, p8, p9]; exact .mk) ?_
      refine run_op rfl rfl rfl (by simp [boxA, AV.cells, AV.isCell, allocA, Value.oneCell']; exact .mk) ?_
      iterate 2 (refine run_op rfl rfl rfl (by simp [boxA, AV.cells, AV.isCell, makeSliceA, elemD, maxLen, kinds, kDs, kD, Value.oneCell', makeSliceA, elemD, maxLen, kinds, kDs, kD, Value.oneCell', p1, p2, p3, p4, p5, p6, p7, p8, p9]; exact .mk) ?_)
      refine run_op rfl rfl rfl (by simp [boxA, AV.cells, AV.isCell, buildA, fillA, placesOf, splice, Value.oneCell', AV.cells, AV.isCell]; exact .mk) ?_
      refine run_op rfl rfl rfl (by simp [boxA, AV.cells, AV.isCell, storeA, AV.cells, AV.isCell, splice]; exact .mk) ?_
      refine run_end [1, 2, 4, 7] (by simp) (by simp; exact .mk) ?_
      exact Weak.perm [0, 1, 2, 5, 3, 4] [0, 1, 2, 4, 5, 3] rfl rfl rfl
    · skip
      iterate 8 (refine run_op rfl rfl rfl (by simp [boxA, AV.cells, AV.isCell]; exact .mk) ?_)
      refine run_op rfl rfl rfl (by simp [boxA, AV.cells, AV.isCell, makeSliceA, elemD, maxLen, kinds, kDs, kD, Value.oneCell', makeSliceA, elemD, maxLen, kinds, kDs, kD, Value.oneCell', p1, p2, p3, p4, p5, p6, p7, p8, p9]; exact .mk) ?_
      refine run_op rfl rfl rfl (by simp [boxA, AV.cells, AV.isCell, allocA, Value.oneCell']; exact .mk) ?_
      iterate 2 (refine run_op rfl rfl rfl (by simp [boxA, AV.cells, AV.isCell, makeSliceA, elemD, maxLen, kinds, kDs, kD, Value.oneCell', makeSliceA, elemD, maxLen, kinds, kDs, kD, Value.oneCell', p1, p2, p3, p4, p5, p6, p7, p8, p9]; exact .mk) ?_)
      refine run_op rfl rfl rfl (by simp [boxA, AV.cells, AV.isCell, buildA, fillA, placesOf, splice, Value.oneCell', AV.cells, AV.isCell]; exact .mk) ?_
      refine run_op rfl rfl rfl (by simp [boxA, AV.cells, AV.isCell, storeA, AV.cells, AV.isCell, splice]; exact .mk) ?_
      refine run_end [1, 2, 4, 7] (by simp) (by simp; exact .mk) ?_
      exact Weak.perm [0, 1, 2, 5, 4, 3] [0, 1, 2, 5, 4, 3] rfl rfl rfl
    · skip
      iterate 8 (refine run_op rfl rfl rfl (by simp [boxA, AV.cells, AV.isCell]; exact .mk) ?_)
      iterate 3 (refine run_op rfl rfl rfl (by simp [boxA, AV.cells, AV.isCell, makeSliceA, elemD, maxLen, kinds, kDs, kD, Value.oneCell', makeSliceA, elemD, maxLen, kinds, kDs, kD, Value.oneCell', p1, p2, p3, p4, p5, p6, p7, p8, p9]; exact .mk) ?_)
      refine run_op rfl rfl rfl (by simp [boxA, AV.cells, AV.isCell, buildA, fillA, placesOf, splice, Value.oneCell', AV.cells, AV.isCell]; exact .mk) ?_
      refine run_op rfl rfl rfl (by simp [boxA, AV.cells, AV.isCell, allocA, Value.oneCell']; exact .mk) ?_
      refine run_op rfl rfl rfl (by simp [boxA, AV.cells, AV.isCell, storeA, AV.cells, AV.isCell, splice]; exact .mk) ?_
      refine run_end [1, 2, 4, 7] (by simp) (by simp; exact .mk) ?_
      exact Weak.perm [0, 1, 3, 2, 4, 5] [0, 1, 3, 2, 4, 5] rfl rfl rfl
    · skip
      iterate 8 (refine run_op rfl rfl rfl (by simp [boxA, AV.cells, AV.isCell]; exact .mk) ?_)
      iterate 2 (refine run_op rfl rfl rfl (by simp [boxA, AV.cells, AV.isCell, makeSliceA, elemD, maxLen, kinds, kDs, kD, Value.oneCell', makeSliceA, elemD, maxLen, kinds, kDs, kD, Value.oneCell', p1, p2, p3, p4, p5, p6, p7, p8, p9]; exact .mk) ?_)
      refine run_op rfl rfl rfl (by simp [boxA, AV.cells, AV.isCell, allocA, Value.oneCell']; exact .mk) ?_
      refine run_op rfl rfl rfl (by simp [boxA, AV.cells, AV.isCell, makeSliceA, elemD, maxLen, kinds, kDs, kD, Value.oneCell', makeSliceA, elemD, maxLen, kinds, kDs, kD, Value.oneCell', p1, p2, p3, p4, p5, p6, p7, p8, p9]; exact .mk) ?_
      refine run_op rfl rfl rfl (by simp [boxA, AV.cells, AV.isCell, buildA, fillA, placesOf, splice, Value.oneCell', AV.cells, AV.isCell]; exact .mk) ?_
      refine run_op rfl rfl rfl (by simp [boxA, AV.cells, AV.isCell, storeA, AV.cells, AV.isCell, splice]; exact .mk) ?_
      refine run_end [1, 2, 4, 7] (by simp) (by simp; exact .mk) ?_
      exact Weak.perm [0, 1, 3, 2, 5, 4] [0, 1, 3, 2, 5, 4] rfl rfl rfl
    · skip
      iterate 8 (refine run_op rfl rfl rfl (by simp [boxA, AV.cells, AV.isCell]; exact .mk) ?_)
      iterate 3 (refine run_op rfl rfl rfl (by simp [boxA, AV.cells, AV.isCell, makeSliceA, elemD, maxLen, kinds, kDs, kD, Value.oneCell', makeSliceA, elemD, maxLen, kinds, kDs, kD, Value.oneCell', p1, p2, p3, p4, p5, p6, p7, p8, p9]; exact .mk) ?_)
      refine run_op rfl rfl rfl (by simp [boxA, AV.cells, AV.isCell, buildA, fillA, placesOf, splice, Value.oneCell', AV.cells, AV.isCell]; exact .mk) ?_
      refine run_op rfl rfl rfl (by simp [boxA, AV.cells, AV.isCell, allocA, Value.oneCell']; exact .mk) ?_
      refine run_op rfl rfl rfl (by simp [boxA, AV.cells, AV.isCell, storeA, AV.cells, AV.isCell, splice]; exact .mk) ?_
      refine run_end [1, 2, 4, 7] (by simp) (by simp; exact .mk) ?_
      exact Weak.perm [0, 1, 3, 4, 2, 5] [0, 1, 4, 2, 3, 5] rfl rfl rfl
    · skip
      iterate 8 (refine run_op rfl rfl rfl (by simp [boxA, AV.cells, AV.isCell]; exact .mk) ?_)
      iterate 2 (refine run_op rfl rfl rfl (by simp [boxA, AV.cells, AV.isCell, makeSliceA, elemD, maxLen, kinds, kDs, kD, Value.oneCell', makeSliceA, elemD, maxLen, kinds, kDs, kD, Value.oneCell', p1, p2, p3, p4, p5, p6, p7, p8, p9]; exact .mk) ?_)
      refine run_op rfl rfl rfl (by simp [boxA, AV.cells, AV.isCell, allocA, Value.oneCell']; exact .mk) ?_
      refine run_op rfl rfl rfl (by simp [boxA, AV.cells, AV.isCell, makeSliceA, elemD, maxLen, kinds, kDs, kD, Value.oneCell', makeSliceA, elemD, maxLen, kinds, kDs, kD, Value.oneCell', p1, p2, p3, p4, p5, p6, p7, p8, p9]; exact .mk) ?_
      refine run_op rfl rfl rfl (by simp [boxA, AV.cells, AV.isCell, buildA, fillA, placesOf, splice, Value.oneCell', AV.cells, AV.isCell]; exact .mk) ?_
      refine run_op rfl rfl rfl (by simp [boxA, AV.cells, AV.isCell, storeA, AV.cells, AV.isCell, splice]; exact .mk) ?_
      refine run_end [1, 2, 4, 7] (by simp) (by simp; exact .mk) ?_
      exact Weak.perm [0, 1, 3, 4, 5, 2] [0, 1, 5, 2, 3, 4] rfl rfl rfl
    · skip
      iterate 8 (refine run_op rfl rfl rfl (by simp [boxA, AV.cells, AV.isCell]; exact .mk) ?_)
      refine run_op rfl rfl rfl (by simp [boxA, AV.cells, AV.isCell, makeSliceA, elemD, maxLen, kinds, kDs, kD, Value.oneCell', makeSliceA, elemD, maxLen, kinds, kDs, kD, Value.oneCell', p1, p2, p3, p4, p5, p6, p7, p8, p9]; exact .mk) ?_
      refine run_op rfl rfl rfl (by simp [boxA, AV.cells, AV.isCell, allocA, Value.oneCell']; exact .mk) ?_
      iterate 2 (refine run_op rfl rfl rfl (by simp [boxA, AV.cells, AV.isCell, makeSliceA, elemD, maxLen, kinds, kDs, kD, Value.oneCell', makeSliceA, elemD, maxLen, kinds, kDs, kD, Value.oneCell', p1, p2, p3, p4, p5, p6, p7, p8, p9]; exact .mk) ?_)
      refine run_op rfl rfl rfl (by simp [boxA, AV.cells, AV.isCell, buildA, fillA, placesOf, splice, Value.oneCell', AV.cells, AV.isCell]; exact .mk) ?_
      refine run_op rfl rfl rfl (by simp [boxA, AV.cells, AV.isCell, storeA, AV.cells, AV.isCell, splice]; exact .mk) ?_
      refine run_end [1, 2, 4, 7] (by simp) (by simp; exact .mk) ?_
      exact Weak.perm [0, 1, 3, 5, 2, 4] [0, 1, 4, 2, 5, 3] rfl rfl rfl
    · skip
      iterate 8 (refine run_op rfl rfl rfl (by simp [boxA, AV.cells, AV.isCell]; exact .mk) ?_)
      refine run_op rfl rfl rfl (by simp [boxA, AV.cells, AV.isCell, makeSliceA, elemD, maxLen, kinds, kDs, kD, Value.oneCell', makeSliceA, elemD, maxLen, kinds, kDs, kD, Value.oneCell', p1, p2, p3, p4, p5, p6, p7, p8, p9]; exact .mk) ?_
      refine run_op rfl rfl rfl (by simp [boxA, AV.cells, AV.isCell, allocA, Value.oneCell']; exact .mk) ?_
      iterate 2 (refine run_op rfl rfl rfl (by simp [boxA, AV.cells, AV.isCell, makeSliceA, elemD, maxLen, kinds, kDs, kD, Value.oneCell', makeSliceA, elemD, maxLen, kinds, kDs, kD, Value.oneCell', p1, p2, p3, p4, p5, p6, p7, p8, p9]; exact .mk) ?_)
      refine run_op rfl rfl rfl (by simp [boxA, AV.cells, AV.isCell, buildA, fillA, placesOf, splice, Value.oneCell', AV.cells, AV.isCell]; exact .mk) ?_
      refine run_op rfl rfl rfl (by simp [boxA, AV.cells, AV.isCell, storeA, AV.cells, AV.isCell, splice]; exact .mk) ?_
      refine run_end [1, 2, 4, 7] (by simp) (by simp; exact .mk) ?_
      exact Weak.perm [0, 1, 3, 5, 4, 2] [0, 1, 5, 2, 4, 3] rfl rfl rfl
    · skip
      iterate 8 (refine run_op rfl rfl rfl (by simp [boxA, AV.cells, AV.isCell]; exact .mk) ?_)
      iterate 3 (refine run_op rfl rfl rfl (by simp [boxA, AV.cells, AV.isCell, makeSliceA, elemD, maxLen, kinds, kDs, kD, Value.oneCell', makeSliceA, elemD, maxLen, kinds, kDs, kD, Value.oneCell', p1, p2, p3, p4, p5, p6, p7, p8, p9]; exact .mk) ?_)
      refine run_op rfl rfl rfl (by simp [boxA, AV.cells, AV.isCell, buildA, fillA, placesOf, splice, Value.oneCell', AV.cells, AV.isCell]; exact .mk) ?_
      refine run_op rfl rfl rfl (by simp [boxA, AV.cells, AV.isCell, allocA, Value.oneCell']; exact .mk) ?_
      refine run_op rfl rfl rfl (by simp [boxA, AV.cells, AV.isCell, storeA, AV.cells, AV.isCell, splice]; exact .mk) ?_
      refine run_end [1, 2, 4, 7] (by simp) (by simp; exact .mk) ?_
      exact Weak.perm [0, 1, 4, 2, 3, 5] [0, 1, 3, 4, 2, 5] rfl rfl rfl
    · skip
      iterate 8 (refine run_op rfl rfl rfl (by simp [boxA, AV.cells, AV.isCell]; exact .mk) ?_)
      iterate 2 (refine run_op rfl rfl rfl (by simp [boxA, AV.cells, AV.isCell, makeSliceA, elemD, maxLen, kinds, kDs, kD, Value.oneCell', makeSliceA, elemD, maxLen, kinds, kDs, kD, Value.oneCell', p1, p2, p3, p4, p5, p6, p7, p8, p9]; exact .mk) ?_)
      refine run_op rfl rfl rfl (by simp [boxA, AV.cells, AV.isCell, allocA, Value.oneCell']; exact .mk) ?_
      refine run_op rfl rfl rfl (by simp [boxA, AV.cells, AV.isCell, makeSliceA, elemD, maxLen, kinds, kDs, kD, Value.oneCell', makeSliceA, elemD, maxLen, kinds, kDs, kD, Value.oneCell', p1, p2, p3, p4, p5, p6, p7, p8, p9]; exact .mk) ?_
      refine run_op rfl rfl rfl (by simp [boxA, AV.cells, AV.isCell, buildA, fillA, placesOf, splice, Value.oneCell', AV.cells, AV.isCell]; exact .mk) ?_
      refine run_op rfl rfl rfl (by simp [boxA, AV.cells, AV.isCell, storeA, AV.cells, AV.isCell, splice]; exact .mk) ?_
      refine run_end [1, 2, 4, 7] (by simp) (by simp; exact .mk) ?_
      exact Weak.perm [0, 1, 4, 2, 5, 3] [0, 1, 3, 5, 2, 4] rfl rfl rfl
    · skip
      iterate 8 (refine run_op rfl rfl rfl (by simp [boxA, AV.cells, AV.isCell]; exact .mk) ?_)
      iterate 3 (refine run_op rfl rfl rfl (by simp [boxA, AV.cells, AV.isCell, makeSliceA, elemD, maxLen, kinds, kDs, kD, Value.oneCell', makeSliceA, elemD, maxLen, kinds, kDs, kD, Value.oneCell', p1, p2, p3, p4, p5, p6, p7, p8, p9]; exact .mk) ?_)
      refine run_op rfl rfl rfl (by simp [boxA, AV.cells, AV.isCell, buildA, fillA, placesOf, splice, Value.oneCell', AV.cells, AV.isCell]; exact .mk) ?_
      refine run_op rfl rfl rfl (by simp [boxA, AV.cells, AV.isCell, allocA, Value.oneCell']; exact .mk) ?_
      refine run_op rfl rfl rfl (by simp [boxA, AV.cells, AV.isCell, storeA, AV.cells, AV.isCell, splice]; exact .mk) ?_
      refine run_end [1, 2, 4, 7] (by simp) (by simp; exact .mk) ?_
      exact Weak.perm [0, 1, 4, 3, 2, 5] [0, 1, 4, 3, 2, 5] rfl rfl rfl
    · skip
      iterate 8 (refine run_op rfl rfl rfl (by simp [boxA, AV.cells, AV.isCell]; exact .mk) ?_)
      iterate 2 (refine run_op rfl rfl rfl (by simp [boxA, AV.cells, AV.isCell, makeSliceA, elemD, maxLen, kinds, kDs, kD, Value.oneCell', makeSliceA, elemD, maxLen, kinds, kDs, kD, Value.oneCell', p1, p2, p3, p4, p5, p6, p7, p8, p9]; exact .mk) ?_)
      refine run_op rfl rfl rfl (by simp [boxA, AV.cells, AV.isCell, allocA, Value.oneCell']; exact .mk) ?_
      refine run_op rfl rfl rfl (by simp [boxA, AV.cells, AV.isCell, makeSliceA, elemD, maxLen, kinds, kDs, kD, Value.oneCell', makeSliceA, elemD, maxLen, kinds, kDs, kD, Value.oneCell', p1, p2, p3, p4, p5, p6, p7, p8, p9]; exact .mk) ?_
      refine run_op rfl rfl rfl (by simp [boxA, AV.cells, AV.isCell, buildA, fillA, placesOf, splice, Value.oneCell', AV.cells, AV.isCell]; exact .mk) ?_
      refine run_op rfl rfl rfl (by simp [boxA, AV.cells, AV.isCell, storeA, AV.cells, AV.isCell, splice]; exact .mk) ?_
      refine run_end [1, 2, 4, 7] (by simp) (by simp; exact .mk) ?_
      exact Weak.perm [0, 1, 4, 3, 5, 2] [0, 1, 5, 3, 2, 4] rfl rfl rfl
    · skip
      iterate 8 (refine run_op rfl rfl rfl (by simp [boxA, AV.cells, AV.isCell]; exact .mk) ?_)
      refine run_op rfl rfl rfl (by simp [boxA, AV.cells, AV.isCell, makeSliceA, elemD, maxLen, kinds, kDs, kD, Value.oneCell', makeSliceA, elemD, maxLen, kinds, kDs, kD, Value.oneCell', p1, p2, p3, p4, p5, p6, p7, p8, p9]; exact .mk) ?_
      refine run_op rfl rfl rfl (by simp [boxA, AV.cells, AV.isCell, allocA, Value.oneCell']; exact .mk) ?_
      iterate 2 (refine run_op rfl rfl rfl (by simp [boxA, AV.cells, AV.isCell, makeSliceA, elemD, maxLen, kinds, kDs, kD, Value.oneCell', makeSliceA, elemD, maxLen, kinds, kDs, kD, Value.oneCell', p1, p2, p3, p4, p5, p6, p7, p8, p9]; exact .mk) ?_)
      refine run_op rfl rfl rfl (by simp [boxA, AV.cells, AV.isCell, buildA, fillA, placesOf, splice, Value.oneCell', AV.cells, AV.isCell]; exact .mk) ?_
      refine run_op rfl rfl rfl (by simp [boxA, AV.cells, AV.isCell, storeA, AV.cells, AV.isCell, splice]; exact .mk) ?_
      refine run_end [1, 2, 4, 7] (by simp) (by simp; exact .mk) ?_
      exact Weak.perm [0, 1, 4, 5, 2, 3] [0, 1, 4, 5, 2, 3] rfl rfl rfl
    · skip
      iterate 8 (refine run_op rfl rfl rfl (by simp [boxA, AV.cells, AV.isCell]; exact .mk) ?_)
      refine run_op rfl rfl rfl (by simp [boxA, AV.cells, AV.isCell, makeSliceA, elemD, maxLen, kinds, kDs, kD, Value.oneCell', makeSliceA, elemD, maxLen, kinds, kDs, kD, Value.oneCell', p1, p2, p3, p4, p5, p6, p7, p8, p9]; exact .mk) ?_
      refine run_op rfl rfl rfl (by simp [boxA, AV.cells, AV.isCell, allocA, Value.oneCell']; exact .mk) ?_
      iterate 2 (refine run_op rfl rfl rfl (by simp [boxA, AV.cells, AV.isCell, makeSliceA, elemD, maxLen, kinds, kDs, kD, Value.oneCell', makeSliceA, elemD, maxLen, kinds, kDs, kD, Value.oneCell', p1, p2, p3, p4, p5, p6, p7, p8, p9]; exact .mk) ?_)
      refine run_op rfl rfl rfl (by simp [boxA, AV.cells, AV.isCell, buildA, fillA, placesOf, splice, Value.oneCell', AV.cells, AV.isCell]; exact .mk) ?_
      refine run_op rfl rfl rfl (by simp [boxA, AV.cells, AV.isCell, storeA, AV.cells, AV.isCell, splice]; exact .mk) ?_
      refine run_end [1, 2, 4, 7] (by simp) (by simp; exact .mk) ?_
      exact Weak.perm [0, 1, 4, 5, 3, 2] [0, 1, 5, 4, 2, 3] rfl rfl rfl
    · skip
      iterate 8 (refine run_op rfl rfl rfl (by simp [boxA, AV.cells, AV.isCell]; exact .mk) ?_)
      refine run_op rfl rfl rfl (by simp [boxA, AV.cells, AV.isCell, allocA, Value.oneCell']; exact .mk) ?_
      iterate 3 (refine run_op rfl rfl rfl (by simp [boxA, AV.cells, AV.isCell, makeSliceA, elemD, maxLen, kinds, kDs, kD, Value.oneCell', makeSliceA, elemD, maxLen, kinds, kDs, kD, Value.oneCell', p1, p2, p3, p4, p5, p6, p7, p8, p9]; exact .mk) ?_)
      refine run_op rfl rfl rfl (by simp [boxA, AV.cells, AV.isCell, buildA, fillA, placesOf, splice, Value.oneCell', AV.cells, AV.isCell]; exact .mk) ?_
      refine run_op rfl rfl rfl (by simp [boxA, AV.cells, AV.isCell, storeA, AV.cells, AV.isCell, splice]; exact .mk) ?_
      refine run_end [1, 2, 4, 7] (by simp) (by simp; exact .mk) ?_
      exact Weak.perm [0, 1, 5, 2, 3, 4] [0, 1, 3, 4, 5, 2] rfl rfl rfl
    · skip
      iterate 8 (refine run_op rfl rfl rfl (by simp [boxA, AV.cells, AV.isCell]; exact .mk) ?_)
      refine run_op rfl rfl rfl (by simp [boxA, AV.cells, AV.isCell, allocA, Value.oneCell']; exact .mk) ?_
      iterate 3 (refine run_op rfl rfl rfl (by simp [boxA, AV.cells, AV.isCell, makeSliceA, elemD, maxLen, kinds, kDs, kD, Value.oneCell', makeSliceA, elemD, maxLen, kinds, kDs, kD, Value.oneCell', p1, p2, p3, p4, p5, p6, p7, p8, p9]; exact .mk) ?_)
      refine run_op rfl rfl rfl (by simp [boxA, AV.cells, AV.isCell, buildA, fillA, placesOf, splice, Value.oneCell', AV.cells, AV.isCell]; exact .mk) ?_
      refine run_op rfl rfl rfl (by simp [boxA, AV.cells, AV.isCell, storeA, AV.cells, AV.isCell, splice]; exact .mk) ?_
      refine run_end [1, 2, 4, 7] (by simp) (by simp; exact .mk) ?_
      exact Weak.perm [0, 1, 5, 2, 4, 3] [0, 1, 3, 5, 4, 2] rfl rfl rfl
    · skip
      iterate 8 (refine run_op rfl rfl rfl (by simp [boxA, AV.cells, AV.isCell]; exact .mk) ?_)
      refine run_op rfl rfl rfl (by simp [boxA, AV.cells, AV.isCell, allocA, Value.oneCell']; exact .mk) ?_
      iterate 3 (refine run_op rfl rfl rfl (by simp [boxA, AV.cells, AV.isCell, makeSliceA, elemD, maxLen, kinds, kDs, kD, Value.oneCell', makeSliceA, elemD, maxLen, kinds, kDs, kD, Value.oneCell', p1, p2, p3, p4, p5, p6, p7, p8, p9]; exact .mk) ?_)
      refine run_op rfl rfl rfl (by simp [boxA, AV.cells, AV.isCell, buildA, fillA, placesOf, splice, Value.oneCell', AV.cells, AV.isCell]; exact .mk) ?_
      refine run_op rfl rfl rfl (by simp [boxA, AV.cells, AV.isCell, storeA, AV.cells, AV.isCell, splice]; exact .mk) ?_
      refine run_end [1, 2, 4, 7] (by simp) (by simp; exact .mk) ?_
      exact Weak.perm [0, 1, 5, 3, 2, 4] [0, 1, 4, 3, 5, 2] rfl rfl rfl
    · skip
      iterate 8 (refine run_op rfl rfl rfl (by simp [boxA, AV.cells, AV.isCell]; exact .mk) ?_)
      refine run_op rfl rfl rfl (by simp [boxA, AV.cells, AV.isCell, allocA, Value.oneCell']; exact .mk) ?_
      iterate 3 (refine run_op rfl rfl rfl (by simp [boxA, AV.cells, AV.isCell, makeSliceA, elemD, maxLen, kinds, kDs, kD, Value.oneCell', makeSliceA, elemD, maxLen, kinds, kDs, kD, Value.oneCell', p1, p2, p3, p4, p5, p6, p7, p8, p9]; exact .mk) ?_)
      refine run_op rfl rfl rfl (by simp [boxA, AV.cells, AV.isCell, buildA, fillA, placesOf, splice, Value.oneCell', AV.cells, AV.isCell]; exact .mk) ?_
      refine run_op rfl rfl rfl (by simp [boxA, AV.cells, AV.isCell, storeA, AV.cells, AV.isCell, splice]; exact .mk) ?_
      refine run_end [1, 2, 4, 7] (by simp) (by simp; exact .mk) ?_
      exact Weak.perm [0, 1, 5, 3, 4, 2] [0, 1, 5, 3, 4, 2] rfl rfl rfl
    · skip
      iterate 8 (refine run_op rfl rfl rfl (by simp [boxA, AV.cells, AV.isCell]; exact .mk) ?_)
      refine run_op rfl rfl rfl (by simp [boxA, AV.cells, AV.isCell, allocA, Value.oneCell']; exact .mk) ?_
      iterate 3 (refine run_op rfl rfl rfl (by simp [boxA, AV.cells, AV.isCell, makeSliceA, elemD, maxLen, kinds, kDs, kD, Value.oneCell', makeSliceA, elemD, maxLen, kinds, kDs, kD, Value.oneCell', p1, p2, p3, p4, p5, p6, p7, p8, p9]; exact .mk) ?_)
      refine run_op rfl rfl rfl (by simp [boxA, AV.cells, AV.isCell, buildA, fillA, placesOf, splice, Value.oneCell', AV.cells, AV.isCell]; exact .mk) ?_
      refine run_op rfl rfl rfl (by simp [boxA, AV.cells, AV.isCell, storeA, AV.cells, AV.isCell, splice]; exact .mk) ?_
      refine run_end [1, 2, 4, 7] (by simp) (by simp; exact .mk) ?_
      exact Weak.perm [0, 1, 5, 4, 2, 3] [0, 1, 4, 5, 3, 2] rfl rfl rfl
    · skip
      iterate 8 (refine run_op rfl rfl rfl (by simp [boxA, AV.cells, AV.isCell]; exact .mk) ?_)
      refine run_op rfl rfl rfl (by simp [boxA, AV.cells, AV.isCell, allocA, Value.oneCell']; exact .mk) ?_
      iterate 3 (refine run_op rfl rfl rfl (by simp [boxA, AV.cells, AV.isCell, makeSliceA, elemD, maxLen, kinds, kDs, kD, Value.oneCell', makeSliceA, elemD, maxLen, kinds, kDs, kD, Value.oneCell', p1, p2, p3, p4, p5, p6, p7, p8, p9]; exact .mk) ?_)
      refine run_op rfl rfl rfl (by simp [boxA, AV.cells, AV.isCell, buildA, fillA, placesOf, splice, Value.oneCell', AV.cells, AV.isCell]; exact .mk) ?_
      refine run_op rfl rfl rfl (by simp [boxA, AV.cells, AV.isCell, storeA, AV.cells, AV.isCell, splice]; exact .mk) ?_
      refine run_end [1, 2, 4, 7] (by simp) (by simp; exact .mk) ?_
      exact Weak.perm [0, 1, 5, 4, 3, 2] [0, 1, 5, 4, 3, 2] rfl rfl rfl
    rintro -
    refine W_seq ?_
    refine W_seq ?_
    refine W_reg rfl ?_
    refine run_op rfl rfl rfl (by simp [boxA, AV.cells, AV.isCell]; exact .mk) ?_
    refine run_op rfl rfl rfl (by simp [boxA, AV.cells, AV.isCell, eqA, eqFs, isStructTy, eqlNeq, strOp, isBoolTy, isPtrTy, isFnTy]; exact .mk) ?_
    refine run_end [2, 4, 7, 34] (by simp) (by simp; exact .mk) ?_
    rintro -
    refine W_cond rfl ?_ ?_
    · intro h34
      have hb : baseOf sh mode = sh.pages := by rw [baseOf, if_pos (by simpa using h34)]
      refine W_reg rfl ?_
      iterate 3 (refine run_op rfl rfl rfl (by simp [boxA, AV.cells, AV.isCell]; exact .mk) ?_)
      refine run_op rfl rfl rfl (by simp [boxA, AV.cells, AV.isCell, storeA, AV.cells, AV.isCell, splice]; exact .mk) ?_
      refine run_end [4, 7] (by simp) (by simp; exact .mk) ?_
      rintro -
      refine W_seq ?_
      refine W_reg rfl ?_
      refine run_op rfl rfl rfl (by simp [boxA, AV.cells, AV.isCell]; exact .mk) ?_
      refine run_op rfl rfl rfl (by simp [boxA, AV.cells, AV.isCell, storeA, AV.cells, AV.isCell, splice]; exact .mk) ?_
      refine run_op rfl rfl rfl (by simp [boxA, AV.cells, AV.isCell]; exact .mk) ?_
      refine run_end [4, 5] (by simp) (by simp; exact .mk) ?_
      rintro -
      refine W_ret ?_
      refine end_ret (by simp [boxA, AV.cells, AV.isCell, Try.f36]; exact .mk) (by simp [boxA, AV.cells, AV.isCell, cl, cls]; exact .mk) ?_ (by simp [boxA, AV.cells, AV.isCell, D.noSn, oStt])
      first | (simp [nrmR, nrmRs, nrmK, kindsOf, kinds, Try.f36, hr, oStt, zStt, ownR]; done) | simp [nrmR, nrmRs, nrmK, kindsOf, kinds, Try.f36, hr, oStt, zStt, firstStt, hb, ownR, eSlot, zSlot, eRoot, zRoot]
    · intro h34
      have hb : baseOf sh mode = 0 := by rw [baseOf, if_neg (by simpa using h34)]
      refine W_skip ?_
      rintro -
      refine W_seq ?_
      refine W_reg rfl ?_
      refine run_op rfl rfl rfl (by simp [boxA, AV.cells, AV.isCell]; exact .mk) ?_
      refine run_op rfl rfl rfl (by simp [boxA, AV.cells, AV.isCell, storeA, AV.cells, AV.isCell, splice]; exact .mk) ?_
      refine run_op rfl rfl rfl (by simp [boxA, AV.cells, AV.isCell]; exact .mk) ?_
      refine run_end [4, 5] (by simp) (by simp; exact .mk) ?_
      rintro -
      refine W_ret ?_
      refine end_ret (by simp [boxA, AV.cells, AV.isCell, Try.f36]; exact .mk) (by simp [boxA, AV.cells, AV.isCell, cl, cls]; exact .mk) ?_ (by simp [boxA, AV.cells, AV.isCell, D.noSn, oStt])
      first | (simp [nrmR, nrmRs, nrmK, kindsOf, kinds, Try.f36, hr, oStt, zStt, ownR]; done) | simp [nrmR, nrmRs, nrmK, kindsOf, kinds, Try.f36, hr, oStt, zStt, firstStt, hb, ownR, eSlot, zSlot, eRoot, zRoot]

end Go.Proofs

set_option linter.unusedSimpArgs false
set_option linter.unusedVariables false
set_option maxHeartbeats 4000000
set_option maxRecDepth 4000
namespace Go.Proofs
open Go.Awp
theorem ct70 (g : Gl) (x y : List Slot) (hx : x.length ≤ 2^40) : CtAt Try.prog g 70 [rSl x, rSl y] (.v (.bool (sameL sameSlot x y))) := by
  refine ctAt_of_W Try.func70 rfl rfl (Nat.le_of_ble_eq_true rfl) fun B S => ?_
  refine W_seq ?_
  refine W_reg rfl ?_
  refine run_op rfl rfl rfl (by simp; exact .mk) ?_
  refine run_end [0, 1] (by simp) (by simp; exact .mk) ?_
  rintro -
  refine W_seq ?_
  refine W_seq ?_
  refine W_reg rfl ?_
  iterate 4 (refine run_op rfl rfl rfl (by simp; exact .mk) ?_)
  refine run_op rfl rfl rfl (by simp [eqA, eqFs, isStructTy, eqlNeq, strOp, isBoolTy, isPtrTy, isFnTy]; exact .mk) ?_
  refine run_end [0, 1, 10] (by simp) (by simp; exact .mk) ?_
  rintro -
  refine W_cond rfl ?_ ?_
  · intro h10
    have hr : sameL sameSlot x y = false := sameL_len (by simp at h10; omega)
    refine W_seq ?_
    refine W_reg rfl ?_
    refine run_op rfl rfl rfl (by simp; exact .mk) ?_
    refine run_end [4] (by simp) (by simp; exact .mk) ?_
    rintro -
    refine W_ret ?_
    refine end_ret (by simp [Try.f70]; exact .mk) (by simp [cl, cls]; exact .mk) ?_ (by simp [D.noSn])
    simp [nrmR, nrmRs, nrmK, kindsOf, kinds, Try.f70, hr]
  · intro h10
    have hxy : x.length = y.length := by simp at h10; omega
    refine W_skip ?_
    rintro -
    refine W_seq ?_
    refine W_seq ?_
    refine W_reg rfl ?_
    refine run_op rfl rfl rfl (by simp; exact .mk) ?_
    refine run_end [0, 1, 5] (by simp) (by simp; exact .mk) ?_
    rintro -
    refine W_block ?_
    refine W_rounds (fun m σ o => ∃ i : Nat, m = x.length - i ∧ i ≤ x.length ∧ (∀ j, j < i → sameSlot (nth x j) (nth y j) = true) ∧ σ = slots [(0, .d (rSl x)), (1, .d (rSl y)), (5, .d (vI i))] ∧ o = []) x.length .refl ⟨0, by simp, by simp, by simp, rfl, rfl⟩ ?_
    rintro m σ o ⟨i, rfl, hi, hinv, rfl, rfl⟩ _
    refine W_seq ?_
    refine W_seq ?_
    refine W_reg rfl ?_
    iterate 3 (refine run_op rfl rfl rfl (by simp; exact .mk) ?_)
    refine run_op rfl rfl rfl (by simp [eqA, eqFs, isStructTy, eqlNeq, strOp, isBoolTy, isPtrTy, isFnTy]; exact .mk) ?_
    refine run_end [0, 1, 5, 14] (by simp) (by simp; exact .mk) ?_
    rintro -
    refine W_cond rfl ?_ ?_
    · intro h14
      have h2 : i < x.length := by simpa using h14
      have h3 : i < y.length := by omega
      refine W_skip ?_
      rintro -
      refine W_seq ?_
      refine W_block ?_
      refine W_seq ?_
      refine W_regD (by kernel_rfl) [] 4 [0, 1, 2, 3, 4, 5, 6, 7, 8] (by decide +kernel) ?_
      iterate 2 (refine run_op rfl rfl rfl (by simp; exact .mk) ?_)
      refine run_op rfl rfl rfl (by simp [eSlot, *]; exact .mk) ?_
      refine run_op rfl rfl rfl (by simp [eSlot]; exact .mk) ?_
      iterate 2 (refine run_op rfl rfl rfl (by simp; exact .mk) ?_)
      refine run_op rfl rfl rfl (by simp [eSlot, *]; exact .mk) ?_
      refine run_op rfl rfl rfl (by simp [eSlot]; exact .mk) ?_
      refine run_op rfl rfl rfl (by simp [eqA, eqFs, isStructTy, eqlNeq, strOp, isBoolTy, isPtrTy, isFnTy]; exact .mk) ?_
      refine run_end [0, 1, 5, 25] (by simp) (by simp; exact .mk) ?_
      rintro -
      refine W_cond rfl ?_ ?_
      · intro h25
        have hr : sameL sameSlot x y = false := sameL_bad h2 (by simp [sameSlot] at h25 ⊢; grind)
        refine W_seq ?_
        refine W_reg rfl ?_
        refine run_op rfl rfl rfl (by simp; exact .mk) ?_
        refine run_end [4] (by simp) (by simp; exact .mk) ?_
        rintro -
        refine W_ret ?_
        refine end_ret (by simp [Try.f70]; exact .mk) (by simp [cl, cls]; exact .mk) ?_ (by simp [D.noSn])
        simp [nrmR, nrmRs, nrmK, kindsOf, kinds, Try.f70, hr]
      · intro h25
        refine W_skip ?_
        rintro -
        refine W_reg rfl ?_
        refine run_op rfl rfl rfl (by simp; exact .mk) ?_
        refine run_op rfl rfl rfl (by simp [eqA, eqFs, isStructTy, eqlNeq, strOp, isBoolTy, isPtrTy, isFnTy]; exact .mk) ?_
        refine run_op rfl rfl rfl (by simp; exact .mk) ?_
        refine run_end [0, 1, 5] (by simp) (by simp; exact .mk) ?_
        refine rounds_kill [0, 1, 5] ?_
        refine rounds_next (m' := x.length - (i+1)) (by omega) ⟨i+1, rfl, by omega, ?_, ?_, rfl⟩
        · intro j hj
          rcases Nat.lt_succ_iff_lt_or_eq.1 hj with hj | rfl
          · exact hinv j hj
          · simp [sameSlot] at h25 ⊢; grind
        · rw [wrap64 (by omega) (by omega)]; rfl
    · intro h14
      have hr : sameL sameSlot x y = true := sameL_good hxy (fun j hj => hinv j (by simp at h14; omega))
      refine W_exit ?_
      rintro -
      refine W_seq ?_
      refine W_reg rfl ?_
      refine run_op rfl rfl rfl (by simp; exact .mk) ?_
      refine run_end [4] (by simp) (by simp; exact .mk) ?_
      rintro -
      refine W_ret ?_
      refine end_ret (by simp [Try.f70]; exact .mk) (by simp [cl, cls]; exact .mk) ?_ (by simp [D.noSn])
      simp [nrmR, nrmRs, nrmK, kindsOf, kinds, Try.f70, hr]

theorem ct71 (g : Gl) (x y : List Slot) (hx : x.length ≤ 2^40) : CtAt Try.prog g 71 [rSl x, rSl y] (.v (.bool (sameL sameSlot x y))) := by
  refine ctAt_of_W Try.func71 rfl rfl (Nat.le_of_ble_eq_true rfl) fun B S => ?_
  refine W_seq ?_
  refine W_reg rfl ?_
  refine run_op rfl rfl rfl (by simp; exact .mk) ?_
  refine run_end [0, 1] (by simp) (by simp; exact .mk) ?_
  rintro -
  refine W_seq ?_
  refine W_seq ?_
  refine W_reg rfl ?_
  iterate 4 (refine run_op rfl rfl rfl (by simp; exact .mk) ?_)
  refine run_op rfl rfl rfl (by simp [eqA, eqFs, isStructTy, eqlNeq, strOp, isBoolTy, isPtrTy, isFnTy]; exact .mk) ?_
  refine run_end [0, 1, 10] (by simp) (by simp; exact .mk) ?_
  rintro -
  refine W_cond rfl ?_ ?_
  · intro h10
    have hr : sameL sameSlot x y = false := sameL_len (by simp at h10; omega)
    refine W_seq ?_
    refine W_reg rfl ?_
    refine run_op rfl rfl rfl (by simp; exact .mk) ?_
    refine run_end [4] (by simp) (by simp; exact .mk) ?_
    rintro -
    refine W_ret ?_
    refine end_ret (by simp [Try.f71]; exact .mk) (by simp [cl, cls]; exact .mk) ?_ (by simp [D.noSn])
    simp [nrmR, nrmRs, nrmK, kindsOf, kinds, Try.f71, hr]
  · intro h10
    have hxy : x.length = y.length := by simp at h10; omega
    refine W_skip ?_
    rintro -
    refine W_seq ?_
    refine W_seq ?_
    refine W_reg rfl ?_
    iterate 3 (refine run_op rfl rfl rfl (by simp; exact .mk) ?_)
    refine run_end [0, 1, 12, 13] (by simp) (by simp; exact .mk) ?_
    rintro -
    refine W_block ?_
    refine W_rounds (fun m σ o => ∃ i : Nat, m = x.length - i ∧ i ≤ x.length ∧ (∀ j, j < i → sameSlot (nth x j) (nth y j) = true) ∧ σ = slots [(0, .d (rSl x)), (1, .d (rSl y)), (12, .d (vI x.length)), (13, .d (vI i))] ∧ o = []) x.length .refl ⟨0, by simp, by simp, by simp, rfl, rfl⟩ ?_
    rintro m σ o ⟨i, rfl, hi, hinv, rfl, rfl⟩ _
    refine W_seq ?_
    refine W_reg rfl ?_
    refine run_op rfl rfl rfl (by simp [eqA, eqFs, isStructTy, eqlNeq, strOp, isBoolTy, isPtrTy, isFnTy]; exact .mk) ?_
    refine run_end [0, 1, 12, 13, 14] (by simp) (by simp; exact .mk) ?_
    rintro -
    refine W_seq ?_
    refine W_cond rfl ?_ ?_
    · intro h14
      have h2 : i < x.length := by simpa using h14
      have h3 : i < y.length := by omega
      refine W_skip ?_
      rintro -
      refine W_seq ?_
      refine W_block ?_
      refine W_seq ?_
      refine W_reg rfl ?_
      iterate 2 (refine run_op rfl rfl rfl (by simp; exact .mk) ?_)
      refine run_end [0, 1, 5, 12, 13] (by simp) (by simp; exact .mk) ?_
      rintro -
      refine W_seq ?_
      refine W_regD (by kernel_rfl) [] 4 [0, 1, 2, 3, 4, 5, 6, 7, 8] (by decide +kernel) ?_
      iterate 2 (refine run_op rfl rfl rfl (by simp; exact .mk) ?_)
      refine run_op rfl rfl rfl (by simp [eSlot, *]; exact .mk) ?_
      refine run_op rfl rfl rfl (by simp [eSlot]; exact .mk) ?_
      iterate 2 (refine run_op rfl rfl rfl (by simp; exact .mk) ?_)
      refine run_op rfl rfl rfl (by simp [eSlot, *]; exact .mk) ?_
      refine run_op rfl rfl rfl (by simp [eSlot]; exact .mk) ?_
      refine run_op rfl rfl rfl (by simp [eqA, eqFs, isStructTy, eqlNeq, strOp, isBoolTy, isPtrTy, isFnTy]; exact .mk) ?_
      refine run_end [0, 1, 12, 13, 24] (by simp) (by simp; exact .mk) ?_
      rintro -
      refine W_cond rfl ?_ ?_
      · intro h24
        have hr : sameL sameSlot x y = false := sameL_bad h2 (by simp [sameSlot] at h24 ⊢; grind)
        refine W_seq ?_
        refine W_reg rfl ?_
        refine run_op rfl rfl rfl (by simp; exact .mk) ?_
        refine run_end [4] (by simp) (by simp; exact .mk) ?_
        rintro -
        refine W_ret ?_
        refine end_ret (by simp [Try.f71]; exact .mk) (by simp [cl, cls]; exact .mk) ?_ (by simp [D.noSn])
        simp [nrmR, nrmRs, nrmK, kindsOf, kinds, Try.f71, hr]
      · intro h24
        refine W_skip ?_
        rintro -
        refine W_reg rfl ?_
        refine run_op rfl rfl rfl (by simp [eqA, eqFs, isStructTy, eqlNeq, strOp, isBoolTy, isPtrTy, isFnTy]; exact .mk) ?_
        refine run_op rfl rfl rfl (by simp; exact .mk) ?_
        refine run_end [0, 1, 12, 13] (by simp) (by simp; exact .mk) ?_
        refine rounds_kill [0, 1, 12, 13] ?_
        refine rounds_next (m' := x.length - (i+1)) (by omega) ⟨i+1, rfl, by omega, ?_, ?_, rfl⟩
        · intro j hj
          rcases Nat.lt_succ_iff_lt_or_eq.1 hj with hj | rfl
          · exact hinv j hj
          · simp [sameSlot] at h24 ⊢; grind
        · rw [wrap64 (by omega) (by omega)]; rfl
    · intro h14
      have hr : sameL sameSlot x y = true := sameL_good hxy (fun j hj => hinv j (by simp at h14; omega))
      refine W_exit ?_
      rintro -
      refine W_seq ?_
      refine W_reg rfl ?_
      refine run_op rfl rfl rfl (by simp; exact .mk) ?_
      refine run_end [4] (by simp) (by simp; exact .mk) ?_
      rintro -
      refine W_ret ?_
      refine end_ret (by simp [Try.f71]; exact .mk) (by simp [cl, cls]; exact .mk) ?_ (by simp [D.noSn])
      simp [nrmR, nrmRs, nrmK, kindsOf, kinds, Try.f71, hr]

theorem ct72 (g : Gl) (l : List Slot) (hl : l.length ≤ 2^40) : CtAt Try.prog g 72 [rSl l] (oSl l) := by
  refine ctAt_of_W Try.func72 rfl rfl (Nat.le_of_ble_eq_true rfl) fun B S => ?_
  refine W_seq ?_
  refine W_reg rfl ?_
  refine run_op rfl rfl rfl (by simp; exact .mk) ?_
  refine run_end [0] (by simp) (by simp; exact .mk) ?_
  rintro -
  refine W_seq ?_
  refine W_seq ?_
  refine W_region rfl (WR_cut (hard := []) [0] [1] ?_)
  refine run_op rfl rfl rfl (by simp; exact .mk) ?_
  refine run_end [0, 3] (by simp) (by simp; exact .mk) ?_
  refine WR_nilcmp rfl rfl rfl (.inl rfl) rfl ⟨_, Try.underlying54⟩ (by simp; rfl) ?_
  intro nb hnb
  refine WR_run (hard := []) ?_
  refine run_end [0, 4] (by simp) (by simp; exact .mk) ?_
  rintro -
  refine W_cond rfl ?_ ?_
  · intro h4
    have hl0 : l = [] := List.eq_nil_of_length_eq_zero (hnb (by simpa using h4))
    subst hl0
    refine W_seq ?_
    refine W_reg rfl ?_
    refine run_op rfl rfl rfl (by simp; exact .mk) ?_
    refine run_end [2] (by simp) (by simp; exact .mk) ?_
    rintro -
    refine W_ret ?_
    refine end_ret (by simp [Try.f72]; exact .mk) (by simp [cl, cls]; exact .mk) ?_ (by simp [D.noSn])
    simp [nrmR, nrmRs, nrmK, kindsOf, kinds, Try.f72, ownR]
  · intro h4
    refine W_skip ?_
    rintro -
    refine W_seq ?_
    have e1 : l.length * 32 ≤ 140737488355328 := by omega
    have e2 : l.length ≤ 140737488355328 := by omega
    refine W_reg rfl ?_
    refine run_op rfl rfl rfl (by simp [buildSliceA, inOrder, cls, cl, elemsD, kinds, nrmKs, Value.oneCell']; exact .mk) ?_
    refine run_op rfl rfl rfl (by simp; exact .mk) ?_
    refine run_op rfl rfl rfl (by simp [appendA, srcA, dstA, isNilA, rows, e1, e2]; exact .mk) ?_
    refine run_op rfl rfl rfl (by simp; exact .mk) ?_
    refine run_end [2] (by simp) (by simp; exact .mk) ?_
    rintro -
    refine W_ret ?_
    refine end_ret (by simp [Try.f72]; exact .mk) (by simp [cl, cls]; exact .mk) ?_ (by simp [D.noSn])
    simp [nrmR, nrmRs, nrmK, kindsOf, kinds, Try.f72, ownR]

theorem in74q (g : Gl) (o0 o1 o2 o3 : Awp.Obj) (l : List (List UInt8)) (hl : l.length ≤ 2^40) : ∀ B S, CallsA Try.prog g B S ⟨4, true⟩ 74 [.d (rBB l)] [o0, o1, o2, o3]
    (fun x r => x = .hdr 5 0 l.length ∧ r = [o0, o1, o2, o3, .dead, .row 1 (l.map rB)]) := by
  refine callsA_at Try.func74 rfl (Nat.le_of_ble_eq_true rfl) fun B S => ?_
  refine W_seq ?_
  refine W_reg rfl ?_
  refine run_op rfl rfl rfl (by simp; exact .mk) ?_
  refine run_end [0] (by simp) (by simp; exact .mk) ?_
  rintro -
  refine W_seq ?_
  refine W_seq ?_
  refine W_region rfl (WR_cut (hard := []) [0] [1] ?_)
  refine run_op rfl rfl rfl (by simp; exact .mk) ?_
  refine run_end [0, 3] (by simp) (by simp; exact .mk) ?_
  refine WR_nilcmp rfl rfl rfl (.inl rfl) rfl ⟨_, Try.underlying23⟩ (by simp; rfl) ?_
  intro nb hnb
  refine WR_run (hard := []) ?_
  refine run_end [0, 4] (by simp) (by simp; exact .mk) ?_
  rintro -
  refine W_cond rfl ?_ ?_
  · intro h4
    have hl0 : l = [] := List.eq_nil_of_length_eq_zero (hnb (by simpa using h4))
    subst hl0
    refine W_seq ?_
    refine W_reg rfl ?_
    refine run_op rfl rfl rfl (by simp; exact .mk) ?_
    refine run_end [2] (by simp) (by simp; exact .mk) ?_
    refine then_weak Weak.pad ?_
    refine then_weak (s2 := slots [(2, .hdr 5 0 0), (2, .d (.v (.slice none 0 0)))]) (objs2 := [o0, o1, o2, o3, .dead, .row 1 []]) (Weak.nilRow 2 1 rfl) ?_
    rintro -
    refine W_ret ?_
    refine endAt_ret (by simp [Try.f74]; exact .mk) ?_ ?_
    · simp
    · simp
  · intro h4
    refine W_skip ?_
    rintro -
    refine W_seq ?_
    have e1 : l.length * 24 ≤ 140737488355328 := by omega
    have e2 : l.length ≤ 140737488355328 := by omega
    refine W_reg rfl ?_
    refine run_op rfl rfl rfl (by simp [buildSliceA, inOrder, cls, cl, elemsD, kinds, nrmKs, Value.oneCell']; exact .mk) ?_
    refine run_op rfl rfl rfl (by simp; exact .mk) ?_
    refine run_op rfl rfl rfl (by simp [appendA, srcA, dstA, isNilA, rows, e1, e2]; exact .mk) ?_
    refine run_op rfl rfl rfl (by simp; exact .mk) ?_
    refine run_end [2] (by simp) (by simp; exact .mk) ?_
    rintro -
    refine W_ret ?_
    refine endAt_ret (by simp [Try.f74]; exact .mk) ?_ ?_
    · simp
    · simp

theorem ct37 (g : Gl) (s t : Stt) (hs : s.Ok) : CtAt Try.prog g 37 [eStt s, eStt t] (.v (.bool (sameStt s t))) := by
  refine ctAt_of_W Try.func37 rfl rfl (Nat.le_of_ble_eq_true rfl) fun B S => ?_
  simp only [eStt, List.map, argD_agg]
  refine W_seq ?_
  refine W_reg rfl ?_
  iterate 2 (refine run_op rfl rfl rfl (by simp [boxA, AV.cells, AV.isCell, boxA, AV.cells, AV.isCell]; exact .mk) ?_)
  refine run_op rfl rfl rfl (by simp [boxA, AV.cells, AV.isCell]; exact .mk) ?_
  refine run_end [2, 3] (by simp) (by simp; exact .mk) ?_
  rintro -
  refine W_seq ?_
  refine W_reg rfl ?_
  iterate 4 (refine run_op rfl rfl rfl (by simp [boxA, AV.cells, AV.isCell]; exact .mk) ?_)
  refine run_op rfl rfl rfl (by simp [boxA, AV.cells, AV.isCell, eqA, eqFs, isStructTy, eqlNeq, strOp, isBoolTy, isPtrTy, isFnTy]; exact .mk) ?_
  refine run_op rfl rfl rfl (by simp [boxA, AV.cells, AV.isCell]; exact .mk) ?_
  refine run_if rfl (by simp [boxA, AV.cells, AV.isCell]; exact .mk) rfl (by simp <;> first | omega | grind) (fun hb => by simp [boxA, AV.cells, AV.isCell]; exact .mk) ?_
  refine run_if rfl (by simp [boxA, AV.cells, AV.isCell]; exact .mk) rfl (by simp <;> first | omega | grind) (fun hb => by simp [boxA, AV.cells, AV.isCell]; exact .mk) ?_
  refine run_if rfl (by simp [boxA, AV.cells, AV.isCell]; exact .mk) rfl (by simp <;> first | omega | grind) (fun hb => by simp [boxA, AV.cells, AV.isCell]; exact .mk) ?_
  refine run_if rfl (by simp [boxA, AV.cells, AV.isCell]; exact .mk) rfl (by simp <;> first | omega | grind) (fun hb => by simp [boxA, AV.cells, AV.isCell]; exact .mk) ?_
  refine run_if rfl (by simp [boxA, AV.cells, AV.isCell]; exact .mk) rfl (by simp <;> first | omega | grind) (fun hb => by simp [boxA, AV.cells, AV.isCell, eqA, eqFs, isStructTy, eqlNeq, strOp, isBoolTy, isPtrTy, isFnTy]; exact .mk) ?_
  refine run_pick rfl (by simp [boxA, AV.cells, AV.isCell]; exact .mk) rfl rfl (by simp) (by simp [boxA, AV.cells, AV.isCell]; exact .mk) (by simp [boxA, AV.cells, AV.isCell]; exact .mk) (by simp; exact .mk) ?_
  refine run_op1 rfl rfl rfl (by simp <;> first | omega | grind) (by simp [boxA, AV.cells, AV.isCell]; exact .mk) ?_
  refine run_if rfl (by simp [boxA, AV.cells, AV.isCell]; exact .mk) rfl (by simp <;> first | omega | grind) (fun hb => by simp [boxA, AV.cells, AV.isCell]; exact .mk) ?_
  refine run_if rfl (by simp [boxA, AV.cells, AV.isCell]; exact .mk) rfl (by simp <;> first | omega | grind) (fun hb => by simp [boxA, AV.cells, AV.isCell]; exact .mk) ?_
  refine run_if rfl (by simp [boxA, AV.cells, AV.isCell]; exact .mk) rfl (by simp <;> first | omega | grind) (fun hb => by simp [boxA, AV.cells, AV.isCell]; exact .mk) ?_
  refine run_if rfl (by simp [boxA, AV.cells, AV.isCell]; exact .mk) rfl (by simp <;> first | omega | grind) (fun hb => by simp [boxA, AV.cells, AV.isCell]; exact .mk) ?_
  refine run_if rfl (by simp [boxA, AV.cells, AV.isCell]; exact .mk) rfl (by simp <;> first | omega | grind) (fun hb => by simp [boxA, AV.cells, AV.isCell, eqA, eqFs, isStructTy, eqlNeq, strOp, isBoolTy, isPtrTy, isFnTy]; exact .mk) ?_
  refine run_pick rfl (by simp [boxA, AV.cells, AV.isCell]; exact .mk) rfl rfl (by simp) (by simp [boxA, AV.cells, AV.isCell]; exact .mk) (by simp [boxA, AV.cells, AV.isCell]; exact .mk) (by simp; exact .mk) ?_
  refine run_op1 rfl rfl rfl (by simp <;> first | omega | grind) (by simp [boxA, AV.cells, AV.isCell]; exact .mk) ?_
  refine run_if rfl (by simp [boxA, AV.cells, AV.isCell]; exact .mk) rfl (by simp <;> first | omega | grind) (fun hb => by simp [boxA, AV.cells, AV.isCell]; exact .mk) ?_
  refine run_if rfl (by simp [boxA, AV.cells, AV.isCell]; exact .mk) rfl (by simp <;> first | omega | grind) (fun hb => by simp [boxA, AV.cells, AV.isCell]; exact .mk) ?_
  refine run_if rfl (by simp [boxA, AV.cells, AV.isCell]; exact .mk) rfl (by simp <;> first | omega | grind) (fun hb => by simp [boxA, AV.cells, AV.isCell]; exact .mk) ?_
  refine run_if rfl (by simp [boxA, AV.cells, AV.isCell]; exact .mk) rfl (by simp <;> first | omega | grind) (fun hb => by simp [boxA, AV.cells, AV.isCell]; exact .mk) ?_
  refine run_call rfl (by simp [boxA, AV.cells, AV.isCell]; exact .mk) rfl rfl (by simp) (by simp [boxA, AV.cells, AV.isCell, calleeA]; exact .mk) (by simp [boxA, AV.cells, AV.isCell, kindsOf, kinds, expAs, expA]; exact .mk) (fun hb => ct70 g _ _ hs.h1) (by simp [boxA, AV.cells, AV.isCell, D.noRo]) (by simp [boxA, AV.cells, AV.isCell, impA, impAs]; exact .mk) (by simp) ?_
  refine run_pick rfl (by simp [boxA, AV.cells, AV.isCell]; exact .mk) rfl rfl (by simp) (by simp [boxA, AV.cells, AV.isCell]; exact .mk) (by simp [boxA, AV.cells, AV.isCell]; exact .mk) (by simp; exact .mk) ?_
  refine run_op1 rfl rfl rfl (by simp <;> first | omega | grind) (by simp [boxA, AV.cells, AV.isCell]; exact .mk) ?_
  refine run_if rfl (by simp [boxA, AV.cells, AV.isCell]; exact .mk) rfl (by simp <;> first | omega | grind) (fun hb => by simp [boxA, AV.cells, AV.isCell]; exact .mk) ?_
  refine run_if rfl (by simp [boxA, AV.cells, AV.isCell]; exact .mk) rfl (by simp <;> first | omega | grind) (fun hb => by simp [boxA, AV.cells, AV.isCell]; exact .mk) ?_
  refine run_if rfl (by simp [boxA, AV.cells, AV.isCell]; exact .mk) rfl (by simp <;> first | omega | grind) (fun hb => by simp [boxA, AV.cells, AV.isCell]; exact .mk) ?_
  refine run_if rfl (by simp [boxA, AV.cells, AV.isCell]; exact .mk) rfl (by simp <;> first | omega | grind) (fun hb => by simp [boxA, AV.cells, AV.isCell]; exact .mk) ?_
  refine run_call rfl (by simp [boxA, AV.cells, AV.isCell]; exact .mk) rfl rfl (by simp) (by simp [boxA, AV.cells, AV.isCell, calleeA]; exact .mk) (by simp [boxA, AV.cells, AV.isCell, kindsOf, kinds, expAs, expA]; exact .mk) (fun hb => ct49 g _ _ hs.h2) (by simp [boxA, AV.cells, AV.isCell, D.noRo]) (by simp [boxA, AV.cells, AV.isCell, impA, impAs]; exact .mk) (by simp) ?_
  refine run_pick rfl (by simp [boxA, AV.cells, AV.isCell]; exact .mk) rfl rfl (by simp) (by simp [boxA, AV.cells, AV.isCell]; exact .mk) (by simp [boxA, AV.cells, AV.isCell]; exact .mk) (by simp; exact .mk) ?_
  refine run_op1 rfl rfl rfl (by simp <;> first | omega | grind) (by simp [boxA, AV.cells, AV.isCell]; exact .mk) ?_
  refine run_if rfl (by simp [boxA, AV.cells, AV.isCell]; exact .mk) rfl (by simp <;> first | omega | grind) (fun hb => by simp [boxA, AV.cells, AV.isCell]; exact .mk) ?_
  refine run_if rfl (by simp [boxA, AV.cells, AV.isCell]; exact .mk) rfl (by simp <;> first | omega | grind) (fun hb => by simp [boxA, AV.cells, AV.isCell]; exact .mk) ?_
  refine run_if rfl (by simp [boxA, AV.cells, AV.isCell]; exact .mk) rfl (by simp <;> first | omega | grind) (fun hb => by simp [boxA, AV.cells, AV.isCell]; exact .mk) ?_
  refine run_if rfl (by simp [boxA, AV.cells, AV.isCell]; exact .mk) rfl (by simp <;> first | omega | grind) (fun hb => by simp [boxA, AV.cells, AV.isCell]; exact .mk) ?_
  refine run_call rfl (by simp [boxA, AV.cells, AV.isCell]; exact .mk) rfl rfl (by simp) (by simp [boxA, AV.cells, AV.isCell, calleeA]; exact .mk) (by simp [boxA, AV.cells, AV.isCell, kindsOf, kinds, expAs, expA]; exact .mk) (fun hb => ct48 g _ _ hs.h3) (by simp [boxA, AV.cells, AV.isCell, D.noRo]) (by simp [boxA, AV.cells, AV.isCell, impA, impAs]; exact .mk) (by simp) ?_
  refine run_pick rfl (by simp [boxA, AV.cells, AV.isCell]; exact .mk) rfl rfl (by simp) (by simp [boxA, AV.cells, AV.isCell]; exact .mk) (by simp [boxA, AV.cells, AV.isCell]; exact .mk) (by simp; exact .mk) ?_
  refine run_op1 rfl rfl rfl (by simp <;> first | omega | grind) (by simp [boxA, AV.cells, AV.isCell]; exact .mk) ?_
  refine run_end [4] (by simp <;> first | omega | grind) (by simp; exact .mk) ?_
  rintro -
  refine W_ret ?_
  refine end_ret (by simp [boxA, AV.cells, AV.isCell, Try.f37]; exact .mk) (by simp [boxA, AV.cells, AV.isCell, cl, cls]; exact .mk) ?_ (by simp [boxA, AV.cells, AV.isCell, D.noSn])
  simp [nrmR, nrmRs, nrmK, kindsOf, kinds, Try.f37, sameShape, sameStt, sameB, Bool.and_assoc]

theorem ct38 (g : Gl) (s t : Stt) (hs : s.Ok) : CtAt Try.prog g 38 [eStt s, eStt t] (.v (.bool (sameStt s t))) := by
  refine ctAt_of_W Try.func38 rfl rfl (Nat.le_of_ble_eq_true rfl) fun B S => ?_
  simp only [eStt, List.map, argD_agg]
  refine W_seq ?_
  refine W_reg rfl ?_
  iterate 2 (refine run_op rfl rfl rfl (by simp [boxA, AV.cells, AV.isCell, boxA, AV.cells, AV.isCell]; exact .mk) ?_)
  refine run_op rfl rfl rfl (by simp [boxA, AV.cells, AV.isCell]; exact .mk) ?_
  refine run_end [2, 3] (by simp) (by simp; exact .mk) ?_
  rintro -
  refine W_seq ?_
  refine W_reg rfl ?_
  iterate 4 (refine run_op rfl rfl rfl (by simp [boxA, AV.cells, AV.isCell]; exact .mk) ?_)
  refine run_op rfl rfl rfl (by simp [boxA, AV.cells, AV.isCell, eqA, eqFs, isStructTy, eqlNeq, strOp, isBoolTy, isPtrTy, isFnTy]; exact .mk) ?_
  refine run_op rfl rfl rfl (by simp [boxA, AV.cells, AV.isCell]; exact .mk) ?_
  refine run_if rfl (by simp [boxA, AV.cells, AV.isCell]; exact .mk) rfl (by simp <;> first | omega | grind) (fun hb => by simp [boxA, AV.cells, AV.isCell]; exact .mk) ?_
  refine run_if rfl (by simp [boxA, AV.cells, AV.isCell]; exact .mk) rfl (by simp <;> first | omega | grind) (fun hb => by simp [boxA, AV.cells, AV.isCell]; exact .mk) ?_
  refine run_if rfl (by simp [boxA, AV.cells, AV.isCell]; exact .mk) rfl (by simp <;> first | omega | grind) (fun hb => by simp [boxA, AV.cells, AV.isCell]; exact .mk) ?_
  refine run_if rfl (by simp [boxA, AV.cells, AV.isCell]; exact .mk) rfl (by simp <;> first | omega | grind) (fun hb => by simp [boxA, AV.cells, AV.isCell]; exact .mk) ?_
  refine run_if rfl (by simp [boxA, AV.cells, AV.isCell]; exact .mk) rfl (by simp <;> first | omega | grind) (fun hb => by simp [boxA, AV.cells, AV.isCell, eqA, eqFs, isStructTy, eqlNeq, strOp, isBoolTy, isPtrTy, isFnTy]; exact .mk) ?_
  refine run_pick rfl (by simp [boxA, AV.cells, AV.isCell]; exact .mk) rfl rfl (by simp) (by simp [boxA, AV.cells, AV.isCell]; exact .mk) (by simp [boxA, AV.cells, AV.isCell]; exact .mk) (by simp; exact .mk) ?_
  refine run_op1 rfl rfl rfl (by simp <;> first | omega | grind) (by simp [boxA, AV.cells, AV.isCell]; exact .mk) ?_
  refine run_if rfl (by simp [boxA, AV.cells, AV.isCell]; exact .mk) rfl (by simp <;> first | omega | grind) (fun hb => by simp [boxA, AV.cells, AV.isCell]; exact .mk) ?_
  refine run_if rfl (by simp [boxA, AV.cells, AV.isCell]; exact .mk) rfl (by simp <;> first | omega | grind) (fun hb => by simp [boxA, AV.cells, AV.isCell]; exact .mk) ?_
  refine run_if rfl (by simp [boxA, AV.cells, AV.isCell]; exact .mk) rfl (by simp <;> first | omega | grind) (fun hb => by simp [boxA, AV.cells, AV.isCell]; exact .mk) ?_
  refine run_if rfl (by simp [boxA, AV.cells, AV.isCell]; exact .mk) rfl (by simp <;> first | omega | grind) (fun hb => by simp [boxA, AV.cells, AV.isCell]; exact .mk) ?_
  refine run_if rfl (by simp [boxA, AV.cells, AV.isCell]; exact .mk) rfl (by simp <;> first | omega | grind) (fun hb => by simp [boxA, AV.cells, AV.isCell, eqA, eqFs, isStructTy, eqlNeq, strOp, isBoolTy, isPtrTy, isFnTy]; exact .mk) ?_
  refine run_pick rfl (by simp [boxA, AV.cells, AV.isCell]; exact .mk) rfl rfl (by simp) (by simp [boxA, AV.cells, AV.isCell]; exact .mk) (by simp [boxA, AV.cells, AV.isCell]; exact .mk) (by simp; exact .mk) ?_
  refine run_op1 rfl rfl rfl (by simp <;> first | omega | grind) (by simp [boxA, AV.cells, AV.isCell]; exact .mk) ?_
  refine run_end [2, 3, 5] (by simp <;> first | omega | grind) (by simp; exact .mk) ?_
  rintro -
  refine W_seq ?_
  refine W_reg rfl ?_
  iterate 2 (refine run_op rfl rfl rfl (by simp [boxA, AV.cells, AV.isCell]; exact .mk) ?_)
  refine run_if rfl (by simp [boxA, AV.cells, AV.isCell]; exact .mk) rfl (by simp <;> first | omega | grind) (fun hb => by simp [boxA, AV.cells, AV.isCell]; exact .mk) ?_
  refine run_if rfl (by simp [boxA, AV.cells, AV.isCell]; exact .mk) rfl (by simp <;> first | omega | grind) (fun hb => by simp [boxA, AV.cells, AV.isCell]; exact .mk) ?_
  refine run_if rfl (by simp [boxA, AV.cells, AV.isCell]; exact .mk) rfl (by simp <;> first | omega | grind) (fun hb => by simp [boxA, AV.cells, AV.isCell]; exact .mk) ?_
  refine run_if rfl (by simp [boxA, AV.cells, AV.isCell]; exact .mk) rfl (by simp <;> first | omega | grind) (fun hb => by simp [boxA, AV.cells, AV.isCell]; exact .mk) ?_
  refine run_call rfl (by simp [boxA, AV.cells, AV.isCell]; exact .mk) rfl rfl (by simp) (by simp [boxA, AV.cells, AV.isCell, calleeA]; exact .mk) (by simp [boxA, AV.cells, AV.isCell, kindsOf, kinds, expAs, expA]; exact .mk) (fun hb => ct71 g _ _ hs.h1) (by simp [boxA, AV.cells, AV.isCell, D.noRo]) (by simp [boxA, AV.cells, AV.isCell, impA, impAs]; exact .mk) (by simp) ?_
  refine run_pick rfl (by simp [boxA, AV.cells, AV.isCell]; exact .mk) rfl rfl (by simp) (by simp [boxA, AV.cells, AV.isCell]; exact .mk) (by simp [boxA, AV.cells, AV.isCell]; exact .mk) (by simp; exact .mk) ?_
  refine run_op1 rfl rfl rfl (by simp <;> first | omega | grind) (by simp [boxA, AV.cells, AV.isCell]; exact .mk) ?_
  refine run_if rfl (by simp [boxA, AV.cells, AV.isCell]; exact .mk) rfl (by simp <;> first | omega | grind) (fun hb => by simp [boxA, AV.cells, AV.isCell]; exact .mk) ?_
  refine run_if rfl (by simp [boxA, AV.cells, AV.isCell]; exact .mk) rfl (by simp <;> first | omega | grind) (fun hb => by simp [boxA, AV.cells, AV.isCell]; exact .mk) ?_
  refine run_if rfl (by simp [boxA, AV.cells, AV.isCell]; exact .mk) rfl (by simp <;> first | omega | grind) (fun hb => by simp [boxA, AV.cells, AV.isCell]; exact .mk) ?_
  refine run_if rfl (by simp [boxA, AV.cells, AV.isCell]; exact .mk) rfl (by simp <;> first | omega | grind) (fun hb => by simp [boxA, AV.cells, AV.isCell]; exact .mk) ?_
  refine run_call rfl (by simp [boxA, AV.cells, AV.isCell]; exact .mk) rfl rfl (by simp) (by simp [boxA, AV.cells, AV.isCell, calleeA]; exact .mk) (by simp [boxA, AV.cells, AV.isCell, kindsOf, kinds, expAs, expA]; exact .mk) (fun hb => ct58 g _ _ hs.h2) (by simp [boxA, AV.cells, AV.isCell, D.noRo]) (by simp [boxA, AV.cells, AV.isCell, impA, impAs]; exact .mk) (by simp) ?_
  refine run_pick rfl (by simp [boxA, AV.cells, AV.isCell]; exact .mk) rfl rfl (by simp) (by simp [boxA, AV.cells, AV.isCell]; exact .mk) (by simp [boxA, AV.cells, AV.isCell]; exact .mk) (by simp; exact .mk) ?_
  refine run_op1 rfl rfl rfl (by simp <;> first | omega | grind) (by simp [boxA, AV.cells, AV.isCell]; exact .mk) ?_
  refine run_if rfl (by simp [boxA, AV.cells, AV.isCell]; exact .mk) rfl (by simp <;> first | omega | grind) (fun hb => by simp [boxA, AV.cells, AV.isCell]; exact .mk) ?_
  refine run_if rfl (by simp [boxA, AV.cells, AV.isCell]; exact .mk) rfl (by simp <;> first | omega | grind) (fun hb => by simp [boxA, AV.cells, AV.isCell]; exact .mk) ?_
  refine run_if rfl (by simp [boxA, AV.cells, AV.isCell]; exact .mk) rfl (by simp <;> first | omega | grind) (fun hb => by simp [boxA, AV.cells, AV.isCell]; exact .mk) ?_
  refine run_if rfl (by simp [boxA, AV.cells, AV.isCell]; exact .mk) rfl (by simp <;> first | omega | grind) (fun hb => by simp [boxA, AV.cells, AV.isCell]; exact .mk) ?_
  refine run_inlG rfl (by simp [boxA, AV.cells, AV.isCell]; exact .mk) rfl rfl (by simp) (by simp [boxA, AV.cells, AV.isCell, calleeA]; exact .mk) ⟨_, Try.func57, rfl, rfl⟩ (fun hb => in57 g _ _ _ hs.h3) ?_
  refine run_pick rfl (by simp [boxA, AV.cells, AV.isCell]; exact .mk) rfl rfl (by simp) (by simp [boxA, AV.cells, AV.isCell]; exact .mk) (by simp [boxA, AV.cells, AV.isCell]; exact .mk) (by simp; exact .mk) ?_
  refine run_op1 rfl rfl rfl (by simp <;> first | omega | grind) (by simp [boxA, AV.cells, AV.isCell]; exact .mk) ?_
  refine run_end [4] (by simp <;> first | omega | grind) (by simp; exact .mk) ?_
  rintro -
  refine W_ret ?_
  refine end_ret (by simp [boxA, AV.cells, AV.isCell, Try.f38]; exact .mk) (by simp [boxA, AV.cells, AV.isCell, cl, cls]; exact .mk) ?_ (by simp [boxA, AV.cells, AV.isCell, D.noSn])
  simp [nrmR, nrmRs, nrmK, kindsOf, kinds, Try.f38, sameShape, sameStt, sameB, Bool.and_assoc]

theorem ct39 (g : Gl) (s : Stt) (hs : s.Ok) : CtAt Try.prog g 39 [eStt s] (oStt s) := by
  refine ctAt_of_W Try.func39 rfl rfl (Nat.le_of_ble_eq_true rfl) fun B S => ?_
  simp only [eStt, List.map, argD_agg]
  refine W_seq ?_
  refine W_reg rfl ?_
  refine run_op rfl rfl rfl (by simp [boxA, AV.cells, AV.isCell, boxA, AV.cells, AV.isCell]; exact .mk) ?_
  refine run_op rfl rfl rfl (by simp [boxA, AV.cells, AV.isCell, allocA, Value.oneCell']; exact .mk) ?_
  refine run_end [1, 2] (by simp) (by simp; exact .mk) ?_
  rintro -
  refine W_seq ?_
  refine W_regD (by kernel_rfl) [] 4 [0, 1, 3, 4, 6, 7, 2, 9, 5, 8, 10, 11, 12, 13, 14] (by decide +kernel) ?_
  iterate 6 (refine run_op rfl rfl rfl (by simp [boxA, AV.cells, AV.isCell]; exact .mk) ?_)
  refine run_call0 rfl rfl rfl rfl (by simp [boxA, AV.cells, AV.isCell, calleeA]; exact .mk) (by simp [boxA, AV.cells, AV.isCell, kindsOf, kinds, expAs, expA]; exact .mk) (ct72 g _ hs.h1) (by simp [boxA, AV.cells, AV.isCell, D.noRo]) (by simp [boxA, AV.cells, AV.isCell, impA, impAs]; exact .mk) ?_
  refine run_op rfl rfl rfl (by simp [boxA, AV.cells, AV.isCell]; exact .mk) ?_
  refine run_call0 rfl rfl rfl rfl (by simp [boxA, AV.cells, AV.isCell, calleeA]; exact .mk) (by simp [boxA, AV.cells, AV.isCell, kindsOf, kinds, expAs, expA]; exact .mk) (ct73 g _ hs.h2) (by simp [boxA, AV.cells, AV.isCell, D.noRo]) (by simp [boxA, AV.cells, AV.isCell, impA, impAs]; exact .mk) ?_
  refine run_inl0 rfl rfl rfl rfl (by simp [boxA, AV.cells, AV.isCell, calleeA]; exact .mk) ⟨_, Try.func74, rfl, rfl⟩ (in74q g _ _ _ _ s.data hs.h3) (.inr ⟨_, rfl⟩) ?_
  refine run_op rfl rfl rfl (by simp [boxA, AV.cells, AV.isCell, storeA, AV.cells, AV.isCell, splice]; exact .mk) ?_
  refine run_op rfl rfl rfl (by simp [boxA, AV.cells, AV.isCell]; exact .mk) ?_
  refine run_op rfl rfl rfl (by simp [boxA, AV.cells, AV.isCell, storeA, AV.cells, AV.isCell, splice]; exact .mk) ?_
  refine run_op rfl rfl rfl (by simp [boxA, AV.cells, AV.isCell]; exact .mk) ?_
  refine run_op rfl rfl rfl (by simp [boxA, AV.cells, AV.isCell, storeA, AV.cells, AV.isCell, splice]; exact .mk) ?_
  refine run_end [1, 2] (by simp) (by simp; exact .mk) ?_
  rintro -
  refine W_seq ?_
  refine W_seq ?_
  refine W_reg rfl ?_
  iterate 4 (refine run_op rfl rfl rfl (by simp [boxA, AV.cells, AV.isCell]; exact .mk) ?_)
  refine run_end [1, 2, 18, 19] (by simp) (by simp; exact .mk) ?_
  rintro -
  refine W_block ?_
  refine W_rounds (fun m σ r => ∃ i : Nat, m = s.data.length - i ∧ i ≤ s.data.length ∧ σ = slots [(1, .ptr 0 0 0), (2, .ptr 1 0 0), (18, .d (vI s.data.length)), (19, .d (vI i))] ∧ r = [.var 56 [.d (vI s.sh.pages), .d (vI s.sh.slots), .d (vI s.sh.roots), .d (vI s.sh.room), .d (vI s.mode), .d (vI s.base), .hdr 2 0 s.slots.length, .hdr 3 0 s.roots.length, .hdr 5 0 s.data.length], .var 56 [.d (vI 0), .d (vI 0), .d (vI 0), .d (vI 0), .d (vI 0), .d (vI 0), .d (.v (.slice none 0 0)), .d (.v (.slice none 0 0)), .d (.v (.slice none 0 0))], .row 5 (s.slots.map eSlot), .row 3 (s.roots.map eRoot), .dead, .row 1 (mixB i s.data)]) s.data.length .refl ⟨0, by simp, by simp, rfl, by rw [mixB_zero]⟩ ?_
  have q2 := hs.h3
  rintro m σ r ⟨i, rfl, hi, rfl, rfl⟩ _
  refine W_seq ?_
  refine W_reg rfl ?_
  refine run_op rfl rfl rfl (by simp [boxA, AV.cells, AV.isCell, eqA, eqFs, isStructTy, eqlNeq, strOp, isBoolTy, isPtrTy, isFnTy]; exact .mk) ?_
  refine run_end [1, 2, 18, 19, 20] (by simp) (by simp; exact .mk) ?_
  rintro -
  refine W_seq ?_
  refine W_cond rfl ?_ ?_
  · intro h20
    have hi2 : i < s.data.length := by simpa using h20
    refine W_skip ?_
    rintro -
    refine W_seq ?_
    refine W_block ?_
    refine W_seq ?_
    refine W_reg rfl ?_
    iterate 2 (refine run_op rfl rfl rfl (by simp [boxA, AV.cells, AV.isCell]; exact .mk) ?_)
    refine run_end [1, 2, 3, 18, 19] (by simp) (by simp; exact .mk) ?_
    rintro -
    refine W_regD (by kernel_rfl) [] 4 [0, 1, 2, 3, 4, 5, 6, 7, 8, 9, 10] (by decide +kernel) ?_
    iterate 6 (refine run_op rfl rfl rfl (by simp [boxA, AV.cells, AV.isCell]; exact .mk) ?_)
    refine run_op rfl rfl rfl (by simp [boxA, AV.cells, AV.isCell, hi2]; exact .mk) ?_
    refine run_op rfl rfl rfl (by simp [boxA, AV.cells, AV.isCell, -List.getElem?_map, mixB_get hi2]; exact .mk) ?_
    refine run_call0 rfl rfl rfl rfl (by simp [boxA, AV.cells, AV.isCell, calleeA]; exact .mk) (by simp [boxA, AV.cells, AV.isCell, kindsOf, kinds, expAs, expA]; exact .mk) (ct75 g _ (hs.h4 i hi2)) (by simp [boxA, AV.cells, AV.isCell, D.noRo]) (by simp [boxA, AV.cells, AV.isCell, impA, impAs]; exact .mk) ?_
    refine run_op rfl rfl rfl (by simp [boxA, AV.cells, AV.isCell, hi2]; exact .mk) ?_
    refine run_op rfl rfl rfl (by simp [boxA, AV.cells, AV.isCell, storeA, AV.cells, AV.isCell, splice, -List.getElem?_map, mixB_get hi2, cls, cl, nrmL, nrm, putC]; exact .mk) ?_
    refine run_end [1, 2, 18, 19] (by simp) (by simp; exact .mk) ?_
    rintro -
    refine W_reg rfl ?_
    refine run_op rfl rfl rfl (by simp [boxA, AV.cells, AV.isCell, eqA, eqFs, isStructTy, eqlNeq, strOp, isBoolTy, isPtrTy, isFnTy]; exact .mk) ?_
    refine run_op rfl rfl rfl (by simp [boxA, AV.cells, AV.isCell]; exact .mk) ?_
    refine run_end [1, 2, 18, 19] (by simp) (by simp; exact .mk) ?_
    refine rounds_drop 6 [1, 2, 18, 19] (by simp) (by simp [boxA, AV.cells, AV.isCell]) (by simp [boxA, AV.cells, AV.isCell]) ?_
    refine rounds_next (m' := s.data.length - (i+1)) (by omega) ⟨i+1, rfl, by omega, ?_, ?_⟩
    · rw [wrap64 (by omega) (by omega)]; rfl
    · rw [← mixB_set hi2]; simp; rfl
  · intro h20
    obtain rfl : i = s.data.length := by simp at h20; omega
    rw [mixB_all]
    refine W_exit ?_
    rintro -
    refine W_seq ?_
    refine W_reg rfl ?_
    refine run_op rfl rfl rfl (by simp [boxA, AV.cells, AV.isCell]; exact .mk) ?_
    refine run_op rfl rfl rfl (by simp [boxA, AV.cells, AV.isCell, storeA, AV.cells, AV.isCell, splice]; exact .mk) ?_
    refine run_end [2] (by simp) (by simp; exact .mk) ?_
    rintro -
    refine W_ret ?_
    refine end_ret (by simp [boxA, AV.cells, AV.isCell, Try.f39]; exact .mk) (by simp [boxA, AV.cells, AV.isCell, cl, cls]; exact .mk) ?_ (by simp [boxA, AV.cells, AV.isCell, D.noSn, oStt])
    simp [nrmR, nrmRs, nrmK, kindsOf, kinds, Try.f39, oStt, ownR]

end Go.Proofs

set_option linter.unusedSimpArgs false
namespace Go.Proofs
open Go.Awp
theorem zStt_ok : zStt.Ok := ⟨by decide, by decide, by decide, fun i hi => absurd hi (Nat.not_lt_zero _), fun i hi => absurd hi (Nat.not_lt_zero _)⟩
theorem newS_cases (sh : Shape) (mode : Int) : (newS sh mode = (zStt, 1)) ∨ (newS sh mode = (firstStt sh mode, 0) ∧ superS sh mode (baseOf sh mode) = true ∧ mode ≤ 2) := by
  unfold newS
  split
  · rename_i h; right; simp at h; exact ⟨rfl, h⟩
  · exact .inl rfl
theorem first_nth {sh : Shape} {mode : Int} {i : Nat} (h : i < (firstStt sh mode).slots.length) : nth (firstStt sh mode).slots i = zSlot := by
  rw [nth_eq h]; simp [firstStt]
theorem first_live {sh : Shape} {mode : Int} {n : Nat} (hn : n ≤ (firstStt sh mode).slots.length) : liveIx (firstStt sh mode).slots n = 0 := by
  simp only [liveIx, List.length_eq_zero_iff, List.filter_eq_nil_iff, List.mem_range]
  intro j hj
  rw [first_nth (by omega)]; simp [zSlot]
theorem first_two {sh : Shape} {mode : Int} : twosO (firstStt sh mode).slots = [] := by
  rw [twosO]
  have : twoIx (firstStt sh mode).slots (firstStt sh mode).slots.length = [] := by
    simp only [twoIx, List.filter_eq_nil_iff, List.mem_range]
    intro j hj
    rw [first_nth hj]; simp [isTwo, zSlot]
  rw [this]; rfl
theorem first_one {sh : Shape} {mode : Int} : onesS (firstStt sh mode).slots = [] := by
  have : oneIx (firstStt sh mode).slots (firstStt sh mode).slots.length = [] := by
    simp only [oneIx, List.filter_eq_nil_iff, List.mem_range]
    intro j hj
    rw [first_nth hj]; simp [isOne, zSlot]
  have h2 : onesR (firstStt sh mode).slots = [] := by rw [onesR, this]; rfl
  have := stS_perm (lt := ltB) (onesR (firstStt sh mode).slots)
  rw [h2] at this
  rw [onesS, h2]
  exact this.eq_nil
theorem first_right {sh : Shape} {mode : Int} (h : superS sh mode (baseOf sh mode) = true) (hm : mode ≤ 2) : sttS (firstStt sh mode) = true := by
  have hb := superS_b h
  have hs := superS_sh h
  have hslot : ∀ i, i < (firstStt sh mode).slots.length → slotS1 (nth (firstStt sh mode).slots i) = true := fun i hi => by rw [first_nth hi]; rfl
  have htab : tableS (firstStt sh mode).slots = true := by
    simp only [tableS, Bool.and_eq_true, List.all_eq_true, List.mem_range]
    refine ⟨hslot, ?_⟩
    simp only [firstStt, List.length_replicate, tnewOk, decide_eq_true_eq]
    rw [Int.toNat_of_nonneg (by omega)]; exact hs.1
  have hroot : rootsS (firstStt sh mode).roots = true := by
    have hn : ∀ i, i < (firstStt sh mode).roots.length → nth (firstStt sh mode).roots i = zRoot := fun i hi => by rw [nth_eq hi]; simp [firstStt]
    simp only [rootsS, Bool.and_eq_true, List.all_eq_true, List.mem_range]
    refine ⟨fun i hi => by simp only [rootOk]; rw [hn i hi, show isZero zRoot = true by kernel_rfl]; rfl, ?_⟩
    have := superS_rnew h
    simp only [firstStt, List.length_replicate]
    rw [Int.toNat_of_nonneg (by omega)]; exact this
  have hrows : rowsS (firstStt sh mode) = true := by
    simp only [rowsS, Bool.and_eq_true, htab, hroot, true_and, decide_eq_true_eq, List.all_eq_true, List.mem_range]
    refine ⟨⟨by simp [firstStt]; omega, by simp [firstStt]; omega, by simp [firstStt]⟩, fun i hi => ?_⟩
    have hd : nth (firstStt sh mode).data i = [] := by rw [nth_eq (by simpa [firstStt] using hi)]; simp [firstStt]
    simp only [lenOk, decide_eq_true_eq]
    rw [first_nth hi, hd]; rfl
  have hlaid : (laidS (firstStt sh mode).base (twosO (firstStt sh mode).slots)).isSome = true := by
    rw [first_two]
    have : 0 ≤ baseOf sh mode ∧ baseOf sh mode ≤ 64 := by omega
    show (laidS (baseOf sh mode) []).isSome = true
    simp [laidS, this]
  have hgaps : gapsS ((firstStt sh mode).base * 32) ((firstStt sh mode).sh.pages * 32) (spansS (firstStt sh mode).slots) = true := by
    rw [spansS, first_one]
    show gapsS (baseOf sh mode * 32) (sh.pages * 32) [] = true
    have m1 : (baseOf sh mode * 32).tmod 4 = 0 := by rw [Int.tmod_eq_emod_of_nonneg (by omega)]; omega
    have m2 : (sh.pages * 32).tmod 4 = 0 := by rw [Int.tmod_eq_emod_of_nonneg (by omega)]; omega
    simp [gapsS, gapsHead, gapsOk, m1, m2]; omega
  have hmode : modeOk (firstStt sh mode) = true := by
    simp only [modeOk]
    rw [first_two, spansS, first_one]
    repeat' split
    all_goals rfl
  simp only [sttS, hrows, hlaid, hgaps, hmode, Bool.and_true]
  exact h
end Go.Proofs
