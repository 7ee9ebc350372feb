/- Contract of the law StateNews: it answers true, for every shape and mode. -/
import Derived.Test.YtaeglabjhpfepaaStD
set_option linter.all false
set_option linter.unusedSimpArgs false
set_option linter.unusedVariables false
set_option maxHeartbeats 4000000
set_option maxRecDepth 4000
namespace Go.Proofs
open Go.Awp
theorem ct10 (g : Gl) (sh : Shape) (mode : Int) : CtAt Try.prog g 10 [eShape sh, vI mode] (.v (.bool true)) := by
  refine ctAt_of_W Try.func10 rfl rfl (Nat.le_of_ble_eq_true rfl) fun B S => ?_
  simp only [eShape, List.map, argD_agg, argD_v]
  obtain ⟨X, e, hN, hX, he⟩ : ∃ X e, newS sh mode = (X, e) ∧ X.Ok ∧ (e = 1 ∨ (e = 0 ∧ sttS X = true ∧ liveIx X.slots X.slots.length = 0)) := by
    rcases newS_cases sh mode with h | ⟨h, h1, h2⟩
    · exact ⟨_, _, h, zStt_ok, .inl rfl⟩
    · exact ⟨_, _, h, firstOk h1, .inr ⟨rfl, first_right h1 h2, first_live (Nat.le_refl _)⟩⟩
  have c35 := ct35 g sh mode
  have c36 := ct36 g sh mode
  rw [← newR_eq, hN] at c36
  rw [hN] at c35
  simp only at c35 c36
  have c37 := ct37 g X X hX
  have c38 := ct38 g X X hX
  rw [sameStt_refl] at c37 c38
  have c29 := ct29 g X hX
  have c32 := ct32 g X hX
  refine W_seq ?_
  refine W_reg rfl ?_
  refine run_op rfl rfl rfl (by simp [boxA, AV.cells, AV.isCell, boxA, AV.cells, AV.isCell]; exact .mk) ?_
  refine run_op rfl rfl rfl (by simp [boxA, AV.cells, AV.isCell]; exact .mk) ?_
  refine run_end [1, 2] (by simp) (by simp; exact .mk) ?_
  rintro -
  refine W_seq ?_
  refine W_reg rfl ?_
  refine run_call0 rfl rfl rfl rfl (by simp [boxA, AV.cells, AV.isCell, calleeA]; exact .mk) (by simp [boxA, AV.cells, AV.isCell, kindsOf, kinds, expAs, expA, row_rows, Function.comp_def]; exact .mk) (ct27 g) (by simp [boxA, AV.cells, AV.isCell, D.noRo]) (by simp [boxA, AV.cells, AV.isCell, impA, impAs, oStt]; exact .mk) ?_
  refine run_op rfl rfl rfl (by simp [boxA, AV.cells, AV.isCell]; exact .mk) ?_
  refine run_end [1, 2, 5] (by simp) (by simp; exact .mk) ?_
  rintro -
  refine W_seq ?_
  refine W_reg rfl ?_
  iterate 2 (refine run_op rfl rfl rfl (by simp [boxA, AV.cells, AV.isCell]; exact .mk) ?_)
  refine run_call0 rfl rfl rfl rfl (by simp [boxA, AV.cells, AV.isCell, calleeA]; exact .mk) (by simp [boxA, AV.cells, AV.isCell, kindsOf, kinds, expAs, expA, row_rows, Function.comp_def]; exact .mk) (c35) (by simp [boxA, AV.cells, AV.isCell, D.noRo]) (by simp [boxA, AV.cells, AV.isCell, impA, impAs, oStt]; exact .mk) ?_
  iterate 3 (refine run_op rfl rfl rfl (by simp [boxA, AV.cells, AV.isCell]; exact .mk) ?_)
  refine run_op rfl rfl rfl (by simp [boxA, AV.cells, AV.isCell, allocA, Value.oneCell']; exact .mk) ?_
  refine run_op rfl rfl rfl (by simp [boxA, AV.cells, AV.isCell, storeA, AV.cells, AV.isCell, splice]; exact .mk) ?_
  refine run_op rfl rfl rfl (by simp [boxA, AV.cells, AV.isCell]; exact .mk) ?_
  refine run_end [1, 2, 5, 6, 7] (by simp) (by simp; exact .mk) ?_
  rintro -
  refine W_seq ?_
  refine W_reg rfl ?_
  iterate 2 (refine run_op rfl rfl rfl (by simp [boxA, AV.cells, AV.isCell]; exact .mk) ?_)
  refine run_call0 rfl rfl rfl rfl (by simp [boxA, AV.cells, AV.isCell, calleeA]; exact .mk) (by simp [boxA, AV.cells, AV.isCell, kindsOf, kinds, expAs, expA, row_rows, Function.comp_def]; exact .mk) (c36) (by simp [boxA, AV.cells, AV.isCell, D.noRo]) (by simp [boxA, AV.cells, AV.isCell, impA, impAs, oStt]; exact .mk) ?_
  iterate 3 (refine run_op rfl rfl rfl (by simp [boxA, AV.cells, AV.isCell]; exact .mk) ?_)
  refine run_op rfl rfl rfl (by simp [boxA, AV.cells, AV.isCell, allocA, Value.oneCell']; exact .mk) ?_
  refine run_op rfl rfl rfl (by simp [boxA, AV.cells, AV.isCell, storeA, AV.cells, AV.isCell, splice]; exact .mk) ?_
  refine run_op rfl rfl rfl (by simp [boxA, AV.cells, AV.isCell]; exact .mk) ?_
  refine run_end [5, 6, 7, 8, 9] (by simp) (by simp; exact .mk) ?_
  rintro -
  refine W_seq ?_
  refine W_seq ?_
  refine W_reg rfl ?_
  iterate 2 (refine run_op rfl rfl rfl (by simp [boxA, AV.cells, AV.isCell]; exact .mk) ?_)
  refine run_call0 rfl rfl rfl rfl (by simp [boxA, AV.cells, AV.isCell, calleeA]; exact .mk) (by simp [boxA, AV.cells, AV.isCell, kindsOf, kinds, expAs, expA, row_rows, Function.comp_def]; exact .mk) (c37) (by simp [boxA, AV.cells, AV.isCell, D.noRo]) (by simp [boxA, AV.cells, AV.isCell, impA, impAs, oStt]; exact .mk) ?_
  refine run_op rfl rfl rfl (by simp [boxA, AV.cells, AV.isCell, unA]; exact .mk) ?_
  refine run_op rfl rfl rfl (by simp [boxA, AV.cells, AV.isCell]; exact .mk) ?_
  refine run_if rfl (by simp [boxA, AV.cells, AV.isCell]; exact .mk) rfl (by simp <;> first | omega | grind) (fun hb => by simp [boxA, AV.cells, AV.isCell]; exact .mk) ?_
  refine run_if rfl (by simp [boxA, AV.cells, AV.isCell]; exact .mk) rfl (by simp <;> first | omega | grind) (fun hb => by simp [boxA, AV.cells, AV.isCell]; exact .mk) ?_
  refine run_if rfl (by simp [boxA, AV.cells, AV.isCell]; exact .mk) rfl (by simp <;> first | omega | grind) (fun hb => by simp [boxA, AV.cells, AV.isCell, eqA, eqFs, isStructTy, eqlNeq, strOp, isBoolTy, isPtrTy, isFnTy]; exact .mk) ?_
  refine run_pick rfl (by simp [boxA, AV.cells, AV.isCell]; exact .mk) rfl rfl (by simp) (by simp [boxA, AV.cells, AV.isCell]; exact .mk) (by simp [boxA, AV.cells, AV.isCell]; exact .mk) (by simp; exact .mk) ?_
  refine run_end [5, 6, 7, 31] (by simp <;> first | omega | grind) (by simp; exact .mk) ?_
  rintro -
  refine W_cond rfl ?_ ?_
  · intro h31
    simp at h31
  · intro h31
    refine W_skip ?_
    rintro -
    refine W_seq ?_
    rcases he with rfl | ⟨rfl, he1, he2⟩
    · skip
      skip
      refine W_regD (by kernel_rfl) [] 4 [0, 1, 2, 3, 4, 5, 6, 7, 8, 9, 10, 11, 12, 13, 14, 15, 16, 17, 18, 19, 20] (by decide +kernel) ?_
      iterate 2 (refine run_op rfl rfl rfl (by simp [boxA, AV.cells, AV.isCell]; exact .mk) ?_)
      refine run_if rfl (by simp [boxA, AV.cells, AV.isCell]; exact .mk) rfl (by simp <;> first | omega | grind) (fun hb => by simp [boxA, AV.cells, AV.isCell]; exact .mk) ?_
      refine run_if rfl (by simp [boxA, AV.cells, AV.isCell]; exact .mk) rfl (by simp <;> first | omega | grind) (fun hb => by simp [boxA, AV.cells, AV.isCell, eqA, eqFs, isStructTy, eqlNeq, strOp, isBoolTy, isPtrTy, isFnTy]; exact .mk) ?_
      refine run_if rfl (by simp [boxA, AV.cells, AV.isCell]; exact .mk) rfl (by simp <;> first | omega | grind) (fun hb => by simp [boxA, AV.cells, AV.isCell]; exact .mk) ?_
      refine run_not (av := .d (.v (.bool false))) rfl (by simp [boxA, AV.cells, AV.isCell]; exact .mk) rfl ?_
      refine run_not (av := .d (.v (.bool false))) rfl (by simp [boxA, AV.cells, AV.isCell]; exact .mk) rfl ?_
      refine run_not (av := .d (.v (.bool false))) rfl (by simp [boxA, AV.cells, AV.isCell]; exact .mk) rfl ?_
      refine run_not (av := .d (.v (.bool false))) rfl (by simp [boxA, AV.cells, AV.isCell]; exact .mk) rfl ?_
      refine run_not (av := .d (.v (.bool false))) rfl (by simp [boxA, AV.cells, AV.isCell]; exact .mk) rfl ?_
      refine run_not (av := .d (.v (.bool false))) rfl (by simp [boxA, AV.cells, AV.isCell]; exact .mk) rfl ?_
      refine run_pick rfl (by simp [boxA, AV.cells, AV.isCell]; exact .mk) rfl rfl (by simp) (by simp [boxA, AV.cells, AV.isCell, not]; exact .mk) (by simp [boxA, AV.cells, AV.isCell, not]; exact .mk) (by simp; exact .mk) ?_
      refine run_not (av := .d (.v (.bool false))) rfl (by simp [boxA, AV.cells, AV.isCell]; exact .mk) rfl ?_
      refine run_not (av := .d (.v (.bool false))) rfl (by simp [boxA, AV.cells, AV.isCell]; exact .mk) rfl ?_
      refine run_not (av := .d (.v (.bool false))) rfl (by simp [boxA, AV.cells, AV.isCell]; exact .mk) rfl ?_
      refine run_not (av := .d (.v (.bool false))) rfl (by simp [boxA, AV.cells, AV.isCell]; exact .mk) rfl ?_
      refine run_not (av := .d (.v (.bool false))) rfl (by simp [boxA, AV.cells, AV.isCell]; exact .mk) rfl ?_
      refine run_pick rfl (by simp [boxA, AV.cells, AV.isCell]; exact .mk) rfl rfl (by simp) (by simp [boxA, AV.cells, AV.isCell, not]; exact .mk) (by simp [boxA, AV.cells, AV.isCell, not]; exact .mk) (by simp; exact .mk) ?_
      refine run_pick rfl (by simp [boxA, AV.cells, AV.isCell]; exact .mk) rfl rfl (by simp) (by simp [boxA, AV.cells, AV.isCell]; exact .mk) (by simp [boxA, AV.cells, AV.isCell]; exact .mk) (by simp; exact .mk) ?_
      refine run_pick rfl (by simp [boxA, AV.cells, AV.isCell]; exact .mk) rfl rfl (by simp) (by simp [boxA, AV.cells, AV.isCell]; exact .mk) (by simp [boxA, AV.cells, AV.isCell]; exact .mk) (by simp; exact .mk) ?_
      refine run_op1 rfl rfl rfl (by simp <;> first | omega | grind) (by simp [boxA, AV.cells, AV.isCell]; exact .mk) ?_
      refine run_end [4] (by simp <;> first | omega | grind) (by simp; exact .mk) ?_
      rintro -
      refine W_ret ?_
      refine end_ret (by simp [boxA, AV.cells, AV.isCell, Try.f10]; exact .mk) (by simp [boxA, AV.cells, AV.isCell, cl, cls]; exact .mk) ?_ (by simp [boxA, AV.cells, AV.isCell, D.noSn])
      simp [nrmR, nrmRs, nrmK, kindsOf, kinds, Try.f10]
    · skip
      rw [he1] at c29
      rw [he2] at c32
      refine W_regD (by kernel_rfl) [] 4 [0, 1, 2, 3, 4, 5, 6, 7, 8, 9, 10, 11, 12, 13, 14, 15, 16, 17, 18, 19, 20] (by decide +kernel) ?_
      iterate 2 (refine run_op rfl rfl rfl (by simp [boxA, AV.cells, AV.isCell]; exact .mk) ?_)
      refine run_if rfl (by simp [boxA, AV.cells, AV.isCell]; exact .mk) rfl (by simp <;> first | omega | grind) (fun hb => by simp [boxA, AV.cells, AV.isCell]; exact .mk) ?_
      refine run_if rfl (by simp [boxA, AV.cells, AV.isCell]; exact .mk) rfl (by simp <;> first | omega | grind) (fun hb => by simp [boxA, AV.cells, AV.isCell, eqA, eqFs, isStructTy, eqlNeq, strOp, isBoolTy, isPtrTy, isFnTy]; exact .mk) ?_
      refine run_if rfl (by simp [boxA, AV.cells, AV.isCell]; exact .mk) rfl (by simp <;> first | omega | grind) (fun hb => by simp [boxA, AV.cells, AV.isCell]; exact .mk) ?_
      refine run_if rfl (by simp [boxA, AV.cells, AV.isCell]; exact .mk) rfl (by simp <;> first | omega | grind) (fun hb => by simp [boxA, AV.cells, AV.isCell]; exact .mk) ?_
      refine run_call rfl (by simp [boxA, AV.cells, AV.isCell]; exact .mk) rfl rfl (by simp) (by simp [boxA, AV.cells, AV.isCell, calleeA]; exact .mk) (by simp [boxA, AV.cells, AV.isCell, kindsOf, kinds, expAs, expA, row_rows, Function.comp_def]; exact .mk) (fun hb => c29) (by simp [boxA, AV.cells, AV.isCell, D.noRo]) (by simp [boxA, AV.cells, AV.isCell, impA, impAs, oStt]; exact .mk) (by simp) ?_
      refine run_if rfl (by simp [boxA, AV.cells, AV.isCell]; exact .mk) rfl (by simp <;> first | omega | grind) (fun hb => by simp [boxA, AV.cells, AV.isCell]; exact .mk) ?_
      refine run_if rfl (by simp [boxA, AV.cells, AV.isCell]; exact .mk) rfl (by simp <;> first | omega | grind) (fun hb => by simp [boxA, AV.cells, AV.isCell]; exact .mk) ?_
      refine run_call rfl (by simp [boxA, AV.cells, AV.isCell]; exact .mk) rfl rfl (by simp) (by simp [boxA, AV.cells, AV.isCell, calleeA]; exact .mk) (by simp [boxA, AV.cells, AV.isCell, kindsOf, kinds, expAs, expA, row_rows, Function.comp_def]; exact .mk) (fun hb => c32) (by simp [boxA, AV.cells, AV.isCell, D.noRo]) (by simp [boxA, AV.cells, AV.isCell, impA, impAs, oStt]; exact .mk) (by simp) ?_
      refine run_if rfl (by simp [boxA, AV.cells, AV.isCell]; exact .mk) rfl (by simp <;> first | omega | grind) (fun hb => by simp [boxA, AV.cells, AV.isCell, eqA, eqFs, isStructTy, eqlNeq, strOp, isBoolTy, isPtrTy, isFnTy]; exact .mk) ?_
      refine run_pick rfl (by simp [boxA, AV.cells, AV.isCell]; exact .mk) rfl rfl (by simp) (by simp [boxA, AV.cells, AV.isCell]; exact .mk) (by simp [boxA, AV.cells, AV.isCell]; exact .mk) (by simp; exact .mk) ?_
      refine run_if rfl (by simp [boxA, AV.cells, AV.isCell]; exact .mk) rfl (by simp <;> first | omega | grind) (fun hb => by simp [boxA, AV.cells, AV.isCell]; exact .mk) ?_
      refine run_if rfl (by simp [boxA, AV.cells, AV.isCell]; exact .mk) rfl (by simp <;> first | omega | grind) (fun hb => by simp [boxA, AV.cells, AV.isCell]; exact .mk) ?_
      refine run_if rfl (by simp [boxA, AV.cells, AV.isCell]; exact .mk) rfl (by simp <;> first | omega | grind) (fun hb => by simp [boxA, AV.cells, AV.isCell]; exact .mk) ?_
      refine run_call rfl (by simp [boxA, AV.cells, AV.isCell]; exact .mk) rfl rfl (by simp) (by simp [boxA, AV.cells, AV.isCell, calleeA]; exact .mk) (by simp [boxA, AV.cells, AV.isCell, kindsOf, kinds, expAs, expA, row_rows, Function.comp_def]; exact .mk) (fun hb => ct39 g X hX) (by simp [boxA, AV.cells, AV.isCell, D.noRo]) (by simp [boxA, AV.cells, AV.isCell, impA, impAs, oStt]; exact .mk) (by simp) ?_
      refine run_call rfl (by simp [boxA, AV.cells, AV.isCell]; exact .mk) rfl rfl (by simp) (by simp [boxA, AV.cells, AV.isCell, calleeA]; exact .mk) (by simp [boxA, AV.cells, AV.isCell, kindsOf, kinds, expAs, expA, row_rows, Function.comp_def]; exact .mk) (fun hb => c38) (by simp [boxA, AV.cells, AV.isCell, D.noRo]) (by simp [boxA, AV.cells, AV.isCell, impA, impAs, oStt]; exact .mk) (by simp) ?_
      refine run_pick rfl (by simp [boxA, AV.cells, AV.isCell]; exact .mk) rfl rfl (by simp) (by simp [boxA, AV.cells, AV.isCell]; exact .mk) (by simp [boxA, AV.cells, AV.isCell]; exact .mk) (by simp; exact .mk) ?_
      refine run_pick rfl (by simp [boxA, AV.cells, AV.isCell]; exact .mk) rfl rfl (by simp) (by simp [boxA, AV.cells, AV.isCell]; exact .mk) (by simp [boxA, AV.cells, AV.isCell]; exact .mk) (by simp; exact .mk) ?_
      refine run_pick rfl (by simp [boxA, AV.cells, AV.isCell]; exact .mk) rfl rfl (by simp) (by simp [boxA, AV.cells, AV.isCell]; exact .mk) (by simp [boxA, AV.cells, AV.isCell]; exact .mk) (by simp; exact .mk) ?_
      refine run_op1 rfl rfl rfl (by simp <;> first | omega | grind) (by simp [boxA, AV.cells, AV.isCell]; exact .mk) ?_
      refine run_end [4] (by simp <;> first | omega | grind) (by simp; exact .mk) ?_
      rintro -
      refine W_ret ?_
      refine end_ret (by simp [boxA, AV.cells, AV.isCell, Try.f10]; exact .mk) (by simp [boxA, AV.cells, AV.isCell, cl, cls]; exact .mk) ?_ (by simp [boxA, AV.cells, AV.isCell, D.noSn])
      simp [nrmR, nrmRs, nrmK, kindsOf, kinds, Try.f10]

end Go.Proofs
