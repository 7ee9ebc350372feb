/- Contracts of the functions of the packages shape, super, table and state: each answers what its plain function answers, for at most 2^40 elements. -/
import Derived.Test.YtaeglabjhpfepaaBase
import Derived.Test.YtaeglabjhpfepaaStA
import Derived.Test.YtaeglabjhpfepaaK
set_option linter.all false
set_option linter.unusedSimpArgs false
set_option linter.unusedVariables false
set_option maxHeartbeats 4000000
set_option maxRecDepth 4000
namespace Go.Proofs
open Go.Awp
theorem ct124 (g : Gl) (s : Shape) : CtAt Try.prog g 124 [eShape s] (.v (.bool (sizedSh s))) := by
  refine ctAt_of_W Try.func124 rfl rfl (Nat.le_of_ble_eq_true rfl) fun B S => ?_
  simp only [eShape, List.map, argD_agg]
  refine W_seq ?_
  refine W_reg rfl ?_
  refine run_op rfl rfl rfl (by simp [boxA, AV.cells, AV.isCell, boxA, AV.cells, AV.isCell]; exact .mk) ?_
  refine run_op rfl rfl rfl (by simp [boxA, AV.cells, AV.isCell]; exact .mk) ?_
  refine run_end [1] (by simp) (by simp; exact .mk) ?_
  rintro -
  refine W_seq ?_
  refine W_block ?_
  refine W_seq ?_
  refine W_seq ?_
  refine W_reg rfl ?_
  refine run_op rfl rfl rfl (by simp [boxA, AV.cells, AV.isCell]; exact .mk) ?_
  refine run_op rfl rfl rfl (by simp [boxA, AV.cells, AV.isCell]; exact .mk) ?_
  refine run_op rfl rfl rfl (by simp [boxA, AV.cells, AV.isCell, eqA, eqFs, isStructTy, eqlNeq, strOp, isBoolTy, isPtrTy, isFnTy]; exact .mk) ?_
  refine run_op rfl rfl rfl (by simp [boxA, AV.cells, AV.isCell]; exact .mk) ?_
  refine run_end [1, 3] (by simp) (by simp; exact .mk) ?_
  rintro -
  refine W_cond rfl ?_ ?_
  · intro h3
    refine W_skip ?_
    rintro -
    refine W_cond rfl ?_ ?_
    · intro h3'
      refine W_seq ?_
      refine W_reg rfl ?_
      refine run_op rfl rfl rfl (by simp [boxA, AV.cells, AV.isCell]; exact .mk) ?_
      refine run_end [2] (by simp) (by simp; exact .mk) ?_
      rintro -
      refine W_ret ?_
      refine end_ret (by simp [boxA, AV.cells, AV.isCell, Try.f124]; exact .mk) (by simp [boxA, AV.cells, AV.isCell, cl, cls]; exact .mk) ?_ (by simp [boxA, AV.cells, AV.isCell, D.noSn])
      simp [nrmR, nrmRs, nrmK, kindsOf, kinds, Try.f124, sizedSh] at *; grind
    · intro hq
      cases h3.symm.trans hq
  · intro h3
    refine W_seq ?_
    refine W_reg rfl ?_
    refine run_op rfl rfl rfl (by simp [boxA, AV.cells, AV.isCell]; exact .mk) ?_
    refine run_op rfl rfl rfl (by simp [boxA, AV.cells, AV.isCell]; exact .mk) ?_
    refine run_op rfl rfl rfl (by simp [boxA, AV.cells, AV.isCell, eqA, eqFs, isStructTy, eqlNeq, strOp, isBoolTy, isPtrTy, isFnTy]; exact .mk) ?_
    refine run_op rfl rfl rfl (by simp [boxA, AV.cells, AV.isCell]; exact .mk) ?_
    refine run_end [1, 3] (by simp) (by simp; exact .mk) ?_
    rintro -
    refine W_cond rfl ?_ ?_
    · intro h3'
      refine W_skip ?_
      rintro -
      refine W_cond rfl ?_ ?_
      · intro h3''
        refine W_seq ?_
        refine W_reg rfl ?_
        refine run_op rfl rfl rfl (by simp [boxA, AV.cells, AV.isCell]; exact .mk) ?_
        refine run_end [2] (by simp) (by simp; exact .mk) ?_
        rintro -
        refine W_ret ?_
        refine end_ret (by simp [boxA, AV.cells, AV.isCell, Try.f124]; exact .mk) (by simp [boxA, AV.cells, AV.isCell, cl, cls]; exact .mk) ?_ (by simp [boxA, AV.cells, AV.isCell, D.noSn])
        simp [nrmR, nrmRs, nrmK, kindsOf, kinds, Try.f124, sizedSh] at *; grind
      · intro hq
        cases h3'.symm.trans hq
    · intro h3'
      refine W_seq ?_
      refine W_reg rfl ?_
      refine run_op rfl rfl rfl (by simp [boxA, AV.cells, AV.isCell]; exact .mk) ?_
      refine run_op rfl rfl rfl (by simp [boxA, AV.cells, AV.isCell]; exact .mk) ?_
      refine run_op rfl rfl rfl (by simp [boxA, AV.cells, AV.isCell, eqA, eqFs, isStructTy, eqlNeq, strOp, isBoolTy, isPtrTy, isFnTy]; exact .mk) ?_
      refine run_op rfl rfl rfl (by simp [boxA, AV.cells, AV.isCell]; exact .mk) ?_
      refine run_end [1, 3] (by simp) (by simp; exact .mk) ?_
      rintro -
      refine W_cond rfl ?_ ?_
      · intro h3''
        refine W_skip ?_
        rintro -
        refine W_cond rfl ?_ ?_
        · intro h3'''
          refine W_seq ?_
          refine W_reg rfl ?_
          refine run_op rfl rfl rfl (by simp [boxA, AV.cells, AV.isCell]; exact .mk) ?_
          refine run_end [2] (by simp) (by simp; exact .mk) ?_
          rintro -
          refine W_ret ?_
          refine end_ret (by simp [boxA, AV.cells, AV.isCell, Try.f124]; exact .mk) (by simp [boxA, AV.cells, AV.isCell, cl, cls]; exact .mk) ?_ (by simp [boxA, AV.cells, AV.isCell, D.noSn])
          simp [nrmR, nrmRs, nrmK, kindsOf, kinds, Try.f124, sizedSh] at *; grind
        · intro hq
          cases h3''.symm.trans hq
      · intro h3''
        refine W_reg rfl ?_
        refine run_op rfl rfl rfl (by simp [boxA, AV.cells, AV.isCell]; exact .mk) ?_
        refine run_op rfl rfl rfl (by simp [boxA, AV.cells, AV.isCell]; exact .mk) ?_
        refine run_op rfl rfl rfl (by simp [boxA, AV.cells, AV.isCell, eqA, eqFs, isStructTy, eqlNeq, strOp, isBoolTy, isPtrTy, isFnTy]; exact .mk) ?_
        refine run_op rfl rfl rfl (by simp [boxA, AV.cells, AV.isCell]; exact .mk) ?_
        refine run_end [1, 3] (by simp) (by simp; exact .mk) ?_
        rintro -
        refine W_cond rfl ?_ ?_
        · intro h3'''
          refine W_seq ?_
          refine W_reg rfl ?_
          refine run_op rfl rfl rfl (by simp [boxA, AV.cells, AV.isCell]; exact .mk) ?_
          refine run_end [2] (by simp) (by simp; exact .mk) ?_
          rintro -
          refine W_ret ?_
          refine end_ret (by simp [boxA, AV.cells, AV.isCell, Try.f124]; exact .mk) (by simp [boxA, AV.cells, AV.isCell, cl, cls]; exact .mk) ?_ (by simp [boxA, AV.cells, AV.isCell, D.noSn])
          simp [nrmR, nrmRs, nrmK, kindsOf, kinds, Try.f124, sizedSh] at *; grind
        · intro h3'''
          refine W_seq ?_
          refine W_seq ?_
          refine W_reg rfl ?_
          refine run_op rfl rfl rfl (by simp [boxA, AV.cells, AV.isCell]; exact .mk) ?_
          refine run_op rfl rfl rfl (by simp [boxA, AV.cells, AV.isCell]; exact .mk) ?_
          refine run_op rfl rfl rfl (by simp [boxA, AV.cells, AV.isCell, eqA, eqFs, isStructTy, eqlNeq, strOp, isBoolTy, isPtrTy, isFnTy]; exact .mk) ?_
          refine run_op rfl rfl rfl (by simp [boxA, AV.cells, AV.isCell]; exact .mk) ?_
          refine run_end [1, 16] (by simp) (by simp; exact .mk) ?_
          rintro -
          refine W_cond rfl ?_ ?_
          · intro h16
            refine W_skip ?_
            rintro -
            refine W_cond rfl ?_ ?_
            · intro h16'
              refine W_seq ?_
              refine W_reg rfl ?_
              refine run_op rfl rfl rfl (by simp [boxA, AV.cells, AV.isCell]; exact .mk) ?_
              refine run_end [2] (by simp) (by simp; exact .mk) ?_
              rintro -
              refine W_ret ?_
              refine end_ret (by simp [boxA, AV.cells, AV.isCell, Try.f124]; exact .mk) (by simp [boxA, AV.cells, AV.isCell, cl, cls]; exact .mk) ?_ (by simp [boxA, AV.cells, AV.isCell, D.noSn])
              simp [nrmR, nrmRs, nrmK, kindsOf, kinds, Try.f124, sizedSh] at *; grind
            · intro hq
              cases h16.symm.trans hq
          · intro h16
            refine W_seq ?_
            refine W_reg rfl ?_
            refine run_op rfl rfl rfl (by simp [boxA, AV.cells, AV.isCell]; exact .mk) ?_
            refine run_op rfl rfl rfl (by simp [boxA, AV.cells, AV.isCell]; exact .mk) ?_
            refine run_op rfl rfl rfl (by simp [boxA, AV.cells, AV.isCell, eqA, eqFs, isStructTy, eqlNeq, strOp, isBoolTy, isPtrTy, isFnTy]; exact .mk) ?_
            refine run_op rfl rfl rfl (by simp [boxA, AV.cells, AV.isCell]; exact .mk) ?_
            refine run_end [1, 16] (by simp) (by simp; exact .mk) ?_
            rintro -
            refine W_cond rfl ?_ ?_
            · intro h16'
              refine W_skip ?_
              rintro -
              refine W_cond rfl ?_ ?_
              · intro h16''
                refine W_seq ?_
                refine W_reg rfl ?_
                refine run_op rfl rfl rfl (by simp [boxA, AV.cells, AV.isCell]; exact .mk) ?_
                refine run_end [2] (by simp) (by simp; exact .mk) ?_
                rintro -
                refine W_ret ?_
                refine end_ret (by simp [boxA, AV.cells, AV.isCell, Try.f124]; exact .mk) (by simp [boxA, AV.cells, AV.isCell, cl, cls]; exact .mk) ?_ (by simp [boxA, AV.cells, AV.isCell, D.noSn])
                simp [nrmR, nrmRs, nrmK, kindsOf, kinds, Try.f124, sizedSh] at *; grind
              · intro hq
                cases h16'.symm.trans hq
            · intro h16'
              refine W_reg rfl ?_
              refine run_op rfl rfl rfl (by simp [boxA, AV.cells, AV.isCell]; exact .mk) ?_
              refine run_op rfl rfl rfl (by simp [boxA, AV.cells, AV.isCell]; exact .mk) ?_
              refine run_op rfl rfl rfl (by simp [boxA, AV.cells, AV.isCell, eqA, eqFs, isStructTy, eqlNeq, strOp, isBoolTy, isPtrTy, isFnTy]; exact .mk) ?_
              refine run_op rfl rfl rfl (by simp [boxA, AV.cells, AV.isCell, eqA, eqFs, isStructTy, eqlNeq, strOp, isBoolTy, isPtrTy, isFnTy]; exact .mk) ?_
              refine run_op rfl rfl rfl (by simp [boxA, AV.cells, AV.isCell]; exact .mk) ?_
              refine run_end [1, 16] (by simp) (by simp; exact .mk) ?_
              rintro -
              refine W_cond rfl ?_ ?_
              · intro h16''
                refine W_seq ?_
                refine W_reg rfl ?_
                refine run_op rfl rfl rfl (by simp [boxA, AV.cells, AV.isCell]; exact .mk) ?_
                refine run_end [2] (by simp) (by simp; exact .mk) ?_
                rintro -
                refine W_ret ?_
                refine end_ret (by simp [boxA, AV.cells, AV.isCell, Try.f124]; exact .mk) (by simp [boxA, AV.cells, AV.isCell, cl, cls]; exact .mk) ?_ (by simp [boxA, AV.cells, AV.isCell, D.noSn])
                simp [nrmR, nrmRs, nrmK, kindsOf, kinds, Try.f124, sizedSh] at *; grind
              · intro h16''
                refine W_skip ?_
                rintro -
                refine W_seq ?_
                refine W_reg rfl ?_
                refine run_op rfl rfl rfl (by simp [boxA, AV.cells, AV.isCell]; exact .mk) ?_
                refine run_op rfl rfl rfl (by simp [boxA, AV.cells, AV.isCell]; exact .mk) ?_
                refine run_op rfl rfl rfl (by simp [boxA, AV.cells, AV.isCell, eqA, eqFs, isStructTy, eqlNeq, strOp, isBoolTy, isPtrTy, isFnTy]; exact .mk) ?_
                refine run_op rfl rfl rfl (by simp [boxA, AV.cells, AV.isCell]; exact .mk) ?_
                refine run_if rfl (by simp [boxA, AV.cells, AV.isCell]; exact .mk) rfl (by simp <;> first | omega | grind) (fun hb => by simp [boxA, AV.cells, AV.isCell]; exact .mk) ?_
                refine run_if rfl (by simp [boxA, AV.cells, AV.isCell]; exact .mk) rfl (by simp <;> first | omega | grind) (fun hb => by simp [boxA, AV.cells, AV.isCell]; exact .mk) ?_
                refine run_if rfl (by simp [boxA, AV.cells, AV.isCell]; exact .mk) rfl (by simp <;> first | omega | grind) (fun hb => by simp [boxA, AV.cells, AV.isCell, eqA, eqFs, isStructTy, eqlNeq, strOp, isBoolTy, isPtrTy, isFnTy]; exact .mk) ?_
                refine run_pick rfl (by simp [boxA, AV.cells, AV.isCell]; exact .mk) rfl rfl (by simp) (by simp [boxA, AV.cells, AV.isCell]; exact .mk) (by simp [boxA, AV.cells, AV.isCell]; exact .mk) (by simp; exact .mk) ?_
                refine run_op1 rfl rfl rfl (by simp <;> first | omega | grind) (by simp [boxA, AV.cells, AV.isCell]; exact .mk) ?_
                refine run_if rfl (by simp [boxA, AV.cells, AV.isCell]; exact .mk) rfl (by simp <;> first | omega | grind) (fun hb => by simp [boxA, AV.cells, AV.isCell]; exact .mk) ?_
                refine run_if rfl (by simp [boxA, AV.cells, AV.isCell]; exact .mk) rfl (by simp <;> first | omega | grind) (fun hb => by simp [boxA, AV.cells, AV.isCell]; exact .mk) ?_
                refine run_if rfl (by simp [boxA, AV.cells, AV.isCell]; exact .mk) rfl (by simp <;> first | omega | grind) (fun hb => by simp [boxA, AV.cells, AV.isCell, eqA, eqFs, isStructTy, eqlNeq, strOp, isBoolTy, isPtrTy, isFnTy]; exact .mk) ?_
                refine run_if rfl (by simp [boxA, AV.cells, AV.isCell]; exact .mk) rfl (by simp <;> first | omega | grind) (fun hb => by simp [boxA, AV.cells, AV.isCell, eqA, eqFs, isStructTy, eqlNeq, strOp, isBoolTy, isPtrTy, isFnTy]; exact .mk) ?_
                refine run_pick rfl (by simp [boxA, AV.cells, AV.isCell]; exact .mk) rfl rfl (by simp) (by simp [boxA, AV.cells, AV.isCell]; exact .mk) (by simp [boxA, AV.cells, AV.isCell]; exact .mk) (by simp; exact .mk) ?_
                refine run_op1 rfl rfl rfl (by simp <;> first | omega | grind) (by simp [boxA, AV.cells, AV.isCell]; exact .mk) ?_
                refine run_end [2] (by simp <;> first | omega | grind) (by simp; exact .mk) ?_
                rintro -
                refine W_ret ?_
                refine end_ret (by simp [boxA, AV.cells, AV.isCell, Try.f124]; exact .mk) (by simp [boxA, AV.cells, AV.isCell, cl, cls]; exact .mk) ?_ (by simp [boxA, AV.cells, AV.isCell, D.noSn])
                simp [nrmR, nrmRs, nrmK, kindsOf, kinds, Try.f124, sizedSh] at *; grind

theorem ct126 (g : Gl) (mark first room n : Int) (h1 : -2^40 ≤ mark ∧ mark ≤ 2^40) (h2 : -2^40 ≤ n ∧ n ≤ 2^40) (h3 : 0 ≤ first ∧ first ≤ 2^40) (h4 : 0 ≤ room ∧ room ≤ 4096) : CtAt Try.prog g 126 [.agg [vI mark, vI first, vI room], vI n] (.v (.bool (walS mark first room n))) := by
  refine ctAt_of_W Try.func126 rfl rfl (Nat.le_of_ble_eq_true rfl) fun B S => ?_
  simp only [List.map, argD_agg, argD_v]
  have e1 : IntKind.i64.wrap (2 * room) = 2 * room := wrap64 (by omega) (by omega)
  have e2 : IntKind.i64.wrap (n - first) = n - first := wrap64 (by omega) (by omega)
  have e3 : IntKind.i64.wrap (mark - first) = mark - first := wrap64 (by omega) (by omega)
  refine W_seq ?_
  refine W_reg rfl ?_
  refine run_op rfl rfl rfl (by simp [boxA, AV.cells, AV.isCell, boxA, AV.cells, AV.isCell]; exact .mk) ?_
  refine run_op rfl rfl rfl (by simp [boxA, AV.cells, AV.isCell]; exact .mk) ?_
  refine run_end [1, 2] (by simp) (by simp; exact .mk) ?_
  rintro -
  refine W_seq ?_
  refine W_block ?_
  refine W_seq ?_
  refine W_seq ?_
  refine W_reg rfl ?_
  refine run_op rfl rfl rfl (by simp [boxA, AV.cells, AV.isCell]; exact .mk) ?_
  refine run_op rfl rfl rfl (by simp [boxA, AV.cells, AV.isCell]; exact .mk) ?_
  refine run_op rfl rfl rfl (by simp [boxA, AV.cells, AV.isCell, eqA, eqFs, isStructTy, eqlNeq, strOp, isBoolTy, isPtrTy, isFnTy]; exact .mk) ?_
  refine run_op rfl rfl rfl (by simp [boxA, AV.cells, AV.isCell]; exact .mk) ?_
  refine run_end [1, 2, 5] (by simp) (by simp; exact .mk) ?_
  rintro -
  refine W_cond rfl ?_ ?_
  · intro h5
    refine W_skip ?_
    rintro -
    refine W_cond rfl ?_ ?_
    · intro h5'
      refine W_seq ?_
      refine W_reg rfl ?_
      refine run_op rfl rfl rfl (by simp [boxA, AV.cells, AV.isCell]; exact .mk) ?_
      refine run_end [4] (by simp) (by simp; exact .mk) ?_
      rintro -
      refine W_ret ?_
      refine end_ret (by simp [boxA, AV.cells, AV.isCell, Try.f126]; exact .mk) (by simp [boxA, AV.cells, AV.isCell, cl, cls]; exact .mk) ?_ (by simp [boxA, AV.cells, AV.isCell, D.noSn])
      simp [nrmR, nrmRs, nrmK, kindsOf, kinds, Try.f126, walS] at *; grind
    · intro hq
      cases h5.symm.trans hq
  · intro h5
    refine W_seq ?_
    refine W_reg rfl ?_
    refine run_op rfl rfl rfl (by simp [boxA, AV.cells, AV.isCell]; exact .mk) ?_
    refine run_op rfl rfl rfl (by simp [boxA, AV.cells, AV.isCell]; exact .mk) ?_
    refine run_op rfl rfl rfl (by simp [boxA, AV.cells, AV.isCell, eqA, eqFs, isStructTy, eqlNeq, strOp, isBoolTy, isPtrTy, isFnTy]; exact .mk) ?_
    refine run_op rfl rfl rfl (by simp [boxA, AV.cells, AV.isCell]; exact .mk) ?_
    refine run_end [1, 2, 5] (by simp) (by simp; exact .mk) ?_
    rintro -
    refine W_cond rfl ?_ ?_
    · intro h5'
      refine W_skip ?_
      rintro -
      refine W_cond rfl ?_ ?_
      · intro h5''
        refine W_seq ?_
        refine W_reg rfl ?_
        refine run_op rfl rfl rfl (by simp [boxA, AV.cells, AV.isCell]; exact .mk) ?_
        refine run_end [4] (by simp) (by simp; exact .mk) ?_
        rintro -
        refine W_ret ?_
        refine end_ret (by simp [boxA, AV.cells, AV.isCell, Try.f126]; exact .mk) (by simp [boxA, AV.cells, AV.isCell, cl, cls]; exact .mk) ?_ (by simp [boxA, AV.cells, AV.isCell, D.noSn])
        simp [nrmR, nrmRs, nrmK, kindsOf, kinds, Try.f126, walS] at *; grind
      · intro hq
        cases h5'.symm.trans hq
    · intro h5'
      refine W_seq ?_
      refine W_reg rfl ?_
      refine run_op rfl rfl rfl (by simp [boxA, AV.cells, AV.isCell]; exact .mk) ?_
      refine run_op rfl rfl rfl (by simp [boxA, AV.cells, AV.isCell]; exact .mk) ?_
      refine run_op rfl rfl rfl (by simp [boxA, AV.cells, AV.isCell, eqA, eqFs, isStructTy, eqlNeq, strOp, isBoolTy, isPtrTy, isFnTy]; exact .mk) ?_
      refine run_op rfl rfl rfl (by simp [boxA, AV.cells, AV.isCell]; exact .mk) ?_
      refine run_end [1, 2, 5] (by simp) (by simp; exact .mk) ?_
      rintro -
      refine W_cond rfl ?_ ?_
      · intro h5''
        refine W_skip ?_
        rintro -
        refine W_cond rfl ?_ ?_
        · intro h5'''
          refine W_seq ?_
          refine W_reg rfl ?_
          refine run_op rfl rfl rfl (by simp [boxA, AV.cells, AV.isCell]; exact .mk) ?_
          refine run_end [4] (by simp) (by simp; exact .mk) ?_
          rintro -
          refine W_ret ?_
          refine end_ret (by simp [boxA, AV.cells, AV.isCell, Try.f126]; exact .mk) (by simp [boxA, AV.cells, AV.isCell, cl, cls]; exact .mk) ?_ (by simp [boxA, AV.cells, AV.isCell, D.noSn])
          simp [nrmR, nrmRs, nrmK, kindsOf, kinds, Try.f126, walS] at *; grind
        · intro hq
          cases h5''.symm.trans hq
      · intro h5''
        refine W_reg rfl ?_
        refine run_op rfl rfl rfl (by simp [boxA, AV.cells, AV.isCell]; exact .mk) ?_
        refine run_op rfl rfl rfl (by simp [boxA, AV.cells, AV.isCell]; exact .mk) ?_
        refine run_op rfl rfl rfl (by simp [boxA, AV.cells, AV.isCell]; exact .mk) ?_
        refine run_op rfl rfl rfl (by simp [boxA, AV.cells, AV.isCell, eqA, eqFs, isStructTy, eqlNeq, strOp, isBoolTy, isPtrTy, isFnTy]; exact .mk) ?_
        refine run_op rfl rfl rfl (by simp [boxA, AV.cells, AV.isCell]; exact .mk) ?_
        refine run_end [1, 2, 5] (by simp) (by simp; exact .mk) ?_
        rintro -
        refine W_cond rfl ?_ ?_
        · intro h5'''
          refine W_seq ?_
          refine W_reg rfl ?_
          refine run_op rfl rfl rfl (by simp [boxA, AV.cells, AV.isCell]; exact .mk) ?_
          refine run_end [4] (by simp) (by simp; exact .mk) ?_
          rintro -
          refine W_ret ?_
          refine end_ret (by simp [boxA, AV.cells, AV.isCell, Try.f126]; exact .mk) (by simp [boxA, AV.cells, AV.isCell, cl, cls]; exact .mk) ?_ (by simp [boxA, AV.cells, AV.isCell, D.noSn])
          simp [nrmR, nrmRs, nrmK, kindsOf, kinds, Try.f126, walS] at *; grind
        · intro h5'''
          refine W_seq ?_
          refine W_seq ?_
          refine W_reg rfl ?_
          refine run_op rfl rfl rfl (by simp [boxA, AV.cells, AV.isCell]; exact .mk) ?_
          refine run_op rfl rfl rfl (by simp [boxA, AV.cells, AV.isCell]; exact .mk) ?_
          refine run_op rfl rfl rfl (by simp [boxA, AV.cells, AV.isCell, eqA, eqFs, isStructTy, eqlNeq, strOp, isBoolTy, isPtrTy, isFnTy, e1]; exact .mk) ?_
          refine run_op rfl rfl rfl (by simp [boxA, AV.cells, AV.isCell]; exact .mk) ?_
          refine run_op rfl rfl rfl (by simp [boxA, AV.cells, AV.isCell]; exact .mk) ?_
          refine run_op rfl rfl rfl (by simp [boxA, AV.cells, AV.isCell]; exact .mk) ?_
          refine run_op rfl rfl rfl (by simp [boxA, AV.cells, AV.isCell, eqA, eqFs, isStructTy, eqlNeq, strOp, isBoolTy, isPtrTy, isFnTy, e2]; exact .mk) ?_
          refine run_op rfl rfl rfl (by simp [boxA, AV.cells, AV.isCell, eqA, eqFs, isStructTy, eqlNeq, strOp, isBoolTy, isPtrTy, isFnTy]; exact .mk) ?_
          refine run_op rfl rfl rfl (by simp [boxA, AV.cells, AV.isCell]; exact .mk) ?_
          refine run_end [1, 2, 19] (by simp) (by simp; exact .mk) ?_
          rintro -
          refine W_cond rfl ?_ ?_
          · intro h19
            refine W_skip ?_
            rintro -
            refine W_cond rfl ?_ ?_
            · intro h19'
              refine W_seq ?_
              refine W_reg rfl ?_
              refine run_op rfl rfl rfl (by simp [boxA, AV.cells, AV.isCell]; exact .mk) ?_
              refine run_end [4] (by simp) (by simp; exact .mk) ?_
              rintro -
              refine W_ret ?_
              refine end_ret (by simp [boxA, AV.cells, AV.isCell, Try.f126]; exact .mk) (by simp [boxA, AV.cells, AV.isCell, cl, cls]; exact .mk) ?_ (by simp [boxA, AV.cells, AV.isCell, D.noSn])
              simp [nrmR, nrmRs, nrmK, kindsOf, kinds, Try.f126, walS] at *; grind
            · intro hq
              cases h19.symm.trans hq
          · intro h19
            refine W_seq ?_
            refine W_reg rfl ?_
            refine run_op rfl rfl rfl (by simp [boxA, AV.cells, AV.isCell]; exact .mk) ?_
            refine run_op rfl rfl rfl (by simp [boxA, AV.cells, AV.isCell]; exact .mk) ?_
            refine run_op rfl rfl rfl (by simp [boxA, AV.cells, AV.isCell, eqA, eqFs, isStructTy, eqlNeq, strOp, isBoolTy, isPtrTy, isFnTy]; exact .mk) ?_
            refine run_op rfl rfl rfl (by simp [boxA, AV.cells, AV.isCell]; exact .mk) ?_
            refine run_end [1, 2, 19] (by simp) (by simp; exact .mk) ?_
            rintro -
            refine W_cond rfl ?_ ?_
            · intro h19'
              refine W_skip ?_
              rintro -
              refine W_cond rfl ?_ ?_
              · intro h19''
                refine W_seq ?_
                refine W_reg rfl ?_
                refine run_op rfl rfl rfl (by simp [boxA, AV.cells, AV.isCell]; exact .mk) ?_
                refine run_end [4] (by simp) (by simp; exact .mk) ?_
                rintro -
                refine W_ret ?_
                refine end_ret (by simp [boxA, AV.cells, AV.isCell, Try.f126]; exact .mk) (by simp [boxA, AV.cells, AV.isCell, cl, cls]; exact .mk) ?_ (by simp [boxA, AV.cells, AV.isCell, D.noSn])
                simp [nrmR, nrmRs, nrmK, kindsOf, kinds, Try.f126, walS] at *; grind
              · intro hq
                cases h19'.symm.trans hq
            · intro h19'
              refine W_reg rfl ?_
              refine run_op rfl rfl rfl (by simp [boxA, AV.cells, AV.isCell]; exact .mk) ?_
              refine run_op rfl rfl rfl (by simp [boxA, AV.cells, AV.isCell]; exact .mk) ?_
              refine run_op rfl rfl rfl (by simp [boxA, AV.cells, AV.isCell]; exact .mk) ?_
              refine run_op rfl rfl rfl (by simp [boxA, AV.cells, AV.isCell, eqA, eqFs, isStructTy, eqlNeq, strOp, isBoolTy, isPtrTy, isFnTy]; exact .mk) ?_
              refine run_op rfl rfl rfl (by simp [boxA, AV.cells, AV.isCell]; exact .mk) ?_
              refine run_end [2, 19] (by simp) (by simp; exact .mk) ?_
              rintro -
              refine W_cond rfl ?_ ?_
              · intro h19''
                refine W_seq ?_
                refine W_reg rfl ?_
                refine run_op rfl rfl rfl (by simp [boxA, AV.cells, AV.isCell]; exact .mk) ?_
                refine run_end [4] (by simp) (by simp; exact .mk) ?_
                rintro -
                refine W_ret ?_
                refine end_ret (by simp [boxA, AV.cells, AV.isCell, Try.f126]; exact .mk) (by simp [boxA, AV.cells, AV.isCell, cl, cls]; exact .mk) ?_ (by simp [boxA, AV.cells, AV.isCell, D.noSn])
                simp [nrmR, nrmRs, nrmK, kindsOf, kinds, Try.f126, walS] at *; grind
              · intro h19''
                refine W_skip ?_
                rintro -
                refine W_seq ?_
                refine W_reg rfl ?_
                refine run_op rfl rfl rfl (by simp [boxA, AV.cells, AV.isCell]; exact .mk) ?_
                refine run_op rfl rfl rfl (by simp [boxA, AV.cells, AV.isCell]; exact .mk) ?_
                refine run_op rfl rfl rfl (by simp [boxA, AV.cells, AV.isCell]; exact .mk) ?_
                refine run_op rfl rfl rfl (by simp [boxA, AV.cells, AV.isCell]; exact .mk) ?_
                refine run_op rfl rfl rfl (by simp [boxA, AV.cells, AV.isCell, eqA, eqFs, isStructTy, eqlNeq, strOp, isBoolTy, isPtrTy, isFnTy]; exact .mk) ?_
                refine run_op rfl rfl rfl (by simp [boxA, AV.cells, AV.isCell]; exact .mk) ?_
                refine run_if rfl (by simp [boxA, AV.cells, AV.isCell]; exact .mk) rfl (by simp <;> first | omega | grind) (fun hb => by simp [boxA, AV.cells, AV.isCell]; exact .mk) ?_
                refine run_if rfl (by simp [boxA, AV.cells, AV.isCell]; exact .mk) rfl (by simp <;> first | omega | grind) (fun hb => by simp [boxA, AV.cells, AV.isCell]; exact .mk) ?_
                refine run_if rfl (by simp [boxA, AV.cells, AV.isCell]; exact .mk) rfl (by simp <;> first | omega | grind) (fun hb => by simp [boxA, AV.cells, AV.isCell]; exact .mk) ?_
                refine run_if rfl (by simp [boxA, AV.cells, AV.isCell]; exact .mk) rfl (by simp <;> first | omega | grind) (fun hb => by simp [boxA, AV.cells, AV.isCell]; exact .mk) ?_
                refine run_if rfl (by simp [boxA, AV.cells, AV.isCell]; exact .mk) rfl (by simp <;> first | omega | grind) (fun hb => by simp [boxA, AV.cells, AV.isCell, eqA, eqFs, isStructTy, eqlNeq, strOp, isBoolTy, isPtrTy, isFnTy, e3]; exact .mk) ?_
                refine run_if rfl (by simp [boxA, AV.cells, AV.isCell]; exact .mk) rfl (by simp <;> first | omega | grind) (fun hb => by simp [boxA, AV.cells, AV.isCell]; exact .mk) ?_
                refine run_if rfl (by simp [boxA, AV.cells, AV.isCell]; exact .mk) rfl (by simp <;> first | omega | grind) (fun hb => by simp [boxA, AV.cells, AV.isCell]; exact .mk) ?_
                refine run_if rfl (by simp [boxA, AV.cells, AV.isCell]; exact .mk) rfl (by simp <;> first | omega | grind) (fun hb => by simp [boxA, AV.cells, AV.isCell, eqA, eqFs, isStructTy, eqlNeq, strOp, isBoolTy, isPtrTy, isFnTy, e1]; exact .mk) ?_
                refine run_if rfl (by simp [boxA, AV.cells, AV.isCell]; exact .mk) rfl (by simp <;> first | omega | grind) (fun hb => by simp [boxA, AV.cells, AV.isCell, eqA, eqFs, isStructTy, eqlNeq, strOp, isBoolTy, isPtrTy, isFnTy]; exact .mk) ?_
                refine run_pick rfl (by simp [boxA, AV.cells, AV.isCell]; exact .mk) rfl rfl (by simp) (by simp [boxA, AV.cells, AV.isCell]; exact .mk) (by simp [boxA, AV.cells, AV.isCell]; exact .mk) (by simp; exact .mk) ?_
                refine run_op1 rfl rfl rfl (by simp <;> first | omega | grind) (by simp [boxA, AV.cells, AV.isCell]; exact .mk) ?_
                refine run_end [4] (by simp <;> first | omega | grind) (by simp; exact .mk) ?_
                rintro -
                refine W_ret ?_
                refine end_ret (by simp [boxA, AV.cells, AV.isCell, Try.f126]; exact .mk) (by simp [boxA, AV.cells, AV.isCell, cl, cls]; exact .mk) ?_ (by simp [boxA, AV.cells, AV.isCell, D.noSn])
                simp [nrmR, nrmRs, nrmK, kindsOf, kinds, Try.f126, walS] at *; grind

theorem ct115 (g : Gl) (s : Slot) : CtAt Try.prog g 115 [eSlot s] (.v (.bool (slotS1 s))) := by
  refine ctAt_of_W Try.func115 rfl rfl (Nat.le_of_ble_eq_true rfl) fun B S => ?_
  simp only [eSlot, List.map, argD_agg]
  refine W_seq ?_
  refine W_reg rfl ?_
  refine run_op rfl rfl rfl (by simp [boxA, AV.cells, AV.isCell, boxA, AV.cells, AV.isCell]; exact .mk) ?_
  refine run_op rfl rfl rfl (by simp [boxA, AV.cells, AV.isCell]; exact .mk) ?_
  refine run_end [1] (by simp) (by simp; exact .mk) ?_
  rintro -
  refine W_seq ?_
  refine W_block ?_
  refine W_seq ?_
  refine W_reg rfl ?_
  refine run_op rfl rfl rfl (by simp [boxA, AV.cells, AV.isCell]; exact .mk) ?_
  refine run_op rfl rfl rfl (by simp [boxA, AV.cells, AV.isCell]; exact .mk) ?_
  refine run_op rfl rfl rfl (by simp [boxA, AV.cells, AV.isCell, eqA, eqFs, isStructTy, eqlNeq, strOp, isBoolTy, isPtrTy, isFnTy]; exact .mk) ?_
  refine run_op rfl rfl rfl (by simp [boxA, AV.cells, AV.isCell]; exact .mk) ?_
  refine run_if rfl (by simp [boxA, AV.cells, AV.isCell]; exact .mk) rfl (by simp <;> first | omega | grind) (fun hb => by simp [boxA, AV.cells, AV.isCell]; exact .mk) ?_
  refine run_if rfl (by simp [boxA, AV.cells, AV.isCell]; exact .mk) rfl (by simp <;> first | omega | grind) (fun hb => by simp [boxA, AV.cells, AV.isCell]; exact .mk) ?_
  refine run_if rfl (by simp [boxA, AV.cells, AV.isCell]; exact .mk) rfl (by simp <;> first | omega | grind) (fun hb => by simp [boxA, AV.cells, AV.isCell, eqA, eqFs, isStructTy, eqlNeq, strOp, isBoolTy, isPtrTy, isFnTy]; exact .mk) ?_
  refine run_pick rfl (by simp [boxA, AV.cells, AV.isCell]; exact .mk) rfl rfl (by simp) (by simp [boxA, AV.cells, AV.isCell]; exact .mk) (by simp [boxA, AV.cells, AV.isCell]; exact .mk) (by simp; exact .mk) ?_
  refine run_op1 rfl rfl rfl (by simp <;> first | omega | grind) (by simp [boxA, AV.cells, AV.isCell]; exact .mk) ?_
  refine run_end [1, 3] (by simp <;> first | omega | grind) (by simp; exact .mk) ?_
  rintro -
  refine W_cond rfl ?_ ?_
  · intro h3
    refine W_seq ?_
    refine W_reg rfl ?_
    refine run_op rfl rfl rfl (by simp [boxA, AV.cells, AV.isCell]; exact .mk) ?_
    refine run_end [2] (by simp) (by simp; exact .mk) ?_
    rintro -
    refine W_ret ?_
    refine end_ret (by simp [boxA, AV.cells, AV.isCell, Try.f115]; exact .mk) (by simp [boxA, AV.cells, AV.isCell, cl, cls]; exact .mk) ?_ (by simp [boxA, AV.cells, AV.isCell, D.noSn])
    simp [nrmR, nrmRs, nrmK, kindsOf, kinds, Try.f115, slotS1] at *; grind
  · intro h3
    refine W_seq ?_
    refine W_reg rfl ?_
    refine run_op rfl rfl rfl (by simp [boxA, AV.cells, AV.isCell]; exact .mk) ?_
    refine run_op rfl rfl rfl (by simp [boxA, AV.cells, AV.isCell]; exact .mk) ?_
    refine run_op rfl rfl rfl (by simp [boxA, AV.cells, AV.isCell, unA]; exact .mk) ?_
    refine run_op rfl rfl rfl (by simp [boxA, AV.cells, AV.isCell]; exact .mk) ?_
    refine run_end [1, 12] (by simp) (by simp; exact .mk) ?_
    rintro -
    refine W_cond rfl ?_ ?_
    · intro h12
      refine W_seq ?_
      refine W_reg rfl ?_
      refine run_op rfl rfl rfl (by simp [boxA, AV.cells, AV.isCell]; exact .mk) ?_
      refine run_op rfl rfl rfl (by simp [boxA, AV.cells, AV.isCell]; exact .mk) ?_
      refine run_op rfl rfl rfl (by simp [boxA, AV.cells, AV.isCell]; exact .mk) ?_
      refine run_op rfl rfl rfl (by simp [boxA, AV.cells, AV.isCell, buildA, fillA, placesOf, splice, Value.oneCell', AV.cells, AV.isCell]; exact .mk) ?_
      refine run_op rfl rfl rfl (by simp [boxA, AV.cells, AV.isCell, eqA, eqFs, isStructTy, eqlNeq, strOp, isBoolTy, isPtrTy, isFnTy]; exact .mk) ?_
      refine run_op rfl rfl rfl (by simp [boxA, AV.cells, AV.isCell]; exact .mk) ?_
      refine run_end [2] (by simp) (by simp; exact .mk) ?_
      rintro -
      refine W_ret ?_
      refine end_ret (by simp [boxA, AV.cells, AV.isCell, Try.f115]; exact .mk) (by simp [boxA, AV.cells, AV.isCell, cl, cls]; exact .mk) ?_ (by simp [boxA, AV.cells, AV.isCell, D.noSn])
      simp [nrmR, nrmRs, nrmK, kindsOf, kinds, Try.f115, slotS1] at *; grind
    · intro h12
      refine W_skip ?_
      rintro -
      refine W_seq ?_
      refine W_reg rfl ?_
      refine run_op rfl rfl rfl (by simp [boxA, AV.cells, AV.isCell]; exact .mk) ?_
      refine run_op rfl rfl rfl (by simp [boxA, AV.cells, AV.isCell]; exact .mk) ?_
      refine run_op rfl rfl rfl (by simp [boxA, AV.cells, AV.isCell, eqA, eqFs, isStructTy, eqlNeq, strOp, isBoolTy, isPtrTy, isFnTy]; exact .mk) ?_
      refine run_op rfl rfl rfl (by simp [boxA, AV.cells, AV.isCell]; exact .mk) ?_
      refine run_if rfl (by simp [boxA, AV.cells, AV.isCell]; exact .mk) rfl (by simp <;> first | omega | grind) (fun hb => by simp [boxA, AV.cells, AV.isCell]; exact .mk) ?_
      refine run_if rfl (by simp [boxA, AV.cells, AV.isCell]; exact .mk) rfl (by simp <;> first | omega | grind) (fun hb => by simp [boxA, AV.cells, AV.isCell]; exact .mk) ?_
      refine run_if rfl (by simp [boxA, AV.cells, AV.isCell]; exact .mk) rfl (by simp <;> first | omega | grind) (fun hb => by simp [boxA, AV.cells, AV.isCell, eqA, eqFs, isStructTy, eqlNeq, strOp, isBoolTy, isPtrTy, isFnTy]; exact .mk) ?_
      refine run_pick rfl (by simp [boxA, AV.cells, AV.isCell]; exact .mk) rfl rfl (by simp) (by simp [boxA, AV.cells, AV.isCell]; exact .mk) (by simp [boxA, AV.cells, AV.isCell]; exact .mk) (by simp; exact .mk) ?_
      refine run_op1 rfl rfl rfl (by simp <;> first | omega | grind) (by simp [boxA, AV.cells, AV.isCell]; exact .mk) ?_
      refine run_if rfl (by simp [boxA, AV.cells, AV.isCell]; exact .mk) rfl (by simp <;> first | omega | grind) (fun hb => by simp [boxA, AV.cells, AV.isCell]; exact .mk) ?_
      refine run_if rfl (by simp [boxA, AV.cells, AV.isCell]; exact .mk) rfl (by simp <;> first | omega | grind) (fun hb => by simp [boxA, AV.cells, AV.isCell]; exact .mk) ?_
      refine run_if rfl (by simp [boxA, AV.cells, AV.isCell]; exact .mk) rfl (by simp <;> first | omega | grind) (fun hb => by simp [boxA, AV.cells, AV.isCell, eqA, eqFs, isStructTy, eqlNeq, strOp, isBoolTy, isPtrTy, isFnTy]; exact .mk) ?_
      refine run_pick rfl (by simp [boxA, AV.cells, AV.isCell]; exact .mk) rfl rfl (by simp) (by simp [boxA, AV.cells, AV.isCell]; exact .mk) (by simp [boxA, AV.cells, AV.isCell]; exact .mk) (by simp; exact .mk) ?_
      refine run_op1 rfl rfl rfl (by simp <;> first | omega | grind) (by simp [boxA, AV.cells, AV.isCell]; exact .mk) ?_
      refine run_if rfl (by simp [boxA, AV.cells, AV.isCell]; exact .mk) rfl (by simp <;> first | omega | grind) (fun hb => by simp [boxA, AV.cells, AV.isCell]; exact .mk) ?_
      refine run_if rfl (by simp [boxA, AV.cells, AV.isCell]; exact .mk) rfl (by simp <;> first | omega | grind) (fun hb => by simp [boxA, AV.cells, AV.isCell]; exact .mk) ?_
      refine run_if rfl (by simp [boxA, AV.cells, AV.isCell]; exact .mk) rfl (by simp <;> first | omega | grind) (fun hb => by simp [boxA, AV.cells, AV.isCell, eqA, eqFs, isStructTy, eqlNeq, strOp, isBoolTy, isPtrTy, isFnTy]; exact .mk) ?_
      refine run_pick rfl (by simp [boxA, AV.cells, AV.isCell]; exact .mk) rfl rfl (by simp) (by simp [boxA, AV.cells, AV.isCell]; exact .mk) (by simp [boxA, AV.cells, AV.isCell]; exact .mk) (by simp; exact .mk) ?_
      refine run_op1 rfl rfl rfl (by simp <;> first | omega | grind) (by simp [boxA, AV.cells, AV.isCell]; exact .mk) ?_
      refine run_end [2] (by simp <;> first | omega | grind) (by simp; exact .mk) ?_
      rintro -
      refine W_ret ?_
      refine end_ret (by simp [boxA, AV.cells, AV.isCell, Try.f115]; exact .mk) (by simp [boxA, AV.cells, AV.isCell, cl, cls]; exact .mk) ?_ (by simp [boxA, AV.cells, AV.isCell, D.noSn])
      simp [nrmR, nrmRs, nrmK, kindsOf, kinds, Try.f115, slotS1] at *; grind

theorem ct96 (g : Gl) (l : List Slot) (hl : l.length ≤ 2^40) : CtAt Try.prog g 96 [rSl l] (.v (.bool (tableS l))) := by
  refine ctAt_of_W Try.func96 rfl rfl (Nat.le_of_ble_eq_true rfl) fun B S => ?_
  refine W_seq ?_
  refine W_reg rfl ?_
  refine run_op rfl rfl rfl (by simp [boxA, AV.cells, AV.isCell]; exact .mk) ?_
  refine run_end [0] (by simp) (by simp; exact .mk) ?_
  rintro -
  refine W_seq ?_
  refine W_seq ?_
  refine W_reg rfl ?_
  refine run_op rfl rfl rfl (by simp [boxA, AV.cells, AV.isCell]; exact .mk) ?_
  refine run_op rfl rfl rfl (by simp [boxA, AV.cells, AV.isCell]; exact .mk) ?_
  refine run_op rfl rfl rfl (by simp [boxA, AV.cells, AV.isCell]; exact .mk) ?_
  refine run_end [0, 7, 8, 9] (by simp) (by simp; exact .mk) ?_
  rintro -
  refine W_block ?_
  refine W_rounds (fun m σ o => ∃ i : Nat, m = l.length - i ∧ i ≤ l.length ∧ (∀ j, j < i → slotS1 (nth l j) = true) ∧ σ = slots [(0, .d (rSl l)), (7, .d (rSl l)), (8, .d (vI l.length)), (9, .d (vI i))] ∧ o = []) l.length .refl ⟨0, by simp, by simp, by simp, rfl, rfl⟩ ?_
  rintro m σ o ⟨i, rfl, hi, hinv, rfl, rfl⟩ _
  refine W_seq ?_
  refine W_reg rfl ?_
  refine run_op rfl rfl rfl (by simp [boxA, AV.cells, AV.isCell, eqA, eqFs, isStructTy, eqlNeq, strOp, isBoolTy, isPtrTy, isFnTy]; exact .mk) ?_
  refine run_end [0, 7, 8, 9, 10] (by simp) (by simp; exact .mk) ?_
  rintro -
  refine W_seq ?_
  refine W_cond rfl ?_ ?_
  · intro h10
    have hi2 : i < l.length := by simpa using h10
    refine W_skip ?_
    rintro -
    refine W_seq ?_
    refine W_block ?_
    refine W_seq ?_
    refine W_reg rfl ?_
    refine run_op rfl rfl rfl (by simp [boxA, AV.cells, AV.isCell, eSlot, *]; exact .mk) ?_
    refine run_op rfl rfl rfl (by simp [boxA, AV.cells, AV.isCell, eSlot]; exact .mk) ?_
    refine run_op rfl rfl rfl (by simp [boxA, AV.cells, AV.isCell, allocA, Value.oneCell']; exact .mk) ?_
    refine run_op rfl rfl rfl (by simp [boxA, AV.cells, AV.isCell, storeA, AV.cells, AV.isCell, splice]; exact .mk) ?_
    refine run_end [0, 4, 7, 8, 9] (by simp) (by simp; exact .mk) ?_
    rintro -
    refine W_seq ?_
    refine W_reg rfl ?_
    refine run_op rfl rfl rfl (by simp [boxA, AV.cells, AV.isCell, eSlot]; exact .mk) ?_
    refine run_call0 rfl rfl rfl rfl (by simp [boxA, AV.cells, AV.isCell, calleeA]; exact .mk) (by simp [boxA, AV.cells, AV.isCell, kindsOf, kinds, expAs, expA]; exact .mk) (ct115 g (nth l i)) (by simp [boxA, AV.cells, AV.isCell, D.noRo]) (by simp [boxA, AV.cells, AV.isCell, impA, impAs]; exact .mk) ?_
    refine run_op rfl rfl rfl (by simp [boxA, AV.cells, AV.isCell, unA]; exact .mk) ?_
    refine run_end [0, 7, 8, 9, 15] (by simp) (by simp; exact .mk) ?_
    rintro -
    refine W_cond rfl ?_ ?_
    · intro h15
      have hr : tableS l = false := by unfold tableS; rw [all_bad hi2 (by simpa using h15)]; rfl
      refine W_seq ?_
      refine W_reg rfl ?_
      refine run_op rfl rfl rfl (by simp [boxA, AV.cells, AV.isCell]; exact .mk) ?_
      refine run_end [2] (by simp) (by simp; exact .mk) ?_
      rintro -
      refine W_ret ?_
      refine end_ret (by simp [boxA, AV.cells, AV.isCell, Try.f96]; exact .mk) (by simp [boxA, AV.cells, AV.isCell, cl, cls]; exact .mk) ?_ (by simp [boxA, AV.cells, AV.isCell, D.noSn])
      simp [nrmR, nrmRs, nrmK, kindsOf, kinds, Try.f96, hr]
      try (cases tnewOk l.length <;> rfl)
    · intro h15
      refine W_skip ?_
      rintro -
      refine W_reg rfl ?_
      refine run_op rfl rfl rfl (by simp [boxA, AV.cells, AV.isCell, eqA, eqFs, isStructTy, eqlNeq, strOp, isBoolTy, isPtrTy, isFnTy]; exact .mk) ?_
      refine run_op rfl rfl rfl (by simp [boxA, AV.cells, AV.isCell]; exact .mk) ?_
      refine run_end [0, 7, 8, 9] (by simp) (by simp; exact .mk) ?_
      refine rounds_drop 0 [0, 7, 8, 9] (by simp) (by simp [boxA, AV.cells, AV.isCell]) (by simp [boxA, AV.cells, AV.isCell]) ?_
      refine rounds_next (m' := l.length - (i+1)) (by omega) ⟨i+1, rfl, by omega, ?_, ?_, rfl⟩
      · intro j hj
        rcases Nat.lt_succ_iff_lt_or_eq.1 hj with hj | rfl
        · exact hinv j hj
        · simpa using h15
      · rw [wrap64 (by omega) (by omega)]; rfl
  · intro h10
    have hr : tableS l = tnewOk l.length := by unfold tableS; rw [all_good (fun j hj => hinv j (by simp at h10; omega))]; rfl
    refine W_exit ?_
    rintro -
    refine W_seq ?_
    refine W_reg rfl ?_
    refine run_op rfl rfl rfl (by simp [boxA, AV.cells, AV.isCell]; exact .mk) ?_
    refine run_op rfl rfl rfl (by simp [boxA, AV.cells, AV.isCell]; exact .mk) ?_
    refine run_call0 rfl rfl rfl rfl (by simp [boxA, AV.cells, AV.isCell, calleeA]; exact .mk) (by simp [boxA, AV.cells, AV.isCell, kindsOf, kinds, expAs, expA]; exact .mk) (ct67 g _) (by simp [boxA, AV.cells, AV.isCell, D.noRo]) (by simp [boxA, AV.cells, AV.isCell, impA, impAs]; exact .mk) ?_
    refine run_op rfl rfl rfl (by simp [boxA, AV.cells, AV.isCell]; exact .mk) ?_
    refine run_op rfl rfl rfl (by simp [boxA, AV.cells, AV.isCell]; exact .mk) ?_
    refine run_op rfl rfl rfl (by simp [boxA, AV.cells, AV.isCell]; exact .mk) ?_
    refine run_op rfl rfl rfl (by simp [boxA, AV.cells, AV.isCell]; exact .mk) ?_
    refine run_op rfl rfl rfl (by simp [boxA, AV.cells, AV.isCell]; exact .mk) ?_
    refine run_end [6] (by simp) (by simp; exact .mk) ?_
    rintro -
    refine W_seq ?_
    refine W_reg rfl ?_
    refine run_op rfl rfl rfl (by simp [boxA, AV.cells, AV.isCell]; exact .mk) ?_
    refine run_op rfl rfl rfl (by simp [boxA, AV.cells, AV.isCell, eqA, eqFs, isStructTy, eqlNeq, strOp, isBoolTy, isPtrTy, isFnTy]; exact .mk) ?_
    refine run_op rfl rfl rfl (by simp [boxA, AV.cells, AV.isCell]; exact .mk) ?_
    refine run_end [2] (by simp) (by simp; exact .mk) ?_
    rintro -
    refine W_ret ?_
    refine end_ret (by simp [boxA, AV.cells, AV.isCell, Try.f96]; exact .mk) (by simp [boxA, AV.cells, AV.isCell, cl, cls]; exact .mk) ?_ (by simp [boxA, AV.cells, AV.isCell, D.noSn])
    simp [nrmR, nrmRs, nrmK, kindsOf, kinds, Try.f96, hr]
    try (cases tnewOk l.length <;> rfl)

end Go.Proofs

set_option linter.unusedSimpArgs false
set_option linter.unusedVariables false
set_option maxHeartbeats 4000000
set_option maxRecDepth 4000
namespace Go.Proofs
open Go.Awp
theorem in130 (g : Gl) (o0 o1 o2 : Awp.Obj) (n k : Int) (h : -2^60 ≤ n + k ∧ n + k ≤ 2^60) : ∀ B S, CallsA Try.prog g B S ⟨4, true⟩ 130 [.d (vI k), .ptr 3 0 0] [o0, o1, o2, .var 3 [.d (vI n)]]
    (fun x r => x = .d (vI n) ∧ r = [o0, o1, o2, .var 3 [.d (vI (n + k))]]) := by
  refine callsA_at Try.func130 rfl (Nat.le_of_ble_eq_true rfl) fun B S => ?_
  have e1 : IntKind.i64.wrap (n + k) = n + k := wrap64 (by omega) (by omega)
  refine W_seq ?_
  refine W_reg rfl ?_
  refine run_op rfl rfl rfl (by simp [boxA, AV.cells, AV.isCell]; exact .mk) ?_
  refine run_end [0, 1] (by simp) (by simp; exact .mk) ?_
  rintro -
  refine W_seq ?_
  refine W_reg rfl ?_
  iterate 2 (refine run_op rfl rfl rfl (by simp [boxA, AV.cells, AV.isCell]; exact .mk) ?_)
  refine run_end [0, 1, 4] (by simp) (by simp; exact .mk) ?_
  rintro -
  refine W_seq ?_
  refine W_reg rfl ?_
  iterate 2 (refine run_op rfl rfl rfl (by simp [boxA, AV.cells, AV.isCell]; exact .mk) ?_)
  refine run_op rfl rfl rfl (by simp [boxA, AV.cells, AV.isCell, eqA, eqFs, isStructTy, eqlNeq, strOp, isBoolTy, isPtrTy, isFnTy, e1]; exact .mk) ?_
  refine run_op rfl rfl rfl (by simp [boxA, AV.cells, AV.isCell, storeA, AV.cells, AV.isCell, splice]; exact .mk) ?_
  refine run_end [4] (by simp) (by simp; exact .mk) ?_
  rintro -
  refine W_seq ?_
  refine W_reg rfl ?_
  iterate 2 (refine run_op rfl rfl rfl (by simp [boxA, AV.cells, AV.isCell]; exact .mk) ?_)
  refine run_end [3] (by simp) (by simp; exact .mk) ?_
  rintro -
  refine W_ret ?_
  refine endAt_ret (by simp [boxA, AV.cells, AV.isCell, Try.f130]; exact .mk) ?_ ?_
  · simp
  · simp

theorem ct131 (g : Gl) : CtAt Try.prog g 131 [vI 64] (vI 13) := by
  refine ctAt_of_W Try.func131 rfl rfl (Nat.le_of_ble_eq_true rfl) fun B S => ?_
  refine W_seq ?_
  refine W_reg rfl ?_
  refine run_op rfl rfl rfl (by simp; exact .mk) ?_
  refine run_end [0] (by simp) (by simp; exact .mk) ?_
  rintro -
  refine W_seq ?_
  refine W_seq ?_
  refine W_reg rfl ?_
  refine run_op rfl rfl rfl (by simp; exact .mk) ?_
  refine run_op rfl rfl rfl (by simp [eqA, eqFs, isStructTy, eqlNeq, strOp, isBoolTy, isPtrTy, isFnTy]; exact .mk) ?_
  refine run_end [0, 5] (by simp) (by simp; exact .mk) ?_
  rintro -
  refine W_cond rfl ?_ ?_
  · intro h5
    simp at h5
  · intro h5
    refine W_skip ?_
    rintro -
    refine W_seq ?_
    refine W_reg rfl ?_
    refine run_op rfl rfl rfl (by simp; exact .mk) ?_
    refine run_call0 rfl rfl rfl rfl (by simp [calleeA]; exact .mk) (by simp [kindsOf, kinds, expAs, expA]; exact .mk) (ct136 g 64 (by omega)) (by simp [D.noRo]) (by simp [impA, impAs]; exact .mk) ?_
    refine run_op rfl rfl rfl (by simp; exact .mk) ?_
    refine run_end [0] (by simp) (by simp; exact .mk) ?_
    rintro -
    refine W_seq ?_
    refine W_reg rfl ?_
    iterate 2 (refine run_op rfl rfl rfl (by simp; exact .mk) ?_)
    refine run_end [0, 3] (by simp) (by simp; exact .mk) ?_
    rintro -
    refine W_seq ?_
    refine W_block ?_
    refine W_rounds (fun m σ o => ((m = 3 ∧ σ = slots [(0, .d (vI 10)), (3, .d (vI 10))]) ∨ (m = 2 ∧ σ = slots [(0, .d (vI 2)), (3, .d (vI 12))]) ∨ (m = 1 ∧ σ = slots [(0, .d (vI 1)), (3, .d (vI 13))])) ∧ o = []) 3 .refl ⟨.inl ⟨rfl, rfl⟩, rfl⟩ ?_
    rintro m σ o ⟨⟨rfl, rfl⟩ | ⟨rfl, rfl⟩ | ⟨rfl, rfl⟩, rfl⟩ _
    · skip
      skip
      refine W_seq ?_
      refine W_seq ?_
      refine W_reg rfl ?_
      refine run_op rfl rfl rfl (by simp; exact .mk) ?_
      refine run_op rfl rfl rfl (by simp [eqA, eqFs, isStructTy, eqlNeq, strOp, isBoolTy, isPtrTy, isFnTy]; exact .mk) ?_
      refine run_end [0, 3, 10] (by simp) (by simp; exact .mk) ?_
      rintro -
      refine W_cond rfl ?_ ?_
      · intro h10
        refine W_skip ?_
        rintro -
        refine W_block ?_
        refine W_seq ?_
        refine W_reg rfl ?_
        refine run_op rfl rfl rfl (by simp; exact .mk) ?_
        refine run_call0 rfl rfl rfl rfl (by simp [calleeA]; exact .mk) (by simp [kindsOf, kinds, expAs, expA]; exact .mk) (ct136 g 10 (by omega)) (by simp [D.noRo]) (by simp [impA, impAs]; exact .mk) ?_
        refine run_op rfl rfl rfl (by simp; exact .mk) ?_
        refine run_end [0, 3] (by simp) (by simp; exact .mk) ?_
        rintro -
        refine W_reg rfl ?_
        iterate 2 (refine run_op rfl rfl rfl (by simp; exact .mk) ?_)
        refine run_op rfl rfl rfl (by simp [eqA, eqFs, isStructTy, eqlNeq, strOp, isBoolTy, isPtrTy, isFnTy]; exact .mk) ?_
        refine run_op rfl rfl rfl (by simp; exact .mk) ?_
        refine run_end [0, 3] (by simp) (by simp; exact .mk) ?_
        refine rounds_kill [0, 3] ?_
        exact rounds_next (m' := 2) (by omega) ⟨.inr (.inl ⟨rfl, rfl⟩), rfl⟩
      · intro h10
        simp at h10
    · skip
      skip
      refine W_seq ?_
      refine W_seq ?_
      refine W_reg rfl ?_
      refine run_op rfl rfl rfl (by simp; exact .mk) ?_
      refine run_op rfl rfl rfl (by simp [eqA, eqFs, isStructTy, eqlNeq, strOp, isBoolTy, isPtrTy, isFnTy]; exact .mk) ?_
      refine run_end [0, 3, 10] (by simp) (by simp; exact .mk) ?_
      rintro -
      refine W_cond rfl ?_ ?_
      · intro h10
        refine W_skip ?_
        rintro -
        refine W_block ?_
        refine W_seq ?_
        refine W_reg rfl ?_
        refine run_op rfl rfl rfl (by simp; exact .mk) ?_
        refine run_call0 rfl rfl rfl rfl (by simp [calleeA]; exact .mk) (by simp [kindsOf, kinds, expAs, expA]; exact .mk) (ct136 g 2 (by omega)) (by simp [D.noRo]) (by simp [impA, impAs]; exact .mk) ?_
        refine run_op rfl rfl rfl (by simp; exact .mk) ?_
        refine run_end [0, 3] (by simp) (by simp; exact .mk) ?_
        rintro -
        refine W_reg rfl ?_
        iterate 2 (refine run_op rfl rfl rfl (by simp; exact .mk) ?_)
        refine run_op rfl rfl rfl (by simp [eqA, eqFs, isStructTy, eqlNeq, strOp, isBoolTy, isPtrTy, isFnTy]; exact .mk) ?_
        refine run_op rfl rfl rfl (by simp; exact .mk) ?_
        refine run_end [0, 3] (by simp) (by simp; exact .mk) ?_
        refine rounds_kill [0, 3] ?_
        exact rounds_next (m' := 1) (by omega) ⟨.inr (.inr ⟨rfl, rfl⟩), rfl⟩
      · intro h10
        simp at h10
    · skip
      skip
      refine W_seq ?_
      refine W_seq ?_
      refine W_reg rfl ?_
      refine run_op rfl rfl rfl (by simp; exact .mk) ?_
      refine run_op rfl rfl rfl (by simp [eqA, eqFs, isStructTy, eqlNeq, strOp, isBoolTy, isPtrTy, isFnTy]; exact .mk) ?_
      refine run_end [0, 3, 10] (by simp) (by simp; exact .mk) ?_
      rintro -
      refine W_cond rfl ?_ ?_
      · intro h10
        simp at h10
      · intro h10
        refine W_exit ?_
        rintro -
        refine W_seq ?_
        refine W_reg rfl ?_
        iterate 2 (refine run_op rfl rfl rfl (by simp; exact .mk) ?_)
        refine run_end [2] (by simp) (by simp; exact .mk) ?_
        rintro -
        refine W_ret ?_
        refine end_ret (by simp [Try.f131]; exact .mk) (by simp [cl, cls]; exact .mk) ?_ (by simp [D.noSn])
        simp [nrmR, nrmRs, nrmK, kindsOf, kinds, Try.f131]

theorem ct125 (g : Gl) (s : Shape) (hs : sizedSh s = true) : CtAt Try.prog g 125 [eShape s] (.agg [vI 1, vI 2, vI s.room, vI (headsS s), vI (tableA s), vI (rootsA s), vI (treeA s), vI (heapA s), vI (linesA s)]) := by
  refine ctAt_of_W Try.func125 rfl rfl (Nat.le_of_ble_eq_true rfl) fun B S => ?_
  simp only [eShape, List.map, argD_agg]
  have hb : 1 ≤ s.pages ∧ s.pages ≤ 64 ∧ 1 ≤ s.room ∧ s.room ≤ 4096 ∧ 2 ≤ s.slots ∧ s.slots ≤ 32 ∧ 2 ≤ s.roots ∧ s.roots ≤ 8 := by simp [sizedSh] at hs; omega
  have d1 : 0 ≤ s.slots.tdiv 2 ∧ s.slots.tdiv 2 ≤ 16 := by rw [Int.tdiv_eq_ediv_of_nonneg (by omega)]; omega
  have d2 : 0 ≤ s.roots.tdiv 2 ∧ s.roots.tdiv 2 ≤ 4 := by rw [Int.tdiv_eq_ediv_of_nonneg (by omega)]; omega
  have q1 : headsS s = 2 + s.room * 2 := rfl
  have q2 : tableA s = headsS s + 1 := rfl
  have q3 : rootsA s = tableA s + s.slots.tdiv 2 := rfl
  have q4 : treeA s = rootsA s + s.roots.tdiv 2 := rfl
  have q5 : heapA s = treeA s + 26 := rfl
  have e1 : IntKind.i64.wrap (s.room * 2) = s.room * 2 := wrap64 (by omega) (by omega)
  have e2 : IntKind.i64.wrap (s.slots.tdiv 2) = s.slots.tdiv 2 := wrap64 (by omega) (by omega)
  have e3 : IntKind.i64.wrap (s.roots.tdiv 2) = s.roots.tdiv 2 := wrap64 (by omega) (by omega)
  have e4 : IntKind.i64.wrap (s.pages * 4) = s.pages * 4 := wrap64 (by omega) (by omega)
  have e5 : IntKind.i64.wrap 26 = 26 := rfl
  refine W_seq ?_
  refine W_reg rfl ?_
  refine run_op rfl rfl rfl (by simp [boxA, AV.cells, AV.isCell, boxA, AV.cells, AV.isCell]; exact .mk) ?_
  refine run_op rfl rfl rfl (by simp [boxA, AV.cells, AV.isCell, allocA, Value.oneCell']; exact .mk) ?_
  refine run_end [1, 2] (by simp) (by simp; exact .mk) ?_
  rintro -
  refine W_seq ?_
  refine W_reg rfl ?_
  iterate 2 (refine run_op rfl rfl rfl (by simp [boxA, AV.cells, AV.isCell]; exact .mk) ?_)
  iterate 2 (refine run_op rfl rfl rfl (by simp [boxA, AV.cells, AV.isCell, buildA, fillA, placesOf, splice, Value.oneCell', AV.cells, AV.isCell]; exact .mk) ?_)
  refine run_op rfl rfl rfl (by simp [boxA, AV.cells, AV.isCell, allocA, Value.oneCell']; exact .mk) ?_
  refine run_op rfl rfl rfl (by simp [boxA, AV.cells, AV.isCell, storeA, AV.cells, AV.isCell, splice]; exact .mk) ?_
  refine run_end [1, 2, 3] (by simp) (by simp; exact .mk) ?_
  rintro -
  refine W_seq ?_
  refine W_reg rfl ?_
  refine run_op rfl rfl rfl (by simp [boxA, AV.cells, AV.isCell, allocA, Value.oneCell']; exact .mk) ?_
  refine run_op rfl rfl rfl (by simp [boxA, AV.cells, AV.isCell, storeA, AV.cells, AV.isCell, splice]; exact .mk) ?_
  refine run_end [1, 2, 3, 4] (by simp) (by simp; exact .mk) ?_
  rintro -
  refine W_seq ?_
  refine W_reg rfl ?_
  iterate 2 (refine run_op rfl rfl rfl (by simp [boxA, AV.cells, AV.isCell]; exact .mk) ?_)
  refine run_end [1, 2, 3, 4, 5] (by simp) (by simp; exact .mk) ?_
  rintro -
  refine W_seq ?_
  refine W_reg rfl ?_
  iterate 3 (refine run_op rfl rfl rfl (by simp [boxA, AV.cells, AV.isCell]; exact .mk) ?_)
  refine run_op rfl rfl rfl (by simp [boxA, AV.cells, AV.isCell, eqA, eqFs, isStructTy, eqlNeq, strOp, isBoolTy, isPtrTy, isFnTy, e1]; exact .mk) ?_
  refine run_inl0 rfl rfl rfl rfl (by simp [boxA, AV.cells, AV.isCell, calleeA]; exact .mk) ⟨_, Try.func130, rfl, rfl⟩ (in130 g (.var 53 [.d (vI s.pages), .d (vI s.slots), .d (vI s.roots), .d (vI s.room)]) (.var 142 [.d (vI 0), .d (vI 0), .d (vI 0), .d (vI 0), .d (vI 0), .d (vI 0), .d (vI 0), .d (vI 0), .d (vI 0)]) (.var 142 [.d (vI (1)), .d (vI (2)), .d (vI (s.room)), .d (vI (0)), .d (vI (0)), .d (vI (0)), .d (vI (0)), .d (vI (0)), .d (vI (0))]) (2) (s.room * 2) (by omega)) (.inl (by simp)) ?_
  refine run_end [1, 2, 3, 4, 5] (by simp) (by simp; exact .mk) ?_
  rintro -
  refine W_seq ?_
  refine W_reg rfl ?_
  refine run_op rfl rfl rfl (by simp [boxA, AV.cells, AV.isCell]; exact .mk) ?_
  refine run_inl0 rfl rfl rfl rfl (by simp [boxA, AV.cells, AV.isCell, calleeA]; exact .mk) ⟨_, Try.func130, rfl, rfl⟩ (in130 g (.var 53 [.d (vI s.pages), .d (vI s.slots), .d (vI s.roots), .d (vI s.room)]) (.var 142 [.d (vI 0), .d (vI 0), .d (vI 0), .d (vI 0), .d (vI 0), .d (vI 0), .d (vI 0), .d (vI 0), .d (vI 0)]) (.var 142 [.d (vI (1)), .d (vI (2)), .d (vI (s.room)), .d (vI (0)), .d (vI (0)), .d (vI (0)), .d (vI (0)), .d (vI (0)), .d (vI (0))]) (headsS s) (1) (by omega)) (.inl (by simp)) ?_
  refine run_op rfl rfl rfl (by simp [boxA, AV.cells, AV.isCell]; exact .mk) ?_
  refine run_op rfl rfl rfl (by simp [boxA, AV.cells, AV.isCell, storeA, AV.cells, AV.isCell, splice]; exact .mk) ?_
  refine run_end [1, 2, 3, 4, 5] (by simp) (by simp; exact .mk) ?_
  rintro -
  refine W_seq ?_
  refine W_reg rfl ?_
  iterate 3 (refine run_op rfl rfl rfl (by simp [boxA, AV.cells, AV.isCell]; exact .mk) ?_)
  refine run_op rfl rfl rfl (by simp [boxA, AV.cells, AV.isCell, eqA, eqFs, isStructTy, eqlNeq, strOp, isBoolTy, isPtrTy, isFnTy, e2]; exact .mk) ?_
  refine run_inl0 rfl rfl rfl rfl (by simp [boxA, AV.cells, AV.isCell, calleeA]; exact .mk) ⟨_, Try.func130, rfl, rfl⟩ (in130 g (.var 53 [.d (vI s.pages), .d (vI s.slots), .d (vI s.roots), .d (vI s.room)]) (.var 142 [.d (vI 0), .d (vI 0), .d (vI 0), .d (vI 0), .d (vI 0), .d (vI 0), .d (vI 0), .d (vI 0), .d (vI 0)]) (.var 142 [.d (vI (1)), .d (vI (2)), .d (vI (s.room)), .d (vI (headsS s)), .d (vI (0)), .d (vI (0)), .d (vI (0)), .d (vI (0)), .d (vI (0))]) (tableA s) (s.slots.tdiv 2) (by omega)) (.inl (by simp)) ?_
  refine run_op rfl rfl rfl (by simp [boxA, AV.cells, AV.isCell]; exact .mk) ?_
  refine run_op rfl rfl rfl (by simp [boxA, AV.cells, AV.isCell, storeA, AV.cells, AV.isCell, splice]; exact .mk) ?_
  refine run_end [1, 2, 3, 4, 5] (by simp) (by simp; exact .mk) ?_
  rintro -
  refine W_seq ?_
  refine W_reg rfl ?_
  iterate 3 (refine run_op rfl rfl rfl (by simp [boxA, AV.cells, AV.isCell]; exact .mk) ?_)
  refine run_op rfl rfl rfl (by simp [boxA, AV.cells, AV.isCell, eqA, eqFs, isStructTy, eqlNeq, strOp, isBoolTy, isPtrTy, isFnTy, e3]; exact .mk) ?_
  refine run_inl0 rfl rfl rfl rfl (by simp [boxA, AV.cells, AV.isCell, calleeA]; exact .mk) ⟨_, Try.func130, rfl, rfl⟩ (in130 g (.var 53 [.d (vI s.pages), .d (vI s.slots), .d (vI s.roots), .d (vI s.room)]) (.var 142 [.d (vI 0), .d (vI 0), .d (vI 0), .d (vI 0), .d (vI 0), .d (vI 0), .d (vI 0), .d (vI 0), .d (vI 0)]) (.var 142 [.d (vI (1)), .d (vI (2)), .d (vI (s.room)), .d (vI (headsS s)), .d (vI (tableA s)), .d (vI (0)), .d (vI (0)), .d (vI (0)), .d (vI (0))]) (rootsA s) (s.roots.tdiv 2) (by omega)) (.inl (by simp)) ?_
  refine run_op rfl rfl rfl (by simp [boxA, AV.cells, AV.isCell]; exact .mk) ?_
  refine run_op rfl rfl rfl (by simp [boxA, AV.cells, AV.isCell, storeA, AV.cells, AV.isCell, splice]; exact .mk) ?_
  refine run_end [1, 2, 3, 4, 5] (by simp) (by simp; exact .mk) ?_
  rintro -
  refine W_seq ?_
  refine W_reg rfl ?_
  refine run_op rfl rfl rfl (by simp [boxA, AV.cells, AV.isCell]; exact .mk) ?_
  refine run_call0 rfl rfl rfl rfl (by simp [boxA, AV.cells, AV.isCell, calleeA]; exact .mk) (by simp [boxA, AV.cells, AV.isCell, kindsOf, kinds, expAs, expA]; exact .mk) (ct131 g) (by simp [boxA, AV.cells, AV.isCell, D.noRo]) (by simp [boxA, AV.cells, AV.isCell, impA, impAs]; exact .mk) ?_
  refine run_op rfl rfl rfl (by simp [boxA, AV.cells, AV.isCell, eqA, eqFs, isStructTy, eqlNeq, strOp, isBoolTy, isPtrTy, isFnTy, e5]; exact .mk) ?_
  refine run_inl0 rfl rfl rfl rfl (by simp [boxA, AV.cells, AV.isCell, calleeA]; exact .mk) ⟨_, Try.func130, rfl, rfl⟩ (in130 g (.var 53 [.d (vI s.pages), .d (vI s.slots), .d (vI s.roots), .d (vI s.room)]) (.var 142 [.d (vI 0), .d (vI 0), .d (vI 0), .d (vI 0), .d (vI 0), .d (vI 0), .d (vI 0), .d (vI 0), .d (vI 0)]) (.var 142 [.d (vI (1)), .d (vI (2)), .d (vI (s.room)), .d (vI (headsS s)), .d (vI (tableA s)), .d (vI (rootsA s)), .d (vI (0)), .d (vI (0)), .d (vI (0))]) (treeA s) (26) (by omega)) (.inl (by simp)) ?_
  refine run_op rfl rfl rfl (by simp [boxA, AV.cells, AV.isCell]; exact .mk) ?_
  refine run_op rfl rfl rfl (by simp [boxA, AV.cells, AV.isCell, storeA, AV.cells, AV.isCell, splice]; exact .mk) ?_
  refine run_end [1, 2, 3, 4, 5] (by simp) (by simp; exact .mk) ?_
  rintro -
  refine W_seq ?_
  refine W_reg rfl ?_
  iterate 3 (refine run_op rfl rfl rfl (by simp [boxA, AV.cells, AV.isCell]; exact .mk) ?_)
  refine run_op rfl rfl rfl (by simp [boxA, AV.cells, AV.isCell, eqA, eqFs, isStructTy, eqlNeq, strOp, isBoolTy, isPtrTy, isFnTy, e4]; exact .mk) ?_
  refine run_inl0 rfl rfl rfl rfl (by simp [boxA, AV.cells, AV.isCell, calleeA]; exact .mk) ⟨_, Try.func130, rfl, rfl⟩ (in130 g (.var 53 [.d (vI s.pages), .d (vI s.slots), .d (vI s.roots), .d (vI s.room)]) (.var 142 [.d (vI 0), .d (vI 0), .d (vI 0), .d (vI 0), .d (vI 0), .d (vI 0), .d (vI 0), .d (vI 0), .d (vI 0)]) (.var 142 [.d (vI (1)), .d (vI (2)), .d (vI (s.room)), .d (vI (headsS s)), .d (vI (tableA s)), .d (vI (rootsA s)), .d (vI (treeA s)), .d (vI (0)), .d (vI (0))]) (heapA s) (s.pages * 4) (by omega)) (.inl (by simp)) ?_
  refine run_op rfl rfl rfl (by simp [boxA, AV.cells, AV.isCell]; exact .mk) ?_
  refine run_op rfl rfl rfl (by simp [boxA, AV.cells, AV.isCell, storeA, AV.cells, AV.isCell, splice]; exact .mk) ?_
  refine run_end [2, 3, 4] (by simp) (by simp; exact .mk) ?_
  rintro -
  refine W_seq ?_
  refine W_reg rfl ?_
  iterate 2 (refine run_op rfl rfl rfl (by simp [boxA, AV.cells, AV.isCell]; exact .mk) ?_)
  refine run_op rfl rfl rfl (by simp [boxA, AV.cells, AV.isCell, storeA, AV.cells, AV.isCell, splice]; exact .mk) ?_
  refine run_end [2, 3] (by simp) (by simp; exact .mk) ?_
  rintro -
  refine W_seq ?_
  refine W_reg rfl ?_
  refine run_op rfl rfl rfl (by simp [boxA, AV.cells, AV.isCell]; exact .mk) ?_
  refine run_op rfl rfl rfl (by simp [boxA, AV.cells, AV.isCell, storeA, AV.cells, AV.isCell, splice]; exact .mk) ?_
  refine run_end [2] (by simp) (by simp; exact .mk) ?_
  rintro -
  refine W_ret ?_
  refine end_ret (by simp [boxA, AV.cells, AV.isCell, Try.f125]; exact .mk) (by simp [boxA, AV.cells, AV.isCell, cl, cls]; exact .mk) ?_ (by simp [boxA, AV.cells, AV.isCell, D.noSn])
  simp [nrmR, nrmRs, nrmK, kindsOf, kinds, Try.f125]; rfl

theorem ct114 (g : Gl) (s : Shape) : CtAt Try.prog g 114 [eShape s] (.tup [if shapeS s then .agg [vI 1, vI 2, vI s.room, vI (headsS s), vI (tableA s), vI (rootsA s), vI (treeA s), vI (heapA s), vI (linesA s)] else .agg [vI 0, vI 0, vI 0, vI 0, vI 0, vI 0, vI 0, vI 0, vI 0], vI (if shapeS s then 0 else 1)]) := by
  refine ctAt_of_W Try.func114 rfl rfl (Nat.le_of_ble_eq_true rfl) fun B S => ?_
  simp only [eShape, List.map, argD_agg]
  refine W_seq ?_
  refine W_reg rfl ?_
  refine run_op rfl rfl rfl (by simp [boxA, AV.cells, AV.isCell, boxA, AV.cells, AV.isCell]; exact .mk) ?_
  refine run_op rfl rfl rfl (by simp [boxA, AV.cells, AV.isCell, allocA, Value.oneCell']; exact .mk) ?_
  refine run_op rfl rfl rfl (by simp [boxA, AV.cells, AV.isCell]; exact .mk) ?_
  refine run_end [1, 2] (by simp) (by simp; exact .mk) ?_
  rintro -
  refine W_seq ?_
  refine W_seq ?_
  refine W_reg rfl ?_
  refine run_op rfl rfl rfl (by simp [boxA, AV.cells, AV.isCell]; exact .mk) ?_
  refine run_call0 rfl rfl rfl rfl (by simp [boxA, AV.cells, AV.isCell, calleeA]; exact .mk) (by simp [boxA, AV.cells, AV.isCell, kindsOf, kinds, expAs, expA]; exact .mk) (ct124 g s) (by simp [boxA, AV.cells, AV.isCell, D.noRo]) (by simp [boxA, AV.cells, AV.isCell, impA, impAs]; exact .mk) ?_
  refine run_op rfl rfl rfl (by simp [boxA, AV.cells, AV.isCell, unA]; exact .mk) ?_
  refine run_end [1, 2, 7] (by simp) (by simp; exact .mk) ?_
  rintro -
  refine W_cond rfl ?_ ?_
  · intro h7
    have hz : sizedSh s = false := by simpa using h7
    have hr : shapeS s = false := by simp [shapeS, hz]
    refine W_seq ?_
    refine W_reg rfl ?_
    refine run_op rfl rfl rfl (by simp [boxA, AV.cells, AV.isCell, buildA, fillA, placesOf, splice, Value.oneCell', AV.cells, AV.isCell]; exact .mk) ?_
    refine run_op rfl rfl rfl (by simp [boxA, AV.cells, AV.isCell, storeA, AV.cells, AV.isCell, splice]; exact .mk) ?_
    refine run_op rfl rfl rfl (by simp [boxA, AV.cells, AV.isCell]; exact .mk) ?_
    refine run_end [2, 3] (by simp) (by simp; exact .mk) ?_
    rintro -
    refine W_ret ?_
    refine end_ret (by simp [boxA, AV.cells, AV.isCell, Try.f114]; exact .mk) (by simp [boxA, AV.cells, AV.isCell, cl, cls]; exact .mk) ?_ (by simp [boxA, AV.cells, AV.isCell, D.noSn, hr])
    simp [nrmR, nrmRs, nrmK, kindsOf, kinds, Try.f114, hr]
  · intro h7
    have hz : sizedSh s = true := by simpa using h7
    have hb : 1 ≤ s.pages ∧ s.pages ≤ 64 ∧ 1 ≤ s.room ∧ s.room ≤ 4096 ∧ 2 ≤ s.slots ∧ s.slots ≤ 32 ∧ 2 ≤ s.roots ∧ s.roots ≤ 8 := by simp [sizedSh] at hz; omega
    have d1 : 0 ≤ s.slots.tdiv 2 ∧ s.slots.tdiv 2 ≤ 16 := by rw [Int.tdiv_eq_ediv_of_nonneg (by omega)]; omega
    have d2 : 0 ≤ s.roots.tdiv 2 ∧ s.roots.tdiv 2 ≤ 4 := by rw [Int.tdiv_eq_ediv_of_nonneg (by omega)]; omega
    have hL : linesA s = 2 + s.room * 2 + 1 + s.slots.tdiv 2 + s.roots.tdiv 2 + 26 + s.pages * 4 := rfl
    have hw : walS 1 2 s.room (linesA s) = true := by simp [walS]; omega
    refine W_skip ?_
    rintro -
    refine W_seq ?_
    refine W_reg rfl ?_
    refine run_op rfl rfl rfl (by simp [boxA, AV.cells, AV.isCell]; exact .mk) ?_
    refine run_call0 rfl rfl rfl rfl (by simp [boxA, AV.cells, AV.isCell, calleeA]; exact .mk) (by simp [boxA, AV.cells, AV.isCell, kindsOf, kinds, expAs, expA]; exact .mk) (ct125 g s hz) (by simp [boxA, AV.cells, AV.isCell, D.noRo]) (by simp [boxA, AV.cells, AV.isCell, impA, impAs]; exact .mk) ?_
    refine run_op rfl rfl rfl (by simp [boxA, AV.cells, AV.isCell, allocA, Value.oneCell']; exact .mk) ?_
    refine run_op rfl rfl rfl (by simp [boxA, AV.cells, AV.isCell, storeA, AV.cells, AV.isCell, splice]; exact .mk) ?_
    refine run_end [2, 4] (by simp) (by simp; exact .mk) ?_
    rintro -
    refine W_seq ?_
    refine W_seq ?_
    refine W_reg rfl ?_
    iterate 2 (refine run_op rfl rfl rfl (by simp [boxA, AV.cells, AV.isCell]; exact .mk) ?_)
    refine run_op rfl rfl rfl (by simp [boxA, AV.cells, AV.isCell, eqA, eqFs, isStructTy, eqlNeq, strOp, isBoolTy, isPtrTy, isFnTy]; exact .mk) ?_
    refine run_op rfl rfl rfl (by simp [boxA, AV.cells, AV.isCell]; exact .mk) ?_
    refine run_if rfl (by simp [boxA, AV.cells, AV.isCell]; exact .mk) rfl (by simp <;> first | omega | grind) (fun hb => by simp [boxA, AV.cells, AV.isCell]; exact .mk) ?_
    refine run_if rfl (by simp [boxA, AV.cells, AV.isCell]; exact .mk) rfl (by simp <;> first | omega | grind) (fun hb => by simp [boxA, AV.cells, AV.isCell]; exact .mk) ?_
    refine run_if rfl (by simp [boxA, AV.cells, AV.isCell]; exact .mk) rfl (by simp <;> first | omega | grind) (fun hb => by simp [boxA, AV.cells, AV.isCell]; exact .mk) ?_
    refine run_if rfl (by simp [boxA, AV.cells, AV.isCell]; exact .mk) rfl (by simp <;> first | omega | grind) (fun hb => by simp [boxA, AV.cells, AV.isCell]; exact .mk) ?_
    refine run_call rfl (by simp [boxA, AV.cells, AV.isCell]; exact .mk) rfl rfl (by simp) (by simp [boxA, AV.cells, AV.isCell, calleeA]; exact .mk) (by simp [boxA, AV.cells, AV.isCell, kindsOf, kinds, expAs, expA]; exact .mk) (fun hb => ct126 g 1 2 s.room (linesA s) (by omega) (by omega) (by omega) (by omega)) (by simp [boxA, AV.cells, AV.isCell, D.noRo]) (by simp [boxA, AV.cells, AV.isCell, impA, impAs]; exact .mk) (by simp) ?_
    refine run_if rfl (by simp [boxA, AV.cells, AV.isCell]; exact .mk) rfl (by simp <;> first | omega | grind) (fun hb => by simp [boxA, AV.cells, AV.isCell, unA]; exact .mk) ?_
    refine run_pick rfl (by simp [boxA, AV.cells, AV.isCell]; exact .mk) rfl rfl (by simp) (by simp [boxA, AV.cells, AV.isCell]; exact .mk) (by simp [boxA, AV.cells, AV.isCell]; exact .mk) (by simp; exact .mk) ?_
    refine run_end [2, 4, 21] (by simp <;> first | omega | grind) (by simp; exact .mk) ?_
    rintro -
    refine W_cond rfl ?_ ?_
    · intro h21
      have hr : shapeS s = false := by simp [hw] at h21; simp [shapeS, hz]; omega
      refine W_seq ?_
      refine W_reg rfl ?_
      refine run_op rfl rfl rfl (by simp [boxA, AV.cells, AV.isCell, buildA, fillA, placesOf, splice, Value.oneCell', AV.cells, AV.isCell]; exact .mk) ?_
      refine run_op rfl rfl rfl (by simp [boxA, AV.cells, AV.isCell, storeA, AV.cells, AV.isCell, splice]; exact .mk) ?_
      refine run_op rfl rfl rfl (by simp [boxA, AV.cells, AV.isCell]; exact .mk) ?_
      refine run_end [2, 3] (by simp) (by simp; exact .mk) ?_
      rintro -
      refine W_ret ?_
      refine end_ret (by simp [boxA, AV.cells, AV.isCell, Try.f114]; exact .mk) (by simp [boxA, AV.cells, AV.isCell, cl, cls]; exact .mk) ?_ (by simp [boxA, AV.cells, AV.isCell, D.noSn, hr])
      simp [nrmR, nrmRs, nrmK, kindsOf, kinds, Try.f114, hr]
    · intro h21
      have hr : shapeS s = true := by simp [hw] at h21; simp [shapeS, hz]; omega
      refine W_skip ?_
      rintro -
      refine W_seq ?_
      refine W_reg rfl ?_
      refine run_op rfl rfl rfl (by simp [boxA, AV.cells, AV.isCell]; exact .mk) ?_
      refine run_op rfl rfl rfl (by simp [boxA, AV.cells, AV.isCell, storeA, AV.cells, AV.isCell, splice]; exact .mk) ?_
      refine run_op rfl rfl rfl (by simp [boxA, AV.cells, AV.isCell]; exact .mk) ?_
      refine run_end [2, 3] (by simp) (by simp; exact .mk) ?_
      rintro -
      refine W_ret ?_
      refine end_ret (by simp [boxA, AV.cells, AV.isCell, Try.f114]; exact .mk) (by simp [boxA, AV.cells, AV.isCell, cl, cls]; exact .mk) ?_ (by simp [boxA, AV.cells, AV.isCell, D.noSn, hr])
      simp [nrmR, nrmRs, nrmK, kindsOf, kinds, Try.f114, hr]

theorem ct95 (g : Gl) (s : Shape) : CtAt Try.prog g 95 [eShape s] (.v (.bool (shapeS s))) := by
  refine ctAt_of_W Try.func95 rfl rfl (Nat.le_of_ble_eq_true rfl) fun B S => ?_
  simp only [eShape, List.map, argD_agg]
  have hc := ct114 g s
  refine W_seq ?_
  refine W_reg rfl ?_
  refine run_op rfl rfl rfl (by simp [boxA, AV.cells, AV.isCell, boxA, AV.cells, AV.isCell]; exact .mk) ?_
  refine run_op rfl rfl rfl (by simp [boxA, AV.cells, AV.isCell]; exact .mk) ?_
  refine run_end [1] (by simp) (by simp; exact .mk) ?_
  rintro -
  refine W_seq ?_
  cases hr : shapeS s
  · skip
    simp only [hr, Bool.false_eq_true, if_false, if_true] at hc
    refine W_reg rfl ?_
    refine run_op rfl rfl rfl (by simp [boxA, AV.cells, AV.isCell]; exact .mk) ?_
    refine run_call0 rfl rfl rfl rfl (by simp [boxA, AV.cells, AV.isCell, calleeA]; exact .mk) (by simp [boxA, AV.cells, AV.isCell, kindsOf, kinds, expAs, expA]; exact .mk) (hc) (by simp [boxA, AV.cells, AV.isCell, D.noRo]) (by simp [boxA, AV.cells, AV.isCell, impA, impAs]; exact .mk) ?_
    iterate 3 (refine run_op rfl rfl rfl (by simp [boxA, AV.cells, AV.isCell]; exact .mk) ?_)
    refine run_op rfl rfl rfl (by simp [boxA, AV.cells, AV.isCell, allocA, Value.oneCell']; exact .mk) ?_
    refine run_op rfl rfl rfl (by simp [boxA, AV.cells, AV.isCell, storeA, AV.cells, AV.isCell, splice]; exact .mk) ?_
    refine run_op rfl rfl rfl (by simp [boxA, AV.cells, AV.isCell]; exact .mk) ?_
    refine run_end [3, 4] (by simp) (by simp; exact .mk) ?_
    rintro -
    refine W_seq ?_
    refine W_reg rfl ?_
    refine run_op rfl rfl rfl (by simp [boxA, AV.cells, AV.isCell]; exact .mk) ?_
    refine run_op rfl rfl rfl (by simp [boxA, AV.cells, AV.isCell, eqA, eqFs, isStructTy, eqlNeq, strOp, isBoolTy, isPtrTy, isFnTy]; exact .mk) ?_
    refine run_op rfl rfl rfl (by simp [boxA, AV.cells, AV.isCell]; exact .mk) ?_
    refine run_if rfl (by simp [boxA, AV.cells, AV.isCell]; exact .mk) rfl (by simp <;> first | omega | grind) (fun hb => by simp [boxA, AV.cells, AV.isCell]; exact .mk) ?_
    refine run_if rfl (by simp [boxA, AV.cells, AV.isCell]; exact .mk) rfl (by simp <;> first | omega | grind) (fun hb => by simp [boxA, AV.cells, AV.isCell, buildA, fillA, placesOf, splice, Value.oneCell', AV.cells, AV.isCell]; exact .mk) ?_
    refine run_if rfl (by simp [boxA, AV.cells, AV.isCell]; exact .mk) rfl (by simp <;> first | omega | grind) (fun hb => by simp [boxA, AV.cells, AV.isCell, eqA, eqFs, isStructTy, eqlNeq, strOp, isBoolTy, isPtrTy, isFnTy]; exact .mk) ?_
    refine run_pick rfl (by simp [boxA, AV.cells, AV.isCell]; exact .mk) rfl rfl (by simp) (by simp [boxA, AV.cells, AV.isCell]; exact .mk) (by simp [boxA, AV.cells, AV.isCell]; exact .mk) (by simp; exact .mk) ?_
    refine run_op1 rfl rfl rfl (by simp <;> first | omega | grind) (by simp [boxA, AV.cells, AV.isCell]; exact .mk) ?_
    refine run_end [2] (by simp <;> first | omega | grind) (by simp; exact .mk) ?_
    rintro -
    refine W_ret ?_
    refine end_ret (by simp [boxA, AV.cells, AV.isCell, Try.f95]; exact .mk) (by simp [boxA, AV.cells, AV.isCell, cl, cls]; exact .mk) ?_ (by simp [boxA, AV.cells, AV.isCell, D.noSn])
    simp [nrmR, nrmRs, nrmK, kindsOf, kinds, Try.f95, hr]
  · skip
    simp only [hr, Bool.false_eq_true, if_false, if_true] at hc
    refine W_reg rfl ?_
    refine run_op rfl rfl rfl (by simp [boxA, AV.cells, AV.isCell]; exact .mk) ?_
    refine run_call0 rfl rfl rfl rfl (by simp [boxA, AV.cells, AV.isCell, calleeA]; exact .mk) (by simp [boxA, AV.cells, AV.isCell, kindsOf, kinds, expAs, expA]; exact .mk) (hc) (by simp [boxA, AV.cells, AV.isCell, D.noRo]) (by simp [boxA, AV.cells, AV.isCell, impA, impAs]; exact .mk) ?_
    iterate 3 (refine run_op rfl rfl rfl (by simp [boxA, AV.cells, AV.isCell]; exact .mk) ?_)
    refine run_op rfl rfl rfl (by simp [boxA, AV.cells, AV.isCell, allocA, Value.oneCell']; exact .mk) ?_
    refine run_op rfl rfl rfl (by simp [boxA, AV.cells, AV.isCell, storeA, AV.cells, AV.isCell, splice]; exact .mk) ?_
    refine run_op rfl rfl rfl (by simp [boxA, AV.cells, AV.isCell]; exact .mk) ?_
    refine run_end [3, 4] (by simp) (by simp; exact .mk) ?_
    rintro -
    refine W_seq ?_
    refine W_reg rfl ?_
    refine run_op rfl rfl rfl (by simp [boxA, AV.cells, AV.isCell]; exact .mk) ?_
    refine run_op rfl rfl rfl (by simp [boxA, AV.cells, AV.isCell, eqA, eqFs, isStructTy, eqlNeq, strOp, isBoolTy, isPtrTy, isFnTy]; exact .mk) ?_
    refine run_op rfl rfl rfl (by simp [boxA, AV.cells, AV.isCell]; exact .mk) ?_
    refine run_if rfl (by simp [boxA, AV.cells, AV.isCell]; exact .mk) rfl (by simp <;> first | omega | grind) (fun hb => by simp [boxA, AV.cells, AV.isCell]; exact .mk) ?_
    refine run_if rfl (by simp [boxA, AV.cells, AV.isCell]; exact .mk) rfl (by simp <;> first | omega | grind) (fun hb => by simp [boxA, AV.cells, AV.isCell, buildA, fillA, placesOf, splice, Value.oneCell', AV.cells, AV.isCell]; exact .mk) ?_
    refine run_if rfl (by simp [boxA, AV.cells, AV.isCell]; exact .mk) rfl (by simp <;> first | omega | grind) (fun hb => by simp [boxA, AV.cells, AV.isCell, eqA, eqFs, isStructTy, eqlNeq, strOp, isBoolTy, isPtrTy, isFnTy]; exact .mk) ?_
    refine run_pick rfl (by simp [boxA, AV.cells, AV.isCell]; exact .mk) rfl rfl (by simp) (by simp [boxA, AV.cells, AV.isCell]; exact .mk) (by simp [boxA, AV.cells, AV.isCell]; exact .mk) (by simp; exact .mk) ?_
    refine run_op1 rfl rfl rfl (by simp <;> first | omega | grind) (by simp [boxA, AV.cells, AV.isCell]; exact .mk) ?_
    refine run_end [2] (by simp <;> first | omega | grind) (by simp; exact .mk) ?_
    rintro -
    refine W_ret ?_
    refine end_ret (by simp [boxA, AV.cells, AV.isCell, Try.f95]; exact .mk) (by simp [boxA, AV.cells, AV.isCell, cl, cls]; exact .mk) ?_ (by simp [boxA, AV.cells, AV.isCell, D.noSn])
    simp [nrmR, nrmRs, nrmK, kindsOf, kinds, Try.f95, hr]

theorem ct59 (g : Gl) (s : Shape) (mode base : Int) : CtAt Try.prog g 59 [eShape s, vI mode, vI base] (.v (.bool (superS s mode base))) := by
  refine ctAt_of_W Try.func59 rfl rfl (Nat.le_of_ble_eq_true rfl) fun B S => ?_
  simp only [eShape, List.map, argD_agg, argD_v]
  refine W_seq ?_
  refine W_reg rfl ?_
  refine run_op rfl rfl rfl (by simp [boxA, AV.cells, AV.isCell, boxA, AV.cells, AV.isCell]; exact .mk) ?_
  refine run_op rfl rfl rfl (by simp [boxA, AV.cells, AV.isCell]; exact .mk) ?_
  refine run_end [1, 2, 3] (by simp) (by simp; exact .mk) ?_
  rintro -
  refine W_seq ?_
  refine W_seq ?_
  refine W_reg rfl ?_
  refine run_op rfl rfl rfl (by simp [boxA, AV.cells, AV.isCell]; exact .mk) ?_
  refine run_call0 rfl rfl rfl rfl (by simp [boxA, AV.cells, AV.isCell, calleeA]; exact .mk) (by simp [boxA, AV.cells, AV.isCell, kindsOf, kinds, expAs, expA]; exact .mk) (ct95 g s) (by simp [boxA, AV.cells, AV.isCell, D.noRo]) (by simp [boxA, AV.cells, AV.isCell, impA, impAs]; exact .mk) ?_
  refine run_op rfl rfl rfl (by simp [boxA, AV.cells, AV.isCell, unA]; exact .mk) ?_
  refine run_op rfl rfl rfl (by simp [boxA, AV.cells, AV.isCell]; exact .mk) ?_
  refine run_if rfl (by simp [boxA, AV.cells, AV.isCell]; exact .mk) rfl (by simp <;> first | omega | grind) (fun hb => by simp [boxA, AV.cells, AV.isCell]; exact .mk) ?_
  refine run_if rfl (by simp [boxA, AV.cells, AV.isCell]; exact .mk) rfl (by simp <;> first | omega | grind) (fun hb => by simp [boxA, AV.cells, AV.isCell, eqA, eqFs, isStructTy, eqlNeq, strOp, isBoolTy, isPtrTy, isFnTy]; exact .mk) ?_
  refine run_pick rfl (by simp [boxA, AV.cells, AV.isCell]; exact .mk) rfl rfl (by simp) (by simp [boxA, AV.cells, AV.isCell]; exact .mk) (by simp [boxA, AV.cells, AV.isCell]; exact .mk) (by simp; exact .mk) ?_
  refine run_op1 rfl rfl rfl (by simp <;> first | omega | grind) (by simp [boxA, AV.cells, AV.isCell]; exact .mk) ?_
  refine run_if rfl (by simp [boxA, AV.cells, AV.isCell]; exact .mk) rfl (by simp <;> first | omega | grind) (fun hb => by simp [boxA, AV.cells, AV.isCell]; exact .mk) ?_
  refine run_if rfl (by simp [boxA, AV.cells, AV.isCell]; exact .mk) rfl (by simp <;> first | omega | grind) (fun hb => by simp [boxA, AV.cells, AV.isCell]; exact .mk) ?_
  refine run_if rfl (by simp [boxA, AV.cells, AV.isCell]; exact .mk) rfl (by simp <;> first | omega | grind) (fun hb => by simp [boxA, AV.cells, AV.isCell]; exact .mk) ?_
  refine run_if rfl (by simp [boxA, AV.cells, AV.isCell]; exact .mk) rfl (by simp <;> first | omega | grind) (fun hb => by simp [boxA, AV.cells, AV.isCell, eqA, eqFs, isStructTy, eqlNeq, strOp, isBoolTy, isPtrTy, isFnTy]; exact .mk) ?_
  refine run_pick rfl (by simp [boxA, AV.cells, AV.isCell]; exact .mk) rfl rfl (by simp) (by simp [boxA, AV.cells, AV.isCell]; exact .mk) (by simp [boxA, AV.cells, AV.isCell]; exact .mk) (by simp; exact .mk) ?_
  refine run_end [1, 2, 3, 19] (by simp <;> first | omega | grind) (by simp; exact .mk) ?_
  rintro -
  refine W_cond rfl ?_ ?_
  · intro h19
    refine W_seq ?_
    refine W_reg rfl ?_
    refine run_op rfl rfl rfl (by simp [boxA, AV.cells, AV.isCell]; exact .mk) ?_
    refine run_end [6] (by simp) (by simp; exact .mk) ?_
    rintro -
    refine W_ret ?_
    refine end_ret (by simp [boxA, AV.cells, AV.isCell, Try.f59]; exact .mk) (by simp [boxA, AV.cells, AV.isCell, cl, cls]; exact .mk) ?_ (by simp [boxA, AV.cells, AV.isCell, D.noSn])
    simp [nrmR, nrmRs, nrmK, kindsOf, kinds, Try.f59, superS] at *; grind
  · intro h19
    refine W_skip ?_
    rintro -
    refine W_seq ?_
    refine W_seq ?_
    refine W_reg rfl ?_
    refine run_op rfl rfl rfl (by simp [boxA, AV.cells, AV.isCell]; exact .mk) ?_
    refine run_end [1, 2, 3, 20] (by simp) (by simp; exact .mk) ?_
    rintro -
    refine W_block ?_
    refine W_seq ?_
    refine W_reg rfl ?_
    refine run_op rfl rfl rfl (by simp [boxA, AV.cells, AV.isCell, eqA, eqFs, isStructTy, eqlNeq, strOp, isBoolTy, isPtrTy, isFnTy]; exact .mk) ?_
    refine run_op rfl rfl rfl (by simp [boxA, AV.cells, AV.isCell]; exact .mk) ?_
    refine run_end [1, 2, 3, 20, 21] (by simp) (by simp; exact .mk) ?_
    rintro -
    refine W_cond rfl ?_ ?_
    · intro h21
      refine W_seq ?_
      refine W_reg rfl ?_
      refine run_op rfl rfl rfl (by simp [boxA, AV.cells, AV.isCell]; exact .mk) ?_
      refine run_op rfl rfl rfl (by simp [boxA, AV.cells, AV.isCell, eqA, eqFs, isStructTy, eqlNeq, strOp, isBoolTy, isPtrTy, isFnTy]; exact .mk) ?_
      refine run_op rfl rfl rfl (by simp [boxA, AV.cells, AV.isCell]; exact .mk) ?_
      refine run_end [6] (by simp) (by simp; exact .mk) ?_
      rintro -
      refine W_ret ?_
      refine end_ret (by simp [boxA, AV.cells, AV.isCell, Try.f59]; exact .mk) (by simp [boxA, AV.cells, AV.isCell, cl, cls]; exact .mk) ?_ (by simp [boxA, AV.cells, AV.isCell, D.noSn])
      simp [nrmR, nrmRs, nrmK, kindsOf, kinds, Try.f59, superS] at *; grind
    · intro h21
      refine W_seq ?_
      refine W_reg rfl ?_
      refine run_op rfl rfl rfl (by simp [boxA, AV.cells, AV.isCell, eqA, eqFs, isStructTy, eqlNeq, strOp, isBoolTy, isPtrTy, isFnTy]; exact .mk) ?_
      refine run_op rfl rfl rfl (by simp [boxA, AV.cells, AV.isCell]; exact .mk) ?_
      refine run_end [1, 2, 3, 25] (by simp) (by simp; exact .mk) ?_
      rintro -
      refine W_cond rfl ?_ ?_
      · intro h25
        refine W_seq ?_
        refine W_reg rfl ?_
        iterate 3 (refine run_op rfl rfl rfl (by simp [boxA, AV.cells, AV.isCell]; exact .mk) ?_)
        refine run_op rfl rfl rfl (by simp [boxA, AV.cells, AV.isCell, eqA, eqFs, isStructTy, eqlNeq, strOp, isBoolTy, isPtrTy, isFnTy]; exact .mk) ?_
        refine run_op rfl rfl rfl (by simp [boxA, AV.cells, AV.isCell]; exact .mk) ?_
        refine run_end [6] (by simp) (by simp; exact .mk) ?_
        rintro -
        refine W_ret ?_
        refine end_ret (by simp [boxA, AV.cells, AV.isCell, Try.f59]; exact .mk) (by simp [boxA, AV.cells, AV.isCell, cl, cls]; exact .mk) ?_ (by simp [boxA, AV.cells, AV.isCell, D.noSn])
        simp [nrmR, nrmRs, nrmK, kindsOf, kinds, Try.f59, superS] at *; grind
      · intro h25
        refine W_skip ?_
        rintro -
        refine W_seq ?_
        refine W_reg rfl ?_
        refine run_op rfl rfl rfl (by simp [boxA, AV.cells, AV.isCell]; exact .mk) ?_
        refine run_op rfl rfl rfl (by simp [boxA, AV.cells, AV.isCell, eqA, eqFs, isStructTy, eqlNeq, strOp, isBoolTy, isPtrTy, isFnTy]; exact .mk) ?_
        refine run_op rfl rfl rfl (by simp [boxA, AV.cells, AV.isCell]; exact .mk) ?_
        refine run_if rfl (by simp [boxA, AV.cells, AV.isCell]; exact .mk) rfl (by simp <;> first | omega | grind) (fun hb => by simp [boxA, AV.cells, AV.isCell]; exact .mk) ?_
        refine run_if rfl (by simp [boxA, AV.cells, AV.isCell]; exact .mk) rfl (by simp <;> first | omega | grind) (fun hb => by simp [boxA, AV.cells, AV.isCell, eqA, eqFs, isStructTy, eqlNeq, strOp, isBoolTy, isPtrTy, isFnTy]; exact .mk) ?_
        refine run_pick rfl (by simp [boxA, AV.cells, AV.isCell]; exact .mk) rfl rfl (by simp) (by simp [boxA, AV.cells, AV.isCell]; exact .mk) (by simp [boxA, AV.cells, AV.isCell]; exact .mk) (by simp; exact .mk) ?_
        refine run_op1 rfl rfl rfl (by simp <;> first | omega | grind) (by simp [boxA, AV.cells, AV.isCell]; exact .mk) ?_
        refine run_end [6] (by simp <;> first | omega | grind) (by simp; exact .mk) ?_
        rintro -
        refine W_ret ?_
        refine end_ret (by simp [boxA, AV.cells, AV.isCell, Try.f59]; exact .mk) (by simp [boxA, AV.cells, AV.isCell, cl, cls]; exact .mk) ?_ (by simp [boxA, AV.cells, AV.isCell, D.noSn])
        simp [nrmR, nrmRs, nrmK, kindsOf, kinds, Try.f59, superS] at *; grind

end Go.Proofs

set_option linter.unusedSimpArgs false
set_option linter.unusedVariables false
set_option maxHeartbeats 4000000
set_option maxRecDepth 4000
namespace Go.Proofs
open Go.Awp
theorem ct32 (g : Gl) (s : Stt) (hs : s.Ok) : CtAt Try.prog g 32 [eStt s] (vI (liveIx s.slots s.slots.length)) := by
  refine ctAt_of_W Try.func32 rfl rfl (Nat.le_of_ble_eq_true rfl) fun B S => ?_
  simp only [eStt, List.map, argD_agg]
  have q0 := hs.h1
  refine W_seq ?_
  refine W_reg rfl ?_
  refine run_op rfl rfl rfl (by simp [boxA, AV.cells, AV.isCell, boxA, AV.cells, AV.isCell]; exact .mk) ?_
  refine run_op rfl rfl rfl (by simp [boxA, AV.cells, AV.isCell]; exact .mk) ?_
  refine run_end [1] (by simp) (by simp; exact .mk) ?_
  rintro -
  refine W_seq ?_
  refine W_reg rfl ?_
  refine run_op rfl rfl rfl (by simp [boxA, AV.cells, AV.isCell]; exact .mk) ?_
  refine run_end [1, 3] (by simp) (by simp; exact .mk) ?_
  rintro -
  refine W_seq ?_
  refine W_seq ?_
  refine W_reg rfl ?_
  refine run_op rfl rfl rfl (by simp [boxA, AV.cells, AV.isCell]; exact .mk) ?_
  refine run_op rfl rfl rfl (by simp [boxA, AV.cells, AV.isCell, eSlot]; exact .mk) ?_
  iterate 2 (refine run_op rfl rfl rfl (by simp [boxA, AV.cells, AV.isCell]; exact .mk) ?_)
  refine run_end [3, 7, 8, 9] (by simp) (by simp; exact .mk) ?_
  rintro -
  refine W_block ?_
  refine W_rounds (fun m σ o => ∃ i : Nat, m = s.slots.length - i ∧ i ≤ s.slots.length ∧ σ = slots [(3, .d (vI (liveIx s.slots i))), (7, .d (rSl s.slots)), (8, .d (vI s.slots.length)), (9, .d (vI i))] ∧ o = [.var 56 [.d (vI s.sh.pages), .d (vI s.sh.slots), .d (vI s.sh.roots), .d (vI s.sh.room), .d (vI s.mode), .d (vI s.base), .d (rSl s.slots), .d (rR s.roots), .d (rBB s.data)]]) s.slots.length .refl ⟨0, by simp, by simp, by simp [liveIx], rfl⟩ ?_
  rintro m σ o ⟨i, rfl, hi, rfl, rfl⟩ _
  have hle := liveIx_le (l := s.slots) (i := i)
  refine W_seq ?_
  refine W_reg rfl ?_
  refine run_op rfl rfl rfl (by simp [boxA, AV.cells, AV.isCell, eqA, eqFs, isStructTy, eqlNeq, strOp, isBoolTy, isPtrTy, isFnTy]; exact .mk) ?_
  refine run_end [3, 7, 8, 9, 10] (by simp) (by simp; exact .mk) ?_
  rintro -
  refine W_seq ?_
  refine W_cond rfl ?_ ?_
  · intro h10
    have hi2 : i < s.slots.length := by simpa using h10
    have e1 : IntKind.i64.wrap (((liveIx s.slots i : Nat) : Int) + 1) = ((liveIx s.slots i : Nat) : Int) + 1 := wrap64 (by omega) (by omega)
    refine W_skip ?_
    rintro -
    refine W_seq ?_
    refine W_block ?_
    refine W_seq ?_
    refine W_reg rfl ?_
    refine run_op rfl rfl rfl (by simp [boxA, AV.cells, AV.isCell, eSlot, *]; exact .mk) ?_
    refine run_op rfl rfl rfl (by simp [boxA, AV.cells, AV.isCell, eSlot]; exact .mk) ?_
    refine run_op rfl rfl rfl (by simp [boxA, AV.cells, AV.isCell, allocA, Value.oneCell']; exact .mk) ?_
    refine run_op rfl rfl rfl (by simp [boxA, AV.cells, AV.isCell, storeA, AV.cells, AV.isCell, splice]; exact .mk) ?_
    refine run_end [3, 5, 7, 8, 9] (by simp) (by simp; exact .mk) ?_
    rintro -
    refine W_seq ?_
    refine W_reg rfl ?_
    refine run_op rfl rfl rfl (by simp [boxA, AV.cells, AV.isCell]; exact .mk) ?_
    refine run_op rfl rfl rfl (by simp [boxA, AV.cells, AV.isCell, eSlot]; exact .mk) ?_
    refine run_end [3, 7, 8, 9, 14] (by simp) (by simp; exact .mk) ?_
    rintro -
    refine W_cond rfl ?_ ?_
    · intro h14
      refine W_reg rfl ?_
      refine run_op rfl rfl rfl (by simp [boxA, AV.cells, AV.isCell]; exact .mk) ?_
      refine run_op rfl rfl rfl (by simp [boxA, AV.cells, AV.isCell, eqA, eqFs, isStructTy, eqlNeq, strOp, isBoolTy, isPtrTy, isFnTy, e1]; exact .mk) ?_
      refine run_op rfl rfl rfl (by simp [boxA, AV.cells, AV.isCell]; exact .mk) ?_
      refine run_end [3, 7, 8, 9] (by simp) (by simp; exact .mk) ?_
      rintro -
      refine W_reg rfl ?_
      refine run_op rfl rfl rfl (by simp [boxA, AV.cells, AV.isCell, eqA, eqFs, isStructTy, eqlNeq, strOp, isBoolTy, isPtrTy, isFnTy]; exact .mk) ?_
      refine run_op rfl rfl rfl (by simp [boxA, AV.cells, AV.isCell]; exact .mk) ?_
      refine run_end [3, 7, 8, 9] (by simp) (by simp; exact .mk) ?_
      refine rounds_drop 1 [3, 7, 8, 9] (by simp) (by simp [boxA, AV.cells, AV.isCell]) (by simp [boxA, AV.cells, AV.isCell]) ?_
      refine rounds_next (m' := s.slots.length - (i+1)) (by omega) ⟨i+1, rfl, by omega, ?_, rfl⟩
      rw [wrap64 (by omega) (by omega), liveIx_s, h14]; rfl
    · intro h14
      refine W_skip ?_
      rintro -
      refine W_reg rfl ?_
      refine run_op rfl rfl rfl (by simp [boxA, AV.cells, AV.isCell, eqA, eqFs, isStructTy, eqlNeq, strOp, isBoolTy, isPtrTy, isFnTy]; exact .mk) ?_
      refine run_op rfl rfl rfl (by simp [boxA, AV.cells, AV.isCell]; exact .mk) ?_
      refine run_end [3, 7, 8, 9] (by simp) (by simp; exact .mk) ?_
      refine rounds_drop 1 [3, 7, 8, 9] (by simp) (by simp [boxA, AV.cells, AV.isCell]) (by simp [boxA, AV.cells, AV.isCell]) ?_
      refine rounds_next (m' := s.slots.length - (i+1)) (by omega) ⟨i+1, rfl, by omega, ?_, rfl⟩
      rw [wrap64 (by omega) (by omega), liveIx_s, h14]; rfl
  · intro h10
    obtain rfl : i = s.slots.length := by simp at h10; omega
    refine W_exit ?_
    rintro -
    refine W_seq ?_
    refine W_reg rfl ?_
    iterate 2 (refine run_op rfl rfl rfl (by simp [boxA, AV.cells, AV.isCell]; exact .mk) ?_)
    refine run_end [2] (by simp) (by simp; exact .mk) ?_
    rintro -
    refine W_ret ?_
    refine end_ret (by simp [boxA, AV.cells, AV.isCell, Try.f32]; exact .mk) (by simp [boxA, AV.cells, AV.isCell, cl, cls]; exact .mk) ?_ (by simp [boxA, AV.cells, AV.isCell, D.noSn])
    simp [nrmR, nrmRs, nrmK, kindsOf, kinds, Try.f32]

theorem ct31 (g : Gl) (s : Stt) (hs : s.Ok) : CtAt Try.prog g 31 [eStt s] (.tup [oO (twosO s.slots), oI (twosI s.slots)]) := by
  refine ctAt_of_W Try.func31 rfl rfl (Nat.le_of_ble_eq_true rfl) fun B S => ?_
  simp only [eStt, List.map, argD_agg]
  have q0 := hs.h1
  refine W_seq ?_
  refine W_reg rfl ?_
  refine run_op rfl rfl rfl (by simp [boxA, AV.cells, AV.isCell, boxA, AV.cells, AV.isCell]; exact .mk) ?_
  iterate 2 (refine run_op rfl rfl rfl (by simp [boxA, AV.cells, AV.isCell]; exact .mk) ?_)
  refine run_end [1] (by simp) (by simp; exact .mk) ?_
  rintro -
  refine W_seq ?_
  refine W_reg rfl ?_
  refine run_op rfl rfl rfl (by simp [boxA, AV.cells, AV.isCell]; exact .mk) ?_
  refine run_end [1, 4] (by simp) (by simp; exact .mk) ?_
  rintro -
  refine W_seq ?_
  refine W_reg rfl ?_
  refine run_op rfl rfl rfl (by simp [boxA, AV.cells, AV.isCell]; exact .mk) ?_
  refine run_end [1, 4, 5] (by simp) (by simp; exact .mk) ?_
  rintro -
  refine W_seq ?_
  refine W_seq ?_
  refine W_reg rfl ?_
  refine run_op rfl rfl rfl (by simp [boxA, AV.cells, AV.isCell]; exact .mk) ?_
  refine run_op rfl rfl rfl (by simp [boxA, AV.cells, AV.isCell, eSlot]; exact .mk) ?_
  iterate 2 (refine run_op rfl rfl rfl (by simp [boxA, AV.cells, AV.isCell]; exact .mk) ?_)
  refine run_end [4, 5, 9, 10, 11] (by simp) (by simp; exact .mk) ?_
  rintro -
  refine W_block ?_
  refine W_rounds (fun m σ o => ∃ i : Nat, m = s.slots.length - i ∧ i ≤ s.slots.length ∧ σ = slots [(4, .hdr 1 0 (twoIx s.slots i).length), (5, .hdr 2 0 (twoIx s.slots i).length), (9, .d (rSl s.slots)), (10, .d (vI s.slots.length)), (11, .d (vI i))] ∧ o = [.var 56 [.d (vI s.sh.pages), .d (vI s.sh.slots), .d (vI s.sh.roots), .d (vI s.sh.room), .d (vI s.mode), .d (vI s.base), .d (rSl s.slots), .d (rR s.roots), .d (rBB s.data)], .row 2 ((twoIx s.slots i).map fun j => eObj (objAt s.slots j)), .row 1 ((twoIx s.slots i).map fun (j : Nat) => vI j)]) s.slots.length
    (Weak.trans (Weak.nilRow 4 2 rfl) (Weak.trans (Weak.nilRow 5 1 rfl) (Weak.kills [4, 5, 9, 10, 11] rfl) (fun _ _ _ h1 h2 => by rw [← h1.len]; exact h2)) (fun _ _ _ h1 h2 => by rw [← h1.len]; exact h2)) ⟨0, by simp, by simp, by simp [twoIx], by simp [twoIx]⟩ ?_
  rintro m σ o ⟨i, rfl, hi, rfl, rfl⟩ _
  have hle := twoIx_len (l := s.slots) (i := i)
  refine W_seq ?_
  refine W_reg rfl ?_
  refine run_op rfl rfl rfl (by simp [boxA, AV.cells, AV.isCell, eqA, eqFs, isStructTy, eqlNeq, strOp, isBoolTy, isPtrTy, isFnTy]; exact .mk) ?_
  refine run_end [4, 5, 9, 10, 11, 12] (by simp) (by simp; exact .mk) ?_
  rintro -
  refine W_seq ?_
  refine W_cond rfl ?_ ?_
  · intro h12
    have hi2 : i < s.slots.length := by simpa using h12
    refine W_skip ?_
    rintro -
    refine W_seq ?_
    refine W_block ?_
    refine W_seq ?_
    refine W_reg rfl ?_
    refine run_op rfl rfl rfl (by simp [boxA, AV.cells, AV.isCell]; exact .mk) ?_
    refine run_op rfl rfl rfl (by simp [boxA, AV.cells, AV.isCell, eSlot, *]; exact .mk) ?_
    refine run_op rfl rfl rfl (by simp [boxA, AV.cells, AV.isCell, eSlot]; exact .mk) ?_
    refine run_op rfl rfl rfl (by simp [boxA, AV.cells, AV.isCell, allocA, Value.oneCell']; exact .mk) ?_
    refine run_op rfl rfl rfl (by simp [boxA, AV.cells, AV.isCell]; exact .mk) ?_
    refine run_op rfl rfl rfl (by simp [boxA, AV.cells, AV.isCell, storeA, AV.cells, AV.isCell, splice]; exact .mk) ?_
    refine run_end [4, 5, 6, 7, 9, 10, 11] (by simp) (by simp; exact .mk) ?_
    rintro -
    refine W_seq ?_
    refine W_reg rfl ?_
    refine run_op rfl rfl rfl (by simp [boxA, AV.cells, AV.isCell]; exact .mk) ?_
    refine run_op rfl rfl rfl (by simp [boxA, AV.cells, AV.isCell, eSlot]; exact .mk) ?_
    refine run_op rfl rfl rfl (by simp [boxA, AV.cells, AV.isCell]; exact .mk) ?_
    refine run_if rfl (by simp [boxA, AV.cells, AV.isCell]; exact .mk) rfl (by simp <;> first | omega | grind) (fun hb => by simp [boxA, AV.cells, AV.isCell]; exact .mk) ?_
    refine run_if rfl (by simp [boxA, AV.cells, AV.isCell]; exact .mk) rfl (by simp <;> first | omega | grind) (fun hb => by simp [boxA, AV.cells, AV.isCell, eSlot]; exact .mk) ?_
    refine run_pick rfl (by simp [boxA, AV.cells, AV.isCell]; exact .mk) rfl rfl (by simp) (by simp [boxA, AV.cells, AV.isCell]; exact .mk) (by simp [boxA, AV.cells, AV.isCell]; exact .mk) (by simp; exact .mk) ?_
    refine run_end [4, 5, 6, 7, 9, 10, 11, 21] (by simp <;> first | omega | grind) (by simp; exact .mk) ?_
    rintro -
    refine W_cond rfl ?_ ?_
    · intro h21
      have h2 : isTwo (nth s.slots i) = true := h21
      have e1 : ((twoIx s.slots i).length + 1) * 16 ≤ 140737488355328 := by omega
      have e2 : (twoIx s.slots i).length ≤ 140737488355327 := by omega
      have e3 : ((twoIx s.slots i).length + 1) * 8 ≤ 140737488355328 := by omega
      refine W_reg rfl ?_
      iterate 2 (refine run_op rfl rfl rfl (by simp [boxA, AV.cells, AV.isCell]; exact .mk) ?_)
      refine run_op rfl rfl rfl (by simp [boxA, AV.cells, AV.isCell, eSlot]; exact .mk) ?_
      refine run_op rfl rfl rfl (by simp [boxA, AV.cells, AV.isCell]; exact .mk) ?_
      refine run_op rfl rfl rfl (by simp [boxA, AV.cells, AV.isCell, eSlot]; exact .mk) ?_
      refine run_op rfl rfl rfl (by simp [boxA, AV.cells, AV.isCell, buildA, fillA, placesOf, splice, Value.oneCell', AV.cells, AV.isCell]; exact .mk) ?_
      refine run_op rfl rfl rfl (by simp [boxA, AV.cells, AV.isCell, buildSliceA, inOrder, cls, cl, elemsD, kinds, nrmKs, Value.oneCell']; exact .mk) ?_
      refine run_op rfl rfl rfl (by simp [boxA, AV.cells, AV.isCell, appendA, srcA, dstA, isNilA, rows, e1, e2]; exact .mk) ?_
      iterate 2 (refine run_op rfl rfl rfl (by simp [boxA, AV.cells, AV.isCell]; exact .mk) ?_)
      refine run_op rfl rfl rfl (by simp [boxA, AV.cells, AV.isCell, buildSliceA, inOrder, cls, cl, elemsD, kinds, nrmKs, Value.oneCell']; exact .mk) ?_
      refine run_op rfl rfl rfl (by simp [boxA, AV.cells, AV.isCell, appendA, srcA, dstA, isNilA, rows, e3, e2]; exact .mk) ?_
      iterate 2 (refine run_op rfl rfl rfl (by simp [boxA, AV.cells, AV.isCell]; exact .mk) ?_)
      refine run_end [4, 5, 9, 10, 11] (by simp) (by simp; exact .mk) ?_
      rintro -
      refine W_reg rfl ?_
      refine run_op rfl rfl rfl (by simp [boxA, AV.cells, AV.isCell, eqA, eqFs, isStructTy, eqlNeq, strOp, isBoolTy, isPtrTy, isFnTy]; exact .mk) ?_
      refine run_op rfl rfl rfl (by simp [boxA, AV.cells, AV.isCell]; exact .mk) ?_
      refine run_end [4, 5, 9, 10, 11] (by simp) (by simp; exact .mk) ?_
      refine rounds_kill [4, 5, 9, 10, 11] ?_
      first
      | (refine rounds_drop 3 [4, 5, 9, 10, 11] (by decide) (by rfl) (by rfl) ?_
         refine rounds_next (m' := s.slots.length - (i+1)) (by omega) ⟨i+1, rfl, by omega, ?_, ?_⟩
         · rw [wrap64 (by omega) (by omega), twoIx_f h2]; rfl
         · rw [twoIx_f h2]; rfl)
      | (refine rounds_kills [4, 5, 9, 10, 11] rfl ?_
         refine rounds_swap 1 5 1 (by decide) (by simp) (by decide) rfl rfl ?_
         refine rounds_swap 2 7 1 (by decide) (by simp) (by decide) rfl rfl ?_
         refine rounds_drop 3 [4, 5, 9, 10, 11] (by decide) (by rfl) (by rfl) ?_
         refine rounds_next (m' := s.slots.length - (i+1)) (by omega) ⟨i+1, rfl, by omega, ?_, ?_⟩
         · rw [wrap64 (by omega) (by omega), twoIx_t h2]; simp; try rfl
         · rw [twoIx_t h2]; simp [eObj, objAt]; try rfl)
    · intro h21
      have h2 : isTwo (nth s.slots i) = false := h21
      refine W_skip ?_
      rintro -
      refine W_reg rfl ?_
      refine run_op rfl rfl rfl (by simp [boxA, AV.cells, AV.isCell, eqA, eqFs, isStructTy, eqlNeq, strOp, isBoolTy, isPtrTy, isFnTy]; exact .mk) ?_
      refine run_op rfl rfl rfl (by simp [boxA, AV.cells, AV.isCell]; exact .mk) ?_
      refine run_end [4, 5, 9, 10, 11] (by simp) (by simp; exact .mk) ?_
      refine rounds_kill [4, 5, 9, 10, 11] ?_
      first
      | (refine rounds_drop 3 [4, 5, 9, 10, 11] (by decide) (by rfl) (by rfl) ?_
         refine rounds_next (m' := s.slots.length - (i+1)) (by omega) ⟨i+1, rfl, by omega, ?_, ?_⟩
         · rw [wrap64 (by omega) (by omega), twoIx_f h2]; rfl
         · rw [twoIx_f h2]; rfl)
      | (refine rounds_kills [4, 5, 9, 10, 11] rfl ?_
         refine rounds_swap 1 5 1 (by decide) (by simp) (by decide) rfl rfl ?_
         refine rounds_swap 2 7 1 (by decide) (by simp) (by decide) rfl rfl ?_
         refine rounds_drop 3 [4, 5, 9, 10, 11] (by decide) (by rfl) (by rfl) ?_
         refine rounds_next (m' := s.slots.length - (i+1)) (by omega) ⟨i+1, rfl, by omega, ?_, ?_⟩
         · rw [wrap64 (by omega) (by omega), twoIx_t h2]; simp; try rfl
         · rw [twoIx_t h2]; simp [eObj, objAt]; try rfl)
  · intro h12
    obtain rfl : i = s.slots.length := by simp at h12; omega
    refine W_exit ?_
    rintro -
    refine W_seq ?_
    refine W_reg rfl ?_
    iterate 4 (refine run_op rfl rfl rfl (by simp [boxA, AV.cells, AV.isCell]; exact .mk) ?_)
    refine run_end [2, 3] (by simp) (by simp; exact .mk) ?_
    rintro -
    refine W_ret ?_
    refine end_ret (by simp [boxA, AV.cells, AV.isCell, Try.f31]; exact .mk) (by simp [boxA, AV.cells, AV.isCell, cl, cls]; exact .mk) ?_ (by simp [boxA, AV.cells, AV.isCell, D.noSn])
    simp [nrmR, nrmRs, nrmK, kindsOf, kinds, Try.f31, ownR, twosO, twosI]; try rfl

theorem ct60 (g : Gl) (s : Stt) (hs : s.Ok) : CtAt Try.prog g 60 [eStt s] (.v (.bool (rowsS s))) := by
  refine ctAt_of_W Try.func60 rfl rfl (Nat.le_of_ble_eq_true rfl) fun B S => ?_
  simp only [eStt, List.map, argD_agg]
  have q0 := hs.h1
  refine W_seq ?_
  refine W_reg rfl ?_
  refine run_op rfl rfl rfl (by simp [boxA, AV.cells, AV.isCell, boxA, AV.cells, AV.isCell]; exact .mk) ?_
  refine run_op rfl rfl rfl (by simp [boxA, AV.cells, AV.isCell]; exact .mk) ?_
  refine run_end [1] (by simp) (by simp; exact .mk) ?_
  rintro -
  refine W_seq ?_
  refine W_block ?_
  refine W_seq ?_
  refine W_seq ?_
  refine W_reg rfl ?_
  iterate 6 (refine run_op rfl rfl rfl (by simp [boxA, AV.cells, AV.isCell]; exact .mk) ?_)
  refine run_op rfl rfl rfl (by simp [boxA, AV.cells, AV.isCell, eqA, eqFs, isStructTy, eqlNeq, strOp, isBoolTy, isPtrTy, isFnTy]; exact .mk) ?_
  refine run_op rfl rfl rfl (by simp [boxA, AV.cells, AV.isCell]; exact .mk) ?_
  refine run_end [1, 4] (by simp) (by simp; exact .mk) ?_
  rintro -
  refine W_cond rfl ?_ ?_
  · intro h4
    refine W_skip ?_
    rintro -
    refine W_cond rfl ?_ ?_
    · intro h4'
      refine W_seq ?_
      refine W_reg rfl ?_
      refine run_op rfl rfl rfl (by simp [boxA, AV.cells, AV.isCell]; exact .mk) ?_
      refine run_end [2] (by simp) (by simp; exact .mk) ?_
      rintro -
      refine W_ret ?_
      refine end_ret (by simp [boxA, AV.cells, AV.isCell, Try.f60]; exact .mk) (by simp [boxA, AV.cells, AV.isCell, cl, cls]; exact .mk) ?_ (by simp [boxA, AV.cells, AV.isCell, D.noSn])
      first | (simp [nrmR, nrmRs, nrmK, kindsOf, kinds, Try.f60, hr]; done) | (simp [nrmR, nrmRs, nrmK, kindsOf, kinds, Try.f60, show rowsS s = false from by (simp [rowsS] at *; grind)])
    · intro hq
      cases h4.symm.trans hq
  · intro h4
    refine W_seq ?_
    refine W_reg rfl ?_
    iterate 6 (refine run_op rfl rfl rfl (by simp [boxA, AV.cells, AV.isCell]; exact .mk) ?_)
    refine run_op rfl rfl rfl (by simp [boxA, AV.cells, AV.isCell, eqA, eqFs, isStructTy, eqlNeq, strOp, isBoolTy, isPtrTy, isFnTy]; exact .mk) ?_
    refine run_op rfl rfl rfl (by simp [boxA, AV.cells, AV.isCell]; exact .mk) ?_
    refine run_end [1, 4] (by simp) (by simp; exact .mk) ?_
    rintro -
    refine W_cond rfl ?_ ?_
    · intro h4'
      refine W_skip ?_
      rintro -
      refine W_cond rfl ?_ ?_
      · intro h4''
        refine W_seq ?_
        refine W_reg rfl ?_
        refine run_op rfl rfl rfl (by simp [boxA, AV.cells, AV.isCell]; exact .mk) ?_
        refine run_end [2] (by simp) (by simp; exact .mk) ?_
        rintro -
        refine W_ret ?_
        refine end_ret (by simp [boxA, AV.cells, AV.isCell, Try.f60]; exact .mk) (by simp [boxA, AV.cells, AV.isCell, cl, cls]; exact .mk) ?_ (by simp [boxA, AV.cells, AV.isCell, D.noSn])
        first | (simp [nrmR, nrmRs, nrmK, kindsOf, kinds, Try.f60, hr]; done) | (simp [nrmR, nrmRs, nrmK, kindsOf, kinds, Try.f60, show rowsS s = false from by (simp [rowsS] at *; grind)])
      · intro hq
        cases h4'.symm.trans hq
    · intro h4'
      refine W_reg rfl ?_
      iterate 6 (refine run_op rfl rfl rfl (by simp [boxA, AV.cells, AV.isCell]; exact .mk) ?_)
      refine run_op rfl rfl rfl (by simp [boxA, AV.cells, AV.isCell, eqA, eqFs, isStructTy, eqlNeq, strOp, isBoolTy, isPtrTy, isFnTy]; exact .mk) ?_
      refine run_op rfl rfl rfl (by simp [boxA, AV.cells, AV.isCell]; exact .mk) ?_
      refine run_end [1, 4] (by simp) (by simp; exact .mk) ?_
      rintro -
      refine W_cond rfl ?_ ?_
      · intro h4''
        refine W_seq ?_
        refine W_reg rfl ?_
        refine run_op rfl rfl rfl (by simp [boxA, AV.cells, AV.isCell]; exact .mk) ?_
        refine run_end [2] (by simp) (by simp; exact .mk) ?_
        rintro -
        refine W_ret ?_
        refine end_ret (by simp [boxA, AV.cells, AV.isCell, Try.f60]; exact .mk) (by simp [boxA, AV.cells, AV.isCell, cl, cls]; exact .mk) ?_ (by simp [boxA, AV.cells, AV.isCell, D.noSn])
        first | (simp [nrmR, nrmRs, nrmK, kindsOf, kinds, Try.f60, hr]; done) | (simp [nrmR, nrmRs, nrmK, kindsOf, kinds, Try.f60, show rowsS s = false from by (simp [rowsS] at *; grind)])
      · intro h4''
        refine W_seq ?_
        refine W_seq ?_
        refine W_reg rfl ?_
        iterate 2 (refine run_op rfl rfl rfl (by simp [boxA, AV.cells, AV.isCell]; exact .mk) ?_)
        refine run_call0 rfl rfl rfl rfl (by simp [boxA, AV.cells, AV.isCell, calleeA]; exact .mk) (by simp [boxA, AV.cells, AV.isCell, kindsOf, kinds, expAs, expA]; exact .mk) (ct96 g s.slots hs.h1) (by simp [boxA, AV.cells, AV.isCell, D.noRo]) (by simp [boxA, AV.cells, AV.isCell, impA, impAs]; exact .mk) ?_
        refine run_op rfl rfl rfl (by simp [boxA, AV.cells, AV.isCell, unA]; exact .mk) ?_
        refine run_op rfl rfl rfl (by simp [boxA, AV.cells, AV.isCell]; exact .mk) ?_
        refine run_end [1, 26] (by simp) (by simp; exact .mk) ?_
        rintro -
        refine W_cond rfl ?_ ?_
        · intro h26
          refine W_skip ?_
          rintro -
          refine W_cond rfl ?_ ?_
          · intro h26'
            refine W_seq ?_
            refine W_reg rfl ?_
            refine run_op rfl rfl rfl (by simp [boxA, AV.cells, AV.isCell]; exact .mk) ?_
            refine run_end [2] (by simp) (by simp; exact .mk) ?_
            rintro -
            refine W_ret ?_
            refine end_ret (by simp [boxA, AV.cells, AV.isCell, Try.f60]; exact .mk) (by simp [boxA, AV.cells, AV.isCell, cl, cls]; exact .mk) ?_ (by simp [boxA, AV.cells, AV.isCell, D.noSn])
            first | (simp [nrmR, nrmRs, nrmK, kindsOf, kinds, Try.f60, hr]; done) | (simp [nrmR, nrmRs, nrmK, kindsOf, kinds, Try.f60, show rowsS s = false from by (simp [rowsS] at *; grind)])
          · intro hq
            cases h26.symm.trans hq
        · intro h26
          refine W_reg rfl ?_
          iterate 2 (refine run_op rfl rfl rfl (by simp [boxA, AV.cells, AV.isCell]; exact .mk) ?_)
          refine run_call0 rfl rfl rfl rfl (by simp [boxA, AV.cells, AV.isCell, calleeA]; exact .mk) (by simp [boxA, AV.cells, AV.isCell, kindsOf, kinds, expAs, expA]; exact .mk) (ct44 g s.roots hs.h2 hs.h5) (by simp [boxA, AV.cells, AV.isCell, D.noRo]) (by simp [boxA, AV.cells, AV.isCell, impA, impAs]; exact .mk) ?_
          refine run_op rfl rfl rfl (by simp [boxA, AV.cells, AV.isCell, unA]; exact .mk) ?_
          refine run_op rfl rfl rfl (by simp [boxA, AV.cells, AV.isCell]; exact .mk) ?_
          refine run_end [1, 26] (by simp) (by simp; exact .mk) ?_
          rintro -
          refine W_cond rfl ?_ ?_
          · intro h26'
            refine W_seq ?_
            refine W_reg rfl ?_
            refine run_op rfl rfl rfl (by simp [boxA, AV.cells, AV.isCell]; exact .mk) ?_
            refine run_end [2] (by simp) (by simp; exact .mk) ?_
            rintro -
            refine W_ret ?_
            refine end_ret (by simp [boxA, AV.cells, AV.isCell, Try.f60]; exact .mk) (by simp [boxA, AV.cells, AV.isCell, cl, cls]; exact .mk) ?_ (by simp [boxA, AV.cells, AV.isCell, D.noSn])
            first | (simp [nrmR, nrmRs, nrmK, kindsOf, kinds, Try.f60, hr]; done) | (simp [nrmR, nrmRs, nrmK, kindsOf, kinds, Try.f60, show rowsS s = false from by (simp [rowsS] at *; grind)])
          · intro h26'
            refine W_skip ?_
            rintro -
            refine W_seq ?_
            refine W_seq ?_
            have hh : (s.slots.length : Int) = s.sh.slots ∧ (s.roots.length : Int) = s.sh.roots ∧ s.data.length = s.slots.length ∧ tableS s.slots = true ∧ rootsS s.roots = true := by simp at *; grind
            have hr0 : rowsS s = (List.range s.slots.length).all (lenOk s) := by simp [rowsS, hh]
            obtain ⟨_, _, hdl, _, _⟩ := hh
            refine W_reg rfl ?_
            iterate 4 (refine run_op rfl rfl rfl (by simp [boxA, AV.cells, AV.isCell]; exact .mk) ?_)
            refine run_end [1, 37, 38] (by simp) (by simp; exact .mk) ?_
            rintro -
            refine W_block ?_
            refine W_rounds (fun m σ o => ∃ i : Nat, m = s.slots.length - i ∧ i ≤ s.slots.length ∧ (∀ j, j < i → lenOk s j = true) ∧ σ = slots [(1, .ptr 0 0 0), (37, .d (vI s.slots.length)), (38, .d (vI i))] ∧ o = [.var 56 [.d (vI s.sh.pages), .d (vI s.sh.slots), .d (vI s.sh.roots), .d (vI s.sh.room), .d (vI s.mode), .d (vI s.base), .d (rSl s.slots), .d (rR s.roots), .d (rBB s.data)]]) s.slots.length .refl ⟨0, by simp, by simp, by simp, rfl, rfl⟩ ?_
            rintro m σ o ⟨i, rfl, hi, hinv, rfl, rfl⟩ _
            refine W_seq ?_
            refine W_reg rfl ?_
            refine run_op rfl rfl rfl (by simp [boxA, AV.cells, AV.isCell, eqA, eqFs, isStructTy, eqlNeq, strOp, isBoolTy, isPtrTy, isFnTy]; exact .mk) ?_
            refine run_end [1, 37, 38, 39] (by simp) (by simp; exact .mk) ?_
            rintro -
            refine W_seq ?_
            refine W_cond rfl ?_ ?_
            · intro h39
              have hi2 : i < s.slots.length := by simpa using h39
              have hi3 : i < s.data.length := by omega
              refine W_skip ?_
              rintro -
              refine W_seq ?_
              refine W_block ?_
              refine W_seq ?_
              refine W_reg rfl ?_
              iterate 2 (refine run_op rfl rfl rfl (by simp [boxA, AV.cells, AV.isCell]; exact .mk) ?_)
              refine run_end [1, 3, 37, 38] (by simp) (by simp; exact .mk) ?_
              rintro -
              refine W_seq ?_
              refine W_regD (by kernel_rfl) [] 4 [0, 1, 2, 3, 4, 5, 6, 7, 8, 9, 10, 11, 12] (by decide +kernel) ?_
              iterate 3 (refine run_op rfl rfl rfl (by simp [boxA, AV.cells, AV.isCell]; exact .mk) ?_)
              refine run_op rfl rfl rfl (by simp [boxA, AV.cells, AV.isCell, hi3]; exact .mk) ?_
              iterate 5 (refine run_op rfl rfl rfl (by simp [boxA, AV.cells, AV.isCell]; exact .mk) ?_)
              refine run_op rfl rfl rfl (by simp [boxA, AV.cells, AV.isCell, hi2]; exact .mk) ?_
              iterate 2 (refine run_op rfl rfl rfl (by simp [boxA, AV.cells, AV.isCell]; exact .mk) ?_)
              refine run_op rfl rfl rfl (by simp [boxA, AV.cells, AV.isCell, eqA, eqFs, isStructTy, eqlNeq, strOp, isBoolTy, isPtrTy, isFnTy]; exact .mk) ?_
              refine run_end [1, 37, 38, 53] (by simp) (by simp; exact .mk) ?_
              rintro -
              refine W_cond rfl ?_ ?_
              · intro h53
                have hr : rowsS s = false := by rw [hr0]; exact all_bad hi2 (by simp [lenOk] at *; simpa [eSlot] using h53)
                refine W_seq ?_
                refine W_reg rfl ?_
                refine run_op rfl rfl rfl (by simp [boxA, AV.cells, AV.isCell]; exact .mk) ?_
                refine run_end [2] (by simp) (by simp; exact .mk) ?_
                rintro -
                refine W_ret ?_
                refine end_ret (by simp [boxA, AV.cells, AV.isCell, Try.f60]; exact .mk) (by simp [boxA, AV.cells, AV.isCell, cl, cls]; exact .mk) ?_ (by simp [boxA, AV.cells, AV.isCell, D.noSn])
                first | (simp [nrmR, nrmRs, nrmK, kindsOf, kinds, Try.f60, hr]; done) | (simp [nrmR, nrmRs, nrmK, kindsOf, kinds, Try.f60, show rowsS s = false from by (simp [rowsS] at *; grind)])
              · intro h53
                refine W_skip ?_
                rintro -
                refine W_reg rfl ?_
                refine run_op rfl rfl rfl (by simp [boxA, AV.cells, AV.isCell, eqA, eqFs, isStructTy, eqlNeq, strOp, isBoolTy, isPtrTy, isFnTy]; exact .mk) ?_
                refine run_op rfl rfl rfl (by simp [boxA, AV.cells, AV.isCell]; exact .mk) ?_
                refine run_end [1, 37, 38] (by simp) (by simp; exact .mk) ?_
                refine rounds_kill [1, 37, 38] ?_
                refine rounds_next (m' := s.slots.length - (i+1)) (by omega) ⟨i+1, rfl, by omega, ?_, ?_, rfl⟩
                · intro j hj
                  rcases Nat.lt_succ_iff_lt_or_eq.1 hj with hj | rfl
                  · exact hinv j hj
                  · simp [lenOk] at *; simpa [eSlot] using h53
                · rw [wrap64 (by omega) (by omega)]; rfl
            · intro h39
              have hr : rowsS s = true := by rw [hr0]; exact all_good (fun j hj => hinv j (by simp at h39; omega))
              refine W_exit ?_
              rintro -
              refine W_seq ?_
              refine W_reg rfl ?_
              refine run_op rfl rfl rfl (by simp [boxA, AV.cells, AV.isCell]; exact .mk) ?_
              refine run_end [2] (by simp) (by simp; exact .mk) ?_
              rintro -
              refine W_ret ?_
              refine end_ret (by simp [boxA, AV.cells, AV.isCell, Try.f60]; exact .mk) (by simp [boxA, AV.cells, AV.isCell, cl, cls]; exact .mk) ?_ (by simp [boxA, AV.cells, AV.isCell, D.noSn])
              first | (simp [nrmR, nrmRs, nrmK, kindsOf, kinds, Try.f60, hr]; done) | (simp [nrmR, nrmRs, nrmK, kindsOf, kinds, Try.f60, show rowsS s = false from by (simp [rowsS] at *; grind)])

theorem ct99 (g : Gl) (a b : Int) : CtAt Try.prog g 99 [vI a, vI b] (.tup []) := by
  refine ctAt_of_W Try.func99 rfl rfl (Nat.le_of_ble_eq_true rfl) fun B S => ?_
  refine W_skip ?_
  refine end_normal (by simp [Try.f99]; exact .mk) (by simp [cl, cls]; exact .mk) ?_ (by simp [D.noSn])
  simp [nrmR, nrmRs, nrmK, kindsOf, kinds, Try.f99]

end Go.Proofs

set_option linter.unusedSimpArgs false
set_option linter.unusedVariables false
set_option maxHeartbeats 4000000
set_option maxRecDepth 4000
namespace Go.Proofs
open Go.Awp
theorem in98 (g : Gl) (fr to : Int) (l : List (Int × Int)) (hl : l.length ≤ 2^40) : ∀ B S, CallsA Try.prog g B S ⟨0, true⟩ 98 [.d (vI fr), .d (vI to), .d (rO l), .fn (.func 99) [] []] []
    (fun x r => x = .d (.v (.bool (gapsS fr to l))) ∧ r = []) := by
  refine callsA_at Try.func98 rfl (Nat.le_of_ble_eq_true rfl) fun B S => ?_
  refine W_seq ?_
  refine W_reg rfl ?_
  refine run_op rfl rfl rfl (by simp; exact .mk) ?_
  refine run_end [0, 1, 2, 3] (by simp) (by simp; exact .mk) ?_
  rintro -
  refine W_seq ?_
  refine W_seq ?_
  refine W_reg rfl ?_
  refine run_op rfl rfl rfl (by simp; exact .mk) ?_
  refine run_op rfl rfl rfl (by simp [eqA, eqFs, isStructTy, eqlNeq, strOp, isBoolTy, isPtrTy, isFnTy]; exact .mk) ?_
  refine run_op rfl rfl rfl (by simp; exact .mk) ?_
  refine run_if rfl (by simp; exact .mk) rfl (by simp <;> first | omega | grind) (fun hb => by simp; exact .mk) ?_
  refine run_if rfl (by simp; exact .mk) rfl (by simp <;> first | omega | grind) (fun hb => by simp; exact .mk) ?_
  refine run_if rfl (by simp; exact .mk) rfl (by simp <;> first | omega | grind) (fun hb => by simp [eqA, eqFs, isStructTy, eqlNeq, strOp, isBoolTy, isPtrTy, isFnTy]; exact .mk) ?_
  refine run_pick rfl (by simp; exact .mk) rfl rfl (by simp) (by simp; exact .mk) (by simp; exact .mk) (by simp; exact .mk) ?_
  refine run_op1 rfl rfl rfl (by simp <;> first | omega | grind) (by simp; exact .mk) ?_
  refine run_if rfl (by simp; exact .mk) rfl (by simp <;> first | omega | grind) (fun hb => by simp; exact .mk) ?_
  refine run_if rfl (by simp; exact .mk) rfl (by simp <;> first | omega | grind) (fun hb => by simp [eqA, eqFs, isStructTy, eqlNeq, strOp, isBoolTy, isPtrTy, isFnTy]; exact .mk) ?_
  refine run_pick rfl (by simp; exact .mk) rfl rfl (by simp) (by simp; exact .mk) (by simp; exact .mk) (by simp; exact .mk) ?_
  refine run_op1 rfl rfl rfl (by simp <;> first | omega | grind) (by simp; exact .mk) ?_
  refine run_if rfl (by simp; exact .mk) rfl (by simp <;> first | omega | grind) (fun hb => by simp; exact .mk) ?_
  refine run_call rfl (by simp; exact .mk) rfl rfl (by simp) (by simp [calleeA]; exact .mk) (by simp [kindsOf, kinds, expAs, expA]; exact .mk) (fun hb => ct118 g fr) (by simp [D.noRo]) (by simp [impA, impAs]; exact .mk) (by simp) ?_
  refine run_if rfl (by simp; exact .mk) rfl (by simp <;> first | omega | grind) (fun hb => by simp [unA]; exact .mk) ?_
  refine run_pick rfl (by simp; exact .mk) rfl rfl (by simp) (by simp; exact .mk) (by simp; exact .mk) (by simp; exact .mk) ?_
  refine run_op1 rfl rfl rfl (by simp <;> first | omega | grind) (by simp; exact .mk) ?_
  refine run_if rfl (by simp; exact .mk) rfl (by simp <;> first | omega | grind) (fun hb => by simp; exact .mk) ?_
  refine run_call rfl (by simp; exact .mk) rfl rfl (by simp) (by simp [calleeA]; exact .mk) (by simp [kindsOf, kinds, expAs, expA]; exact .mk) (fun hb => ct118 g to) (by simp [D.noRo]) (by simp [impA, impAs]; exact .mk) (by simp) ?_
  refine run_if rfl (by simp; exact .mk) rfl (by simp <;> first | omega | grind) (fun hb => by simp [unA]; exact .mk) ?_
  refine run_pick rfl (by simp; exact .mk) rfl rfl (by simp) (by simp; exact .mk) (by simp; exact .mk) (by simp; exact .mk) ?_
  refine run_end [0, 1, 2, 3, 32] (by simp <;> first | omega | grind) (by simp; exact .mk) ?_
  rintro -
  refine W_cond rfl ?_ ?_
  · intro h32
    have hr : gapsS fr to l = false := by
      have : gapsHead fr to = false := by simp [gapsHead] at *; grind
      simp [gapsS, this]
    refine W_seq ?_
    refine W_reg rfl ?_
    refine run_op rfl rfl rfl (by simp; exact .mk) ?_
    refine run_end [8] (by simp) (by simp; exact .mk) ?_
    rintro -
    refine W_ret ?_
    refine endAt_drop 0 (by simp [Try.f98]; exact .mk) ?_ ?_ (by simp) (by simp) (by simp)
    · simp [hr]
    · rfl
  · intro h32
    have hH : 0 ≤ fr ∧ fr ≤ to ∧ to ≤ 2048 ∧ fr.tmod 4 = 0 ∧ to.tmod 4 = 0 := by simp at h32; omega
    have hr0 : gapsS fr to l = gapsOk to fr l := by simp [gapsS, gapsHead, hH]
    refine W_skip ?_
    rintro -
    refine W_seq ?_
    refine W_reg rfl ?_
    iterate 2 (refine run_op rfl rfl rfl (by simp; exact .mk) ?_)
    refine run_end [1, 2, 3, 9] (by simp) (by simp; exact .mk) ?_
    rintro -
    refine W_seq ?_
    refine W_seq ?_
    refine W_reg rfl ?_
    iterate 3 (refine run_op rfl rfl rfl (by simp; exact .mk) ?_)
    refine run_end [1, 3, 9, 34, 35, 36] (by simp) (by simp; exact .mk) ?_
    rintro -
    refine W_block ?_
    refine W_rounds (fun m σ o => ∃ (i : Nat) (a : Int), m = l.length - i ∧ i ≤ l.length ∧ 0 ≤ a ∧ a ≤ to ∧ gapsOk to a (l.drop i) = gapsOk to fr l ∧ σ = slots [(1, .d (vI to)), (3, .fn (.func 99) [] []), (9, .d (vI a)), (34, .d (rO l)), (35, .d (vI l.length)), (36, .d (vI i))] ∧ o = []) l.length .refl ⟨0, fr, by simp, by simp, by omega, by omega, by simp, rfl, rfl⟩ ?_
    rintro m σ o ⟨i, a, rfl, hi, ha0, ha1, hinv, rfl, rfl⟩ _
    refine W_seq ?_
    refine W_reg rfl ?_
    refine run_op rfl rfl rfl (by simp [eqA, eqFs, isStructTy, eqlNeq, strOp, isBoolTy, isPtrTy, isFnTy]; exact .mk) ?_
    refine run_end [1, 3, 9, 34, 35, 36, 37] (by simp) (by simp; exact .mk) ?_
    rintro -
    refine W_seq ?_
    refine W_cond rfl ?_ ?_
    · intro h37
      have hi2 : i < l.length := by simpa using h37
      rw [gapsOk_drop hi2] at hinv
      refine W_skip ?_
      rintro -
      refine W_seq ?_
      refine W_block ?_
      refine W_seq ?_
      refine W_reg rfl ?_
      refine run_op rfl rfl rfl (by simp [eObj, *]; exact .mk) ?_
      refine run_op rfl rfl rfl (by simp [eObj]; exact .mk) ?_
      refine run_op rfl rfl rfl (by simp [allocA, Value.oneCell']; exact .mk) ?_
      refine run_op rfl rfl rfl (by simp [storeA, AV.cells, AV.isCell, splice]; exact .mk) ?_
      refine run_end [1, 3, 9, 11, 34, 35, 36] (by simp) (by simp; exact .mk) ?_
      rintro -
      refine W_seq ?_
      refine W_block ?_
      refine W_seq ?_
      refine W_seq ?_
      refine W_reg rfl ?_
      refine run_op rfl rfl rfl (by simp; exact .mk) ?_
      refine run_op rfl rfl rfl (by simp [eObj]; exact .mk) ?_
      refine run_op rfl rfl rfl (by simp; exact .mk) ?_
      refine run_op rfl rfl rfl (by simp [eqA, eqFs, isStructTy, eqlNeq, strOp, isBoolTy, isPtrTy, isFnTy]; exact .mk) ?_
      refine run_op rfl rfl rfl (by simp; exact .mk) ?_
      refine run_end [1, 3, 9, 11, 34, 35, 36, 40] (by simp) (by simp; exact .mk) ?_
      rintro -
      refine W_cond rfl ?_ ?_
      · intro h40
        refine W_skip ?_
        rintro -
        refine W_cond rfl ?_ ?_
        · intro h40'
          refine W_seq ?_
          have hb : gapBad to a (nth l i) = true := by simp [gapBad, eObj] at *; grind
          have hr : gapsS fr to l = false := by rw [hr0, ← hinv, hb]; rfl
          refine W_reg rfl ?_
          refine run_op rfl rfl rfl (by simp; exact .mk) ?_
          refine run_end [8] (by simp) (by simp; exact .mk) ?_
          rintro -
          refine W_ret ?_
          refine endAt_drop 0 (by simp [Try.f98]; exact .mk) ?_ ?_ (by simp) (by simp) (by simp)
          · simp [hr]
          · rfl
        · intro hq
          cases h40.symm.trans hq
      · intro h40
        refine W_seq ?_
        refine W_reg rfl ?_
        refine run_op rfl rfl rfl (by simp; exact .mk) ?_
        refine run_op rfl rfl rfl (by simp [eObj]; exact .mk) ?_
        refine run_op rfl rfl rfl (by simp; exact .mk) ?_
        refine run_op rfl rfl rfl (by simp [eqA, eqFs, isStructTy, eqlNeq, strOp, isBoolTy, isPtrTy, isFnTy]; exact .mk) ?_
        refine run_op rfl rfl rfl (by simp; exact .mk) ?_
        refine run_end [1, 3, 9, 11, 34, 35, 36, 40] (by simp) (by simp; exact .mk) ?_
        rintro -
        refine W_cond rfl ?_ ?_
        · intro h40'
          refine W_skip ?_
          rintro -
          refine W_cond rfl ?_ ?_
          · intro h40''
            refine W_seq ?_
            have hb : gapBad to a (nth l i) = true := by simp [gapBad, eObj] at *; grind
            have hr : gapsS fr to l = false := by rw [hr0, ← hinv, hb]; rfl
            refine W_reg rfl ?_
            refine run_op rfl rfl rfl (by simp; exact .mk) ?_
            refine run_end [8] (by simp) (by simp; exact .mk) ?_
            rintro -
            refine W_ret ?_
            refine endAt_drop 0 (by simp [Try.f98]; exact .mk) ?_ ?_ (by simp) (by simp) (by simp)
            · simp [hr]
            · rfl
          · intro hq
            cases h40'.symm.trans hq
        · intro h40'
          refine W_seq ?_
          refine W_reg rfl ?_
          refine run_op rfl rfl rfl (by simp; exact .mk) ?_
          refine run_op rfl rfl rfl (by simp [eObj]; exact .mk) ?_
          refine run_op rfl rfl rfl (by simp [eqA, eqFs, isStructTy, eqlNeq, strOp, isBoolTy, isPtrTy, isFnTy]; exact .mk) ?_
          refine run_op rfl rfl rfl (by simp; exact .mk) ?_
          refine run_end [1, 3, 9, 11, 34, 35, 36, 40] (by simp) (by simp; exact .mk) ?_
          rintro -
          refine W_cond rfl ?_ ?_
          · intro h40''
            refine W_skip ?_
            rintro -
            refine W_cond rfl ?_ ?_
            · intro h40'''
              refine W_seq ?_
              have hb : gapBad to a (nth l i) = true := by simp [gapBad, eObj] at *; grind
              have hr : gapsS fr to l = false := by rw [hr0, ← hinv, hb]; rfl
              refine W_reg rfl ?_
              refine run_op rfl rfl rfl (by simp; exact .mk) ?_
              refine run_end [8] (by simp) (by simp; exact .mk) ?_
              rintro -
              refine W_ret ?_
              refine endAt_drop 0 (by simp [Try.f98]; exact .mk) ?_ ?_ (by simp) (by simp) (by simp)
              · simp [hr]
              · rfl
            · intro hq
              cases h40''.symm.trans hq
          · intro h40''
            refine W_seq ?_
            have w1 : IntKind.i64.wrap (to - (nth l i).1) = to - (nth l i).1 := wrap64 (by simp [eObj] at *; omega) (by simp [eObj] at *; omega)
            refine W_reg rfl ?_
            refine run_op rfl rfl rfl (by simp; exact .mk) ?_
            refine run_op rfl rfl rfl (by simp [eObj]; exact .mk) ?_
            iterate 2 (refine run_op rfl rfl rfl (by simp; exact .mk) ?_)
            refine run_op rfl rfl rfl (by simp [eObj]; exact .mk) ?_
            refine run_op rfl rfl rfl (by simp [eqA, eqFs, isStructTy, eqlNeq, strOp, isBoolTy, isPtrTy, isFnTy, w1]; exact .mk) ?_
            refine run_op rfl rfl rfl (by simp [eqA, eqFs, isStructTy, eqlNeq, strOp, isBoolTy, isPtrTy, isFnTy]; exact .mk) ?_
            refine run_op rfl rfl rfl (by simp; exact .mk) ?_
            refine run_end [1, 3, 9, 11, 34, 35, 36, 40] (by simp) (by simp; exact .mk) ?_
            rintro -
            refine W_cond rfl ?_ ?_
            · intro h40'''
              refine W_skip ?_
              rintro -
              refine W_cond rfl ?_ ?_
              · intro h40''''
                refine W_seq ?_
                have hb : gapBad to a (nth l i) = true := by simp [gapBad, eObj] at *; grind
                have hr : gapsS fr to l = false := by rw [hr0, ← hinv, hb]; rfl
                refine W_reg rfl ?_
                refine run_op rfl rfl rfl (by simp; exact .mk) ?_
                refine run_end [8] (by simp) (by simp; exact .mk) ?_
                rintro -
                refine W_ret ?_
                refine endAt_drop 0 (by simp [Try.f98]; exact .mk) ?_ ?_ (by simp) (by simp) (by simp)
                · simp [hr]
                · rfl
              · intro hq
                cases h40'''.symm.trans hq
            · intro h40'''
              refine W_seq ?_
              refine W_reg rfl ?_
              refine run_op rfl rfl rfl (by simp; exact .mk) ?_
              refine run_op rfl rfl rfl (by simp [eObj]; exact .mk) ?_
              refine run_call0 rfl rfl rfl rfl (by simp [calleeA]; exact .mk) (by simp [kindsOf, kinds, expAs, expA]; exact .mk) (ct118 g _) (by simp [D.noRo]) (by simp [impA, impAs]; exact .mk) ?_
              refine run_op rfl rfl rfl (by simp [unA]; exact .mk) ?_
              refine run_op rfl rfl rfl (by simp; exact .mk) ?_
              refine run_end [1, 3, 9, 11, 34, 35, 36, 40] (by simp) (by simp; exact .mk) ?_
              rintro -
              refine W_cond rfl ?_ ?_
              · intro h40''''
                refine W_skip ?_
                rintro -
                refine W_cond rfl ?_ ?_
                · intro h40'''''
                  refine W_seq ?_
                  have hb : gapBad to a (nth l i) = true := by simp [gapBad, eObj] at *; grind
                  have hr : gapsS fr to l = false := by rw [hr0, ← hinv, hb]; rfl
                  refine W_reg rfl ?_
                  refine run_op rfl rfl rfl (by simp; exact .mk) ?_
                  refine run_end [8] (by simp) (by simp; exact .mk) ?_
                  rintro -
                  refine W_ret ?_
                  refine endAt_drop 0 (by simp [Try.f98]; exact .mk) ?_ ?_ (by simp) (by simp) (by simp)
                  · simp [hr]
                  · rfl
                · intro hq
                  cases h40''''.symm.trans hq
              · intro h40''''
                refine W_reg rfl ?_
                refine run_op rfl rfl rfl (by simp; exact .mk) ?_
                refine run_op rfl rfl rfl (by simp [eObj]; exact .mk) ?_
                refine run_call0 rfl rfl rfl rfl (by simp [calleeA]; exact .mk) (by simp [kindsOf, kinds, expAs, expA]; exact .mk) (ct118 g _) (by simp [D.noRo]) (by simp [impA, impAs]; exact .mk) ?_
                refine run_op rfl rfl rfl (by simp [unA]; exact .mk) ?_
                refine run_op rfl rfl rfl (by simp; exact .mk) ?_
                refine run_end [1, 3, 9, 11, 34, 35, 36, 40] (by simp) (by simp; exact .mk) ?_
                rintro -
                refine W_cond rfl ?_ ?_
                · intro h40'''''
                  refine W_seq ?_
                  have hb : gapBad to a (nth l i) = true := by simp [gapBad, eObj] at *; grind
                  have hr : gapsS fr to l = false := by rw [hr0, ← hinv, hb]; rfl
                  refine W_reg rfl ?_
                  refine run_op rfl rfl rfl (by simp; exact .mk) ?_
                  refine run_end [8] (by simp) (by simp; exact .mk) ?_
                  rintro -
                  refine W_ret ?_
                  refine endAt_drop 0 (by simp [Try.f98]; exact .mk) ?_ ?_ (by simp) (by simp) (by simp)
                  · simp [hr]
                  · rfl
                · intro h40'''''
                  refine W_skip ?_
                  rintro -
                  refine W_seq ?_
                  have hb : gapBad to a (nth l i) = false := by simp [gapBad, eObj] at *; grind
                  have hb2 : a ≤ (nth l i).1 ∧ (nth l i).1 ≤ to ∧ 4 ≤ (nth l i).2 ∧ (nth l i).2 ≤ to - (nth l i).1 := by simp [gapBad] at hb; omega
                  have w2 : IntKind.i64.wrap ((nth l i).1 + (nth l i).2) = (nth l i).1 + (nth l i).2 := wrap64 (by omega) (by omega)
                  rw [hb] at hinv
                  refine W_reg rfl ?_
                  iterate 3 (refine run_op rfl rfl rfl (by simp; exact .mk) ?_)
                  refine run_op rfl rfl rfl (by simp [eObj]; exact .mk) ?_
                  refine run_call0 rfl rfl rfl rfl (by simp [calleeA]; exact .mk) (by simp [kindsOf, kinds, expAs, expA]; exact .mk) (ct99 g _ _) (by simp [D.noRo]) (by simp [impA, impAs]; exact .mk) ?_
                  refine run_end [1, 3, 11, 34, 35, 36] (by simp) (by simp; exact .mk) ?_
                  rintro -
                  refine W_reg rfl ?_
                  refine run_op rfl rfl rfl (by simp; exact .mk) ?_
                  refine run_op rfl rfl rfl (by simp [eObj]; exact .mk) ?_
                  refine run_op rfl rfl rfl (by simp; exact .mk) ?_
                  refine run_op rfl rfl rfl (by simp [eObj]; exact .mk) ?_
                  refine run_op rfl rfl rfl (by simp [eqA, eqFs, isStructTy, eqlNeq, strOp, isBoolTy, isPtrTy, isFnTy, w2]; exact .mk) ?_
                  refine run_op rfl rfl rfl (by simp; exact .mk) ?_
                  refine run_end [1, 3, 9, 34, 35, 36] (by simp) (by simp; exact .mk) ?_
                  rintro -
                  refine W_reg rfl ?_
                  refine run_op rfl rfl rfl (by simp [eqA, eqFs, isStructTy, eqlNeq, strOp, isBoolTy, isPtrTy, isFnTy]; exact .mk) ?_
                  refine run_op rfl rfl rfl (by simp; exact .mk) ?_
                  refine run_end [1, 3, 9, 34, 35, 36] (by simp) (by simp; exact .mk) ?_
                  refine rounds_drop 0 [1, 3, 9, 34, 35, 36] (by simp) (by simp) (by simp) ?_
                  refine rounds_next (m' := l.length - (i+1)) (by omega) ⟨i+1, (nth l i).1 + (nth l i).2, rfl, by omega, by omega, by omega, by simpa using hinv, ?_, rfl⟩
                  rw [wrap64 (by omega) (by omega)]; rfl
    · intro h37
      obtain rfl : i = l.length := by simp at h37; omega
      have hr : gapsS fr to l = true := by rw [hr0, ← hinv]; simp [gapsOk]
      refine W_exit ?_
      rintro -
      refine W_seq ?_
      refine W_reg rfl ?_
      iterate 3 (refine run_op rfl rfl rfl (by simp; exact .mk) ?_)
      refine run_call0 rfl rfl rfl rfl (by simp [calleeA]; exact .mk) (by simp [kindsOf, kinds, expAs, expA]; exact .mk) (ct99 g _ _) (by simp [D.noRo]) (by simp [impA, impAs]; exact .mk) ?_
      refine run_end [] (by simp) (by simp; exact .mk) ?_
      rintro -
      refine W_seq ?_
      refine W_reg rfl ?_
      refine run_op rfl rfl rfl (by simp; exact .mk) ?_
      refine run_end [8] (by simp) (by simp; exact .mk) ?_
      rintro -
      refine W_ret ?_
      refine endAt_drop 0 (by simp [Try.f98]; exact .mk) ?_ ?_ (by simp) (by simp) (by simp)
      · simp [hr]
      · rfl

theorem ct62 (g : Gl) (fr to : Int) (l : List (Int × Int)) (hl : l.length ≤ 2^40) : CtAt Try.prog g 62 [vI fr, vI to, rO l] (.v (.bool (gapsS fr to l))) := by
  refine ctAt_of_W Try.func62 rfl rfl (Nat.le_of_ble_eq_true rfl) fun B S => ?_
  refine W_seq ?_
  refine W_reg rfl ?_
  refine run_op rfl rfl rfl (by simp; exact .mk) ?_
  refine run_end [0, 1, 2] (by simp) (by simp; exact .mk) ?_
  rintro -
  refine W_seq ?_
  refine W_reg rfl ?_
  iterate 3 (refine run_op rfl rfl rfl (by simp; exact .mk) ?_)
  refine run_inl0 rfl rfl rfl rfl (by simp [calleeA]; exact .mk) ⟨_, Try.func98, rfl, rfl⟩ (in98 g fr to l hl) (.inr ⟨[], rfl⟩) ?_
  refine run_op rfl rfl rfl (by simp; exact .mk) ?_
  refine run_end [6] (by simp) (by simp; exact .mk) ?_
  rintro -
  refine W_ret ?_
  refine end_ret (by simp [Try.f62]; exact .mk) (by simp [cl, cls]; exact .mk) ?_ (by simp [D.noSn])
  simp [nrmR, nrmRs, nrmK, kindsOf, kinds, Try.f62]

end Go.Proofs
