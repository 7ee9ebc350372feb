/- Contract of the law ModelKeeps: it answers true, for every heap and every op. -/
import Derived.Test.YtaeglabjhpfepaaBase
import Derived.Test.YtaeglabjhpfepaaDo
set_option linter.all false
set_option linter.unusedSimpArgs false
set_option linter.unusedVariables false
set_option maxHeartbeats 4000000
namespace Go.Proofs
open Go.Awp
theorem ct3 (g : Gl) (a : Abs) (o : Op) : CtAt Try.prog g 3 [eAbs a, eOp o] (.v (.bool true)) := by
  refine ctAt_of_W Try.func3 rfl rfl (Nat.le_of_ble_eq_true rfl) fun B S => ?_
  simp only [eAbs, eOp, List.map, argD_agg]
  refine W_seq ?_
  refine W_reg rfl ?_
  refine run_op rfl rfl rfl (by simp [boxA, AV.cells, AV.isCell, boxA, AV.cells, AV.isCell]; exact .mk) ?_
  refine run_op rfl rfl rfl (by simp [boxA, AV.cells, AV.isCell, boxA, AV.cells, AV.isCell]; exact .mk) ?_
  refine run_op rfl rfl rfl (by simp [boxA, AV.cells, AV.isCell]; exact .mk) ?_
  refine run_end [2, 3] (by simp) (by simp; exact .mk) ?_
  rintro -
  refine W_seq ?_
  refine W_reg rfl ?_
  refine run_call0 rfl rfl rfl rfl (by simp [boxA, AV.cells, AV.isCell, calleeA]; exact .mk) (by simp [boxA, AV.cells, AV.isCell, kindsOf, kinds, expAs, expA, row_rows, Function.comp_def]; exact .mk) (ct12 g) (by simp [boxA, AV.cells, AV.isCell, D.noRo]) (by simp [boxA, AV.cells, AV.isCell, impA, impAs, oAbs]; exact .mk) ?_
  refine run_op rfl rfl rfl (by simp [boxA, AV.cells, AV.isCell]; exact .mk) ?_
  refine run_end [2, 3, 5] (by simp) (by simp; exact .mk) ?_
  rintro -
  refine W_seq ?_
  refine W_reg rfl ?_
  refine run_op rfl rfl rfl (by simp [boxA, AV.cells, AV.isCell]; exact .mk) ?_
  refine run_call0 rfl rfl rfl rfl (by simp [boxA, AV.cells, AV.isCell, calleeA]; exact .mk) (by simp [boxA, AV.cells, AV.isCell, kindsOf, kinds, expAs, expA, row_rows, Function.comp_def]; exact .mk) (ct13 g a) (by simp [boxA, AV.cells, AV.isCell, D.noRo]) (by simp [boxA, AV.cells, AV.isCell, impA, impAs, oAbs]; exact .mk) ?_
  refine run_op rfl rfl rfl (by simp [boxA, AV.cells, AV.isCell]; exact .mk) ?_
  refine run_end [2, 3, 5, 6] (by simp) (by simp; exact .mk) ?_
  rintro -
  refine W_seq ?_
  refine W_reg rfl ?_
  refine run_op rfl rfl rfl (by simp [boxA, AV.cells, AV.isCell]; exact .mk) ?_
  refine run_call0 rfl rfl rfl rfl (by simp [boxA, AV.cells, AV.isCell, calleeA]; exact .mk) (by simp [boxA, AV.cells, AV.isCell, kindsOf, kinds, expAs, expA, row_rows, Function.comp_def]; exact .mk) (ct14 g o) (by simp [boxA, AV.cells, AV.isCell, D.noRo]) (by simp [boxA, AV.cells, AV.isCell, impA, impAs, oAbs]; exact .mk) ?_
  refine run_op rfl rfl rfl (by simp [boxA, AV.cells, AV.isCell]; exact .mk) ?_
  refine run_end [2, 3, 5, 6, 7] (by simp) (by simp; exact .mk) ?_
  rintro -
  refine W_seq ?_
  refine W_seq ?_
  refine W_reg rfl ?_
  refine run_op rfl rfl rfl (by simp [boxA, AV.cells, AV.isCell]; exact .mk) ?_
  refine run_op rfl rfl rfl (by simp [boxA, AV.cells, AV.isCell, unA]; exact .mk) ?_
  refine run_op rfl rfl rfl (by simp [boxA, AV.cells, AV.isCell]; exact .mk) ?_
  refine run_if rfl (by simp [boxA, AV.cells, AV.isCell]; exact .mk) rfl (by simp <;> omega) (fun hb => by simp [boxA, AV.cells, AV.isCell]; exact .mk) ?_
  refine run_if rfl (by simp [boxA, AV.cells, AV.isCell]; exact .mk) rfl (by simp <;> omega) (fun hb => by simp [boxA, AV.cells, AV.isCell, unA]; exact .mk) ?_
  refine run_pick rfl (by simp [boxA, AV.cells, AV.isCell]; exact .mk) rfl rfl (by simp) (by simp [boxA, AV.cells, AV.isCell]; exact .mk) (by simp [boxA, AV.cells, AV.isCell]; exact .mk) (by simp; exact .mk) ?_
  refine run_op1 rfl rfl rfl (by simp <;> omega) (by simp [boxA, AV.cells, AV.isCell]; exact .mk) ?_
  refine run_if rfl (by simp [boxA, AV.cells, AV.isCell]; exact .mk) rfl (by simp <;> omega) (fun hb => by simp [boxA, AV.cells, AV.isCell]; exact .mk) ?_
  refine run_call rfl (by simp [boxA, AV.cells, AV.isCell]; exact .mk) rfl rfl (by simp) (by simp [boxA, AV.cells, AV.isCell, calleeA]; exact .mk) (by simp [boxA, AV.cells, AV.isCell, kindsOf, kinds, expAs, expA, row_rows, Function.comp_def]; exact .mk) (fun hb => ct15 g a (few_ok (by simp at hb; simp_all))) (by simp [boxA, AV.cells, AV.isCell, D.noRo]) (by simp [boxA, AV.cells, AV.isCell, impA, impAs, oAbs]; exact .mk) (by simp) ?_
  refine run_if rfl (by simp [boxA, AV.cells, AV.isCell]; exact .mk) rfl (by simp <;> omega) (fun hb => by simp [boxA, AV.cells, AV.isCell, unA]; exact .mk) ?_
  refine run_pick rfl (by simp [boxA, AV.cells, AV.isCell]; exact .mk) rfl rfl (by simp) (by simp [boxA, AV.cells, AV.isCell]; exact .mk) (by simp [boxA, AV.cells, AV.isCell]; exact .mk) (by simp; exact .mk) ?_
  refine run_end [2, 3, 5, 28] (by simp <;> first | omega | grind) (by simp; exact .mk) ?_
  rintro -
  refine W_cond rfl ?_ ?_
  · intro h28
    refine W_seq ?_
    refine W_reg rfl ?_
    refine run_op rfl rfl rfl (by simp [boxA, AV.cells, AV.isCell]; exact .mk) ?_
    refine run_op rfl rfl rfl (by simp [boxA, AV.cells, AV.isCell]; exact .mk) ?_
    refine run_end [4] (by simp) (by simp; exact .mk) ?_
    rintro -
    refine W_ret ?_
    refine end_ret (by simp [boxA, AV.cells, AV.isCell, Try.f3]; exact .mk) (by simp [boxA, AV.cells, AV.isCell, cl, cls]; exact .mk) ?_ (by simp [boxA, AV.cells, AV.isCell, D.noSn])
    first | (simp [nrmR, nrmRs, nrmK, kindsOf, kinds, Try.f3]; done) | (simp [nrmR, nrmRs, nrmK, kindsOf, kinds, Try.f3, he]; done) | (simp [nrmR, nrmRs, nrmK, kindsOf, kinds, Try.f3]; by_cases h6 : o.act = 6 <;> by_cases h8 : o.act = 8 <;> simp [h6, h8]; rw [hK.roots h6 h8]; exact sameAbs_refl _)
  · intro h28
    have hF : fewS a = true ∧ fewOp o = true ∧ rightS a = true := by simp at h28; simp_all
    obtain ⟨hF, hFo, hR⟩ := hF
    have hfo : o.b.length ≤ 4096 ∧ o.name.size ≤ 1024 := by simp [fewOp] at hFo; omega
    refine W_skip ?_
    rintro -
    refine W_seq ?_
    refine W_reg rfl ?_
    refine run_op rfl rfl rfl (by simp [boxA, AV.cells, AV.isCell]; exact .mk) ?_
    refine run_op rfl rfl rfl (by simp [boxA, AV.cells, AV.isCell]; exact .mk) ?_
    refine run_call0 rfl rfl rfl rfl (by simp [boxA, AV.cells, AV.isCell, calleeA]; exact .mk) (by simp [boxA, AV.cells, AV.isCell, kindsOf, kinds, expAs, expA, row_rows, Function.comp_def]; exact .mk) (ct16 g a o (few_ok hF) (by omega) (by omega)) (by simp [boxA, AV.cells, AV.isCell, D.noRo]) (by simp [boxA, AV.cells, AV.isCell, impA, impAs, oAbs]; exact .mk) ?_
    refine run_op rfl rfl rfl (by simp [boxA, AV.cells, AV.isCell]; exact .mk) ?_
    refine run_op rfl rfl rfl (by simp [boxA, AV.cells, AV.isCell]; exact .mk) ?_
    refine run_op rfl rfl rfl (by simp [boxA, AV.cells, AV.isCell]; exact .mk) ?_
    refine run_op rfl rfl rfl (by simp [boxA, AV.cells, AV.isCell]; exact .mk) ?_
    refine run_op rfl rfl rfl (by simp [boxA, AV.cells, AV.isCell, allocA, Value.oneCell']; exact .mk) ?_
    refine run_op rfl rfl rfl (by simp [boxA, AV.cells, AV.isCell, allocA, Value.oneCell']; exact .mk) ?_
    refine run_op rfl rfl rfl (by simp [boxA, AV.cells, AV.isCell, storeA, AV.cells, AV.isCell, splice]; exact .mk) ?_
    refine run_op rfl rfl rfl (by simp [boxA, AV.cells, AV.isCell, storeA, AV.cells, AV.isCell, splice]; exact .mk) ?_
    refine run_op rfl rfl rfl (by simp [boxA, AV.cells, AV.isCell]; exact .mk) ?_
    refine run_end [2, 3, 5, 8, 9, 10] (by simp) (by simp; exact .mk) ?_
    rintro -
    refine W_seq ?_
    refine W_seq ?_
    refine W_reg rfl ?_
    refine run_op rfl rfl rfl (by simp [boxA, AV.cells, AV.isCell]; exact .mk) ?_
    refine run_op rfl rfl rfl (by simp [boxA, AV.cells, AV.isCell, eqA, eqFs, isStructTy, eqlNeq, strOp, isBoolTy, isPtrTy, isFnTy]; exact .mk) ?_
    refine run_end [2, 3, 5, 8, 9, 38] (by simp) (by simp; exact .mk) ?_
    rintro -
    refine W_cond rfl ?_ ?_
    · intro h38
      have he := doS_err (a := a) (o := o) (by simpa using h38)
      refine W_seq ?_
      refine W_reg rfl ?_
      refine run_op rfl rfl rfl (by simp [boxA, AV.cells, AV.isCell]; exact .mk) ?_
      refine run_op rfl rfl rfl (by simp [boxA, AV.cells, AV.isCell]; exact .mk) ?_
      refine run_if rfl (by simp [boxA, AV.cells, AV.isCell]; exact .mk) rfl (by simp <;> omega) (fun hb => by simp [boxA, AV.cells, AV.isCell]; exact .mk) ?_
      refine run_if rfl (by simp [boxA, AV.cells, AV.isCell]; exact .mk) rfl (by simp <;> omega) (fun hb => by simp [boxA, AV.cells, AV.isCell]; exact .mk) ?_
      refine run_if rfl (by simp [boxA, AV.cells, AV.isCell]; exact .mk) rfl (by simp <;> omega) (fun hb => by simp [boxA, AV.cells, AV.isCell]; exact .mk) ?_
      refine run_if rfl (by simp [boxA, AV.cells, AV.isCell]; exact .mk) rfl (by simp <;> omega) (fun hb => by simp [boxA, AV.cells, AV.isCell, eqA, eqFs, isStructTy, eqlNeq, strOp, isBoolTy, isPtrTy, isFnTy, he, zAbs]; exact .mk) ?_
      refine run_pick rfl (by simp [boxA, AV.cells, AV.isCell]; exact .mk) rfl rfl (by simp) (by simp [boxA, AV.cells, AV.isCell]; exact .mk) (by simp [boxA, AV.cells, AV.isCell]; exact .mk) (by simp; exact .mk) ?_
      refine run_op1 rfl rfl rfl (by simp <;> omega) (by simp [boxA, AV.cells, AV.isCell]; exact .mk) ?_
      refine run_if rfl (by simp [boxA, AV.cells, AV.isCell]; exact .mk) rfl (by simp <;> omega) (fun hb => by simp [boxA, AV.cells, AV.isCell]; exact .mk) ?_
      refine run_if rfl (by simp [boxA, AV.cells, AV.isCell]; exact .mk) rfl (by simp <;> omega) (fun hb => by simp [boxA, AV.cells, AV.isCell]; exact .mk) ?_
      refine run_if rfl (by simp [boxA, AV.cells, AV.isCell]; exact .mk) rfl (by simp <;> omega) (fun hb => by simp [boxA, AV.cells, AV.isCell]; exact .mk) ?_
      refine run_if rfl (by simp [boxA, AV.cells, AV.isCell]; exact .mk) rfl (by simp <;> omega) (fun hb => by simp [boxA, AV.cells, AV.isCell, eqA, eqFs, isStructTy, eqlNeq, strOp, isBoolTy, isPtrTy, isFnTy, he]; exact .mk) ?_
      refine run_pick rfl (by simp [boxA, AV.cells, AV.isCell]; exact .mk) rfl rfl (by simp) (by simp [boxA, AV.cells, AV.isCell]; exact .mk) (by simp [boxA, AV.cells, AV.isCell]; exact .mk) (by simp; exact .mk) ?_
      refine run_op1 rfl rfl rfl (by simp <;> omega) (by simp [boxA, AV.cells, AV.isCell]; exact .mk) ?_
      refine run_end [4] (by simp <;> first | omega | grind) (by simp; exact .mk) ?_
      rintro -
      refine W_ret ?_
      refine end_ret (by simp [boxA, AV.cells, AV.isCell, Try.f3]; exact .mk) (by simp [boxA, AV.cells, AV.isCell, cl, cls]; exact .mk) ?_ (by simp [boxA, AV.cells, AV.isCell, D.noSn])
      first | (simp [nrmR, nrmRs, nrmK, kindsOf, kinds, Try.f3]; done) | (simp [nrmR, nrmRs, nrmK, kindsOf, kinds, Try.f3, he]; done) | (simp [nrmR, nrmRs, nrmK, kindsOf, kinds, Try.f3]; by_cases h6 : o.act = 6 <;> by_cases h8 : o.act = 8 <;> simp [h6, h8]; rw [hK.roots h6 h8]; exact sameAbs_refl _)
    · intro h38
      have hK := keeps_ok (a := a) (o := o) hR (by simpa using h38)
      have hKl := (rightS_iff.1 hK.right).1.1
      have hal := (rightS_iff.1 hR).1.1
      have hgl := hK.gl
      have haG := (few_len hF).2.1
      refine W_skip ?_
      rintro -
      refine W_seq ?_
      refine W_seq ?_
      refine W_reg rfl ?_
      refine run_op rfl rfl rfl (by simp [boxA, AV.cells, AV.isCell]; exact .mk) ?_
      refine run_call0 rfl rfl rfl rfl (by simp [boxA, AV.cells, AV.isCell, calleeA]; exact .mk) (by simp [boxA, AV.cells, AV.isCell, kindsOf, kinds, expAs, expA, row_rows, Function.comp_def]; exact .mk) (ct15 g _ (right_ok hK.right)) (by simp [boxA, AV.cells, AV.isCell, D.noRo]) (by simp [boxA, AV.cells, AV.isCell, impA, impAs, oAbs]; exact .mk) ?_
      refine run_op rfl rfl rfl (by simp [boxA, AV.cells, AV.isCell, unA]; exact .mk) ?_
      refine run_op rfl rfl rfl (by simp [boxA, AV.cells, AV.isCell]; exact .mk) ?_
      refine run_if rfl (by simp [boxA, AV.cells, AV.isCell]; exact .mk) rfl (by simp <;> omega) (fun hb => by simp [boxA, AV.cells, AV.isCell]; exact .mk) ?_
      refine run_if rfl (by simp [boxA, AV.cells, AV.isCell]; exact .mk) rfl (by simp <;> omega) (fun hb => by simp [boxA, AV.cells, AV.isCell]; exact .mk) ?_
      refine run_if rfl (by simp [boxA, AV.cells, AV.isCell]; exact .mk) rfl (by simp <;> omega) (fun hb => by simp [boxA, AV.cells, AV.isCell]; exact .mk) ?_
      refine run_if rfl (by simp [boxA, AV.cells, AV.isCell]; exact .mk) rfl (by simp <;> omega) (fun hb => by simp [boxA, AV.cells, AV.isCell]; exact .mk) ?_
      refine run_if rfl (by simp [boxA, AV.cells, AV.isCell]; exact .mk) rfl (by simp <;> omega) (fun hb => by simp [boxA, AV.cells, AV.isCell]; exact .mk) ?_
      refine run_if rfl (by simp [boxA, AV.cells, AV.isCell]; exact .mk) rfl (by simp <;> omega) (fun hb => by simp [boxA, AV.cells, AV.isCell]; exact .mk) ?_
      refine run_if rfl (by simp [boxA, AV.cells, AV.isCell]; exact .mk) rfl (by simp <;> omega) (fun hb => by simp [boxA, AV.cells, AV.isCell, eqA, eqFs, isStructTy, eqlNeq, strOp, isBoolTy, isPtrTy, isFnTy]; exact .mk) ?_
      refine run_pick rfl (by simp [boxA, AV.cells, AV.isCell]; exact .mk) rfl rfl (by simp) (by simp [boxA, AV.cells, AV.isCell]; exact .mk) (by simp [boxA, AV.cells, AV.isCell]; exact .mk) (by simp; exact .mk) ?_
      refine run_op1 rfl rfl rfl (by simp <;> omega) (by simp [boxA, AV.cells, AV.isCell]; exact .mk) ?_
      refine run_if rfl (by simp [boxA, AV.cells, AV.isCell]; exact .mk) rfl (by simp <;> omega) (fun hb => by simp [boxA, AV.cells, AV.isCell]; exact .mk) ?_
      refine run_if rfl (by simp [boxA, AV.cells, AV.isCell]; exact .mk) rfl (by simp <;> omega) (fun hb => by simp [boxA, AV.cells, AV.isCell]; exact .mk) ?_
      refine run_if rfl (by simp [boxA, AV.cells, AV.isCell]; exact .mk) rfl (by simp <;> omega) (fun hb => by simp [boxA, AV.cells, AV.isCell]; exact .mk) ?_
      refine run_if rfl (by simp [boxA, AV.cells, AV.isCell]; exact .mk) rfl (by simp <;> omega) (fun hb => by simp [boxA, AV.cells, AV.isCell]; exact .mk) ?_
      refine run_if rfl (by simp [boxA, AV.cells, AV.isCell]; exact .mk) rfl (by simp <;> omega) (fun hb => by simp [boxA, AV.cells, AV.isCell]; exact .mk) ?_
      refine run_if rfl (by simp [boxA, AV.cells, AV.isCell]; exact .mk) rfl (by simp <;> omega) (fun hb => by simp [boxA, AV.cells, AV.isCell]; exact .mk) ?_
      refine run_if rfl (by simp [boxA, AV.cells, AV.isCell]; exact .mk) rfl (by simp <;> omega) (fun hb => by simp [boxA, AV.cells, AV.isCell, eqA, eqFs, isStructTy, eqlNeq, strOp, isBoolTy, isPtrTy, isFnTy]; exact .mk) ?_
      refine run_pick rfl (by simp [boxA, AV.cells, AV.isCell]; exact .mk) rfl rfl (by simp) (by simp [boxA, AV.cells, AV.isCell]; exact .mk) (by simp [boxA, AV.cells, AV.isCell]; exact .mk) (by simp; exact .mk) ?_
      refine run_end [2, 3, 5, 8, 9, 72] (by simp <;> first | omega | grind) (by simp; exact .mk) ?_
      rintro -
      refine W_cond rfl ?_ ?_
      · intro h72
        exfalso; simp [hK.right, hK.gl, hK.rl] at h72
      · intro h72
        refine W_skip ?_
        rintro -
        refine W_seq ?_
        refine W_reg rfl ?_
        refine run_op rfl rfl rfl (by simp [boxA, AV.cells, AV.isCell]; exact .mk) ?_
        refine run_op rfl rfl rfl (by simp [boxA, AV.cells, AV.isCell]; exact .mk) ?_
        refine run_op rfl rfl rfl (by simp [boxA, AV.cells, AV.isCell]; exact .mk) ?_
        refine run_op rfl rfl rfl (by simp [boxA, AV.cells, AV.isCell]; exact .mk) ?_
        refine run_end [2, 3, 5, 8, 9, 11] (by simp) (by simp; exact .mk) ?_
        rintro -
        refine W_seq ?_
        refine W_seq ?_
        refine W_reg rfl ?_
        refine run_op rfl rfl rfl (by simp [boxA, AV.cells, AV.isCell]; exact .mk) ?_
        refine run_op rfl rfl rfl (by simp [boxA, AV.cells, AV.isCell]; exact .mk) ?_
        refine run_op rfl rfl rfl (by simp [boxA, AV.cells, AV.isCell, eqA, eqFs, isStructTy, eqlNeq, strOp, isBoolTy, isPtrTy, isFnTy]; exact .mk) ?_
        refine run_end [2, 3, 5, 8, 9, 11, 78] (by simp) (by simp; exact .mk) ?_
        rintro -
        refine W_cond rfl ?_ ?_
        · intro h78
          have hact : o.act = 1 := by simpa using h78
          refine W_reg rfl ?_
          refine run_op rfl rfl rfl (by simp [boxA, AV.cells, AV.isCell]; exact .mk) ?_
          refine run_op rfl rfl rfl (by simp [boxA, AV.cells, AV.isCell]; exact .mk) ?_
          refine run_op rfl rfl rfl (by simp [boxA, AV.cells, AV.isCell]; exact .mk) ?_
          refine run_op rfl rfl rfl (by simp [boxA, AV.cells, AV.isCell]; exact .mk) ?_
          refine run_end [2, 3, 5, 8, 11] (by simp) (by simp; exact .mk) ?_
          rintro -
          refine W_seq ?_
          refine W_seq ?_
          refine W_reg rfl ?_
          refine run_op rfl rfl rfl (by simp [boxA, AV.cells, AV.isCell]; exact .mk) ?_
          refine run_end [2, 3, 5, 8, 11, 12] (by simp) (by simp; exact .mk) ?_
          rintro -
          refine W_block ?_
          refine W_rounds (fun m σ r => ∃ i : Nat, m = a.gens.length - i ∧ i ≤ a.gens.length ∧ σ = slots [(2, .ptr 0 0 0), (3, .ptr 1 0 0), (5, .d (.v (.bool true))), (8, .ptr 6 0 0), (11, .d (vI (doS a o).ix)), (12, .d (vI i))] ∧ r = [.var 26 [.d (rI a.gens), .d (rBB a.data), .d (rR a.roots)], .var 31 [.d (vI o.act), .d (vI o.ix), .d (vI o.gen), .d (vI o.n), .d (vI o.off), .d (rB o.b), .d (vS o.name)], .row 1 ((doS a o).a.gens.map vI), .row 1 ((doS a o).a.data.map oB), .row 3 ((doS a o).a.roots.map eRoot), .row 1 ((doS a o).b.map vB), .var 26 [.hdr 2 0 (doS a o).a.gens.length, .hdr 3 0 (doS a o).a.data.length, .hdr 4 0 (doS a o).a.roots.length], .var 36 [.d (vI (doS a o).ix), .d (vI (doS a o).gen), .hdr 5 0 (doS a o).b.length]]) a.gens.length .refl ⟨0, by simp, by simp, rfl, rfl⟩ ?_
          rintro m σ r ⟨i, rfl, hi, rfl, rfl⟩ _
          refine W_seq ?_
          refine W_seq ?_
          refine W_reg rfl ?_
          refine run_op rfl rfl rfl (by simp [boxA, AV.cells, AV.isCell]; exact .mk) ?_
          refine run_op rfl rfl rfl (by simp [boxA, AV.cells, AV.isCell]; exact .mk) ?_
          refine run_op rfl rfl rfl (by simp [boxA, AV.cells, AV.isCell]; exact .mk) ?_
          refine run_op rfl rfl rfl (by simp [boxA, AV.cells, AV.isCell]; exact .mk) ?_
          refine run_op rfl rfl rfl (by simp [boxA, AV.cells, AV.isCell, eqA, eqFs, isStructTy, eqlNeq, strOp, isBoolTy, isPtrTy, isFnTy]; exact .mk) ?_
          refine run_end [2, 3, 5, 8, 11, 12, 86] (by simp) (by simp; exact .mk) ?_
          rintro -
          refine W_cond rfl ?_ ?_
          · intro h86
            have hi2 : i < a.gens.length := by simpa using h86
            have hi3 : i < (doS a o).a.gens.length := by omega
            have hi4 : i < a.data.length := by omega
            have hi5 : i < (doS a o).a.data.length := by omega
            refine W_skip ?_
            rintro -
            refine W_seq ?_
            refine W_block ?_
            refine W_seq ?_
            refine W_seq ?_
            refine W_regD (by kernel_rfl) [] 4 [0, 1, 2, 3, 4, 5, 6, 7, 8, 9, 10, 11, 12, 13, 14, 15, 16, 17, 18, 19, 20, 22, 23, 24, 25, 26, 21, 27, 28, 29, 30] (by decide +kernel) ?_
            refine run_op rfl rfl rfl (by simp [boxA, AV.cells, AV.isCell]; exact .mk) ?_
            refine run_op rfl rfl rfl (by simp [boxA, AV.cells, AV.isCell]; exact .mk) ?_
            refine run_op rfl rfl rfl (by simp [boxA, AV.cells, AV.isCell, eqA, eqFs, isStructTy, eqlNeq, strOp, isBoolTy, isPtrTy, isFnTy]; exact .mk) ?_
            refine run_op rfl rfl rfl (by simp [boxA, AV.cells, AV.isCell]; exact .mk) ?_
            refine run_if rfl (by simp [boxA, AV.cells, AV.isCell]; exact .mk) rfl (by simp <;> omega) (fun hb => by simp [boxA, AV.cells, AV.isCell]; exact .mk) ?_
            refine run_if rfl (by simp [boxA, AV.cells, AV.isCell]; exact .mk) rfl (by simp <;> omega) (fun hb => by simp [boxA, AV.cells, AV.isCell]; exact .mk) ?_
            refine run_if rfl (by simp [boxA, AV.cells, AV.isCell]; exact .mk) rfl (by simp <;> omega) (fun hb => by simp [boxA, AV.cells, AV.isCell]; exact .mk) ?_
            refine run_if rfl (by simp [boxA, AV.cells, AV.isCell]; exact .mk) rfl (by simp <;> omega) (fun hb => by simp [boxA, AV.cells, AV.isCell, hi3]; exact .mk) ?_
            refine run_if rfl (by simp [boxA, AV.cells, AV.isCell]; exact .mk) rfl (by simp <;> omega) (fun hb => by simp [boxA, AV.cells, AV.isCell, -List.getElem?_map, map_get hi3]; exact .mk) ?_
            refine run_if rfl (by simp [boxA, AV.cells, AV.isCell]; exact .mk) rfl (by simp <;> omega) (fun hb => by simp [boxA, AV.cells, AV.isCell]; exact .mk) ?_
            refine run_if rfl (by simp [boxA, AV.cells, AV.isCell]; exact .mk) rfl (by simp <;> omega) (fun hb => by simp [boxA, AV.cells, AV.isCell]; exact .mk) ?_
            refine run_if rfl (by simp [boxA, AV.cells, AV.isCell]; exact .mk) rfl (by simp <;> omega) (fun hb => by simp [boxA, AV.cells, AV.isCell]; exact .mk) ?_
            refine run_if rfl (by simp [boxA, AV.cells, AV.isCell]; exact .mk) rfl (by simp <;> omega) (fun hb => by simp [boxA, AV.cells, AV.isCell, hi2]; exact .mk) ?_
            refine run_if rfl (by simp [boxA, AV.cells, AV.isCell]; exact .mk) rfl (by simp <;> omega) (fun hb => by simp [boxA, AV.cells, AV.isCell]; exact .mk) ?_
            refine run_if rfl (by simp [boxA, AV.cells, AV.isCell]; exact .mk) rfl (by simp <;> omega) (fun hb => by simp [boxA, AV.cells, AV.isCell, eqA, eqFs, isStructTy, eqlNeq, strOp, isBoolTy, isPtrTy, isFnTy]; exact .mk) ?_
            refine run_if rfl (by simp [boxA, AV.cells, AV.isCell]; exact .mk) rfl (by simp <;> omega) (fun hb => by simp [boxA, AV.cells, AV.isCell]; exact .mk) ?_
            refine run_if rfl (by simp [boxA, AV.cells, AV.isCell]; exact .mk) rfl (by simp <;> omega) (fun hb => by simp [boxA, AV.cells, AV.isCell]; exact .mk) ?_
            refine run_if rfl (by simp [boxA, AV.cells, AV.isCell]; exact .mk) rfl (by simp <;> omega) (fun hb => by simp [boxA, AV.cells, AV.isCell]; exact .mk) ?_
            refine run_if rfl (by simp [boxA, AV.cells, AV.isCell]; exact .mk) rfl (by simp <;> omega) (fun hb => by simp [boxA, AV.cells, AV.isCell]; exact .mk) ?_
            refine run_if rfl (by simp [boxA, AV.cells, AV.isCell]; exact .mk) rfl (by simp <;> omega) (fun hb => by simp [boxA, AV.cells, AV.isCell, hi5]; exact .mk) ?_
            refine run_if rfl (by simp [boxA, AV.cells, AV.isCell]; exact .mk) rfl (by simp <;> omega) (fun hb => by simp [boxA, AV.cells, AV.isCell, -List.getElem?_map, map_get hi5]; exact .mk) ?_
            refine run_if rfl (by simp [boxA, AV.cells, AV.isCell]; exact .mk) rfl (by simp <;> omega) (fun hb => by simp [boxA, AV.cells, AV.isCell]; exact .mk) ?_
            refine run_if rfl (by simp [boxA, AV.cells, AV.isCell]; exact .mk) rfl (by simp <;> omega) (fun hb => by simp [boxA, AV.cells, AV.isCell]; exact .mk) ?_
            refine run_if rfl (by simp [boxA, AV.cells, AV.isCell]; exact .mk) rfl (by simp <;> omega) (fun hb => by simp [boxA, AV.cells, AV.isCell]; exact .mk) ?_
            refine run_if rfl (by simp [boxA, AV.cells, AV.isCell]; exact .mk) rfl (by simp <;> omega) (fun hb => by simp [boxA, AV.cells, AV.isCell, hi4]; exact .mk) ?_
            refine run_if rfl (by simp [boxA, AV.cells, AV.isCell]; exact .mk) rfl (by simp <;> omega) (fun hb => by simp [boxA, AV.cells, AV.isCell]; exact .mk) ?_
            refine run_if rfl (by simp [boxA, AV.cells, AV.isCell]; exact .mk) rfl (by simp <;> omega) (fun hb => by simp [conv_snB]; exact .mk) ?_
            refine run_if rfl (by simp [boxA, AV.cells, AV.isCell]; exact .mk) rfl (by simp <;> omega) (fun hb => by simp [conv_rB]; exact .mk) ?_
            refine run_if rfl (by simp [boxA, AV.cells, AV.isCell]; exact .mk) rfl (by simp <;> omega) (fun hb => by simp [boxA, AV.cells, AV.isCell, eqA, eqFs, isStructTy, eqlNeq, strOp, isBoolTy, isPtrTy, isFnTy]; exact .mk) ?_
            refine run_pick rfl (by simp [boxA, AV.cells, AV.isCell]; exact .mk) rfl rfl (by simp) (by simp [boxA, AV.cells, AV.isCell]; exact .mk) (by simp [boxA, AV.cells, AV.isCell]; exact .mk) (by simp; exact .mk) ?_
            refine run_pick rfl (by simp [boxA, AV.cells, AV.isCell]; exact .mk) rfl rfl (by simp) (by simp [boxA, AV.cells, AV.isCell]; exact .mk) (by simp [boxA, AV.cells, AV.isCell]; exact .mk) (by simp; exact .mk) ?_
            refine run_end [2, 3, 5, 8, 11, 12, 119] (by simp <;> first | omega | grind) (by simp; exact .mk) ?_
            rintro -
            refine W_cond rfl ?_ ?_
            · intro h119
              exfalso
              have := hK.other i hi2
              simp only [hact] at this
              simp at h119
              have h2 := this (by simpa using h119.1)
              rw [h2.1, h2.2] at h119
              simp at h119
            · intro h119
              refine W_skip ?_
              rintro -
              refine W_seq ?_
              refine W_regD (by kernel_rfl) [] 4 [0, 1, 2, 3, 4, 5, 6, 7, 8, 9, 10] (by decide +kernel) ?_
              refine run_op rfl rfl rfl (by simp [boxA, AV.cells, AV.isCell]; exact .mk) ?_
              refine run_op rfl rfl rfl (by simp [boxA, AV.cells, AV.isCell]; exact .mk) ?_
              refine run_op rfl rfl rfl (by simp [boxA, AV.cells, AV.isCell]; exact .mk) ?_
              refine run_op rfl rfl rfl (by simp [boxA, AV.cells, AV.isCell, hi3]; exact .mk) ?_
              refine run_op rfl rfl rfl (by simp [boxA, AV.cells, AV.isCell, -List.getElem?_map, map_get hi3]; exact .mk) ?_
              refine run_op rfl rfl rfl (by simp [boxA, AV.cells, AV.isCell]; exact .mk) ?_
              refine run_op rfl rfl rfl (by simp [boxA, AV.cells, AV.isCell]; exact .mk) ?_
              refine run_op rfl rfl rfl (by simp [boxA, AV.cells, AV.isCell]; exact .mk) ?_
              refine run_op rfl rfl rfl (by simp [boxA, AV.cells, AV.isCell, hi2]; exact .mk) ?_
              refine run_op rfl rfl rfl (by simp [boxA, AV.cells, AV.isCell]; exact .mk) ?_
              refine run_op rfl rfl rfl (by simp [boxA, AV.cells, AV.isCell, eqA, eqFs, isStructTy, eqlNeq, strOp, isBoolTy, isPtrTy, isFnTy]; exact .mk) ?_
              refine run_end [2, 3, 5, 8, 11, 12, 130] (by simp) (by simp; exact .mk) ?_
              rintro -
              refine W_cond rfl ?_ ?_
              · intro h130
                exfalso
                have := hK.up i hi2
                simp at h130; omega
              · intro h130
                refine W_skip ?_
                rintro -
                refine W_reg rfl ?_
                refine run_op rfl rfl rfl (by simp [boxA, AV.cells, AV.isCell]; exact .mk) ?_
                refine run_op rfl rfl rfl (by simp [boxA, AV.cells, AV.isCell, eqA, eqFs, isStructTy, eqlNeq, strOp, isBoolTy, isPtrTy, isFnTy]; exact .mk) ?_
                refine run_op rfl rfl rfl (by simp [boxA, AV.cells, AV.isCell]; exact .mk) ?_
                refine run_end [2, 3, 5, 8, 11, 12] (by simp) (by simp; exact .mk) ?_
                refine rounds_kill [2, 3, 5, 8, 11, 12] ?_
                refine rounds_next (m' := a.gens.length - (i+1)) (by omega) ⟨i+1, rfl, by omega, ?_, rfl⟩
                rw [wrap64 (by omega) (by omega)]; rfl
          · intro h86
            refine W_exit ?_
            rintro -
            refine W_seq ?_
            refine W_reg rfl ?_
            refine run_op rfl rfl rfl (by simp [boxA, AV.cells, AV.isCell]; exact .mk) ?_
            refine run_op rfl rfl rfl (by simp [boxA, AV.cells, AV.isCell]; exact .mk) ?_
            refine run_if rfl (by simp [boxA, AV.cells, AV.isCell]; exact .mk) rfl (by simp <;> omega) (fun hb => by simp [boxA, AV.cells, AV.isCell]; exact .mk) ?_
            refine run_if rfl (by simp [boxA, AV.cells, AV.isCell]; exact .mk) rfl (by simp <;> omega) (fun hb => by simp [boxA, AV.cells, AV.isCell]; exact .mk) ?_
            refine run_if rfl (by simp [boxA, AV.cells, AV.isCell]; exact .mk) rfl (by simp <;> omega) (fun hb => by simp [boxA, AV.cells, AV.isCell, eqA, eqFs, isStructTy, eqlNeq, strOp, isBoolTy, isPtrTy, isFnTy]; exact .mk) ?_
            refine run_if rfl (by simp [boxA, AV.cells, AV.isCell]; exact .mk) rfl (by simp <;> omega) (fun hb => by simp [boxA, AV.cells, AV.isCell]; exact .mk) ?_
            refine run_if rfl (by simp [boxA, AV.cells, AV.isCell]; exact .mk) rfl (by simp <;> omega) (fun hb => by simp [boxA, AV.cells, AV.isCell]; exact .mk) ?_
            refine run_if rfl (by simp [boxA, AV.cells, AV.isCell]; exact .mk) rfl (by simp <;> omega) (fun hb => by simp [boxA, AV.cells, AV.isCell]; exact .mk) ?_
            refine run_if rfl (by simp [boxA, AV.cells, AV.isCell]; exact .mk) rfl (by simp <;> omega) (fun hb => by simp [boxA, AV.cells, AV.isCell, eqA, eqFs, isStructTy, eqlNeq, strOp, isBoolTy, isPtrTy, isFnTy]; exact .mk) ?_
            refine run_pick rfl (by simp [boxA, AV.cells, AV.isCell]; exact .mk) rfl rfl (by simp) (by simp [boxA, AV.cells, AV.isCell]; exact .mk) (by simp [boxA, AV.cells, AV.isCell]; exact .mk) (by simp; exact .mk) ?_
            refine run_if rfl (by simp [boxA, AV.cells, AV.isCell]; exact .mk) rfl (by simp <;> omega) (fun hb => by simp [boxA, AV.cells, AV.isCell]; exact .mk) ?_
            refine run_if rfl (by simp [boxA, AV.cells, AV.isCell]; exact .mk) rfl (by simp <;> omega) (fun hb => by simp [boxA, AV.cells, AV.isCell]; exact .mk) ?_
            refine run_if rfl (by simp [boxA, AV.cells, AV.isCell]; exact .mk) rfl (by simp <;> omega) (fun hb => by simp [boxA, AV.cells, AV.isCell]; exact .mk) ?_
            refine run_if rfl (by simp [boxA, AV.cells, AV.isCell]; exact .mk) rfl (by simp <;> omega) (fun hb => by simp [boxA, AV.cells, AV.isCell, buildA, fillA, placesOf, splice, Value.oneCell', AV.cells, AV.isCell]; exact .mk) ?_
            refine run_if rfl (by simp [boxA, AV.cells, AV.isCell]; exact .mk) rfl (by simp <;> omega) (fun hb => by simp [boxA, AV.cells, AV.isCell]; exact .mk) ?_
            refine run_if rfl (by simp [boxA, AV.cells, AV.isCell]; exact .mk) rfl (by simp <;> omega) (fun hb => by simp [boxA, AV.cells, AV.isCell]; exact .mk) ?_
            refine run_if rfl (by simp [boxA, AV.cells, AV.isCell]; exact .mk) rfl (by simp <;> omega) (fun hb => by simp [boxA, AV.cells, AV.isCell, buildA, fillA, placesOf, splice, Value.oneCell', AV.cells, AV.isCell]; exact .mk) ?_
            refine run_call rfl (by simp [boxA, AV.cells, AV.isCell]; exact .mk) rfl rfl (by simp) (by simp [boxA, AV.cells, AV.isCell, calleeA]; exact .mk) (by simp [boxA, AV.cells, AV.isCell, kindsOf, kinds, expAs, expA, row_rows, Function.comp_def]; exact .mk) (fun hb => ct17 g ⟨[], [], (doS a o).a.roots⟩ ⟨[], [], a.roots⟩ ⟨by simp, by simp, (right_ok hK.right).h3, by simp, (right_ok hK.right).h5⟩) (by simp [boxA, AV.cells, AV.isCell, D.noRo]) (by simp [boxA, AV.cells, AV.isCell, impA, impAs, oAbs]; exact .mk) (by simp) ?_
            refine run_pick rfl (by simp [boxA, AV.cells, AV.isCell]; exact .mk) rfl rfl (by simp) (by simp [boxA, AV.cells, AV.isCell]; exact .mk) (by simp [boxA, AV.cells, AV.isCell]; exact .mk) (by simp; exact .mk) ?_
            refine run_pick rfl (by simp [boxA, AV.cells, AV.isCell]; exact .mk) rfl rfl (by simp) (by simp [boxA, AV.cells, AV.isCell]; exact .mk) (by simp [boxA, AV.cells, AV.isCell]; exact .mk) (by simp; exact .mk) ?_
            refine run_op1 rfl rfl rfl (by simp <;> omega) (by simp [boxA, AV.cells, AV.isCell]; exact .mk) ?_
            refine run_end [4] (by simp <;> first | omega | grind) (by simp; exact .mk) ?_
            rintro -
            refine W_ret ?_
            refine end_ret (by simp [boxA, AV.cells, AV.isCell, Try.f3]; exact .mk) (by simp [boxA, AV.cells, AV.isCell, cl, cls]; exact .mk) ?_ (by simp [boxA, AV.cells, AV.isCell, D.noSn])
            first | (simp [nrmR, nrmRs, nrmK, kindsOf, kinds, Try.f3]; done) | (simp [nrmR, nrmRs, nrmK, kindsOf, kinds, Try.f3, he]; done) | (simp [nrmR, nrmRs, nrmK, kindsOf, kinds, Try.f3]; by_cases h6 : o.act = 6 <;> by_cases h8 : o.act = 8 <;> simp [h6, h8]; rw [hK.roots h6 h8]; exact sameAbs_refl _)
        · intro h78
          have hact : o.act ≠ 1 := by simpa using h78
          refine W_skip ?_
          rintro -
          refine W_seq ?_
          refine W_seq ?_
          refine W_reg rfl ?_
          refine run_op rfl rfl rfl (by simp [boxA, AV.cells, AV.isCell]; exact .mk) ?_
          refine run_end [2, 3, 5, 8, 11, 12] (by simp) (by simp; exact .mk) ?_
          rintro -
          refine W_block ?_
          refine W_rounds (fun m σ r => ∃ i : Nat, m = a.gens.length - i ∧ i ≤ a.gens.length ∧ σ = slots [(2, .ptr 0 0 0), (3, .ptr 1 0 0), (5, .d (.v (.bool true))), (8, .ptr 6 0 0), (11, .d (vI o.ix)), (12, .d (vI i))] ∧ r = [.var 26 [.d (rI a.gens), .d (rBB a.data), .d (rR a.roots)], .var 31 [.d (vI o.act), .d (vI o.ix), .d (vI o.gen), .d (vI o.n), .d (vI o.off), .d (rB o.b), .d (vS o.name)], .row 1 ((doS a o).a.gens.map vI), .row 1 ((doS a o).a.data.map oB), .row 3 ((doS a o).a.roots.map eRoot), .row 1 ((doS a o).b.map vB), .var 26 [.hdr 2 0 (doS a o).a.gens.length, .hdr 3 0 (doS a o).a.data.length, .hdr 4 0 (doS a o).a.roots.length], .var 36 [.d (vI (doS a o).ix), .d (vI (doS a o).gen), .hdr 5 0 (doS a o).b.length]]) a.gens.length .refl ⟨0, by simp, by simp, rfl, rfl⟩ ?_
          rintro m σ r ⟨i, rfl, hi, rfl, rfl⟩ _
          refine W_seq ?_
          refine W_seq ?_
          refine W_reg rfl ?_
          refine run_op rfl rfl rfl (by simp [boxA, AV.cells, AV.isCell]; exact .mk) ?_
          refine run_op rfl rfl rfl (by simp [boxA, AV.cells, AV.isCell]; exact .mk) ?_
          refine run_op rfl rfl rfl (by simp [boxA, AV.cells, AV.isCell]; exact .mk) ?_
          refine run_op rfl rfl rfl (by simp [boxA, AV.cells, AV.isCell]; exact .mk) ?_
          refine run_op rfl rfl rfl (by simp [boxA, AV.cells, AV.isCell, eqA, eqFs, isStructTy, eqlNeq, strOp, isBoolTy, isPtrTy, isFnTy]; exact .mk) ?_
          refine run_end [2, 3, 5, 8, 11, 12, 86] (by simp) (by simp; exact .mk) ?_
          rintro -
          refine W_cond rfl ?_ ?_
          · intro h86
            have hi2 : i < a.gens.length := by simpa using h86
            have hi3 : i < (doS a o).a.gens.length := by omega
            have hi4 : i < a.data.length := by omega
            have hi5 : i < (doS a o).a.data.length := by omega
            refine W_skip ?_
            rintro -
            refine W_seq ?_
            refine W_block ?_
            refine W_seq ?_
            refine W_seq ?_
            refine W_regD (by kernel_rfl) [] 4 [0, 1, 2, 3, 4, 5, 6, 7, 8, 9, 10, 11, 12, 13, 14, 15, 16, 17, 18, 19, 20, 22, 23, 24, 25, 26, 21, 27, 28, 29, 30] (by decide +kernel) ?_
            refine run_op rfl rfl rfl (by simp [boxA, AV.cells, AV.isCell]; exact .mk) ?_
            refine run_op rfl rfl rfl (by simp [boxA, AV.cells, AV.isCell]; exact .mk) ?_
            refine run_op rfl rfl rfl (by simp [boxA, AV.cells, AV.isCell, eqA, eqFs, isStructTy, eqlNeq, strOp, isBoolTy, isPtrTy, isFnTy]; exact .mk) ?_
            refine run_op rfl rfl rfl (by simp [boxA, AV.cells, AV.isCell]; exact .mk) ?_
            refine run_if rfl (by simp [boxA, AV.cells, AV.isCell]; exact .mk) rfl (by simp <;> omega) (fun hb => by simp [boxA, AV.cells, AV.isCell]; exact .mk) ?_
            refine run_if rfl (by simp [boxA, AV.cells, AV.isCell]; exact .mk) rfl (by simp <;> omega) (fun hb => by simp [boxA, AV.cells, AV.isCell]; exact .mk) ?_
            refine run_if rfl (by simp [boxA, AV.cells, AV.isCell]; exact .mk) rfl (by simp <;> omega) (fun hb => by simp [boxA, AV.cells, AV.isCell]; exact .mk) ?_
            refine run_if rfl (by simp [boxA, AV.cells, AV.isCell]; exact .mk) rfl (by simp <;> omega) (fun hb => by simp [boxA, AV.cells, AV.isCell, hi3]; exact .mk) ?_
            refine run_if rfl (by simp [boxA, AV.cells, AV.isCell]; exact .mk) rfl (by simp <;> omega) (fun hb => by simp [boxA, AV.cells, AV.isCell, -List.getElem?_map, map_get hi3]; exact .mk) ?_
            refine run_if rfl (by simp [boxA, AV.cells, AV.isCell]; exact .mk) rfl (by simp <;> omega) (fun hb => by simp [boxA, AV.cells, AV.isCell]; exact .mk) ?_
            refine run_if rfl (by simp [boxA, AV.cells, AV.isCell]; exact .mk) rfl (by simp <;> omega) (fun hb => by simp [boxA, AV.cells, AV.isCell]; exact .mk) ?_
            refine run_if rfl (by simp [boxA, AV.cells, AV.isCell]; exact .mk) rfl (by simp <;> omega) (fun hb => by simp [boxA, AV.cells, AV.isCell]; exact .mk) ?_
            refine run_if rfl (by simp [boxA, AV.cells, AV.isCell]; exact .mk) rfl (by simp <;> omega) (fun hb => by simp [boxA, AV.cells, AV.isCell, hi2]; exact .mk) ?_
            refine run_if rfl (by simp [boxA, AV.cells, AV.isCell]; exact .mk) rfl (by simp <;> omega) (fun hb => by simp [boxA, AV.cells, AV.isCell]; exact .mk) ?_
            refine run_if rfl (by simp [boxA, AV.cells, AV.isCell]; exact .mk) rfl (by simp <;> omega) (fun hb => by simp [boxA, AV.cells, AV.isCell, eqA, eqFs, isStructTy, eqlNeq, strOp, isBoolTy, isPtrTy, isFnTy]; exact .mk) ?_
            refine run_if rfl (by simp [boxA, AV.cells, AV.isCell]; exact .mk) rfl (by simp <;> omega) (fun hb => by simp [boxA, AV.cells, AV.isCell]; exact .mk) ?_
            refine run_if rfl (by simp [boxA, AV.cells, AV.isCell]; exact .mk) rfl (by simp <;> omega) (fun hb => by simp [boxA, AV.cells, AV.isCell]; exact .mk) ?_
            refine run_if rfl (by simp [boxA, AV.cells, AV.isCell]; exact .mk) rfl (by simp <;> omega) (fun hb => by simp [boxA, AV.cells, AV.isCell]; exact .mk) ?_
            refine run_if rfl (by simp [boxA, AV.cells, AV.isCell]; exact .mk) rfl (by simp <;> omega) (fun hb => by simp [boxA, AV.cells, AV.isCell]; exact .mk) ?_
            refine run_if rfl (by simp [boxA, AV.cells, AV.isCell]; exact .mk) rfl (by simp <;> omega) (fun hb => by simp [boxA, AV.cells, AV.isCell, hi5]; exact .mk) ?_
            refine run_if rfl (by simp [boxA, AV.cells, AV.isCell]; exact .mk) rfl (by simp <;> omega) (fun hb => by simp [boxA, AV.cells, AV.isCell, -List.getElem?_map, map_get hi5]; exact .mk) ?_
            refine run_if rfl (by simp [boxA, AV.cells, AV.isCell]; exact .mk) rfl (by simp <;> omega) (fun hb => by simp [boxA, AV.cells, AV.isCell]; exact .mk) ?_
            refine run_if rfl (by simp [boxA, AV.cells, AV.isCell]; exact .mk) rfl (by simp <;> omega) (fun hb => by simp [boxA, AV.cells, AV.isCell]; exact .mk) ?_
            refine run_if rfl (by simp [boxA, AV.cells, AV.isCell]; exact .mk) rfl (by simp <;> omega) (fun hb => by simp [boxA, AV.cells, AV.isCell]; exact .mk) ?_
            refine run_if rfl (by simp [boxA, AV.cells, AV.isCell]; exact .mk) rfl (by simp <;> omega) (fun hb => by simp [boxA, AV.cells, AV.isCell, hi4]; exact .mk) ?_
            refine run_if rfl (by simp [boxA, AV.cells, AV.isCell]; exact .mk) rfl (by simp <;> omega) (fun hb => by simp [boxA, AV.cells, AV.isCell]; exact .mk) ?_
            refine run_if rfl (by simp [boxA, AV.cells, AV.isCell]; exact .mk) rfl (by simp <;> omega) (fun hb => by simp [conv_snB]; exact .mk) ?_
            refine run_if rfl (by simp [boxA, AV.cells, AV.isCell]; exact .mk) rfl (by simp <;> omega) (fun hb => by simp [conv_rB]; exact .mk) ?_
            refine run_if rfl (by simp [boxA, AV.cells, AV.isCell]; exact .mk) rfl (by simp <;> omega) (fun hb => by simp [boxA, AV.cells, AV.isCell, eqA, eqFs, isStructTy, eqlNeq, strOp, isBoolTy, isPtrTy, isFnTy]; exact .mk) ?_
            refine run_pick rfl (by simp [boxA, AV.cells, AV.isCell]; exact .mk) rfl rfl (by simp) (by simp [boxA, AV.cells, AV.isCell]; exact .mk) (by simp [boxA, AV.cells, AV.isCell]; exact .mk) (by simp; exact .mk) ?_
            refine run_pick rfl (by simp [boxA, AV.cells, AV.isCell]; exact .mk) rfl rfl (by simp) (by simp [boxA, AV.cells, AV.isCell]; exact .mk) (by simp [boxA, AV.cells, AV.isCell]; exact .mk) (by simp; exact .mk) ?_
            refine run_end [2, 3, 5, 8, 11, 12, 119] (by simp <;> first | omega | grind) (by simp; exact .mk) ?_
            rintro -
            refine W_cond rfl ?_ ?_
            · intro h119
              exfalso
              have := hK.other i hi2
              simp only [hact] at this
              simp at h119
              have h2 := this (by simpa using h119.1)
              rw [h2.1, h2.2] at h119
              simp at h119
            · intro h119
              refine W_skip ?_
              rintro -
              refine W_seq ?_
              refine W_regD (by kernel_rfl) [] 4 [0, 1, 2, 3, 4, 5, 6, 7, 8, 9, 10] (by decide +kernel) ?_
              refine run_op rfl rfl rfl (by simp [boxA, AV.cells, AV.isCell]; exact .mk) ?_
              refine run_op rfl rfl rfl (by simp [boxA, AV.cells, AV.isCell]; exact .mk) ?_
              refine run_op rfl rfl rfl (by simp [boxA, AV.cells, AV.isCell]; exact .mk) ?_
              refine run_op rfl rfl rfl (by simp [boxA, AV.cells, AV.isCell, hi3]; exact .mk) ?_
              refine run_op rfl rfl rfl (by simp [boxA, AV.cells, AV.isCell, -List.getElem?_map, map_get hi3]; exact .mk) ?_
              refine run_op rfl rfl rfl (by simp [boxA, AV.cells, AV.isCell]; exact .mk) ?_
              refine run_op rfl rfl rfl (by simp [boxA, AV.cells, AV.isCell]; exact .mk) ?_
              refine run_op rfl rfl rfl (by simp [boxA, AV.cells, AV.isCell]; exact .mk) ?_
              refine run_op rfl rfl rfl (by simp [boxA, AV.cells, AV.isCell, hi2]; exact .mk) ?_
              refine run_op rfl rfl rfl (by simp [boxA, AV.cells, AV.isCell]; exact .mk) ?_
              refine run_op rfl rfl rfl (by simp [boxA, AV.cells, AV.isCell, eqA, eqFs, isStructTy, eqlNeq, strOp, isBoolTy, isPtrTy, isFnTy]; exact .mk) ?_
              refine run_end [2, 3, 5, 8, 11, 12, 130] (by simp) (by simp; exact .mk) ?_
              rintro -
              refine W_cond rfl ?_ ?_
              · intro h130
                exfalso
                have := hK.up i hi2
                simp at h130; omega
              · intro h130
                refine W_skip ?_
                rintro -
                refine W_reg rfl ?_
                refine run_op rfl rfl rfl (by simp [boxA, AV.cells, AV.isCell]; exact .mk) ?_
                refine run_op rfl rfl rfl (by simp [boxA, AV.cells, AV.isCell, eqA, eqFs, isStructTy, eqlNeq, strOp, isBoolTy, isPtrTy, isFnTy]; exact .mk) ?_
                refine run_op rfl rfl rfl (by simp [boxA, AV.cells, AV.isCell]; exact .mk) ?_
                refine run_end [2, 3, 5, 8, 11, 12] (by simp) (by simp; exact .mk) ?_
                refine rounds_kill [2, 3, 5, 8, 11, 12] ?_
                refine rounds_next (m' := a.gens.length - (i+1)) (by omega) ⟨i+1, rfl, by omega, ?_, rfl⟩
                rw [wrap64 (by omega) (by omega)]; rfl
          · intro h86
            refine W_exit ?_
            rintro -
            refine W_seq ?_
            refine W_reg rfl ?_
            refine run_op rfl rfl rfl (by simp [boxA, AV.cells, AV.isCell]; exact .mk) ?_
            refine run_op rfl rfl rfl (by simp [boxA, AV.cells, AV.isCell]; exact .mk) ?_
            refine run_if rfl (by simp [boxA, AV.cells, AV.isCell]; exact .mk) rfl (by simp <;> omega) (fun hb => by simp [boxA, AV.cells, AV.isCell]; exact .mk) ?_
            refine run_if rfl (by simp [boxA, AV.cells, AV.isCell]; exact .mk) rfl (by simp <;> omega) (fun hb => by simp [boxA, AV.cells, AV.isCell]; exact .mk) ?_
            refine run_if rfl (by simp [boxA, AV.cells, AV.isCell]; exact .mk) rfl (by simp <;> omega) (fun hb => by simp [boxA, AV.cells, AV.isCell, eqA, eqFs, isStructTy, eqlNeq, strOp, isBoolTy, isPtrTy, isFnTy]; exact .mk) ?_
            refine run_if rfl (by simp [boxA, AV.cells, AV.isCell]; exact .mk) rfl (by simp <;> omega) (fun hb => by simp [boxA, AV.cells, AV.isCell]; exact .mk) ?_
            refine run_if rfl (by simp [boxA, AV.cells, AV.isCell]; exact .mk) rfl (by simp <;> omega) (fun hb => by simp [boxA, AV.cells, AV.isCell]; exact .mk) ?_
            refine run_if rfl (by simp [boxA, AV.cells, AV.isCell]; exact .mk) rfl (by simp <;> omega) (fun hb => by simp [boxA, AV.cells, AV.isCell]; exact .mk) ?_
            refine run_if rfl (by simp [boxA, AV.cells, AV.isCell]; exact .mk) rfl (by simp <;> omega) (fun hb => by simp [boxA, AV.cells, AV.isCell, eqA, eqFs, isStructTy, eqlNeq, strOp, isBoolTy, isPtrTy, isFnTy]; exact .mk) ?_
            refine run_pick rfl (by simp [boxA, AV.cells, AV.isCell]; exact .mk) rfl rfl (by simp) (by simp [boxA, AV.cells, AV.isCell]; exact .mk) (by simp [boxA, AV.cells, AV.isCell]; exact .mk) (by simp; exact .mk) ?_
            refine run_if rfl (by simp [boxA, AV.cells, AV.isCell]; exact .mk) rfl (by simp <;> omega) (fun hb => by simp [boxA, AV.cells, AV.isCell]; exact .mk) ?_
            refine run_if rfl (by simp [boxA, AV.cells, AV.isCell]; exact .mk) rfl (by simp <;> omega) (fun hb => by simp [boxA, AV.cells, AV.isCell]; exact .mk) ?_
            refine run_if rfl (by simp [boxA, AV.cells, AV.isCell]; exact .mk) rfl (by simp <;> omega) (fun hb => by simp [boxA, AV.cells, AV.isCell]; exact .mk) ?_
            refine run_if rfl (by simp [boxA, AV.cells, AV.isCell]; exact .mk) rfl (by simp <;> omega) (fun hb => by simp [boxA, AV.cells, AV.isCell, buildA, fillA, placesOf, splice, Value.oneCell', AV.cells, AV.isCell]; exact .mk) ?_
            refine run_if rfl (by simp [boxA, AV.cells, AV.isCell]; exact .mk) rfl (by simp <;> omega) (fun hb => by simp [boxA, AV.cells, AV.isCell]; exact .mk) ?_
            refine run_if rfl (by simp [boxA, AV.cells, AV.isCell]; exact .mk) rfl (by simp <;> omega) (fun hb => by simp [boxA, AV.cells, AV.isCell]; exact .mk) ?_
            refine run_if rfl (by simp [boxA, AV.cells, AV.isCell]; exact .mk) rfl (by simp <;> omega) (fun hb => by simp [boxA, AV.cells, AV.isCell, buildA, fillA, placesOf, splice, Value.oneCell', AV.cells, AV.isCell]; exact .mk) ?_
            refine run_call rfl (by simp [boxA, AV.cells, AV.isCell]; exact .mk) rfl rfl (by simp) (by simp [boxA, AV.cells, AV.isCell, calleeA]; exact .mk) (by simp [boxA, AV.cells, AV.isCell, kindsOf, kinds, expAs, expA, row_rows, Function.comp_def]; exact .mk) (fun hb => ct17 g ⟨[], [], (doS a o).a.roots⟩ ⟨[], [], a.roots⟩ ⟨by simp, by simp, (right_ok hK.right).h3, by simp, (right_ok hK.right).h5⟩) (by simp [boxA, AV.cells, AV.isCell, D.noRo]) (by simp [boxA, AV.cells, AV.isCell, impA, impAs, oAbs]; exact .mk) (by simp) ?_
            refine run_pick rfl (by simp [boxA, AV.cells, AV.isCell]; exact .mk) rfl rfl (by simp) (by simp [boxA, AV.cells, AV.isCell]; exact .mk) (by simp [boxA, AV.cells, AV.isCell]; exact .mk) (by simp; exact .mk) ?_
            refine run_pick rfl (by simp [boxA, AV.cells, AV.isCell]; exact .mk) rfl rfl (by simp) (by simp [boxA, AV.cells, AV.isCell]; exact .mk) (by simp [boxA, AV.cells, AV.isCell]; exact .mk) (by simp; exact .mk) ?_
            refine run_op1 rfl rfl rfl (by simp <;> omega) (by simp [boxA, AV.cells, AV.isCell]; exact .mk) ?_
            refine run_end [4] (by simp <;> first | omega | grind) (by simp; exact .mk) ?_
            rintro -
            refine W_ret ?_
            refine end_ret (by simp [boxA, AV.cells, AV.isCell, Try.f3]; exact .mk) (by simp [boxA, AV.cells, AV.isCell, cl, cls]; exact .mk) ?_ (by simp [boxA, AV.cells, AV.isCell, D.noSn])
            first | (simp [nrmR, nrmRs, nrmK, kindsOf, kinds, Try.f3]; done) | (simp [nrmR, nrmRs, nrmK, kindsOf, kinds, Try.f3, he]; done) | (simp [nrmR, nrmRs, nrmK, kindsOf, kinds, Try.f3]; by_cases h6 : o.act = 6 <;> by_cases h8 : o.act = 8 <;> simp [h6, h8]; rw [hK.roots h6 h8]; exact sameAbs_refl _)

end Go.Proofs
