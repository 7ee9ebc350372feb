/- Contract of the law ModelReads: it answers true, for every heap, handle, place, bytes and ops. -/
import Derived.Test.YtaeglabjhpfepaaBase
import Derived.Test.YtaeglabjhpfepaaAwpC
import Derived.Test.YtaeglabjhpfepaaDo
set_option linter.all false
set_option linter.unusedSimpArgs false
set_option linter.unusedVariables false
set_option maxHeartbeats 4000000
namespace Go.Proofs
open Go.Awp
theorem ct4 (g : Gl) (a : Abs) (ix gn off : Int) (b : List UInt8) (more : List Op) : CtAt Try.prog g 4 [eAbs a, .agg [vI ix, vI gn], vI off, rB b, rows 7 eOp more] (.v (.bool true)) := by
  refine ctAt_of_W Try.func4 rfl rfl (Nat.le_of_ble_eq_true rfl) fun B S => ?_
  simp only [eAbs, List.map, argD_agg]
  obtain ⟨x, hx⟩ : ∃ x, x = doS a (opW ix gn off b) := ⟨_, rfl⟩
  refine W_seq ?_
  refine W_reg rfl ?_
  refine run_op rfl rfl rfl (by simp [boxA, AV.cells, AV.isCell, boxA, AV.cells, AV.isCell]; exact .mk) ?_
  refine run_op rfl rfl rfl (by simp [boxA, AV.cells, AV.isCell, boxA, AV.cells, AV.isCell]; exact .mk) ?_
  refine run_op rfl rfl rfl (by simp [boxA, AV.cells, AV.isCell]; exact .mk) ?_
  refine run_end [2, 3, 4, 5, 6] (by simp) (by simp; exact .mk) ?_
  rintro -
  refine W_seq ?_
  refine W_reg rfl ?_
  refine run_call0 rfl rfl rfl rfl (by simp [boxA, AV.cells, AV.isCell, calleeA]; exact .mk) (by simp [boxA, AV.cells, AV.isCell, kindsOf, kinds, expAs, expA, row_rows, Function.comp_def]; exact .mk) (ct12 g) (by simp [boxA, AV.cells, AV.isCell, D.noRo]) (by simp [boxA, AV.cells, AV.isCell, impA, impAs, oAbs]; exact .mk) ?_
  refine run_op rfl rfl rfl (by simp [boxA, AV.cells, AV.isCell]; exact .mk) ?_
  refine run_end [2, 3, 4, 5, 6, 11] (by simp) (by simp; exact .mk) ?_
  rintro -
  refine W_seq ?_
  refine W_reg rfl ?_
  refine run_op rfl rfl rfl (by simp [boxA, AV.cells, AV.isCell, eOp]; exact .mk) ?_
  refine run_call0 rfl rfl rfl rfl (by simp [boxA, AV.cells, AV.isCell, calleeA]; exact .mk) (by simp [boxA, AV.cells, AV.isCell, kindsOf, kinds, expAs, expA, row_rows, Function.comp_def]; exact .mk) (ct13 g a) (by simp [boxA, AV.cells, AV.isCell, D.noRo]) (by simp [boxA, AV.cells, AV.isCell, impA, impAs, oAbs]; exact .mk) ?_
  refine run_op rfl rfl rfl (by simp [boxA, AV.cells, AV.isCell]; exact .mk) ?_
  refine run_end [2, 3, 4, 5, 6, 11, 12] (by simp) (by simp; exact .mk) ?_
  rintro -
  refine W_seq ?_
  refine W_seq ?_
  refine W_reg rfl ?_
  refine run_op rfl rfl rfl (by simp [boxA, AV.cells, AV.isCell]; exact .mk) ?_
  refine run_op rfl rfl rfl (by simp [boxA, AV.cells, AV.isCell, unA]; exact .mk) ?_
  refine run_op rfl rfl rfl (by simp [boxA, AV.cells, AV.isCell]; exact .mk) ?_
  refine run_if rfl (by simp [boxA, AV.cells, AV.isCell]; exact .mk) rfl (by simp <;> omega) (fun hb => by simp [boxA, AV.cells, AV.isCell]; exact .mk) ?_
  refine run_if rfl (by simp [boxA, AV.cells, AV.isCell]; exact .mk) rfl (by simp <;> omega) (fun hb => by simp [boxA, AV.cells, AV.isCell]; exact .mk) ?_
  refine run_if rfl (by simp [boxA, AV.cells, AV.isCell]; exact .mk) rfl (by simp <;> omega) (fun hb => by simp [boxA, AV.cells, AV.isCell, eqA, eqFs, isStructTy, eqlNeq, strOp, isBoolTy, isPtrTy, isFnTy]; exact .mk) ?_
  refine run_pick rfl (by simp [boxA, AV.cells, AV.isCell]; exact .mk) rfl rfl (by simp) (by simp [boxA, AV.cells, AV.isCell]; exact .mk) (by simp [boxA, AV.cells, AV.isCell]; exact .mk) (by simp; exact .mk) ?_
  refine run_end [2, 3, 4, 5, 6, 11, 39] (by simp <;> first | omega | grind) (by simp; exact .mk) ?_
  rintro -
  refine W_cond rfl ?_ ?_
  · intro h39
    refine W_seq ?_
    refine W_reg rfl ?_
    refine run_op rfl rfl rfl (by simp [boxA, AV.cells, AV.isCell]; exact .mk) ?_
    refine run_op rfl rfl rfl (by simp [boxA, AV.cells, AV.isCell]; exact .mk) ?_
    refine run_end [10] (by simp) (by simp; exact .mk) ?_
    rintro -
    refine W_ret ?_
    refine end_ret (by simp [boxA, AV.cells, AV.isCell, Try.f4]; exact .mk) (by simp [boxA, AV.cells, AV.isCell, cl, cls]; exact .mk) ?_ (by simp [boxA, AV.cells, AV.isCell, D.noSn])
    simp [nrmR, nrmRs, nrmK, kindsOf, kinds, Try.f4]
  · intro h39
    have hF : fewS a = true ∧ (b.length : Int) ≤ 4096 := by simp at h39; simp_all
    obtain ⟨hF, hbl⟩ := hF
    refine W_skip ?_
    rintro -
    refine W_seq ?_
    refine W_reg rfl ?_
    refine run_op rfl rfl rfl (by simp [boxA, AV.cells, AV.isCell, eOp]; exact .mk) ?_
    refine run_op rfl rfl rfl (by simp [boxA, AV.cells, AV.isCell, eOp]; exact .mk) ?_
    refine run_op rfl rfl rfl (by simp [boxA, AV.cells, AV.isCell]; exact .mk) ?_
    refine run_op rfl rfl rfl (by simp [boxA, AV.cells, AV.isCell]; exact .mk) ?_
    refine run_op rfl rfl rfl (by simp [boxA, AV.cells, AV.isCell, buildA, fillA, placesOf, splice, Value.oneCell', AV.cells, AV.isCell]; exact .mk) ?_
    refine run_call0 rfl rfl rfl rfl (by simp [boxA, AV.cells, AV.isCell, calleeA]; exact .mk) (by simp [boxA, AV.cells, AV.isCell, kindsOf, kinds, expAs, expA, row_rows, Function.comp_def]; exact .mk) (by have hc := ct16 g a (opW ix gn off b) (few_ok hF) (Nat.zero_le _) (by simp [opW]; try omega); rw [← hx] at hc; exact hc) (by simp [boxA, AV.cells, AV.isCell, D.noRo]) (by simp [boxA, AV.cells, AV.isCell, impA, impAs, oAbs]; exact .mk) ?_
    refine run_op rfl rfl rfl (by simp [boxA, AV.cells, AV.isCell]; exact .mk) ?_
    refine run_op rfl rfl rfl (by simp [boxA, AV.cells, AV.isCell]; exact .mk) ?_
    refine run_op rfl rfl rfl (by simp [boxA, AV.cells, AV.isCell]; exact .mk) ?_
    refine run_op rfl rfl rfl (by simp [boxA, AV.cells, AV.isCell]; exact .mk) ?_
    refine run_op rfl rfl rfl (by simp [boxA, AV.cells, AV.isCell, allocA, Value.oneCell']; exact .mk) ?_
    refine run_op rfl rfl rfl (by simp [boxA, AV.cells, AV.isCell, allocA, Value.oneCell']; exact .mk) ?_
    refine run_op rfl rfl rfl (by simp [boxA, AV.cells, AV.isCell, storeA, AV.cells, AV.isCell, splice]; exact .mk) ?_
    refine run_op rfl rfl rfl (by simp [boxA, AV.cells, AV.isCell, storeA, AV.cells, AV.isCell, splice]; exact .mk) ?_
    refine run_op rfl rfl rfl (by simp [boxA, AV.cells, AV.isCell]; exact .mk) ?_
    refine run_end [2, 3, 4, 6, 11, 13, 15] (by simp) (by simp; exact .mk) ?_
    rintro -
    refine W_seq ?_
    refine W_seq ?_
    refine W_reg rfl ?_
    refine run_op rfl rfl rfl (by simp [boxA, AV.cells, AV.isCell]; exact .mk) ?_
    refine run_op rfl rfl rfl (by simp [boxA, AV.cells, AV.isCell, eqA, eqFs, isStructTy, eqlNeq, strOp, isBoolTy, isPtrTy, isFnTy]; exact .mk) ?_
    refine run_end [2, 3, 4, 6, 11, 13, 52] (by simp) (by simp; exact .mk) ?_
    rintro -
    refine W_cond rfl ?_ ?_
    · intro h52
      refine W_seq ?_
      refine W_reg rfl ?_
      refine run_op rfl rfl rfl (by simp [boxA, AV.cells, AV.isCell]; exact .mk) ?_
      refine run_op rfl rfl rfl (by simp [boxA, AV.cells, AV.isCell]; exact .mk) ?_
      refine run_end [10] (by simp) (by simp; exact .mk) ?_
      rintro -
      refine W_ret ?_
      refine end_ret (by simp [boxA, AV.cells, AV.isCell, Try.f4]; exact .mk) (by simp [boxA, AV.cells, AV.isCell, cl, cls]; exact .mk) ?_ (by simp [boxA, AV.cells, AV.isCell, D.noSn])
      simp [nrmR, nrmRs, nrmK, kindsOf, kinds, Try.f4]
    · intro h52
      have hW : Wrote a x.a ix gn off b := by have := wrote (a := a) (ix := ix) (gn := gn) (off := off) (b := b) (by rw [← hx]; simpa using h52); rwa [← hx] at this
      refine W_skip ?_
      rintro -
      refine W_seq ?_
      refine W_reg rfl ?_
      refine run_op rfl rfl rfl (by simp [boxA, AV.cells, AV.isCell, eOp]; exact .mk) ?_
      refine run_op rfl rfl rfl (by simp [boxA, AV.cells, AV.isCell, eOp]; exact .mk) ?_
      refine run_op rfl rfl rfl (by simp [boxA, AV.cells, AV.isCell]; exact .mk) ?_
      refine run_op rfl rfl rfl (by simp [boxA, AV.cells, AV.isCell]; exact .mk) ?_
      refine run_op rfl rfl rfl (by simp [boxA, AV.cells, AV.isCell]; exact .mk) ?_
      refine run_op rfl rfl rfl (by simp [boxA, AV.cells, AV.isCell, buildA, fillA, placesOf, splice, Value.oneCell', AV.cells, AV.isCell]; exact .mk) ?_
      refine run_call0 rfl rfl rfl rfl (by simp [boxA, AV.cells, AV.isCell, calleeA]; exact .mk) (by simp [boxA, AV.cells, AV.isCell, kindsOf, kinds, expAs, expA, row_rows, Function.comp_def]; exact .mk) (by have hc := ct16 g x.a (opR ix gn off b.length) (right_ok hW.right) (Nat.zero_le _) (by simp [opR]; try omega); rw [hW.read] at hc; exact hc) (by simp [boxA, AV.cells, AV.isCell, D.noRo]) (by simp [boxA, AV.cells, AV.isCell, impA, impAs, oAbs]; exact .mk) ?_
      refine run_op rfl rfl rfl (by simp [boxA, AV.cells, AV.isCell]; exact .mk) ?_
      refine run_op rfl rfl rfl (by simp [boxA, AV.cells, AV.isCell]; exact .mk) ?_
      refine run_op rfl rfl rfl (by simp [boxA, AV.cells, AV.isCell]; exact .mk) ?_
      refine run_op rfl rfl rfl (by simp [boxA, AV.cells, AV.isCell]; exact .mk) ?_
      refine run_op rfl rfl rfl (by simp [boxA, AV.cells, AV.isCell, allocA, Value.oneCell']; exact .mk) ?_
      refine run_op rfl rfl rfl (by simp [boxA, AV.cells, AV.isCell, allocA, Value.oneCell']; exact .mk) ?_
      refine run_op rfl rfl rfl (by simp [boxA, AV.cells, AV.isCell, storeA, AV.cells, AV.isCell, splice]; exact .mk) ?_
      refine run_op rfl rfl rfl (by simp [boxA, AV.cells, AV.isCell, storeA, AV.cells, AV.isCell, splice]; exact .mk) ?_
      refine run_op rfl rfl rfl (by simp [boxA, AV.cells, AV.isCell]; exact .mk) ?_
      refine run_end [3, 4, 6, 11, 13, 17, 18] (by simp) (by simp; exact .mk) ?_
      rintro -
      refine W_seq ?_
      refine W_seq ?_
      refine W_reg rfl ?_
      refine run_op rfl rfl rfl (by simp [boxA, AV.cells, AV.isCell]; exact .mk) ?_
      refine run_op rfl rfl rfl (by simp [boxA, AV.cells, AV.isCell, eqA, eqFs, isStructTy, eqlNeq, strOp, isBoolTy, isPtrTy, isFnTy]; exact .mk) ?_
      refine run_op rfl rfl rfl (by simp [boxA, AV.cells, AV.isCell]; exact .mk) ?_
      refine run_if rfl (by simp [boxA, AV.cells, AV.isCell]; exact .mk) rfl (by simp <;> omega) (fun hb => by simp [boxA, AV.cells, AV.isCell]; exact .mk) ?_
      refine run_if rfl (by simp [boxA, AV.cells, AV.isCell]; exact .mk) rfl (by simp <;> omega) (fun hb => by simp [boxA, AV.cells, AV.isCell, eOp]; exact .mk) ?_
      refine run_if rfl (by simp [boxA, AV.cells, AV.isCell]; exact .mk) rfl (by simp <;> omega) (fun hb => by simp [conv_hB (b := b)]; exact .mk) ?_
      refine run_if rfl (by simp [boxA, AV.cells, AV.isCell]; exact .mk) rfl (by simp <;> omega) (fun hb => by simp [boxA, AV.cells, AV.isCell]; exact .mk) ?_
      refine run_if rfl (by simp [boxA, AV.cells, AV.isCell]; exact .mk) rfl (by simp <;> omega) (fun hb => by simp [conv_rB]; exact .mk) ?_
      refine run_if rfl (by simp [boxA, AV.cells, AV.isCell]; exact .mk) rfl (by simp <;> omega) (fun hb => by simp [boxA, AV.cells, AV.isCell, eqA, eqFs, isStructTy, eqlNeq, strOp, isBoolTy, isPtrTy, isFnTy]; exact .mk) ?_
      refine run_pick rfl (by simp [boxA, AV.cells, AV.isCell]; exact .mk) rfl rfl (by simp) (by simp [boxA, AV.cells, AV.isCell]; exact .mk) (by simp [boxA, AV.cells, AV.isCell]; exact .mk) (by simp; exact .mk) ?_
      refine run_end [4, 6, 11, 13, 74] (by simp <;> first | omega | grind) (by simp; exact .mk) ?_
      rintro -
      refine W_cond rfl ?_ ?_
      · intro h74
        exfalso; simp at h74
      · intro h74
        obtain ⟨f, hf⟩ : ∃ f, f = doS x.a (opF ix gn) := ⟨_, rfl⟩
        have hfe := hW.free
        have hG := gone_free hW
        rw [← hf] at hfe hG
        refine W_skip ?_
        rintro -
        refine W_seq ?_
        refine W_reg rfl ?_
        refine run_op rfl rfl rfl (by simp [boxA, AV.cells, AV.isCell, eOp]; exact .mk) ?_
        refine run_op rfl rfl rfl (by simp [boxA, AV.cells, AV.isCell, eOp]; exact .mk) ?_
        refine run_op rfl rfl rfl (by simp [boxA, AV.cells, AV.isCell, buildA, fillA, placesOf, splice, Value.oneCell', AV.cells, AV.isCell]; exact .mk) ?_
        refine run_call0 rfl rfl rfl rfl (by simp [boxA, AV.cells, AV.isCell, calleeA]; exact .mk) (by simp [boxA, AV.cells, AV.isCell, kindsOf, kinds, expAs, expA, row_rows, Function.comp_def]; exact .mk) (by have hc := ct16 g x.a (opF ix gn) (right_ok hW.right) (Nat.zero_le _) (by simp [opF]; try omega); rw [← hf] at hc; exact hc) (by simp [boxA, AV.cells, AV.isCell, D.noRo]) (by simp [boxA, AV.cells, AV.isCell, impA, impAs, oAbs]; exact .mk) ?_
        refine run_op rfl rfl rfl (by simp [boxA, AV.cells, AV.isCell]; exact .mk) ?_
        refine run_op rfl rfl rfl (by simp [boxA, AV.cells, AV.isCell]; exact .mk) ?_
        refine run_op rfl rfl rfl (by simp [boxA, AV.cells, AV.isCell]; exact .mk) ?_
        refine run_op rfl rfl rfl (by simp [boxA, AV.cells, AV.isCell]; exact .mk) ?_
        refine run_op rfl rfl rfl (by simp [boxA, AV.cells, AV.isCell, allocA, Value.oneCell']; exact .mk) ?_
        refine run_op rfl rfl rfl (by simp [boxA, AV.cells, AV.isCell, allocA, Value.oneCell']; exact .mk) ?_
        refine run_op rfl rfl rfl (by simp [boxA, AV.cells, AV.isCell, storeA, AV.cells, AV.isCell, splice]; exact .mk) ?_
        refine run_op rfl rfl rfl (by simp [boxA, AV.cells, AV.isCell, storeA, AV.cells, AV.isCell, splice]; exact .mk) ?_
        refine run_op rfl rfl rfl (by simp [boxA, AV.cells, AV.isCell]; exact .mk) ?_
        refine run_end [4, 6, 11, 19, 21] (by simp) (by simp; exact .mk) ?_
        rintro -
        refine W_seq ?_
        refine W_seq ?_
        refine W_reg rfl ?_
        refine run_op rfl rfl rfl (by simp [boxA, AV.cells, AV.isCell]; exact .mk) ?_
        refine run_op rfl rfl rfl (by simp [boxA, AV.cells, AV.isCell, eqA, eqFs, isStructTy, eqlNeq, strOp, isBoolTy, isPtrTy, isFnTy]; exact .mk) ?_
        refine run_end [4, 6, 11, 19, 84] (by simp) (by simp; exact .mk) ?_
        rintro -
        refine W_cond rfl ?_ ?_
        · intro h84
          exfalso; simp [hfe] at h84
        · intro h84
          refine W_skip ?_
          rintro -
          refine W_seq ?_
          refine W_seq ?_
          refine W_reg rfl ?_
          refine run_op rfl rfl rfl (by simp [boxA, AV.cells, AV.isCell]; exact .mk) ?_
          refine run_end [4, 6, 11, 19, 22] (by simp) (by simp; exact .mk) ?_
          rintro -
          refine W_block ?_
          refine W_rounds (fun m σ r => ∃ (i : Nat) (y : Abs), m = 30 - i ∧ i ≤ min more.length 30 ∧ Gone y ix gn ∧ σ = slots [(4, .d (rows 7 eOp more)), (6, .ptr 1 0 0), (11, .d (.v (.bool true))), (19, .ptr 18 0 0), (22, .d (vI i))] ∧ r = [.var 26 [.d (rI a.gens), .d (rBB a.data), .d (rR a.roots)], .var 28 [.d (vI ix), .d (vI gn)], .row 1 (x.a.gens.map vI), .row 1 (x.a.data.map oB), .row 3 (x.a.roots.map eRoot), .row 1 (x.b.map vB), .var 26 [.hdr 2 0 x.a.gens.length, .hdr 3 0 x.a.data.length, .hdr 4 0 x.a.roots.length], .var 36 [.d (vI x.ix), .d (vI x.gen), .hdr 5 0 x.b.length], .row 1 (x.a.gens.map vI), .row 1 (x.a.data.map oB), .row 3 (x.a.roots.map eRoot), .row 1 (b.map vB), .var 26 [.hdr 8 0 x.a.gens.length, .hdr 9 0 x.a.data.length, .hdr 10 0 x.a.roots.length], .var 36 [.d (vI 0), .d (vI 0), .hdr 11 0 b.length], .row 1 (y.gens.map vI), .row 1 (y.data.map oB), .row 3 (y.roots.map eRoot), .row 1 (f.b.map vB), .var 26 [.hdr 14 0 y.gens.length, .hdr 15 0 y.data.length, .hdr 16 0 y.roots.length], .var 36 [.d (vI f.ix), .d (vI f.gen), .hdr 17 0 f.b.length]]) 30 .refl ⟨0, f.a, by simp, by simp, hG, rfl, rfl⟩ ?_
          rintro m σ r ⟨i, y, rfl, hi, hG, rfl, rfl⟩ _
          refine W_seq ?_
          refine W_seq ?_
          refine W_reg rfl ?_
          refine run_op rfl rfl rfl (by simp [boxA, AV.cells, AV.isCell]; exact .mk) ?_
          refine run_op rfl rfl rfl (by simp [boxA, AV.cells, AV.isCell]; exact .mk) ?_
          refine run_op rfl rfl rfl (by simp [boxA, AV.cells, AV.isCell]; exact .mk) ?_
          refine run_op rfl rfl rfl (by simp [boxA, AV.cells, AV.isCell, eqA, eqFs, isStructTy, eqlNeq, strOp, isBoolTy, isPtrTy, isFnTy]; exact .mk) ?_
          refine run_op rfl rfl rfl (by simp [boxA, AV.cells, AV.isCell]; exact .mk) ?_
          refine run_if rfl (by simp [boxA, AV.cells, AV.isCell]; exact .mk) rfl (by simp <;> omega) (fun hb => by simp [boxA, AV.cells, AV.isCell]; exact .mk) ?_
          refine run_if rfl (by simp [boxA, AV.cells, AV.isCell]; exact .mk) rfl (by simp <;> omega) (fun hb => by simp [boxA, AV.cells, AV.isCell, eqA, eqFs, isStructTy, eqlNeq, strOp, isBoolTy, isPtrTy, isFnTy]; exact .mk) ?_
          refine run_pick rfl (by simp [boxA, AV.cells, AV.isCell]; exact .mk) rfl rfl (by simp) (by simp [boxA, AV.cells, AV.isCell]; exact .mk) (by simp [boxA, AV.cells, AV.isCell]; exact .mk) (by simp; exact .mk) ?_
          refine run_end [4, 6, 11, 19, 22, 92] (by simp <;> first | omega | grind) (by simp; exact .mk) ?_
          rintro -
          refine W_cond rfl ?_ ?_
          · intro h92
            have hi2 : i < more.length ∧ i < 30 := by simp at h92; omega
            have hi3 := hi2.1
            refine W_skip ?_
            rintro -
            refine W_seq ?_
            refine W_block ?_
            refine W_seq ?_
            refine W_reg rfl ?_
            refine run_op rfl rfl rfl (by simp [boxA, AV.cells, AV.isCell]; exact .mk) ?_
            refine run_op rfl rfl rfl (by simp [boxA, AV.cells, AV.isCell]; exact .mk) ?_
            refine run_op rfl rfl rfl (by simp [boxA, AV.cells, AV.isCell, eOp, hi3]; exact .mk) ?_
            refine run_op rfl rfl rfl (by simp [boxA, AV.cells, AV.isCell, eOp]; exact .mk) ?_
            refine run_call0 rfl rfl rfl rfl (by simp [boxA, AV.cells, AV.isCell, calleeA]; exact .mk) (by simp [boxA, AV.cells, AV.isCell, kindsOf, kinds, expAs, expA, row_rows, Function.comp_def]; exact .mk) (ct14 g (nth more i)) (by simp [boxA, AV.cells, AV.isCell, D.noRo]) (by simp [boxA, AV.cells, AV.isCell, impA, impAs, oAbs]; exact .mk) ?_
            refine run_op rfl rfl rfl (by simp [boxA, AV.cells, AV.isCell]; exact .mk) ?_
            refine run_end [4, 6, 11, 19, 22, 23] (by simp) (by simp; exact .mk) ?_
            rintro -
            refine W_seq ?_
            refine W_seq ?_
            refine W_reg rfl ?_
            refine run_op rfl rfl rfl (by simp [boxA, AV.cells, AV.isCell]; exact .mk) ?_
            refine run_op rfl rfl rfl (by simp [boxA, AV.cells, AV.isCell, unA]; exact .mk) ?_
            refine run_end [4, 6, 11, 19, 22, 101] (by simp) (by simp; exact .mk) ?_
            rintro -
            refine W_cond rfl ?_ ?_
            · intro h101
              refine W_seq ?_
              refine W_reg rfl ?_
              refine run_op rfl rfl rfl (by simp [boxA, AV.cells, AV.isCell]; exact .mk) ?_
              refine run_op rfl rfl rfl (by simp [boxA, AV.cells, AV.isCell]; exact .mk) ?_
              refine run_end [10] (by simp) (by simp; exact .mk) ?_
              rintro -
              refine W_ret ?_
              refine end_ret (by simp [boxA, AV.cells, AV.isCell, Try.f4]; exact .mk) (by simp [boxA, AV.cells, AV.isCell, cl, cls]; exact .mk) ?_ (by simp [boxA, AV.cells, AV.isCell, D.noSn])
              simp [nrmR, nrmRs, nrmK, kindsOf, kinds, Try.f4]
            · intro h101
              have hfo : fewOp (nth more i) = true := by simpa using h101
              have hfo2 : (nth more i).b.length ≤ 4096 ∧ (nth more i).name.size ≤ 1024 := by simp [fewOp] at hfo; omega
              obtain ⟨z, hz⟩ : ∃ z, z = doS y (nth more i) := ⟨_, rfl⟩
              refine W_skip ?_
              rintro -
              refine W_seq ?_
              refine W_regDSK (hard := []) [5, 10, 11] (keepOk_lt (by decide)) (by kernel_rfl) 4 [0, 1, 2, 3, 4, 5, 6, 7, 8, 9, 10, 11, 12, 13, 14] [[0, 1, 2, 3, 4, 5, 6, 7, 8, 9, 11, 10, 12, 13, 14], [0, 1, 2, 3, 4, 10, 5, 6, 7, 8, 9, 11, 12, 13, 14], [0, 1, 2, 3, 4, 10, 11, 5, 6, 7, 8, 9, 12, 13, 14], [0, 1, 2, 3, 4, 11, 5, 6, 7, 8, 9, 10, 12, 13, 14], [0, 1, 2, 3, 4, 11, 10, 5, 6, 7, 8, 9, 12, 13, 14]] (by decide +kernel) ?_
              refine run_op rfl rfl rfl (by simp [boxA, AV.cells, AV.isCell, eOp]; exact .mk) ?_
              refine run_op rfl rfl rfl (by simp [boxA, AV.cells, AV.isCell]; exact .mk) ?_
              refine run_op rfl rfl rfl (by simp [boxA, AV.cells, AV.isCell]; exact .mk) ?_
              refine run_op rfl rfl rfl (by simp [boxA, AV.cells, AV.isCell, eOp, hi3]; exact .mk) ?_
              refine run_op rfl rfl rfl (by simp [boxA, AV.cells, AV.isCell, eOp]; exact .mk) ?_
              refine run_call0 rfl rfl rfl rfl (by simp [boxA, AV.cells, AV.isCell, calleeA]; exact .mk) (by simp [boxA, AV.cells, AV.isCell, kindsOf, kinds, expAs, expA, row_rows, Function.comp_def]; exact .mk) (by have hc := ct16 g y (nth more i) (right_ok hG.1) (by omega) (by omega); rw [← hz] at hc; exact hc) (by simp [boxA, AV.cells, AV.isCell, D.noRo]) (by simp [boxA, AV.cells, AV.isCell, impA, impAs, oAbs]; exact .mk) ?_
              refine run_op rfl rfl rfl (by simp [boxA, AV.cells, AV.isCell]; exact .mk) ?_
              refine run_op rfl rfl rfl (by simp [boxA, AV.cells, AV.isCell]; exact .mk) ?_
              refine run_op rfl rfl rfl (by simp [boxA, AV.cells, AV.isCell]; exact .mk) ?_
              refine run_op rfl rfl rfl (by simp [boxA, AV.cells, AV.isCell]; exact .mk) ?_
              refine run_op rfl rfl rfl (by simp [boxA, AV.cells, AV.isCell, allocA, Value.oneCell']; exact .mk) ?_
              refine run_op rfl rfl rfl (by simp [boxA, AV.cells, AV.isCell, allocA, Value.oneCell']; exact .mk) ?_
              refine run_op rfl rfl rfl (by simp [boxA, AV.cells, AV.isCell, storeA, AV.cells, AV.isCell, splice]; exact .mk) ?_
              refine run_op rfl rfl rfl (by simp [boxA, AV.cells, AV.isCell, storeA, AV.cells, AV.isCell, splice]; exact .mk) ?_
              refine run_op rfl rfl rfl (by simp [boxA, AV.cells, AV.isCell]; exact .mk) ?_
              refine run_end [4, 6, 11, 19, 22, 24, 26] (by simp) (by simp; exact .mk) ?_
              refine ⟨_, rfl, ⟨?_, ?_, ?_, ?_, ?_, trivial⟩, ?_⟩
              · skip
                refine run_op rfl rfl rfl (by simp [boxA, AV.cells, AV.isCell, eOp]; exact .mk) ?_
                refine run_op rfl rfl rfl (by simp [boxA, AV.cells, AV.isCell]; exact .mk) ?_
                refine run_op rfl rfl rfl (by simp [boxA, AV.cells, AV.isCell]; exact .mk) ?_
                refine run_op rfl rfl rfl (by simp [boxA, AV.cells, AV.isCell, eOp, hi3]; exact .mk) ?_
                refine run_op rfl rfl rfl (by simp [boxA, AV.cells, AV.isCell, eOp]; exact .mk) ?_
                refine run_call0 rfl rfl rfl rfl (by simp [boxA, AV.cells, AV.isCell, calleeA]; exact .mk) (by simp [boxA, AV.cells, AV.isCell, kindsOf, kinds, expAs, expA, row_rows, Function.comp_def]; exact .mk) (by have hc := ct16 g y (nth more i) (right_ok hG.1) (by omega) (by omega); rw [← hz] at hc; exact hc) (by simp [boxA, AV.cells, AV.isCell, D.noRo]) (by simp [boxA, AV.cells, AV.isCell, impA, impAs, oAbs]; exact .mk) ?_
                refine run_op rfl rfl rfl (by simp [boxA, AV.cells, AV.isCell]; exact .mk) ?_
                refine run_op rfl rfl rfl (by simp [boxA, AV.cells, AV.isCell]; exact .mk) ?_
                refine run_op rfl rfl rfl (by simp [boxA, AV.cells, AV.isCell]; exact .mk) ?_
                refine run_op rfl rfl rfl (by simp [boxA, AV.cells, AV.isCell]; exact .mk) ?_
                refine run_op rfl rfl rfl (by simp [boxA, AV.cells, AV.isCell, allocA, Value.oneCell']; exact .mk) ?_
                refine run_op rfl rfl rfl (by simp [boxA, AV.cells, AV.isCell, allocA, Value.oneCell']; exact .mk) ?_
                refine run_op rfl rfl rfl (by simp [boxA, AV.cells, AV.isCell, storeA, AV.cells, AV.isCell, splice]; exact .mk) ?_
                refine run_op rfl rfl rfl (by simp [boxA, AV.cells, AV.isCell, storeA, AV.cells, AV.isCell, splice]; exact .mk) ?_
                refine run_op rfl rfl rfl (by simp [boxA, AV.cells, AV.isCell]; exact .mk) ?_
                refine run_end [4, 6, 11, 19, 22, 24, 26] (by simp) (by simp; exact .mk) ?_
                exact Weak.perm [0, 1, 2, 3, 4, 5, 6, 7, 8, 9, 10, 11, 12, 13, 14, 15, 16, 17, 18, 19, 20, 21, 22, 23, 25, 24] [0, 1, 2, 3, 4, 5, 6, 7, 8, 9, 10, 11, 12, 13, 14, 15, 16, 17, 18, 19, 20, 21, 22, 23, 25, 24] rfl rfl rfl
              · skip
                refine run_op rfl rfl rfl (by simp [boxA, AV.cells, AV.isCell, eOp]; exact .mk) ?_
                refine run_op rfl rfl rfl (by simp [boxA, AV.cells, AV.isCell]; exact .mk) ?_
                refine run_op rfl rfl rfl (by simp [boxA, AV.cells, AV.isCell]; exact .mk) ?_
                refine run_op rfl rfl rfl (by simp [boxA, AV.cells, AV.isCell, eOp, hi3]; exact .mk) ?_
                refine run_op rfl rfl rfl (by simp [boxA, AV.cells, AV.isCell, eOp]; exact .mk) ?_
                refine run_op rfl rfl rfl (by simp [boxA, AV.cells, AV.isCell, allocA, Value.oneCell']; exact .mk) ?_
                refine run_call0 rfl rfl rfl rfl (by simp [boxA, AV.cells, AV.isCell, calleeA]; exact .mk) (by simp [boxA, AV.cells, AV.isCell, kindsOf, kinds, expAs, expA, row_rows, Function.comp_def]; exact .mk) (by have hc := ct16 g y (nth more i) (right_ok hG.1) (by omega) (by omega); rw [← hz] at hc; exact hc) (by simp [boxA, AV.cells, AV.isCell, D.noRo]) (by simp [boxA, AV.cells, AV.isCell, impA, impAs, oAbs]; exact .mk) ?_
                refine run_op rfl rfl rfl (by simp [boxA, AV.cells, AV.isCell]; exact .mk) ?_
                refine run_op rfl rfl rfl (by simp [boxA, AV.cells, AV.isCell]; exact .mk) ?_
                refine run_op rfl rfl rfl (by simp [boxA, AV.cells, AV.isCell]; exact .mk) ?_
                refine run_op rfl rfl rfl (by simp [boxA, AV.cells, AV.isCell]; exact .mk) ?_
                refine run_op rfl rfl rfl (by simp [boxA, AV.cells, AV.isCell, allocA, Value.oneCell']; exact .mk) ?_
                refine run_op rfl rfl rfl (by simp [boxA, AV.cells, AV.isCell, storeA, AV.cells, AV.isCell, splice]; exact .mk) ?_
                refine run_op rfl rfl rfl (by simp [boxA, AV.cells, AV.isCell, storeA, AV.cells, AV.isCell, splice]; exact .mk) ?_
                refine run_op rfl rfl rfl (by simp [boxA, AV.cells, AV.isCell]; exact .mk) ?_
                refine run_end [4, 6, 11, 19, 22, 24, 26] (by simp) (by simp; exact .mk) ?_
                exact Weak.perm [0, 1, 2, 3, 4, 5, 6, 7, 8, 9, 10, 11, 12, 13, 14, 15, 16, 17, 18, 19, 24, 20, 21, 22, 23, 25] [0, 1, 2, 3, 4, 5, 6, 7, 8, 9, 10, 11, 12, 13, 14, 15, 16, 17, 18, 19, 21, 22, 23, 24, 20, 25] rfl rfl rfl
              · skip
                refine run_op rfl rfl rfl (by simp [boxA, AV.cells, AV.isCell, eOp]; exact .mk) ?_
                refine run_op rfl rfl rfl (by simp [boxA, AV.cells, AV.isCell]; exact .mk) ?_
                refine run_op rfl rfl rfl (by simp [boxA, AV.cells, AV.isCell]; exact .mk) ?_
                refine run_op rfl rfl rfl (by simp [boxA, AV.cells, AV.isCell, eOp, hi3]; exact .mk) ?_
                refine run_op rfl rfl rfl (by simp [boxA, AV.cells, AV.isCell, eOp]; exact .mk) ?_
                refine run_op rfl rfl rfl (by simp [boxA, AV.cells, AV.isCell, allocA, Value.oneCell']; exact .mk) ?_
                refine run_op rfl rfl rfl (by simp [boxA, AV.cells, AV.isCell, allocA, Value.oneCell']; exact .mk) ?_
                refine run_call0 rfl rfl rfl rfl (by simp [boxA, AV.cells, AV.isCell, calleeA]; exact .mk) (by simp [boxA, AV.cells, AV.isCell, kindsOf, kinds, expAs, expA, row_rows, Function.comp_def]; exact .mk) (by have hc := ct16 g y (nth more i) (right_ok hG.1) (by omega) (by omega); rw [← hz] at hc; exact hc) (by simp [boxA, AV.cells, AV.isCell, D.noRo]) (by simp [boxA, AV.cells, AV.isCell, impA, impAs, oAbs]; exact .mk) ?_
                refine run_op rfl rfl rfl (by simp [boxA, AV.cells, AV.isCell]; exact .mk) ?_
                refine run_op rfl rfl rfl (by simp [boxA, AV.cells, AV.isCell]; exact .mk) ?_
                refine run_op rfl rfl rfl (by simp [boxA, AV.cells, AV.isCell]; exact .mk) ?_
                refine run_op rfl rfl rfl (by simp [boxA, AV.cells, AV.isCell]; exact .mk) ?_
                refine run_op rfl rfl rfl (by simp [boxA, AV.cells, AV.isCell, storeA, AV.cells, AV.isCell, splice]; exact .mk) ?_
                refine run_op rfl rfl rfl (by simp [boxA, AV.cells, AV.isCell, storeA, AV.cells, AV.isCell, splice]; exact .mk) ?_
                refine run_op rfl rfl rfl (by simp [boxA, AV.cells, AV.isCell]; exact .mk) ?_
                refine run_end [4, 6, 11, 19, 22, 24, 26] (by simp) (by simp; exact .mk) ?_
                exact Weak.perm [0, 1, 2, 3, 4, 5, 6, 7, 8, 9, 10, 11, 12, 13, 14, 15, 16, 17, 18, 19, 24, 25, 20, 21, 22, 23] [0, 1, 2, 3, 4, 5, 6, 7, 8, 9, 10, 11, 12, 13, 14, 15, 16, 17, 18, 19, 22, 23, 24, 25, 20, 21] rfl rfl rfl
              · skip
                refine run_op rfl rfl rfl (by simp [boxA, AV.cells, AV.isCell, eOp]; exact .mk) ?_
                refine run_op rfl rfl rfl (by simp [boxA, AV.cells, AV.isCell]; exact .mk) ?_
                refine run_op rfl rfl rfl (by simp [boxA, AV.cells, AV.isCell]; exact .mk) ?_
                refine run_op rfl rfl rfl (by simp [boxA, AV.cells, AV.isCell, eOp, hi3]; exact .mk) ?_
                refine run_op rfl rfl rfl (by simp [boxA, AV.cells, AV.isCell, eOp]; exact .mk) ?_
                refine run_op rfl rfl rfl (by simp [boxA, AV.cells, AV.isCell, allocA, Value.oneCell']; exact .mk) ?_
                refine run_call0 rfl rfl rfl rfl (by simp [boxA, AV.cells, AV.isCell, calleeA]; exact .mk) (by simp [boxA, AV.cells, AV.isCell, kindsOf, kinds, expAs, expA, row_rows, Function.comp_def]; exact .mk) (by have hc := ct16 g y (nth more i) (right_ok hG.1) (by omega) (by omega); rw [← hz] at hc; exact hc) (by simp [boxA, AV.cells, AV.isCell, D.noRo]) (by simp [boxA, AV.cells, AV.isCell, impA, impAs, oAbs]; exact .mk) ?_
                refine run_op rfl rfl rfl (by simp [boxA, AV.cells, AV.isCell]; exact .mk) ?_
                refine run_op rfl rfl rfl (by simp [boxA, AV.cells, AV.isCell]; exact .mk) ?_
                refine run_op rfl rfl rfl (by simp [boxA, AV.cells, AV.isCell]; exact .mk) ?_
                refine run_op rfl rfl rfl (by simp [boxA, AV.cells, AV.isCell]; exact .mk) ?_
                refine run_op rfl rfl rfl (by simp [boxA, AV.cells, AV.isCell, allocA, Value.oneCell']; exact .mk) ?_
                refine run_op rfl rfl rfl (by simp [boxA, AV.cells, AV.isCell, storeA, AV.cells, AV.isCell, splice]; exact .mk) ?_
                refine run_op rfl rfl rfl (by simp [boxA, AV.cells, AV.isCell, storeA, AV.cells, AV.isCell, splice]; exact .mk) ?_
                refine run_op rfl rfl rfl (by simp [boxA, AV.cells, AV.isCell]; exact .mk) ?_
                refine run_end [4, 6, 11, 19, 22, 24, 26] (by simp) (by simp; exact .mk) ?_
                exact Weak.perm [0, 1, 2, 3, 4, 5, 6, 7, 8, 9, 10, 11, 12, 13, 14, 15, 16, 17, 18, 19, 25, 20, 21, 22, 23, 24] [0, 1, 2, 3, 4, 5, 6, 7, 8, 9, 10, 11, 12, 13, 14, 15, 16, 17, 18, 19, 21, 22, 23, 24, 25, 20] rfl rfl rfl
              · skip
                refine run_op rfl rfl rfl (by simp [boxA, AV.cells, AV.isCell, eOp]; exact .mk) ?_
                refine run_op rfl rfl rfl (by simp [boxA, AV.cells, AV.isCell]; exact .mk) ?_
                refine run_op rfl rfl rfl (by simp [boxA, AV.cells, AV.isCell]; exact .mk) ?_
                refine run_op rfl rfl rfl (by simp [boxA, AV.cells, AV.isCell, eOp, hi3]; exact .mk) ?_
                refine run_op rfl rfl rfl (by simp [boxA, AV.cells, AV.isCell, eOp]; exact .mk) ?_
                refine run_op rfl rfl rfl (by simp [boxA, AV.cells, AV.isCell, allocA, Value.oneCell']; exact .mk) ?_
                refine run_op rfl rfl rfl (by simp [boxA, AV.cells, AV.isCell, allocA, Value.oneCell']; exact .mk) ?_
                refine run_call0 rfl rfl rfl rfl (by simp [boxA, AV.cells, AV.isCell, calleeA]; exact .mk) (by simp [boxA, AV.cells, AV.isCell, kindsOf, kinds, expAs, expA, row_rows, Function.comp_def]; exact .mk) (by have hc := ct16 g y (nth more i) (right_ok hG.1) (by omega) (by omega); rw [← hz] at hc; exact hc) (by simp [boxA, AV.cells, AV.isCell, D.noRo]) (by simp [boxA, AV.cells, AV.isCell, impA, impAs, oAbs]; exact .mk) ?_
                refine run_op rfl rfl rfl (by simp [boxA, AV.cells, AV.isCell]; exact .mk) ?_
                refine run_op rfl rfl rfl (by simp [boxA, AV.cells, AV.isCell]; exact .mk) ?_
                refine run_op rfl rfl rfl (by simp [boxA, AV.cells, AV.isCell]; exact .mk) ?_
                refine run_op rfl rfl rfl (by simp [boxA, AV.cells, AV.isCell]; exact .mk) ?_
                refine run_op rfl rfl rfl (by simp [boxA, AV.cells, AV.isCell, storeA, AV.cells, AV.isCell, splice]; exact .mk) ?_
                refine run_op rfl rfl rfl (by simp [boxA, AV.cells, AV.isCell, storeA, AV.cells, AV.isCell, splice]; exact .mk) ?_
                refine run_op rfl rfl rfl (by simp [boxA, AV.cells, AV.isCell]; exact .mk) ?_
                refine run_end [4, 6, 11, 19, 22, 24, 26] (by simp) (by simp; exact .mk) ?_
                exact Weak.perm [0, 1, 2, 3, 4, 5, 6, 7, 8, 9, 10, 11, 12, 13, 14, 15, 16, 17, 18, 19, 25, 24, 20, 21, 22, 23] [0, 1, 2, 3, 4, 5, 6, 7, 8, 9, 10, 11, 12, 13, 14, 15, 16, 17, 18, 19, 22, 23, 24, 25, 21, 20] rfl rfl rfl
              rintro -
              refine W_seq ?_
              refine W_seq ?_
              refine W_reg rfl ?_
              refine run_op rfl rfl rfl (by simp [boxA, AV.cells, AV.isCell]; exact .mk) ?_
              refine run_op rfl rfl rfl (by simp [boxA, AV.cells, AV.isCell, eqA, eqFs, isStructTy, eqlNeq, strOp, isBoolTy, isPtrTy, isFnTy]; exact .mk) ?_
              refine run_end [4, 6, 11, 19, 22, 24, 114] (by simp) (by simp; exact .mk) ?_
              rintro -
              refine W_cond rfl ?_ ?_
              · intro h114
                have hGz : Gone z.a ix gn := by have := gone_step hG (o := nth more i) (by rw [← hz]; simpa using h114); rwa [← hz] at this
                obtain ⟨u, hu⟩ : ∃ u, u = doS z.a (opR ix gn 0 0) := ⟨_, rfl⟩
                have hG2 : Gone z.a ix gn := hGz
                have hur : gn ≠ 65535 → u.e = 8 := fun h => by rw [hu]; exact gone_read hGz h
                refine W_reg rfl ?_
                refine run_op rfl rfl rfl (by simp [boxA, AV.cells, AV.isCell, eOp]; exact .mk) ?_
                refine run_op rfl rfl rfl (by simp [boxA, AV.cells, AV.isCell, storeA, AV.cells, AV.isCell, splice]; exact .mk) ?_
                refine run_end [4, 6, 11, 19, 22] (by simp) (by simp; exact .mk) ?_
                rintro -
                refine W_seq ?_
                refine W_reg rfl ?_
                refine run_op rfl rfl rfl (by simp [boxA, AV.cells, AV.isCell, eOp]; exact .mk) ?_
                refine run_op rfl rfl rfl (by simp [boxA, AV.cells, AV.isCell, eOp]; exact .mk) ?_
                refine run_op rfl rfl rfl (by simp [boxA, AV.cells, AV.isCell, buildA, fillA, placesOf, splice, Value.oneCell', AV.cells, AV.isCell]; exact .mk) ?_
                refine run_call0 rfl rfl rfl rfl (by simp [boxA, AV.cells, AV.isCell, calleeA]; exact .mk) (by simp [boxA, AV.cells, AV.isCell, kindsOf, kinds, expAs, expA, row_rows, Function.comp_def]; exact .mk) (by have hc := ct16 g _ (opR ix gn 0 0) (right_ok hG2.1) (Nat.zero_le _) (Nat.zero_le _); rw [← hu] at hc; exact hc) (by simp [boxA, AV.cells, AV.isCell, D.noRo]) (by simp [boxA, AV.cells, AV.isCell, impA, impAs, oAbs]; exact .mk) ?_
                refine run_op rfl rfl rfl (by simp [boxA, AV.cells, AV.isCell]; exact .mk) ?_
                refine run_op rfl rfl rfl (by simp [boxA, AV.cells, AV.isCell]; exact .mk) ?_
                refine run_op rfl rfl rfl (by simp [boxA, AV.cells, AV.isCell]; exact .mk) ?_
                refine run_op rfl rfl rfl (by simp [boxA, AV.cells, AV.isCell]; exact .mk) ?_
                refine run_op rfl rfl rfl (by simp [boxA, AV.cells, AV.isCell, allocA, Value.oneCell']; exact .mk) ?_
                refine run_op rfl rfl rfl (by simp [boxA, AV.cells, AV.isCell, allocA, Value.oneCell']; exact .mk) ?_
                refine run_op rfl rfl rfl (by simp [boxA, AV.cells, AV.isCell, storeA, AV.cells, AV.isCell, splice]; exact .mk) ?_
                refine run_op rfl rfl rfl (by simp [boxA, AV.cells, AV.isCell, storeA, AV.cells, AV.isCell, splice]; exact .mk) ?_
                refine run_op rfl rfl rfl (by simp [boxA, AV.cells, AV.isCell]; exact .mk) ?_
                refine run_end [4, 6, 11, 19, 22, 29] (by simp) (by simp; exact .mk) ?_
                rintro -
                refine W_seq ?_
                refine W_reg rfl ?_
                refine run_op rfl rfl rfl (by simp [boxA, AV.cells, AV.isCell]; exact .mk) ?_
                refine run_op rfl rfl rfl (by simp [boxA, AV.cells, AV.isCell, eqA, eqFs, isStructTy, eqlNeq, strOp, isBoolTy, isPtrTy, isFnTy]; exact .mk) ?_
                refine run_op rfl rfl rfl (by simp [boxA, AV.cells, AV.isCell]; exact .mk) ?_
                refine run_if rfl (by simp [boxA, AV.cells, AV.isCell]; exact .mk) rfl (by simp <;> omega) (fun hb => by simp [boxA, AV.cells, AV.isCell]; exact .mk) ?_
                refine run_if rfl (by simp [boxA, AV.cells, AV.isCell]; exact .mk) rfl (by simp <;> omega) (fun hb => by simp [boxA, AV.cells, AV.isCell, eOp]; exact .mk) ?_
                refine run_if rfl (by simp [boxA, AV.cells, AV.isCell]; exact .mk) rfl (by simp <;> omega) (fun hb => by simp [boxA, AV.cells, AV.isCell, eqA, eqFs, isStructTy, eqlNeq, strOp, isBoolTy, isPtrTy, isFnTy]; exact .mk) ?_
                refine run_pick rfl (by simp [boxA, AV.cells, AV.isCell]; exact .mk) rfl rfl (by simp) (by simp [boxA, AV.cells, AV.isCell]; exact .mk) (by simp [boxA, AV.cells, AV.isCell]; exact .mk) (by simp; exact .mk) ?_
                refine run_end [4, 6, 11, 19, 22, 130] (by simp <;> first | omega | grind) (by simp; exact .mk) ?_
                rintro -
                refine W_cond rfl ?_ ?_
                · intro h130
                  exfalso; simp at h130; exact h130.1 (hur h130.2)
                · intro h130
                  refine W_skip ?_
                  rintro -
                  refine W_reg rfl ?_
                  refine run_op rfl rfl rfl (by simp [boxA, AV.cells, AV.isCell]; exact .mk) ?_
                  refine run_op rfl rfl rfl (by simp [boxA, AV.cells, AV.isCell, eqA, eqFs, isStructTy, eqlNeq, strOp, isBoolTy, isPtrTy, isFnTy]; exact .mk) ?_
                  refine run_op rfl rfl rfl (by simp [boxA, AV.cells, AV.isCell]; exact .mk) ?_
                  refine run_end [4, 6, 11, 19, 22] (by simp) (by simp; exact .mk) ?_
                  refine rounds_kill [4, 6, 11, 19, 22] ?_
                  first
                  | (refine rounds_kills [4, 6, 11, 19, 22] rfl ?_
                     refine rounds_swap 14 20 3 (by decide) (by simp) (by decide) rfl rfl ?_
                     refine rounds_drop 20 [4, 6, 11, 19, 22] (by decide) (by rfl) (by rfl) ?_
                     refine rounds_next (m' := 30 - (i+1)) (by omega) ⟨i+1, z.a, rfl, by omega, hGz, ?_, rfl⟩
                     rw [wrap64 (by omega) (by omega)]; rfl)
                  | (refine rounds_drop 20 [4, 6, 11, 19, 22] (by decide) (by rfl) (by rfl) ?_
                     refine rounds_next (m' := 30 - (i+1)) (by omega) ⟨i+1, y, rfl, by omega, hG, ?_, rfl⟩
                     rw [wrap64 (by omega) (by omega)]; rfl)
              · intro h114
                obtain ⟨u, hu⟩ : ∃ u, u = doS y (opR ix gn 0 0) := ⟨_, rfl⟩
                have hG2 : Gone y ix gn := hG
                have hur : gn ≠ 65535 → u.e = 8 := fun h => by rw [hu]; exact gone_read hG h
                refine W_skip ?_
                rintro -
                refine W_seq ?_
                refine W_reg rfl ?_
                refine run_op rfl rfl rfl (by simp [boxA, AV.cells, AV.isCell, eOp]; exact .mk) ?_
                refine run_op rfl rfl rfl (by simp [boxA, AV.cells, AV.isCell, eOp]; exact .mk) ?_
                refine run_op rfl rfl rfl (by simp [boxA, AV.cells, AV.isCell, buildA, fillA, placesOf, splice, Value.oneCell', AV.cells, AV.isCell]; exact .mk) ?_
                refine run_call0 rfl rfl rfl rfl (by simp [boxA, AV.cells, AV.isCell, calleeA]; exact .mk) (by simp [boxA, AV.cells, AV.isCell, kindsOf, kinds, expAs, expA, row_rows, Function.comp_def]; exact .mk) (by have hc := ct16 g _ (opR ix gn 0 0) (right_ok hG2.1) (Nat.zero_le _) (Nat.zero_le _); rw [← hu] at hc; exact hc) (by simp [boxA, AV.cells, AV.isCell, D.noRo]) (by simp [boxA, AV.cells, AV.isCell, impA, impAs, oAbs]; exact .mk) ?_
                refine run_op rfl rfl rfl (by simp [boxA, AV.cells, AV.isCell]; exact .mk) ?_
                refine run_op rfl rfl rfl (by simp [boxA, AV.cells, AV.isCell]; exact .mk) ?_
                refine run_op rfl rfl rfl (by simp [boxA, AV.cells, AV.isCell]; exact .mk) ?_
                refine run_op rfl rfl rfl (by simp [boxA, AV.cells, AV.isCell]; exact .mk) ?_
                refine run_op rfl rfl rfl (by simp [boxA, AV.cells, AV.isCell, allocA, Value.oneCell']; exact .mk) ?_
                refine run_op rfl rfl rfl (by simp [boxA, AV.cells, AV.isCell, allocA, Value.oneCell']; exact .mk) ?_
                refine run_op rfl rfl rfl (by simp [boxA, AV.cells, AV.isCell, storeA, AV.cells, AV.isCell, splice]; exact .mk) ?_
                refine run_op rfl rfl rfl (by simp [boxA, AV.cells, AV.isCell, storeA, AV.cells, AV.isCell, splice]; exact .mk) ?_
                refine run_op rfl rfl rfl (by simp [boxA, AV.cells, AV.isCell]; exact .mk) ?_
                refine run_end [4, 6, 11, 19, 22, 29] (by simp) (by simp; exact .mk) ?_
                rintro -
                refine W_seq ?_
                refine W_reg rfl ?_
                refine run_op rfl rfl rfl (by simp [boxA, AV.cells, AV.isCell]; exact .mk) ?_
                refine run_op rfl rfl rfl (by simp [boxA, AV.cells, AV.isCell, eqA, eqFs, isStructTy, eqlNeq, strOp, isBoolTy, isPtrTy, isFnTy]; exact .mk) ?_
                refine run_op rfl rfl rfl (by simp [boxA, AV.cells, AV.isCell]; exact .mk) ?_
                refine run_if rfl (by simp [boxA, AV.cells, AV.isCell]; exact .mk) rfl (by simp <;> omega) (fun hb => by simp [boxA, AV.cells, AV.isCell]; exact .mk) ?_
                refine run_if rfl (by simp [boxA, AV.cells, AV.isCell]; exact .mk) rfl (by simp <;> omega) (fun hb => by simp [boxA, AV.cells, AV.isCell, eOp]; exact .mk) ?_
                refine run_if rfl (by simp [boxA, AV.cells, AV.isCell]; exact .mk) rfl (by simp <;> omega) (fun hb => by simp [boxA, AV.cells, AV.isCell, eqA, eqFs, isStructTy, eqlNeq, strOp, isBoolTy, isPtrTy, isFnTy]; exact .mk) ?_
                refine run_pick rfl (by simp [boxA, AV.cells, AV.isCell]; exact .mk) rfl rfl (by simp) (by simp [boxA, AV.cells, AV.isCell]; exact .mk) (by simp [boxA, AV.cells, AV.isCell]; exact .mk) (by simp; exact .mk) ?_
                refine run_end [4, 6, 11, 19, 22, 130] (by simp <;> first | omega | grind) (by simp; exact .mk) ?_
                rintro -
                refine W_cond rfl ?_ ?_
                · intro h130
                  exfalso; simp at h130; exact h130.1 (hur h130.2)
                · intro h130
                  refine W_skip ?_
                  rintro -
                  refine W_reg rfl ?_
                  refine run_op rfl rfl rfl (by simp [boxA, AV.cells, AV.isCell]; exact .mk) ?_
                  refine run_op rfl rfl rfl (by simp [boxA, AV.cells, AV.isCell, eqA, eqFs, isStructTy, eqlNeq, strOp, isBoolTy, isPtrTy, isFnTy]; exact .mk) ?_
                  refine run_op rfl rfl rfl (by simp [boxA, AV.cells, AV.isCell]; exact .mk) ?_
                  refine run_end [4, 6, 11, 19, 22] (by simp) (by simp; exact .mk) ?_
                  refine rounds_kill [4, 6, 11, 19, 22] ?_
                  first
                  | (refine rounds_kills [4, 6, 11, 19, 22] rfl ?_
                     refine rounds_swap 14 20 3 (by decide) (by simp) (by decide) rfl rfl ?_
                     refine rounds_drop 20 [4, 6, 11, 19, 22] (by decide) (by rfl) (by rfl) ?_
                     refine rounds_next (m' := 30 - (i+1)) (by omega) ⟨i+1, z.a, rfl, by omega, hGz, ?_, rfl⟩
                     rw [wrap64 (by omega) (by omega)]; rfl)
                  | (refine rounds_drop 20 [4, 6, 11, 19, 22] (by decide) (by rfl) (by rfl) ?_
                     refine rounds_next (m' := 30 - (i+1)) (by omega) ⟨i+1, y, rfl, by omega, hG, ?_, rfl⟩
                     rw [wrap64 (by omega) (by omega)]; rfl)
          · intro h92
            refine W_exit ?_
            rintro -
            refine W_seq ?_
            refine W_reg rfl ?_
            refine run_op rfl rfl rfl (by simp [boxA, AV.cells, AV.isCell]; exact .mk) ?_
            refine run_op rfl rfl rfl (by simp [boxA, AV.cells, AV.isCell]; exact .mk) ?_
            refine run_end [10] (by simp) (by simp; exact .mk) ?_
            rintro -
            refine W_ret ?_
            refine end_ret (by simp [boxA, AV.cells, AV.isCell, Try.f4]; exact .mk) (by simp [boxA, AV.cells, AV.isCell, cl, cls]; exact .mk) ?_ (by simp [boxA, AV.cells, AV.isCell, D.noSn])
            simp [nrmR, nrmRs, nrmK, kindsOf, kinds, Try.f4]

end Go.Proofs
