/- Contract of the law ModelFills: it answers true, for every heap and length. -/
import Derived.Test.YtaeglabjhpfepaaBase
import Derived.Test.YtaeglabjhpfepaaAwpC
import Derived.Test.YtaeglabjhpfepaaDo
set_option linter.all false
set_option linter.unusedSimpArgs false
set_option linter.unusedVariables false
set_option maxHeartbeats 4000000
namespace Go.Proofs
open Go.Awp
theorem ct5 (g : Gl) (a : Abs) (n : Int) : CtAt Try.prog g 5 [eAbs a, vI n] (.v (.bool true)) := by
  refine ctAt_of_W Try.func5 rfl rfl (Nat.le_of_ble_eq_true rfl) fun B S => ?_
  simp only [eAbs, List.map, argD_agg, argD_v]
  refine W_seq ?_
  refine W_reg rfl ?_
  refine run_op rfl rfl rfl (by simp [boxA, AV.cells, AV.isCell, boxA, AV.cells, AV.isCell]; exact .mk) ?_
  refine run_op rfl rfl rfl (by simp [boxA, AV.cells, AV.isCell]; exact .mk) ?_
  refine run_end [1, 2] (by simp) (by simp; exact .mk) ?_
  rintro -
  refine W_seq ?_
  refine W_reg rfl ?_
  refine run_call0 rfl rfl rfl rfl (by simp [boxA, AV.cells, AV.isCell, calleeA]; exact .mk) (by simp [boxA, AV.cells, AV.isCell, kindsOf, kinds, expAs, expA, row_rows, Function.comp_def]; exact .mk) (ct12 g) (by simp [boxA, AV.cells, AV.isCell, D.noRo]) (by simp [boxA, AV.cells, AV.isCell, impA, impAs, oAbs]; exact .mk) ?_
  refine run_op rfl rfl rfl (by simp [boxA, AV.cells, AV.isCell]; exact .mk) ?_
  refine run_end [1, 2, 5] (by simp) (by simp; exact .mk) ?_
  rintro -
  refine W_seq ?_
  refine W_reg rfl ?_
  refine run_op rfl rfl rfl (by simp [boxA, AV.cells, AV.isCell]; exact .mk) ?_
  refine run_call0 rfl rfl rfl rfl (by simp [boxA, AV.cells, AV.isCell, calleeA]; exact .mk) (by simp [boxA, AV.cells, AV.isCell, kindsOf, kinds, expAs, expA, row_rows, Function.comp_def]; exact .mk) (ct13 g a) (by simp [boxA, AV.cells, AV.isCell, D.noRo]) (by simp [boxA, AV.cells, AV.isCell, impA, impAs, oAbs]; exact .mk) ?_
  refine run_op rfl rfl rfl (by simp [boxA, AV.cells, AV.isCell]; exact .mk) ?_
  refine run_end [1, 2, 5, 6] (by simp) (by simp; exact .mk) ?_
  rintro -
  refine W_seq ?_
  refine W_seq ?_
  refine W_reg rfl ?_
  refine run_op rfl rfl rfl (by simp [boxA, AV.cells, AV.isCell]; exact .mk) ?_
  refine run_op rfl rfl rfl (by simp [boxA, AV.cells, AV.isCell, unA]; exact .mk) ?_
  refine run_op rfl rfl rfl (by simp [boxA, AV.cells, AV.isCell]; exact .mk) ?_
  refine run_if rfl (by simp [boxA, AV.cells, AV.isCell]; exact .mk) rfl (by simp <;> first | omega | grind) (fun hb => by simp [boxA, AV.cells, AV.isCell]; exact .mk) ?_
  refine run_if rfl (by simp [boxA, AV.cells, AV.isCell]; exact .mk) rfl (by simp <;> first | omega | grind) (fun hb => by simp [boxA, AV.cells, AV.isCell, eqA, eqFs, isStructTy, eqlNeq, strOp, isBoolTy, isPtrTy, isFnTy]; exact .mk) ?_
  refine run_pick rfl (by simp [boxA, AV.cells, AV.isCell]; exact .mk) rfl rfl (by simp) (by simp [boxA, AV.cells, AV.isCell]; exact .mk) (by simp [boxA, AV.cells, AV.isCell]; exact .mk) (by simp; exact .mk) ?_
  refine run_op1 rfl rfl rfl (by simp <;> first | omega | grind) (by simp [boxA, AV.cells, AV.isCell]; exact .mk) ?_
  refine run_if rfl (by simp [boxA, AV.cells, AV.isCell]; exact .mk) rfl (by simp <;> first | omega | grind) (fun hb => by simp [boxA, AV.cells, AV.isCell]; exact .mk) ?_
  refine run_if rfl (by simp [boxA, AV.cells, AV.isCell]; exact .mk) rfl (by simp <;> first | omega | grind) (fun hb => by simp [boxA, AV.cells, AV.isCell, eqA, eqFs, isStructTy, eqlNeq, strOp, isBoolTy, isPtrTy, isFnTy]; exact .mk) ?_
  refine run_pick rfl (by simp [boxA, AV.cells, AV.isCell]; exact .mk) rfl rfl (by simp) (by simp [boxA, AV.cells, AV.isCell]; exact .mk) (by simp [boxA, AV.cells, AV.isCell]; exact .mk) (by simp; exact .mk) ?_
  refine run_op1 rfl rfl rfl (by simp <;> first | omega | grind) (by simp [boxA, AV.cells, AV.isCell]; exact .mk) ?_
  refine run_if rfl (by simp [boxA, AV.cells, AV.isCell]; exact .mk) rfl (by simp <;> first | omega | grind) (fun hb => by simp [boxA, AV.cells, AV.isCell]; exact .mk) ?_
  refine run_call rfl (by simp [boxA, AV.cells, AV.isCell]; exact .mk) rfl rfl (by simp) (by simp [boxA, AV.cells, AV.isCell, calleeA]; exact .mk) (by simp [boxA, AV.cells, AV.isCell, kindsOf, kinds, expAs, expA, row_rows, Function.comp_def]; exact .mk) (fun hb => ct15 g a (few_ok (by simp at hb; simp_all))) (by simp [boxA, AV.cells, AV.isCell, D.noRo]) (by simp [boxA, AV.cells, AV.isCell, impA, impAs, oAbs]; exact .mk) (by simp) ?_
  refine run_if rfl (by simp [boxA, AV.cells, AV.isCell]; exact .mk) rfl (by simp <;> first | omega | grind) (fun hb => by simp [boxA, AV.cells, AV.isCell, unA]; exact .mk) ?_
  refine run_pick rfl (by simp [boxA, AV.cells, AV.isCell]; exact .mk) rfl rfl (by simp) (by simp [boxA, AV.cells, AV.isCell]; exact .mk) (by simp [boxA, AV.cells, AV.isCell]; exact .mk) (by simp; exact .mk) ?_
  refine run_end [1, 2, 5, 31] (by simp <;> first | omega | grind) (by simp; exact .mk) ?_
  rintro -
  refine W_cond rfl ?_ ?_
  · intro h31
    refine W_seq ?_
    refine W_reg rfl ?_
    refine run_op rfl rfl rfl (by simp [boxA, AV.cells, AV.isCell]; exact .mk) ?_
    refine run_op rfl rfl rfl (by simp [boxA, AV.cells, AV.isCell]; exact .mk) ?_
    refine run_end [4] (by simp) (by simp; exact .mk) ?_
    rintro -
    refine W_ret ?_
    refine end_ret (by simp [boxA, AV.cells, AV.isCell, Try.f5]; exact .mk) (by simp [boxA, AV.cells, AV.isCell, cl, cls]; exact .mk) ?_ (by simp [boxA, AV.cells, AV.isCell, D.noSn])
    first | (simp [nrmR, nrmRs, nrmK, kindsOf, kinds, Try.f5]; done) | simp [nrmR, nrmRs, nrmK, kindsOf, kinds, Try.f5, hze]
  · intro h31
    have hA : fewS a = true ∧ (1 ≤ n ∧ n ≤ 2048) ∧ rightS a = true := by
      cases hq1 : fewS a <;> cases hq2 : rightS a <;> simp [hq1, hq2] at h31 ⊢ <;> omega
    obtain ⟨hFw, hn, hR⟩ := hA
    have hlen := (few_len hFw).2.1
    refine W_skip ?_
    rintro -
    refine W_seq ?_
    refine W_reg rfl ?_
    refine run_op rfl rfl rfl (by simp [boxA, AV.cells, AV.isCell]; exact .mk) ?_
    refine run_end [1, 2, 5, 7] (by simp) (by simp; exact .mk) ?_
    rintro -
    refine W_seq ?_
    refine W_seq ?_
    refine W_reg rfl ?_
    refine run_op rfl rfl rfl (by simp [boxA, AV.cells, AV.isCell]; exact .mk) ?_
    refine run_end [1, 2, 5, 7, 8] (by simp) (by simp; exact .mk) ?_
    rintro -
    refine W_block ?_
    refine W_rounds (fun m σ r => ∃ (i : Nat) (last : Int) (y : Abs), m = a.gens.length + 1 - i ∧ i ≤ a.gens.length + 1 ∧ y.gens.length = a.gens.length ∧ Fill y last i ∧ σ = slots [(1, .d (vI n)), (2, .ptr 0 0 0), (5, .d (.v (.bool true))), (7, .d (vI last)), (8, .d (vI i))] ∧ (r = [.var 26 [.d (rI y.gens), .d (rBB y.data), .d (rR y.roots)]] ∨ r = [.var 26 [.hdr 1 0 y.gens.length, .hdr 2 0 y.data.length, .hdr 3 0 y.roots.length], .row 1 (y.gens.map vI), .row 1 (y.data.map oB), .row 3 (y.roots.map eRoot)])) (a.gens.length + 1) .refl ⟨0, -1, a, by omega, by omega, rfl, ⟨hR, by omega, by have := (rightS_iff.1 hR).1; omega, by omega, fun j hj => by omega⟩, rfl, .inl rfl⟩ ?_
    rintro m σ r ⟨i, last, y, rfl, hi, hyl, hF5, rfl, rfl | rfl⟩ _
    · skip
      have hyd := (rightS_iff.1 hF5.right).1.1
      have hylen : y.gens.length ≤ 60 := by omega
      refine W_seq ?_
      refine W_seq ?_
      refine W_reg rfl ?_
      refine run_op rfl rfl rfl (by simp [boxA, AV.cells, AV.isCell]; exact .mk) ?_
      refine run_op rfl rfl rfl (by simp [boxA, AV.cells, AV.isCell]; exact .mk) ?_
      refine run_op rfl rfl rfl (by simp [boxA, AV.cells, AV.isCell]; exact .mk) ?_
      refine run_op rfl rfl rfl (by simp [boxA, AV.cells, AV.isCell]; exact .mk) ?_
      refine run_op rfl rfl rfl (by simp [boxA, AV.cells, AV.isCell, eqA, eqFs, isStructTy, eqlNeq, strOp, isBoolTy, isPtrTy, isFnTy]; exact .mk) ?_
      refine run_end [1, 2, 5, 7, 8, 37] (by simp) (by simp; exact .mk) ?_
      rintro -
      refine W_cond rfl ?_ ?_
      · intro h37
        have hi2 : i ≤ a.gens.length := by simp [hyl] at h37; omega
        refine W_skip ?_
        rintro -
        refine W_seq ?_
        refine W_block ?_
        refine W_seq ?_
        refine W_reg rfl ?_
        refine run_op rfl rfl rfl (by simp [boxA, AV.cells, AV.isCell]; exact .mk) ?_
        refine run_end [1, 2, 5, 7, 8, 9] (by simp) (by simp; exact .mk) ?_
        rintro -
        refine W_seq ?_
        refine W_seq ?_
        refine W_reg rfl ?_
        refine run_op rfl rfl rfl (by simp [boxA, AV.cells, AV.isCell]; exact .mk) ?_
        refine run_op rfl rfl rfl (by simp [boxA, AV.cells, AV.isCell]; exact .mk) ?_
        refine run_op rfl rfl rfl (by simp [boxA, AV.cells, AV.isCell]; exact .mk) ?_
        refine run_op rfl rfl rfl (by simp [boxA, AV.cells, AV.isCell, eqA, eqFs, isStructTy, eqlNeq, strOp, isBoolTy, isPtrTy, isFnTy]; exact .mk) ?_
        refine run_op rfl rfl rfl (by simp [boxA, AV.cells, AV.isCell]; exact .mk) ?_
        refine run_end [1, 2, 5, 7, 8, 9, 10] (by simp) (by simp; exact .mk) ?_
        rintro -
        refine W_block ?_
        refine W_rounds (fun m σ r => ∃ (k v : Int), m = (k + 1).toNat ∧ -1 ≤ k ∧ k < y.gens.length ∧ Seen1 y k v ∧ σ = slots [(1, .d (vI n)), (2, .ptr 0 0 0), (5, .d (.v (.bool true))), (7, .d (vI last)), (8, .d (vI i)), (9, .d (vI v)), (10, .d (vI k))] ∧ r = [.var 26 [.d (rI y.gens), .d (rBB y.data), .d (rR y.roots)]]) y.gens.length .refl ⟨(y.gens.length : Int) - 1, -1, by omega, by omega, by omega, seen1_start y, ?_, rfl⟩ ?_
        · rw [wrap64 (by omega) (by omega)]; try rfl
        rintro m σ r ⟨k, v, rfl, hk1, hk2, hS, rfl, rfl⟩ _
        refine W_seq ?_
        refine W_seq ?_
        refine W_reg rfl ?_
        refine run_op rfl rfl rfl (by simp [boxA, AV.cells, AV.isCell]; exact .mk) ?_
        refine run_op rfl rfl rfl (by simp [boxA, AV.cells, AV.isCell, eqA, eqFs, isStructTy, eqlNeq, strOp, isBoolTy, isPtrTy, isFnTy]; exact .mk) ?_
        refine run_end [1, 2, 5, 7, 8, 9, 10, 45] (by simp) (by simp; exact .mk) ?_
        rintro -
        refine W_cond rfl ?_ ?_
        · intro h45
          obtain ⟨k, rfl⟩ : ∃ q : Nat, k = q := ⟨k.toNat, by simp at h45; omega⟩
          have hk3 : k < y.gens.length := by omega
          have hk4 : k < y.data.length := by omega
          refine W_skip ?_
          rintro -
          refine W_seq ?_
          refine W_block ?_
          refine W_seq ?_
          refine W_reg rfl ?_
          refine run_op rfl rfl rfl (by simp [boxA, AV.cells, AV.isCell]; exact .mk) ?_
          refine run_op rfl rfl rfl (by simp [boxA, AV.cells, AV.isCell]; exact .mk) ?_
          refine run_op rfl rfl rfl (by simp [boxA, AV.cells, AV.isCell]; exact .mk) ?_
          refine run_op rfl rfl rfl (by simp [boxA, AV.cells, AV.isCell, hk4]; exact .mk) ?_
          refine run_op rfl rfl rfl (by simp [boxA, AV.cells, AV.isCell, -List.getElem?_map, map_get hk4]; exact .mk) ?_
          refine run_op rfl rfl rfl (by simp [boxA, AV.cells, AV.isCell]; exact .mk) ?_
          refine run_op rfl rfl rfl (by simp [boxA, AV.cells, AV.isCell, eqA, eqFs, isStructTy, eqlNeq, strOp, isBoolTy, isPtrTy, isFnTy]; exact .mk) ?_
          refine run_op rfl rfl rfl (by simp [boxA, AV.cells, AV.isCell]; exact .mk) ?_
          refine run_if rfl (by simp [boxA, AV.cells, AV.isCell]; exact .mk) rfl (by simp <;> first | omega | grind) (fun hb => by simp [boxA, AV.cells, AV.isCell]; exact .mk) ?_
          refine run_if rfl (by simp [boxA, AV.cells, AV.isCell]; exact .mk) rfl (by simp <;> first | omega | grind) (fun hb => by simp [boxA, AV.cells, AV.isCell]; exact .mk) ?_
          refine run_if rfl (by simp [boxA, AV.cells, AV.isCell]; exact .mk) rfl (by simp <;> first | omega | grind) (fun hb => by simp [boxA, AV.cells, AV.isCell]; exact .mk) ?_
          refine run_if rfl (by simp [boxA, AV.cells, AV.isCell]; exact .mk) rfl (by simp <;> first | omega | grind) (fun hb => by simp [boxA, AV.cells, AV.isCell, hk3]; exact .mk) ?_
          refine run_if rfl (by simp [boxA, AV.cells, AV.isCell]; exact .mk) rfl (by simp <;> first | omega | grind) (fun hb => by simp [boxA, AV.cells, AV.isCell, -List.getElem?_map, map_get hk3]; exact .mk) ?_
          refine run_if rfl (by simp [boxA, AV.cells, AV.isCell]; exact .mk) rfl (by simp <;> first | omega | grind) (fun hb => by simp [boxA, AV.cells, AV.isCell, eqA, eqFs, isStructTy, eqlNeq, strOp, isBoolTy, isPtrTy, isFnTy]; exact .mk) ?_
          refine run_pick rfl (by simp [boxA, AV.cells, AV.isCell]; exact .mk) rfl rfl (by simp) (by simp [boxA, AV.cells, AV.isCell]; exact .mk) (by simp [boxA, AV.cells, AV.isCell]; exact .mk) (by simp; exact .mk) ?_
          refine run_end [1, 2, 5, 7, 8, 9, 10, 62] (by simp <;> first | omega | grind) (by simp; exact .mk) ?_
          rintro -
          refine W_cond rfl ?_ ?_
          · intro h62
            have hopen : openS y k = true := by simp [openS] at *; exact h62
            refine W_reg rfl ?_
            refine run_op rfl rfl rfl (by simp [boxA, AV.cells, AV.isCell]; exact .mk) ?_
            refine run_op rfl rfl rfl (by simp [boxA, AV.cells, AV.isCell]; exact .mk) ?_
            refine run_end [1, 2, 5, 7, 8, 9, 10] (by simp) (by simp; exact .mk) ?_
            rintro -
            refine W_reg rfl ?_
            refine run_op rfl rfl rfl (by simp [boxA, AV.cells, AV.isCell]; exact .mk) ?_
            refine run_op rfl rfl rfl (by simp [boxA, AV.cells, AV.isCell, eqA, eqFs, isStructTy, eqlNeq, strOp, isBoolTy, isPtrTy, isFnTy]; exact .mk) ?_
            refine run_op rfl rfl rfl (by simp [boxA, AV.cells, AV.isCell]; exact .mk) ?_
            refine run_end [1, 2, 5, 7, 8, 9, 10] (by simp) (by simp; exact .mk) ?_
            refine rounds_kill [1, 2, 5, 7, 8, 9, 10] ?_
            first
            | (refine rounds_next (m' := k) (by omega) ⟨(k : Int) - 1, k, by omega, by omega, by omega, by have := seen1_open (by omega) hS hopen; exact this, ?_, rfl⟩
               rw [wrap64 (by omega) (by omega)]; rfl)
            | (refine rounds_next (m' := k) (by omega) ⟨(k : Int) - 1, v, by omega, by omega, by omega, seen1_shut hS hopen, ?_, rfl⟩
               rw [wrap64 (by omega) (by omega)]; rfl)
          · intro h62
            have hopen : openS y k = false := by simp [openS] at *; exact h62
            refine W_skip ?_
            rintro -
            refine W_reg rfl ?_
            refine run_op rfl rfl rfl (by simp [boxA, AV.cells, AV.isCell]; exact .mk) ?_
            refine run_op rfl rfl rfl (by simp [boxA, AV.cells, AV.isCell, eqA, eqFs, isStructTy, eqlNeq, strOp, isBoolTy, isPtrTy, isFnTy]; exact .mk) ?_
            refine run_op rfl rfl rfl (by simp [boxA, AV.cells, AV.isCell]; exact .mk) ?_
            refine run_end [1, 2, 5, 7, 8, 9, 10] (by simp) (by simp; exact .mk) ?_
            refine rounds_kill [1, 2, 5, 7, 8, 9, 10] ?_
            first
            | (refine rounds_next (m' := k) (by omega) ⟨(k : Int) - 1, k, by omega, by omega, by omega, by have := seen1_open (by omega) hS hopen; exact this, ?_, rfl⟩
               rw [wrap64 (by omega) (by omega)]; rfl)
            | (refine rounds_next (m' := k) (by omega) ⟨(k : Int) - 1, v, by omega, by omega, by omega, seen1_shut hS hopen, ?_, rfl⟩
               rw [wrap64 (by omega) (by omega)]; rfl)
        · intro h45
          have hend := seen1_end (by simp at h45; omega) hS
          obtain ⟨z, hz⟩ : ∃ z, z = doS y (opA n) := ⟨_, rfl⟩
          refine W_exit ?_
          rintro -
          refine W_seq ?_
          refine W_reg rfl ?_
          refine run_op rfl rfl rfl (by simp [boxA, AV.cells, AV.isCell]; exact .mk) ?_
          refine run_op rfl rfl rfl (by simp [boxA, AV.cells, AV.isCell]; exact .mk) ?_
          refine run_op rfl rfl rfl (by simp [boxA, AV.cells, AV.isCell, buildA, fillA, placesOf, splice, Value.oneCell', AV.cells, AV.isCell]; exact .mk) ?_
          refine run_call0 rfl rfl rfl rfl (by simp [boxA, AV.cells, AV.isCell, calleeA]; exact .mk) (by simp [boxA, AV.cells, AV.isCell, kindsOf, kinds, expAs, expA, row_rows, Function.comp_def]; exact .mk) (by have hc := ct16 g y (opA n) (right_ok hF5.right) (Nat.zero_le _) (Nat.zero_le _); rw [← hz] at hc; exact hc) (by simp [boxA, AV.cells, AV.isCell, D.noRo]) (by simp [boxA, AV.cells, AV.isCell, impA, impAs, oAbs]; exact .mk) ?_
          refine run_op rfl rfl rfl (by simp [boxA, AV.cells, AV.isCell]; exact .mk) ?_
          refine run_op rfl rfl rfl (by simp [boxA, AV.cells, AV.isCell]; exact .mk) ?_
          refine run_op rfl rfl rfl (by simp [boxA, AV.cells, AV.isCell]; exact .mk) ?_
          refine run_op rfl rfl rfl (by simp [boxA, AV.cells, AV.isCell]; exact .mk) ?_
          refine run_op rfl rfl rfl (by simp [boxA, AV.cells, AV.isCell, allocA, Value.oneCell']; exact .mk) ?_
          refine run_op rfl rfl rfl (by simp [boxA, AV.cells, AV.isCell, allocA, Value.oneCell']; exact .mk) ?_
          refine run_op rfl rfl rfl (by simp [boxA, AV.cells, AV.isCell, storeA, AV.cells, AV.isCell, splice]; exact .mk) ?_
          refine run_op rfl rfl rfl (by simp [boxA, AV.cells, AV.isCell, storeA, AV.cells, AV.isCell, splice]; exact .mk) ?_
          refine run_op rfl rfl rfl (by simp [boxA, AV.cells, AV.isCell]; exact .mk) ?_
          refine run_end [1, 2, 5, 7, 8, 9, 11, 12, 13] (by simp) (by simp; exact .mk) ?_
          rintro -
          refine W_seq ?_
          refine W_seq ?_
          refine W_reg rfl ?_
          refine run_op rfl rfl rfl (by simp [boxA, AV.cells, AV.isCell]; exact .mk) ?_
          refine run_op rfl rfl rfl (by simp [boxA, AV.cells, AV.isCell, eqA, eqFs, isStructTy, eqlNeq, strOp, isBoolTy, isPtrTy, isFnTy]; exact .mk) ?_
          refine run_end [1, 2, 5, 7, 8, 9, 11, 12, 13, 73] (by simp) (by simp; exact .mk) ?_
          rintro -
          refine W_cond rfl ?_ ?_
          · intro h73
            have hze : z.e = 9 := by
              rcases hend with ⟨_, h⟩ | ⟨q, h, _⟩
              · rw [hz]; exact fill_none hF5.right hn h
              · simp at h73; omega
            refine W_seq ?_
            refine W_reg rfl ?_
            refine run_op rfl rfl rfl (by simp [boxA, AV.cells, AV.isCell]; exact .mk) ?_
            refine run_op rfl rfl rfl (by simp [boxA, AV.cells, AV.isCell]; exact .mk) ?_
            refine run_if rfl (by simp [boxA, AV.cells, AV.isCell]; exact .mk) rfl (by simp <;> first | omega | grind) (fun hb => by simp [boxA, AV.cells, AV.isCell]; exact .mk) ?_
            refine run_if rfl (by simp [boxA, AV.cells, AV.isCell]; exact .mk) rfl (by simp <;> first | omega | grind) (fun hb => by simp [boxA, AV.cells, AV.isCell, eqA, eqFs, isStructTy, eqlNeq, strOp, isBoolTy, isPtrTy, isFnTy]; exact .mk) ?_
            refine run_pick rfl (by simp [boxA, AV.cells, AV.isCell]; exact .mk) rfl rfl (by simp) (by simp [boxA, AV.cells, AV.isCell]; exact .mk) (by simp [boxA, AV.cells, AV.isCell]; exact .mk) (by simp; exact .mk) ?_
            refine run_op1 rfl rfl rfl (by simp <;> first | omega | grind) (by simp [boxA, AV.cells, AV.isCell]; exact .mk) ?_
            refine run_end [4] (by simp <;> first | omega | grind) (by simp; exact .mk) ?_
            rintro -
            refine W_ret ?_
            refine end_ret (by simp [boxA, AV.cells, AV.isCell, Try.f5]; exact .mk) (by simp [boxA, AV.cells, AV.isCell, cl, cls]; exact .mk) ?_ (by simp [boxA, AV.cells, AV.isCell, D.noSn])
            first | (simp [nrmR, nrmRs, nrmK, kindsOf, kinds, Try.f5]; done) | simp [nrmR, nrmRs, nrmK, kindsOf, kinds, Try.f5, hze]
          · intro h73
            obtain ⟨p, rfl, hp⟩ : ∃ p : Nat, v = p ∧ allocIx y = some p := by
              rcases hend with ⟨h, _⟩ | h
              · simp at h73; omega
              · exact h
            have hzx := fill_some hF5.right hn hp
            rw [← hz] at hzx
            obtain ⟨hlt, hNx⟩ := fill_next hF5 hn hp
            have hpx := allocIx_spec hp
            have hp3 : p < y.gens.length := hpx.1
            have hp4 : p < y.data.length := by omega
            have hze : z.e = 0 := by rw [hzx]
            have hzi : z.ix = p := by rw [hzx]
            have hzg : z.gen = nth y.gens p := by rw [hzx]
            have hzl : z.a.data.length = y.data.length := by rw [hzx]; simp
            have hzgl : z.a.gens.length = y.gens.length := by rw [hzx]
            have hzp : ((nth z.a.data p).length : Int) = n := by rw [hzx]; simp only; rw [nth_set hp4, if_pos rfl]; simp; omega
            have hp5 : p < z.a.data.length := by omega
            have hNz : Fill z.a p (i + 1) := by rw [hzx]; exact hNx
            refine W_skip ?_
            rintro -
            refine W_seq ?_
            refine W_seq ?_
            refine W_regD (by kernel_rfl) [] 4 [0, 1, 2, 3, 4, 5, 6, 7, 8, 9, 10, 11, 12, 13, 14, 15, 16, 17, 18, 19, 20, 21, 22, 23, 24, 25, 26, 27, 28, 29, 30, 31, 32, 33, 34, 35, 36, 37, 38, 39, 40, 41, 42, 43, 44, 45, 46, 47, 48, 49, 50, 51, 52] (by decide +kernel) ?_
            refine run_op rfl rfl rfl (by simp [boxA, AV.cells, AV.isCell]; exact .mk) ?_
            refine run_op rfl rfl rfl (by simp [boxA, AV.cells, AV.isCell, eqA, eqFs, isStructTy, eqlNeq, strOp, isBoolTy, isPtrTy, isFnTy]; exact .mk) ?_
            refine run_op rfl rfl rfl (by simp [boxA, AV.cells, AV.isCell]; exact .mk) ?_
            refine run_if rfl (by simp [boxA, AV.cells, AV.isCell]; exact .mk) rfl (by simp <;> first | omega | grind) (fun hb => by simp [boxA, AV.cells, AV.isCell]; exact .mk) ?_
            refine run_if rfl (by simp [boxA, AV.cells, AV.isCell]; exact .mk) rfl (by simp <;> first | omega | grind) (fun hb => by simp [boxA, AV.cells, AV.isCell]; exact .mk) ?_
            refine run_if rfl (by simp [boxA, AV.cells, AV.isCell]; exact .mk) rfl (by simp <;> first | omega | grind) (fun hb => by simp [boxA, AV.cells, AV.isCell]; exact .mk) ?_
            refine run_if rfl (by simp [boxA, AV.cells, AV.isCell]; exact .mk) rfl (by simp <;> first | omega | grind) (fun hb => by simp [boxA, AV.cells, AV.isCell]; exact .mk) ?_
            refine run_if rfl (by simp [boxA, AV.cells, AV.isCell]; exact .mk) rfl (by simp <;> first | omega | grind) (fun hb => by simp [boxA, AV.cells, AV.isCell, eqA, eqFs, isStructTy, eqlNeq, strOp, isBoolTy, isPtrTy, isFnTy]; exact .mk) ?_
            refine run_pick rfl (by simp [boxA, AV.cells, AV.isCell]; exact .mk) rfl rfl (by simp) (by simp [boxA, AV.cells, AV.isCell]; exact .mk) (by simp [boxA, AV.cells, AV.isCell]; exact .mk) (by simp; exact .mk) ?_
            refine run_op1 rfl rfl rfl (by simp <;> first | omega | grind) (by simp [boxA, AV.cells, AV.isCell]; exact .mk) ?_
            refine run_if rfl (by simp [boxA, AV.cells, AV.isCell]; exact .mk) rfl (by simp <;> first | omega | grind) (fun hb => by simp [boxA, AV.cells, AV.isCell]; exact .mk) ?_
            refine run_if rfl (by simp [boxA, AV.cells, AV.isCell]; exact .mk) rfl (by simp <;> first | omega | grind) (fun hb => by simp [boxA, AV.cells, AV.isCell]; exact .mk) ?_
            refine run_if rfl (by simp [boxA, AV.cells, AV.isCell]; exact .mk) rfl (by simp <;> first | omega | grind) (fun hb => by simp [boxA, AV.cells, AV.isCell, eqA, eqFs, isStructTy, eqlNeq, strOp, isBoolTy, isPtrTy, isFnTy]; exact .mk) ?_
            refine run_pick rfl (by simp [boxA, AV.cells, AV.isCell]; exact .mk) rfl rfl (by simp) (by simp [boxA, AV.cells, AV.isCell]; exact .mk) (by simp [boxA, AV.cells, AV.isCell]; exact .mk) (by simp; exact .mk) ?_
            refine run_op1 rfl rfl rfl (by simp <;> first | omega | grind) (by simp [boxA, AV.cells, AV.isCell]; exact .mk) ?_
            refine run_if rfl (by simp [boxA, AV.cells, AV.isCell]; exact .mk) rfl (by simp <;> first | omega | grind) (fun hb => by simp [boxA, AV.cells, AV.isCell]; exact .mk) ?_
            refine run_if rfl (by simp [boxA, AV.cells, AV.isCell]; exact .mk) rfl (by simp <;> first | omega | grind) (fun hb => by simp [boxA, AV.cells, AV.isCell]; exact .mk) ?_
            refine run_if rfl (by simp [boxA, AV.cells, AV.isCell]; exact .mk) rfl (by simp <;> first | omega | grind) (fun hb => by simp [boxA, AV.cells, AV.isCell]; exact .mk) ?_
            refine run_if rfl (by simp [boxA, AV.cells, AV.isCell]; exact .mk) rfl (by simp <;> first | omega | grind) (fun hb => by simp [boxA, AV.cells, AV.isCell]; exact .mk) ?_
            refine run_if rfl (by simp [boxA, AV.cells, AV.isCell]; exact .mk) rfl (by simp <;> first | omega | grind) (fun hb => by simp [boxA, AV.cells, AV.isCell]; exact .mk) ?_
            refine run_if rfl (by simp [boxA, AV.cells, AV.isCell]; exact .mk) rfl (by simp <;> first | omega | grind) (fun hb => by simp [boxA, AV.cells, AV.isCell]; exact .mk) ?_
            refine run_if rfl (by simp [boxA, AV.cells, AV.isCell]; exact .mk) rfl (by simp <;> first | omega | grind) (fun hb => by simp [boxA, AV.cells, AV.isCell, hp3]; exact .mk) ?_
            refine run_if rfl (by simp [boxA, AV.cells, AV.isCell]; exact .mk) rfl (by simp <;> first | omega | grind) (fun hb => by simp [boxA, AV.cells, AV.isCell, -List.getElem?_map, map_get hp3]; exact .mk) ?_
            refine run_if rfl (by simp [boxA, AV.cells, AV.isCell]; exact .mk) rfl (by simp <;> first | omega | grind) (fun hb => by simp [boxA, AV.cells, AV.isCell, eqA, eqFs, isStructTy, eqlNeq, strOp, isBoolTy, isPtrTy, isFnTy]; exact .mk) ?_
            refine run_pick rfl (by simp [boxA, AV.cells, AV.isCell]; exact .mk) rfl rfl (by simp) (by simp [boxA, AV.cells, AV.isCell]; exact .mk) (by simp [boxA, AV.cells, AV.isCell]; exact .mk) (by simp; exact .mk) ?_
            refine run_op1 rfl rfl rfl (by simp <;> first | omega | grind) (by simp [boxA, AV.cells, AV.isCell]; exact .mk) ?_
            refine run_if rfl (by simp [boxA, AV.cells, AV.isCell]; exact .mk) rfl (by simp <;> first | omega | grind) (fun hb => by simp [boxA, AV.cells, AV.isCell]; exact .mk) ?_
            refine run_if rfl (by simp [boxA, AV.cells, AV.isCell]; exact .mk) rfl (by simp <;> first | omega | grind) (fun hb => by simp [boxA, AV.cells, AV.isCell]; exact .mk) ?_
            refine run_if rfl (by simp [boxA, AV.cells, AV.isCell]; exact .mk) rfl (by simp <;> first | omega | grind) (fun hb => by simp [boxA, AV.cells, AV.isCell]; exact .mk) ?_
            refine run_if rfl (by simp [boxA, AV.cells, AV.isCell]; exact .mk) rfl (by simp <;> first | omega | grind) (fun hb => by simp [boxA, AV.cells, AV.isCell]; exact .mk) ?_
            refine run_if rfl (by simp [boxA, AV.cells, AV.isCell]; exact .mk) rfl (by simp <;> first | omega | grind) (fun hb => by simp [boxA, AV.cells, AV.isCell]; exact .mk) ?_
            refine run_if rfl (by simp [boxA, AV.cells, AV.isCell]; exact .mk) rfl (by simp <;> first | omega | grind) (fun hb => by simp [boxA, AV.cells, AV.isCell]; exact .mk) ?_
            refine run_if rfl (by simp [boxA, AV.cells, AV.isCell]; exact .mk) rfl (by simp <;> first | omega | grind) (fun hb => by simp [boxA, AV.cells, AV.isCell, eqA, eqFs, isStructTy, eqlNeq, strOp, isBoolTy, isPtrTy, isFnTy]; exact .mk) ?_
            refine run_pick rfl (by simp [boxA, AV.cells, AV.isCell]; exact .mk) rfl rfl (by simp) (by simp [boxA, AV.cells, AV.isCell]; exact .mk) (by simp [boxA, AV.cells, AV.isCell]; exact .mk) (by simp; exact .mk) ?_
            refine run_op1 rfl rfl rfl (by simp <;> first | omega | grind) (by simp [boxA, AV.cells, AV.isCell]; exact .mk) ?_
            refine run_if rfl (by simp [boxA, AV.cells, AV.isCell]; exact .mk) rfl (by simp <;> first | omega | grind) (fun hb => by simp [boxA, AV.cells, AV.isCell]; exact .mk) ?_
            refine run_if rfl (by simp [boxA, AV.cells, AV.isCell]; exact .mk) rfl (by simp <;> first | omega | grind) (fun hb => by simp [boxA, AV.cells, AV.isCell]; exact .mk) ?_
            refine run_if rfl (by simp [boxA, AV.cells, AV.isCell]; exact .mk) rfl (by simp <;> first | omega | grind) (fun hb => by simp [boxA, AV.cells, AV.isCell]; exact .mk) ?_
            refine run_if rfl (by simp [boxA, AV.cells, AV.isCell]; exact .mk) rfl (by simp <;> first | omega | grind) (fun hb => by simp [boxA, AV.cells, AV.isCell]; exact .mk) ?_
            refine run_if rfl (by simp [boxA, AV.cells, AV.isCell]; exact .mk) rfl (by simp <;> first | omega | grind) (fun hb => by simp [boxA, AV.cells, AV.isCell]; exact .mk) ?_
            refine run_if rfl (by simp [boxA, AV.cells, AV.isCell]; exact .mk) rfl (by simp <;> first | omega | grind) (fun hb => by simp [boxA, AV.cells, AV.isCell]; exact .mk) ?_
            refine run_if rfl (by simp [boxA, AV.cells, AV.isCell]; exact .mk) rfl (by simp <;> first | omega | grind) (fun hb => by simp [boxA, AV.cells, AV.isCell, eqA, eqFs, isStructTy, eqlNeq, strOp, isBoolTy, isPtrTy, isFnTy]; exact .mk) ?_
            refine run_pick rfl (by simp [boxA, AV.cells, AV.isCell]; exact .mk) rfl rfl (by simp) (by simp [boxA, AV.cells, AV.isCell]; exact .mk) (by simp [boxA, AV.cells, AV.isCell]; exact .mk) (by simp; exact .mk) ?_
            refine run_op1 rfl rfl rfl (by simp <;> first | omega | grind) (by simp [boxA, AV.cells, AV.isCell]; exact .mk) ?_
            refine run_if rfl (by simp [boxA, AV.cells, AV.isCell]; exact .mk) rfl (by simp <;> first | omega | grind) (fun hb => by simp [boxA, AV.cells, AV.isCell]; exact .mk) ?_
            refine run_if rfl (by simp [boxA, AV.cells, AV.isCell]; exact .mk) rfl (by simp <;> first | omega | grind) (fun hb => by simp [boxA, AV.cells, AV.isCell]; exact .mk) ?_
            refine run_if rfl (by simp [boxA, AV.cells, AV.isCell]; exact .mk) rfl (by simp <;> first | omega | grind) (fun hb => by simp [boxA, AV.cells, AV.isCell]; exact .mk) ?_
            refine run_if rfl (by simp [boxA, AV.cells, AV.isCell]; exact .mk) rfl (by simp <;> first | omega | grind) (fun hb => by simp [boxA, AV.cells, AV.isCell, hp5]; exact .mk) ?_
            refine run_if rfl (by simp [boxA, AV.cells, AV.isCell]; exact .mk) rfl (by simp <;> first | omega | grind) (fun hb => by simp [boxA, AV.cells, AV.isCell, -List.getElem?_map, map_get hp5]; exact .mk) ?_
            refine run_if rfl (by simp [boxA, AV.cells, AV.isCell]; exact .mk) rfl (by simp <;> first | omega | grind) (fun hb => by simp [boxA, AV.cells, AV.isCell]; exact .mk) ?_
            refine run_if rfl (by simp [boxA, AV.cells, AV.isCell]; exact .mk) rfl (by simp <;> first | omega | grind) (fun hb => by simp [boxA, AV.cells, AV.isCell]; exact .mk) ?_
            refine run_if rfl (by simp [boxA, AV.cells, AV.isCell]; exact .mk) rfl (by simp <;> first | omega | grind) (fun hb => by simp [boxA, AV.cells, AV.isCell, eqA, eqFs, isStructTy, eqlNeq, strOp, isBoolTy, isPtrTy, isFnTy]; exact .mk) ?_
            refine run_pick rfl (by simp [boxA, AV.cells, AV.isCell]; exact .mk) rfl rfl (by simp) (by simp [boxA, AV.cells, AV.isCell]; exact .mk) (by simp [boxA, AV.cells, AV.isCell]; exact .mk) (by simp; exact .mk) ?_
            refine run_end [1, 2, 5, 8, 9, 11, 131] (by simp <;> first | omega | grind) (by simp; exact .mk) ?_
            rintro -
            refine W_cond rfl ?_ ?_
            · intro h131
              exfalso; simp [hze, hzi, hzg, hzl, hzgl, hzp] at h131; omega
            · intro h131
              refine W_skip ?_
              rintro -
              refine W_seq ?_
              refine W_reg rfl ?_
              refine run_op rfl rfl rfl (by simp [boxA, AV.cells, AV.isCell]; exact .mk) ?_
              refine run_op rfl rfl rfl (by simp [boxA, AV.cells, AV.isCell]; exact .mk) ?_
              refine run_end [1, 2, 5, 7, 8, 11] (by simp) (by simp; exact .mk) ?_
              rintro -
              refine W_reg rfl ?_
              refine run_op rfl rfl rfl (by simp [boxA, AV.cells, AV.isCell]; exact .mk) ?_
              refine run_op rfl rfl rfl (by simp [boxA, AV.cells, AV.isCell, storeA, AV.cells, AV.isCell, splice]; exact .mk) ?_
              refine run_end [1, 2, 5, 7, 8] (by simp) (by simp; exact .mk) ?_
              rintro -
              refine W_reg rfl ?_
              refine run_op rfl rfl rfl (by simp [boxA, AV.cells, AV.isCell]; exact .mk) ?_
              refine run_op rfl rfl rfl (by simp [boxA, AV.cells, AV.isCell, eqA, eqFs, isStructTy, eqlNeq, strOp, isBoolTy, isPtrTy, isFnTy]; exact .mk) ?_
              refine run_op rfl rfl rfl (by simp [boxA, AV.cells, AV.isCell]; exact .mk) ?_
              refine run_end [1, 2, 5, 7, 8] (by simp) (by simp; exact .mk) ?_
              refine rounds_kill [1, 2, 5, 7, 8] ?_
              refine rounds_drop 4 [1, 2, 5, 7, 8] (by decide) (by rfl) (by rfl) ?_
              refine rounds_next (m' := a.gens.length + 1 - (i+1)) (by omega) ⟨i+1, p, z.a, rfl, by omega, by omega, hNz, ?_, .inr rfl⟩
              rw [wrap64 (by omega) (by omega)]; rfl
      · intro h37
        exfalso; simp [hyl] at h37; have h1 := hF5.low; have h2 := hF5.high; omega
    · skip
      have hyd := (rightS_iff.1 hF5.right).1.1
      have hylen : y.gens.length ≤ 60 := by omega
      refine W_seq ?_
      refine W_seq ?_
      refine W_reg rfl ?_
      refine run_op rfl rfl rfl (by simp [boxA, AV.cells, AV.isCell]; exact .mk) ?_
      refine run_op rfl rfl rfl (by simp [boxA, AV.cells, AV.isCell]; exact .mk) ?_
      refine run_op rfl rfl rfl (by simp [boxA, AV.cells, AV.isCell]; exact .mk) ?_
      refine run_op rfl rfl rfl (by simp [boxA, AV.cells, AV.isCell]; exact .mk) ?_
      refine run_op rfl rfl rfl (by simp [boxA, AV.cells, AV.isCell, eqA, eqFs, isStructTy, eqlNeq, strOp, isBoolTy, isPtrTy, isFnTy]; exact .mk) ?_
      refine run_end [1, 2, 5, 7, 8, 37] (by simp) (by simp; exact .mk) ?_
      rintro -
      refine W_cond rfl ?_ ?_
      · intro h37
        have hi2 : i ≤ a.gens.length := by simp [hyl] at h37; omega
        refine W_skip ?_
        rintro -
        refine W_seq ?_
        refine W_block ?_
        refine W_seq ?_
        refine W_reg rfl ?_
        refine run_op rfl rfl rfl (by simp [boxA, AV.cells, AV.isCell]; exact .mk) ?_
        refine run_end [1, 2, 5, 7, 8, 9] (by simp) (by simp; exact .mk) ?_
        rintro -
        refine W_seq ?_
        refine W_seq ?_
        refine W_reg rfl ?_
        refine run_op rfl rfl rfl (by simp [boxA, AV.cells, AV.isCell]; exact .mk) ?_
        refine run_op rfl rfl rfl (by simp [boxA, AV.cells, AV.isCell]; exact .mk) ?_
        refine run_op rfl rfl rfl (by simp [boxA, AV.cells, AV.isCell]; exact .mk) ?_
        refine run_op rfl rfl rfl (by simp [boxA, AV.cells, AV.isCell, eqA, eqFs, isStructTy, eqlNeq, strOp, isBoolTy, isPtrTy, isFnTy]; exact .mk) ?_
        refine run_op rfl rfl rfl (by simp [boxA, AV.cells, AV.isCell]; exact .mk) ?_
        refine run_end [1, 2, 5, 7, 8, 9, 10] (by simp) (by simp; exact .mk) ?_
        rintro -
        refine W_block ?_
        refine W_rounds (fun m σ r => ∃ (k v : Int), m = (k + 1).toNat ∧ -1 ≤ k ∧ k < y.gens.length ∧ Seen1 y k v ∧ σ = slots [(1, .d (vI n)), (2, .ptr 0 0 0), (5, .d (.v (.bool true))), (7, .d (vI last)), (8, .d (vI i)), (9, .d (vI v)), (10, .d (vI k))] ∧ r = [.var 26 [.hdr 1 0 y.gens.length, .hdr 2 0 y.data.length, .hdr 3 0 y.roots.length], .row 1 (y.gens.map vI), .row 1 (y.data.map oB), .row 3 (y.roots.map eRoot)]) y.gens.length .refl ⟨(y.gens.length : Int) - 1, -1, by omega, by omega, by omega, seen1_start y, ?_, rfl⟩ ?_
        · rw [wrap64 (by omega) (by omega)]; try rfl
        rintro m σ r ⟨k, v, rfl, hk1, hk2, hS, rfl, rfl⟩ _
        refine W_seq ?_
        refine W_seq ?_
        refine W_reg rfl ?_
        refine run_op rfl rfl rfl (by simp [boxA, AV.cells, AV.isCell]; exact .mk) ?_
        refine run_op rfl rfl rfl (by simp [boxA, AV.cells, AV.isCell, eqA, eqFs, isStructTy, eqlNeq, strOp, isBoolTy, isPtrTy, isFnTy]; exact .mk) ?_
        refine run_end [1, 2, 5, 7, 8, 9, 10, 45] (by simp) (by simp; exact .mk) ?_
        rintro -
        refine W_cond rfl ?_ ?_
        · intro h45
          obtain ⟨k, rfl⟩ : ∃ q : Nat, k = q := ⟨k.toNat, by simp at h45; omega⟩
          have hk3 : k < y.gens.length := by omega
          have hk4 : k < y.data.length := by omega
          refine W_skip ?_
          rintro -
          refine W_seq ?_
          refine W_block ?_
          refine W_seq ?_
          refine W_reg rfl ?_
          refine run_op rfl rfl rfl (by simp [boxA, AV.cells, AV.isCell]; exact .mk) ?_
          refine run_op rfl rfl rfl (by simp [boxA, AV.cells, AV.isCell]; exact .mk) ?_
          refine run_op rfl rfl rfl (by simp [boxA, AV.cells, AV.isCell]; exact .mk) ?_
          refine run_op rfl rfl rfl (by simp [boxA, AV.cells, AV.isCell, hk4]; exact .mk) ?_
          refine run_op rfl rfl rfl (by simp [boxA, AV.cells, AV.isCell, -List.getElem?_map, map_get hk4]; exact .mk) ?_
          refine run_op rfl rfl rfl (by simp [boxA, AV.cells, AV.isCell]; exact .mk) ?_
          refine run_op rfl rfl rfl (by simp [boxA, AV.cells, AV.isCell, eqA, eqFs, isStructTy, eqlNeq, strOp, isBoolTy, isPtrTy, isFnTy]; exact .mk) ?_
          refine run_op rfl rfl rfl (by simp [boxA, AV.cells, AV.isCell]; exact .mk) ?_
          refine run_if rfl (by simp [boxA, AV.cells, AV.isCell]; exact .mk) rfl (by simp <;> first | omega | grind) (fun hb => by simp [boxA, AV.cells, AV.isCell]; exact .mk) ?_
          refine run_if rfl (by simp [boxA, AV.cells, AV.isCell]; exact .mk) rfl (by simp <;> first | omega | grind) (fun hb => by simp [boxA, AV.cells, AV.isCell]; exact .mk) ?_
          refine run_if rfl (by simp [boxA, AV.cells, AV.isCell]; exact .mk) rfl (by simp <;> first | omega | grind) (fun hb => by simp [boxA, AV.cells, AV.isCell]; exact .mk) ?_
          refine run_if rfl (by simp [boxA, AV.cells, AV.isCell]; exact .mk) rfl (by simp <;> first | omega | grind) (fun hb => by simp [boxA, AV.cells, AV.isCell, hk3]; exact .mk) ?_
          refine run_if rfl (by simp [boxA, AV.cells, AV.isCell]; exact .mk) rfl (by simp <;> first | omega | grind) (fun hb => by simp [boxA, AV.cells, AV.isCell, -List.getElem?_map, map_get hk3]; exact .mk) ?_
          refine run_if rfl (by simp [boxA, AV.cells, AV.isCell]; exact .mk) rfl (by simp <;> first | omega | grind) (fun hb => by simp [boxA, AV.cells, AV.isCell, eqA, eqFs, isStructTy, eqlNeq, strOp, isBoolTy, isPtrTy, isFnTy]; exact .mk) ?_
          refine run_pick rfl (by simp [boxA, AV.cells, AV.isCell]; exact .mk) rfl rfl (by simp) (by simp [boxA, AV.cells, AV.isCell]; exact .mk) (by simp [boxA, AV.cells, AV.isCell]; exact .mk) (by simp; exact .mk) ?_
          refine run_end [1, 2, 5, 7, 8, 9, 10, 62] (by simp <;> first | omega | grind) (by simp; exact .mk) ?_
          rintro -
          refine W_cond rfl ?_ ?_
          · intro h62
            have hopen : openS y k = true := by simp [openS] at *; exact h62
            refine W_reg rfl ?_
            refine run_op rfl rfl rfl (by simp [boxA, AV.cells, AV.isCell]; exact .mk) ?_
            refine run_op rfl rfl rfl (by simp [boxA, AV.cells, AV.isCell]; exact .mk) ?_
            refine run_end [1, 2, 5, 7, 8, 9, 10] (by simp) (by simp; exact .mk) ?_
            rintro -
            refine W_reg rfl ?_
            refine run_op rfl rfl rfl (by simp [boxA, AV.cells, AV.isCell]; exact .mk) ?_
            refine run_op rfl rfl rfl (by simp [boxA, AV.cells, AV.isCell, eqA, eqFs, isStructTy, eqlNeq, strOp, isBoolTy, isPtrTy, isFnTy]; exact .mk) ?_
            refine run_op rfl rfl rfl (by simp [boxA, AV.cells, AV.isCell]; exact .mk) ?_
            refine run_end [1, 2, 5, 7, 8, 9, 10] (by simp) (by simp; exact .mk) ?_
            refine rounds_kill [1, 2, 5, 7, 8, 9, 10] ?_
            first
            | (refine rounds_next (m' := k) (by omega) ⟨(k : Int) - 1, k, by omega, by omega, by omega, by have := seen1_open (by omega) hS hopen; exact this, ?_, rfl⟩
               rw [wrap64 (by omega) (by omega)]; rfl)
            | (refine rounds_next (m' := k) (by omega) ⟨(k : Int) - 1, v, by omega, by omega, by omega, seen1_shut hS hopen, ?_, rfl⟩
               rw [wrap64 (by omega) (by omega)]; rfl)
          · intro h62
            have hopen : openS y k = false := by simp [openS] at *; exact h62
            refine W_skip ?_
            rintro -
            refine W_reg rfl ?_
            refine run_op rfl rfl rfl (by simp [boxA, AV.cells, AV.isCell]; exact .mk) ?_
            refine run_op rfl rfl rfl (by simp [boxA, AV.cells, AV.isCell, eqA, eqFs, isStructTy, eqlNeq, strOp, isBoolTy, isPtrTy, isFnTy]; exact .mk) ?_
            refine run_op rfl rfl rfl (by simp [boxA, AV.cells, AV.isCell]; exact .mk) ?_
            refine run_end [1, 2, 5, 7, 8, 9, 10] (by simp) (by simp; exact .mk) ?_
            refine rounds_kill [1, 2, 5, 7, 8, 9, 10] ?_
            first
            | (refine rounds_next (m' := k) (by omega) ⟨(k : Int) - 1, k, by omega, by omega, by omega, by have := seen1_open (by omega) hS hopen; exact this, ?_, rfl⟩
               rw [wrap64 (by omega) (by omega)]; rfl)
            | (refine rounds_next (m' := k) (by omega) ⟨(k : Int) - 1, v, by omega, by omega, by omega, seen1_shut hS hopen, ?_, rfl⟩
               rw [wrap64 (by omega) (by omega)]; rfl)
        · intro h45
          have hend := seen1_end (by simp at h45; omega) hS
          obtain ⟨z, hz⟩ : ∃ z, z = doS y (opA n) := ⟨_, rfl⟩
          refine W_exit ?_
          rintro -
          refine W_seq ?_
          refine W_reg rfl ?_
          refine run_op rfl rfl rfl (by simp [boxA, AV.cells, AV.isCell]; exact .mk) ?_
          refine run_op rfl rfl rfl (by simp [boxA, AV.cells, AV.isCell]; exact .mk) ?_
          refine run_op rfl rfl rfl (by simp [boxA, AV.cells, AV.isCell, buildA, fillA, placesOf, splice, Value.oneCell', AV.cells, AV.isCell]; exact .mk) ?_
          refine run_call0 rfl rfl rfl rfl (by simp [boxA, AV.cells, AV.isCell, calleeA]; exact .mk) (by simp [boxA, AV.cells, AV.isCell, kindsOf, kinds, expAs, expA, row_rows, Function.comp_def]; exact .mk) (by have hc := ct16 g y (opA n) (right_ok hF5.right) (Nat.zero_le _) (Nat.zero_le _); rw [← hz] at hc; exact hc) (by simp [boxA, AV.cells, AV.isCell, D.noRo]) (by simp [boxA, AV.cells, AV.isCell, impA, impAs, oAbs]; exact .mk) ?_
          refine run_op rfl rfl rfl (by simp [boxA, AV.cells, AV.isCell]; exact .mk) ?_
          refine run_op rfl rfl rfl (by simp [boxA, AV.cells, AV.isCell]; exact .mk) ?_
          refine run_op rfl rfl rfl (by simp [boxA, AV.cells, AV.isCell]; exact .mk) ?_
          refine run_op rfl rfl rfl (by simp [boxA, AV.cells, AV.isCell]; exact .mk) ?_
          refine run_op rfl rfl rfl (by simp [boxA, AV.cells, AV.isCell, allocA, Value.oneCell']; exact .mk) ?_
          refine run_op rfl rfl rfl (by simp [boxA, AV.cells, AV.isCell, allocA, Value.oneCell']; exact .mk) ?_
          refine run_op rfl rfl rfl (by simp [boxA, AV.cells, AV.isCell, storeA, AV.cells, AV.isCell, splice]; exact .mk) ?_
          refine run_op rfl rfl rfl (by simp [boxA, AV.cells, AV.isCell, storeA, AV.cells, AV.isCell, splice]; exact .mk) ?_
          refine run_op rfl rfl rfl (by simp [boxA, AV.cells, AV.isCell]; exact .mk) ?_
          refine run_end [1, 2, 5, 7, 8, 9, 11, 12, 13] (by simp) (by simp; exact .mk) ?_
          rintro -
          refine W_seq ?_
          refine W_seq ?_
          refine W_reg rfl ?_
          refine run_op rfl rfl rfl (by simp [boxA, AV.cells, AV.isCell]; exact .mk) ?_
          refine run_op rfl rfl rfl (by simp [boxA, AV.cells, AV.isCell, eqA, eqFs, isStructTy, eqlNeq, strOp, isBoolTy, isPtrTy, isFnTy]; exact .mk) ?_
          refine run_end [1, 2, 5, 7, 8, 9, 11, 12, 13, 73] (by simp) (by simp; exact .mk) ?_
          rintro -
          refine W_cond rfl ?_ ?_
          · intro h73
            have hze : z.e = 9 := by
              rcases hend with ⟨_, h⟩ | ⟨q, h, _⟩
              · rw [hz]; exact fill_none hF5.right hn h
              · simp at h73; omega
            refine W_seq ?_
            refine W_reg rfl ?_
            refine run_op rfl rfl rfl (by simp [boxA, AV.cells, AV.isCell]; exact .mk) ?_
            refine run_op rfl rfl rfl (by simp [boxA, AV.cells, AV.isCell]; exact .mk) ?_
            refine run_if rfl (by simp [boxA, AV.cells, AV.isCell]; exact .mk) rfl (by simp <;> first | omega | grind) (fun hb => by simp [boxA, AV.cells, AV.isCell]; exact .mk) ?_
            refine run_if rfl (by simp [boxA, AV.cells, AV.isCell]; exact .mk) rfl (by simp <;> first | omega | grind) (fun hb => by simp [boxA, AV.cells, AV.isCell, eqA, eqFs, isStructTy, eqlNeq, strOp, isBoolTy, isPtrTy, isFnTy]; exact .mk) ?_
            refine run_pick rfl (by simp [boxA, AV.cells, AV.isCell]; exact .mk) rfl rfl (by simp) (by simp [boxA, AV.cells, AV.isCell]; exact .mk) (by simp [boxA, AV.cells, AV.isCell]; exact .mk) (by simp; exact .mk) ?_
            refine run_op1 rfl rfl rfl (by simp <;> first | omega | grind) (by simp [boxA, AV.cells, AV.isCell]; exact .mk) ?_
            refine run_end [4] (by simp <;> first | omega | grind) (by simp; exact .mk) ?_
            rintro -
            refine W_ret ?_
            refine end_ret (by simp [boxA, AV.cells, AV.isCell, Try.f5]; exact .mk) (by simp [boxA, AV.cells, AV.isCell, cl, cls]; exact .mk) ?_ (by simp [boxA, AV.cells, AV.isCell, D.noSn])
            first | (simp [nrmR, nrmRs, nrmK, kindsOf, kinds, Try.f5]; done) | simp [nrmR, nrmRs, nrmK, kindsOf, kinds, Try.f5, hze]
          · intro h73
            obtain ⟨p, rfl, hp⟩ : ∃ p : Nat, v = p ∧ allocIx y = some p := by
              rcases hend with ⟨h, _⟩ | h
              · simp at h73; omega
              · exact h
            have hzx := fill_some hF5.right hn hp
            rw [← hz] at hzx
            obtain ⟨hlt, hNx⟩ := fill_next hF5 hn hp
            have hpx := allocIx_spec hp
            have hp3 : p < y.gens.length := hpx.1
            have hp4 : p < y.data.length := by omega
            have hze : z.e = 0 := by rw [hzx]
            have hzi : z.ix = p := by rw [hzx]
            have hzg : z.gen = nth y.gens p := by rw [hzx]
            have hzl : z.a.data.length = y.data.length := by rw [hzx]; simp
            have hzgl : z.a.gens.length = y.gens.length := by rw [hzx]
            have hzp : ((nth z.a.data p).length : Int) = n := by rw [hzx]; simp only; rw [nth_set hp4, if_pos rfl]; simp; omega
            have hp5 : p < z.a.data.length := by omega
            have hNz : Fill z.a p (i + 1) := by rw [hzx]; exact hNx
            refine W_skip ?_
            rintro -
            refine W_seq ?_
            refine W_seq ?_
            refine W_regD (by kernel_rfl) [] 4 [0, 1, 2, 3, 4, 5, 6, 7, 8, 9, 10, 11, 12, 13, 14, 15, 16, 17, 18, 19, 20, 21, 22, 23, 24, 25, 26, 27, 28, 29, 30, 31, 32, 33, 34, 35, 36, 37, 38, 39, 40, 41, 42, 43, 44, 45, 46, 47, 48, 49, 50, 51, 52] (by decide +kernel) ?_
            refine run_op rfl rfl rfl (by simp [boxA, AV.cells, AV.isCell]; exact .mk) ?_
            refine run_op rfl rfl rfl (by simp [boxA, AV.cells, AV.isCell, eqA, eqFs, isStructTy, eqlNeq, strOp, isBoolTy, isPtrTy, isFnTy]; exact .mk) ?_
            refine run_op rfl rfl rfl (by simp [boxA, AV.cells, AV.isCell]; exact .mk) ?_
            refine run_if rfl (by simp [boxA, AV.cells, AV.isCell]; exact .mk) rfl (by simp <;> first | omega | grind) (fun hb => by simp [boxA, AV.cells, AV.isCell]; exact .mk) ?_
            refine run_if rfl (by simp [boxA, AV.cells, AV.isCell]; exact .mk) rfl (by simp <;> first | omega | grind) (fun hb => by simp [boxA, AV.cells, AV.isCell]; exact .mk) ?_
            refine run_if rfl (by simp [boxA, AV.cells, AV.isCell]; exact .mk) rfl (by simp <;> first | omega | grind) (fun hb => by simp [boxA, AV.cells, AV.isCell]; exact .mk) ?_
            refine run_if rfl (by simp [boxA, AV.cells, AV.isCell]; exact .mk) rfl (by simp <;> first | omega | grind) (fun hb => by simp [boxA, AV.cells, AV.isCell]; exact .mk) ?_
            refine run_if rfl (by simp [boxA, AV.cells, AV.isCell]; exact .mk) rfl (by simp <;> first | omega | grind) (fun hb => by simp [boxA, AV.cells, AV.isCell, eqA, eqFs, isStructTy, eqlNeq, strOp, isBoolTy, isPtrTy, isFnTy]; exact .mk) ?_
            refine run_pick rfl (by simp [boxA, AV.cells, AV.isCell]; exact .mk) rfl rfl (by simp) (by simp [boxA, AV.cells, AV.isCell]; exact .mk) (by simp [boxA, AV.cells, AV.isCell]; exact .mk) (by simp; exact .mk) ?_
            refine run_op1 rfl rfl rfl (by simp <;> first | omega | grind) (by simp [boxA, AV.cells, AV.isCell]; exact .mk) ?_
            refine run_if rfl (by simp [boxA, AV.cells, AV.isCell]; exact .mk) rfl (by simp <;> first | omega | grind) (fun hb => by simp [boxA, AV.cells, AV.isCell]; exact .mk) ?_
            refine run_if rfl (by simp [boxA, AV.cells, AV.isCell]; exact .mk) rfl (by simp <;> first | omega | grind) (fun hb => by simp [boxA, AV.cells, AV.isCell]; exact .mk) ?_
            refine run_if rfl (by simp [boxA, AV.cells, AV.isCell]; exact .mk) rfl (by simp <;> first | omega | grind) (fun hb => by simp [boxA, AV.cells, AV.isCell, eqA, eqFs, isStructTy, eqlNeq, strOp, isBoolTy, isPtrTy, isFnTy]; exact .mk) ?_
            refine run_pick rfl (by simp [boxA, AV.cells, AV.isCell]; exact .mk) rfl rfl (by simp) (by simp [boxA, AV.cells, AV.isCell]; exact .mk) (by simp [boxA, AV.cells, AV.isCell]; exact .mk) (by simp; exact .mk) ?_
            refine run_op1 rfl rfl rfl (by simp <;> first | omega | grind) (by simp [boxA, AV.cells, AV.isCell]; exact .mk) ?_
            refine run_if rfl (by simp [boxA, AV.cells, AV.isCell]; exact .mk) rfl (by simp <;> first | omega | grind) (fun hb => by simp [boxA, AV.cells, AV.isCell]; exact .mk) ?_
            refine run_if rfl (by simp [boxA, AV.cells, AV.isCell]; exact .mk) rfl (by simp <;> first | omega | grind) (fun hb => by simp [boxA, AV.cells, AV.isCell]; exact .mk) ?_
            refine run_if rfl (by simp [boxA, AV.cells, AV.isCell]; exact .mk) rfl (by simp <;> first | omega | grind) (fun hb => by simp [boxA, AV.cells, AV.isCell]; exact .mk) ?_
            refine run_if rfl (by simp [boxA, AV.cells, AV.isCell]; exact .mk) rfl (by simp <;> first | omega | grind) (fun hb => by simp [boxA, AV.cells, AV.isCell]; exact .mk) ?_
            refine run_if rfl (by simp [boxA, AV.cells, AV.isCell]; exact .mk) rfl (by simp <;> first | omega | grind) (fun hb => by simp [boxA, AV.cells, AV.isCell]; exact .mk) ?_
            refine run_if rfl (by simp [boxA, AV.cells, AV.isCell]; exact .mk) rfl (by simp <;> first | omega | grind) (fun hb => by simp [boxA, AV.cells, AV.isCell]; exact .mk) ?_
            refine run_if rfl (by simp [boxA, AV.cells, AV.isCell]; exact .mk) rfl (by simp <;> first | omega | grind) (fun hb => by simp [boxA, AV.cells, AV.isCell, hp3]; exact .mk) ?_
            refine run_if rfl (by simp [boxA, AV.cells, AV.isCell]; exact .mk) rfl (by simp <;> first | omega | grind) (fun hb => by simp [boxA, AV.cells, AV.isCell, -List.getElem?_map, map_get hp3]; exact .mk) ?_
            refine run_if rfl (by simp [boxA, AV.cells, AV.isCell]; exact .mk) rfl (by simp <;> first | omega | grind) (fun hb => by simp [boxA, AV.cells, AV.isCell, eqA, eqFs, isStructTy, eqlNeq, strOp, isBoolTy, isPtrTy, isFnTy]; exact .mk) ?_
            refine run_pick rfl (by simp [boxA, AV.cells, AV.isCell]; exact .mk) rfl rfl (by simp) (by simp [boxA, AV.cells, AV.isCell]; exact .mk) (by simp [boxA, AV.cells, AV.isCell]; exact .mk) (by simp; exact .mk) ?_
            refine run_op1 rfl rfl rfl (by simp <;> first | omega | grind) (by simp [boxA, AV.cells, AV.isCell]; exact .mk) ?_
            refine run_if rfl (by simp [boxA, AV.cells, AV.isCell]; exact .mk) rfl (by simp <;> first | omega | grind) (fun hb => by simp [boxA, AV.cells, AV.isCell]; exact .mk) ?_
            refine run_if rfl (by simp [boxA, AV.cells, AV.isCell]; exact .mk) rfl (by simp <;> first | omega | grind) (fun hb => by simp [boxA, AV.cells, AV.isCell]; exact .mk) ?_
            refine run_if rfl (by simp [boxA, AV.cells, AV.isCell]; exact .mk) rfl (by simp <;> first | omega | grind) (fun hb => by simp [boxA, AV.cells, AV.isCell]; exact .mk) ?_
            refine run_if rfl (by simp [boxA, AV.cells, AV.isCell]; exact .mk) rfl (by simp <;> first | omega | grind) (fun hb => by simp [boxA, AV.cells, AV.isCell]; exact .mk) ?_
            refine run_if rfl (by simp [boxA, AV.cells, AV.isCell]; exact .mk) rfl (by simp <;> first | omega | grind) (fun hb => by simp [boxA, AV.cells, AV.isCell]; exact .mk) ?_
            refine run_if rfl (by simp [boxA, AV.cells, AV.isCell]; exact .mk) rfl (by simp <;> first | omega | grind) (fun hb => by simp [boxA, AV.cells, AV.isCell]; exact .mk) ?_
            refine run_if rfl (by simp [boxA, AV.cells, AV.isCell]; exact .mk) rfl (by simp <;> first | omega | grind) (fun hb => by simp [boxA, AV.cells, AV.isCell, eqA, eqFs, isStructTy, eqlNeq, strOp, isBoolTy, isPtrTy, isFnTy]; exact .mk) ?_
            refine run_pick rfl (by simp [boxA, AV.cells, AV.isCell]; exact .mk) rfl rfl (by simp) (by simp [boxA, AV.cells, AV.isCell]; exact .mk) (by simp [boxA, AV.cells, AV.isCell]; exact .mk) (by simp; exact .mk) ?_
            refine run_op1 rfl rfl rfl (by simp <;> first | omega | grind) (by simp [boxA, AV.cells, AV.isCell]; exact .mk) ?_
            refine run_if rfl (by simp [boxA, AV.cells, AV.isCell]; exact .mk) rfl (by simp <;> first | omega | grind) (fun hb => by simp [boxA, AV.cells, AV.isCell]; exact .mk) ?_
            refine run_if rfl (by simp [boxA, AV.cells, AV.isCell]; exact .mk) rfl (by simp <;> first | omega | grind) (fun hb => by simp [boxA, AV.cells, AV.isCell]; exact .mk) ?_
            refine run_if rfl (by simp [boxA, AV.cells, AV.isCell]; exact .mk) rfl (by simp <;> first | omega | grind) (fun hb => by simp [boxA, AV.cells, AV.isCell]; exact .mk) ?_
            refine run_if rfl (by simp [boxA, AV.cells, AV.isCell]; exact .mk) rfl (by simp <;> first | omega | grind) (fun hb => by simp [boxA, AV.cells, AV.isCell]; exact .mk) ?_
            refine run_if rfl (by simp [boxA, AV.cells, AV.isCell]; exact .mk) rfl (by simp <;> first | omega | grind) (fun hb => by simp [boxA, AV.cells, AV.isCell]; exact .mk) ?_
            refine run_if rfl (by simp [boxA, AV.cells, AV.isCell]; exact .mk) rfl (by simp <;> first | omega | grind) (fun hb => by simp [boxA, AV.cells, AV.isCell]; exact .mk) ?_
            refine run_if rfl (by simp [boxA, AV.cells, AV.isCell]; exact .mk) rfl (by simp <;> first | omega | grind) (fun hb => by simp [boxA, AV.cells, AV.isCell, eqA, eqFs, isStructTy, eqlNeq, strOp, isBoolTy, isPtrTy, isFnTy]; exact .mk) ?_
            refine run_pick rfl (by simp [boxA, AV.cells, AV.isCell]; exact .mk) rfl rfl (by simp) (by simp [boxA, AV.cells, AV.isCell]; exact .mk) (by simp [boxA, AV.cells, AV.isCell]; exact .mk) (by simp; exact .mk) ?_
            refine run_op1 rfl rfl rfl (by simp <;> first | omega | grind) (by simp [boxA, AV.cells, AV.isCell]; exact .mk) ?_
            refine run_if rfl (by simp [boxA, AV.cells, AV.isCell]; exact .mk) rfl (by simp <;> first | omega | grind) (fun hb => by simp [boxA, AV.cells, AV.isCell]; exact .mk) ?_
            refine run_if rfl (by simp [boxA, AV.cells, AV.isCell]; exact .mk) rfl (by simp <;> first | omega | grind) (fun hb => by simp [boxA, AV.cells, AV.isCell]; exact .mk) ?_
            refine run_if rfl (by simp [boxA, AV.cells, AV.isCell]; exact .mk) rfl (by simp <;> first | omega | grind) (fun hb => by simp [boxA, AV.cells, AV.isCell]; exact .mk) ?_
            refine run_if rfl (by simp [boxA, AV.cells, AV.isCell]; exact .mk) rfl (by simp <;> first | omega | grind) (fun hb => by simp [boxA, AV.cells, AV.isCell, hp5]; exact .mk) ?_
            refine run_if rfl (by simp [boxA, AV.cells, AV.isCell]; exact .mk) rfl (by simp <;> first | omega | grind) (fun hb => by simp [boxA, AV.cells, AV.isCell, -List.getElem?_map, map_get hp5]; exact .mk) ?_
            refine run_if rfl (by simp [boxA, AV.cells, AV.isCell]; exact .mk) rfl (by simp <;> first | omega | grind) (fun hb => by simp [boxA, AV.cells, AV.isCell]; exact .mk) ?_
            refine run_if rfl (by simp [boxA, AV.cells, AV.isCell]; exact .mk) rfl (by simp <;> first | omega | grind) (fun hb => by simp [boxA, AV.cells, AV.isCell]; exact .mk) ?_
            refine run_if rfl (by simp [boxA, AV.cells, AV.isCell]; exact .mk) rfl (by simp <;> first | omega | grind) (fun hb => by simp [boxA, AV.cells, AV.isCell, eqA, eqFs, isStructTy, eqlNeq, strOp, isBoolTy, isPtrTy, isFnTy]; exact .mk) ?_
            refine run_pick rfl (by simp [boxA, AV.cells, AV.isCell]; exact .mk) rfl rfl (by simp) (by simp [boxA, AV.cells, AV.isCell]; exact .mk) (by simp [boxA, AV.cells, AV.isCell]; exact .mk) (by simp; exact .mk) ?_
            refine run_end [1, 2, 5, 8, 9, 11, 131] (by simp <;> first | omega | grind) (by simp; exact .mk) ?_
            rintro -
            refine W_cond rfl ?_ ?_
            · intro h131
              exfalso; simp [hze, hzi, hzg, hzl, hzgl, hzp] at h131; omega
            · intro h131
              refine W_skip ?_
              rintro -
              refine W_seq ?_
              refine W_reg rfl ?_
              refine run_op rfl rfl rfl (by simp [boxA, AV.cells, AV.isCell]; exact .mk) ?_
              refine run_op rfl rfl rfl (by simp [boxA, AV.cells, AV.isCell]; exact .mk) ?_
              refine run_end [1, 2, 5, 7, 8, 11] (by simp) (by simp; exact .mk) ?_
              rintro -
              refine W_reg rfl ?_
              refine run_op rfl rfl rfl (by simp [boxA, AV.cells, AV.isCell]; exact .mk) ?_
              refine run_op rfl rfl rfl (by simp [boxA, AV.cells, AV.isCell, storeA, AV.cells, AV.isCell, splice]; exact .mk) ?_
              refine run_end [1, 2, 5, 7, 8] (by simp) (by simp; exact .mk) ?_
              rintro -
              refine W_reg rfl ?_
              refine run_op rfl rfl rfl (by simp [boxA, AV.cells, AV.isCell]; exact .mk) ?_
              refine run_op rfl rfl rfl (by simp [boxA, AV.cells, AV.isCell, eqA, eqFs, isStructTy, eqlNeq, strOp, isBoolTy, isPtrTy, isFnTy]; exact .mk) ?_
              refine run_op rfl rfl rfl (by simp [boxA, AV.cells, AV.isCell]; exact .mk) ?_
              refine run_end [1, 2, 5, 7, 8] (by simp) (by simp; exact .mk) ?_
              refine rounds_kill [1, 2, 5, 7, 8] ?_
              refine rounds_kills [1, 2, 5, 7, 8] rfl ?_
              refine rounds_swap 1 4 3 (by decide) (by simp) (by decide) rfl rfl ?_
              refine rounds_drop 4 [1, 2, 5, 7, 8] (by decide) (by rfl) (by rfl) ?_
              refine rounds_next (m' := a.gens.length + 1 - (i+1)) (by omega) ⟨i+1, p, z.a, rfl, by omega, by omega, hNz, ?_, .inr rfl⟩
              rw [wrap64 (by omega) (by omega)]; rfl
      · intro h37
        exfalso; simp [hyl] at h37; have h1 := hF5.low; have h2 := hF5.high; omega

end Go.Proofs
