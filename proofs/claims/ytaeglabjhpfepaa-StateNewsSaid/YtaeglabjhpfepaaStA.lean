/- Contracts of the functions of the packages gaps, class and pages, and of state.Ones: each answers what its plain function answers, for at most 2^40 elements. -/
import Derived.Test.YtaeglabjhpfepaaBase
import Derived.Test.YtaeglabjhpfepaaSort
import Derived.Test.YtaeglabjhpfepaaAwpD
set_option linter.all false
set_option linter.unusedSimpArgs false
set_option linter.unusedVariables false
set_option maxHeartbeats 4000000
namespace Go.Proofs
open Go.Awp
theorem ct118 (g : Gl) (n : Int) : CtAt Try.prog g 118 [vI n] (.v (.bool (n.tmod 4 == 0))) := by
  refine ctAt_of_W Try.func118 rfl rfl (Nat.le_of_ble_eq_true rfl) fun B S => ?_
  refine W_seq ?_
  refine W_reg rfl ?_
  refine run_op rfl rfl rfl (by simp; exact .mk) ?_
  refine run_end [0] (by simp) (by simp; exact .mk) ?_
  rintro -
  refine W_seq ?_
  refine W_reg rfl ?_
  refine run_op rfl rfl rfl (by simp; exact .mk) ?_
  refine run_op rfl rfl rfl (by simp [eqA, eqFs, isStructTy, eqlNeq, strOp, isBoolTy, isPtrTy, isFnTy]; exact .mk) ?_
  refine run_op rfl rfl rfl (by simp [eqA, eqFs, isStructTy, eqlNeq, strOp, isBoolTy, isPtrTy, isFnTy]; exact .mk) ?_
  refine run_op rfl rfl rfl (by simp; exact .mk) ?_
  refine run_end [2] (by simp) (by simp; exact .mk) ?_
  rintro -
  refine W_ret ?_
  refine end_ret (by simp [Try.f118]; exact .mk) (by simp [cl, cls]; exact .mk) ?_ (by simp [D.noSn])
  simp [nrmR, nrmRs, nrmK, kindsOf, kinds, Try.f118]

theorem ct66 (g : Gl) (n : Int) (h : 0 ≤ n ∧ n ≤ 2^40) : CtAt Try.prog g 66 [vI n] (vI (upS n)) := by
  refine ctAt_of_W Try.func66 rfl rfl (Nat.le_of_ble_eq_true rfl) fun B S => ?_
  have hd : 0 ≤ (n + 4 - 1).tdiv 4 ∧ (n + 4 - 1).tdiv 4 ≤ n + 3 := ⟨Int.tdiv_nonneg (by omega) (by omega), by rw [Int.tdiv_eq_ediv_of_nonneg (by omega)]; omega⟩
  have e1 : IntKind.i64.wrap (n + 4) = n + 4 := wrap64 (by omega) (by omega)
  have e2 : IntKind.i64.wrap (n + 4 - 1) = n + 4 - 1 := wrap64 (by omega) (by omega)
  have e3 : IntKind.i64.wrap ((n + 4 - 1).tdiv 4) = (n + 4 - 1).tdiv 4 := wrap64 (by omega) (by omega)
  have e4 : IntKind.i64.wrap ((n + 4 - 1).tdiv 4 * 4) = (n + 4 - 1).tdiv 4 * 4 := wrap64 (by omega) (by omega)
  refine W_seq ?_
  refine W_reg rfl ?_
  refine run_op rfl rfl rfl (by simp; exact .mk) ?_
  refine run_end [0] (by simp) (by simp; exact .mk) ?_
  rintro -
  refine W_seq ?_
  refine W_reg rfl ?_
  refine run_op rfl rfl rfl (by simp; exact .mk) ?_
  refine run_op rfl rfl rfl (by simp [eqA, eqFs, isStructTy, eqlNeq, strOp, isBoolTy, isPtrTy, isFnTy, e1]; exact .mk) ?_
  refine run_op rfl rfl rfl (by simp [eqA, eqFs, isStructTy, eqlNeq, strOp, isBoolTy, isPtrTy, isFnTy, e1, e2]; exact .mk) ?_
  refine run_op rfl rfl rfl (by simp [eqA, eqFs, isStructTy, eqlNeq, strOp, isBoolTy, isPtrTy, isFnTy, e1, e2, e3]; exact .mk) ?_
  refine run_op rfl rfl rfl (by simp [eqA, eqFs, isStructTy, eqlNeq, strOp, isBoolTy, isPtrTy, isFnTy, e1, e2, e3, e4]; exact .mk) ?_
  refine run_op rfl rfl rfl (by simp; exact .mk) ?_
  refine run_end [2] (by simp) (by simp; exact .mk) ?_
  rintro -
  refine W_ret ?_
  refine end_ret (by simp [Try.f66]; exact .mk) (by simp [cl, cls]; exact .mk) ?_ (by simp [D.noSn])
  simp [nrmR, nrmRs, nrmK, kindsOf, kinds, Try.f66, upS]

theorem ct33 (g : Gl) (n : Int) : CtAt Try.prog g 33 [vI n] (.tup [vI (needS n).1, vI (needS n).2]) := by
  refine ctAt_of_W Try.func33 rfl rfl (Nat.le_of_ble_eq_true rfl) fun B S => ?_
  refine W_seq ?_
  refine W_reg rfl ?_
  refine run_op rfl rfl rfl (by simp; exact .mk) ?_
  refine run_op rfl rfl rfl (by simp; exact .mk) ?_
  refine run_end [0] (by simp) (by simp; exact .mk) ?_
  rintro -
  refine W_seq ?_
  refine W_seq ?_
  refine W_reg rfl ?_
  refine run_op rfl rfl rfl (by simp; exact .mk) ?_
  refine run_op rfl rfl rfl (by simp [eqA, eqFs, isStructTy, eqlNeq, strOp, isBoolTy, isPtrTy, isFnTy]; exact .mk) ?_
  refine run_op rfl rfl rfl (by simp; exact .mk) ?_
  refine run_if rfl (by simp; exact .mk) rfl (by simp <;> first | omega | grind) (fun hb => by simp; exact .mk) ?_
  refine run_if rfl (by simp; exact .mk) rfl (by simp <;> first | omega | grind) (fun hb => by simp [eqA, eqFs, isStructTy, eqlNeq, strOp, isBoolTy, isPtrTy, isFnTy]; exact .mk) ?_
  refine run_pick rfl (by simp; exact .mk) rfl rfl (by simp) (by simp; exact .mk) (by simp; exact .mk) (by simp; exact .mk) ?_
  refine run_end [0, 9] (by simp <;> first | omega | grind) (by simp; exact .mk) ?_
  rintro -
  refine W_cond rfl ?_ ?_
  · intro h9
    have hr : needS n = (0, 1) := by unfold needS; rw [if_pos (by simp at h9; omega)]
    refine W_seq ?_
    refine W_reg rfl ?_
    refine run_op rfl rfl rfl (by simp; exact .mk) ?_
    refine run_op rfl rfl rfl (by simp; exact .mk) ?_
    refine run_end [2, 3] (by simp) (by simp; exact .mk) ?_
    rintro -
    refine W_ret ?_
    refine end_ret (by simp [Try.f33]; exact .mk) (by simp [cl, cls]; exact .mk) ?_ (by simp [D.noSn])
    simp [nrmR, nrmRs, nrmK, kindsOf, kinds, Try.f33, hr]
  · intro h9
    have hn : 1 ≤ n ∧ n ≤ 2048 := by simp at h9; omega
    have hr : needS n = (upS (2 + (n + 8 - 1).tdiv 8), 0) := by unfold needS; rw [if_neg (by omega)]
    have hd : 0 ≤ (n + 8 - 1).tdiv 8 ∧ (n + 8 - 1).tdiv 8 ≤ n + 7 := ⟨Int.tdiv_nonneg (by omega) (by omega), by rw [Int.tdiv_eq_ediv_of_nonneg (by omega)]; omega⟩
    have e1 : IntKind.i64.wrap (n + 8) = n + 8 := wrap64 (by omega) (by omega)
    have e2 : IntKind.i64.wrap (n + 8 - 1) = n + 8 - 1 := wrap64 (by omega) (by omega)
    have e3 : IntKind.i64.wrap ((n + 8 - 1).tdiv 8) = (n + 8 - 1).tdiv 8 := wrap64 (by omega) (by omega)
    have e4 : IntKind.i64.wrap (2 + (n + 8 - 1).tdiv 8) = 2 + (n + 8 - 1).tdiv 8 := wrap64 (by omega) (by omega)
    refine W_skip ?_
    rintro -
    refine W_seq ?_
    refine W_reg rfl ?_
    refine run_op rfl rfl rfl (by simp; exact .mk) ?_
    refine run_op rfl rfl rfl (by simp [eqA, eqFs, isStructTy, eqlNeq, strOp, isBoolTy, isPtrTy, isFnTy, e1]; exact .mk) ?_
    refine run_op rfl rfl rfl (by simp [eqA, eqFs, isStructTy, eqlNeq, strOp, isBoolTy, isPtrTy, isFnTy, e1, e2]; exact .mk) ?_
    refine run_op rfl rfl rfl (by simp [eqA, eqFs, isStructTy, eqlNeq, strOp, isBoolTy, isPtrTy, isFnTy, e1, e2, e3]; exact .mk) ?_
    refine run_op rfl rfl rfl (by simp [eqA, eqFs, isStructTy, eqlNeq, strOp, isBoolTy, isPtrTy, isFnTy, e1, e2, e3, e4]; exact .mk) ?_
    refine run_call0 rfl rfl rfl rfl (by simp [calleeA]; exact .mk) (by simp [kindsOf, kinds, expAs, expA]; exact .mk) (ct66 g (2 + (n + 8 - 1).tdiv 8) (by omega)) (by simp [D.noRo]) (by simp [impA, impAs]; exact .mk) ?_
    refine run_op rfl rfl rfl (by simp; exact .mk) ?_
    refine run_op rfl rfl rfl (by simp; exact .mk) ?_
    refine run_end [2, 3] (by simp) (by simp; exact .mk) ?_
    rintro -
    refine W_ret ?_
    refine end_ret (by simp [Try.f33]; exact .mk) (by simp [cl, cls]; exact .mk) ?_ (by simp [D.noSn])
    simp [nrmR, nrmRs, nrmK, kindsOf, kinds, Try.f33, hr]

theorem ct138 (g : Gl) : CtAt Try.prog g 138 [] (.agg (wordsL.map vI)) := by
  refine ctAt_of_W Try.func138 rfl rfl (Nat.le_of_ble_eq_true rfl) fun B S => ?_
  refine W_seq ?_
  refine W_reg rfl ?_
  refine run_op rfl rfl rfl (by simp [allocA, Value.oneCell']; exact .mk) ?_
  refine run_end [0] (by simp) (by simp; exact .mk) ?_
  rintro -
  refine W_seq ?_
  refine W_reg rfl ?_
  refine run_op rfl rfl rfl (by simp [buildA, fillA, placesOf, splice, Value.oneCell', AV.cells, AV.isCell]; exact .mk) ?_
  refine run_op rfl rfl rfl (by simp [storeA, AV.cells, AV.isCell, splice]; exact .mk) ?_
  refine run_end [0] (by simp) (by simp; exact .mk) ?_
  rintro -
  refine W_ret ?_
  refine end_ret (by simp [Try.f138]; exact .mk) (by simp [cl, cls]; exact .mk) ?_ (by simp [D.noSn])
  simp [nrmR, nrmRs, nrmK, kindsOf, kinds, Try.f138, wordsL]

theorem ct137 (g : Gl) : CtAt Try.prog g 137 [] (vI 120) := by
  refine ctAt_of_W Try.func137 rfl rfl (Nat.le_of_ble_eq_true rfl) fun B S => ?_
  refine W_seq ?_
  refine W_reg rfl ?_
  refine run_op rfl rfl rfl (by simp; exact .mk) ?_
  refine run_end [] (by simp) (by simp; exact .mk) ?_
  rintro -
  refine W_seq ?_
  refine W_reg rfl ?_
  refine run_call0 rfl rfl rfl rfl (by simp [calleeA]; exact .mk) (by simp [kindsOf, kinds, expAs, expA]; exact .mk) (ct138 g) (by simp [D.noRo]) (by simp [impA, impAs, impAs_vI]; exact .mk) ?_
  refine run_op rfl rfl rfl (by simp [indexA, partA, Ty.agg, wordsL]; exact .mk) ?_
  refine run_op rfl rfl rfl (by simp [eqA, eqFs, isStructTy, eqlNeq, strOp, isBoolTy, isPtrTy, isFnTy]; exact .mk) ?_
  refine run_op rfl rfl rfl (by simp; exact .mk) ?_
  refine run_end [0] (by simp) (by simp; exact .mk) ?_
  rintro -
  refine W_ret ?_
  refine end_ret (by simp [Try.f137]; exact .mk) (by simp [cl, cls]; exact .mk) ?_ (by simp [D.noSn])
  simp [nrmR, nrmRs, nrmK, kindsOf, kinds, Try.f137]; rfl

theorem ct139 (g : Gl) (c : Int) : CtAt Try.prog g 139 [vI c] (.tup [vI (if c < 0 ∨ 6 ≤ c then 0 else nth wordsL c.toNat), vI (if c < 0 ∨ 6 ≤ c then 1 else 0)]) := by
  refine ctAt_of_W Try.func139 rfl rfl (Nat.le_of_ble_eq_true rfl) fun B S => ?_
  refine W_seq ?_
  refine W_reg rfl ?_
  refine run_op rfl rfl rfl (by simp; exact .mk) ?_
  refine run_op rfl rfl rfl (by simp; exact .mk) ?_
  refine run_end [0] (by simp) (by simp; exact .mk) ?_
  rintro -
  refine W_seq ?_
  refine W_seq ?_
  refine W_reg rfl ?_
  refine run_op rfl rfl rfl (by simp; exact .mk) ?_
  refine run_op rfl rfl rfl (by simp [eqA, eqFs, isStructTy, eqlNeq, strOp, isBoolTy, isPtrTy, isFnTy]; exact .mk) ?_
  refine run_op rfl rfl rfl (by simp; exact .mk) ?_
  refine run_if rfl (by simp; exact .mk) rfl (by simp <;> first | omega | grind) (fun hb => by simp; exact .mk) ?_
  refine run_if rfl (by simp; exact .mk) rfl (by simp <;> first | omega | grind) (fun hb => by simp [eqA, eqFs, isStructTy, eqlNeq, strOp, isBoolTy, isPtrTy, isFnTy]; exact .mk) ?_
  refine run_pick rfl (by simp; exact .mk) rfl rfl (by simp) (by simp; exact .mk) (by simp; exact .mk) (by simp; exact .mk) ?_
  refine run_end [0, 9] (by simp <;> first | omega | grind) (by simp; exact .mk) ?_
  rintro -
  refine W_cond rfl ?_ ?_
  · intro h9
    have hr : c < 0 ∨ 6 ≤ c := by simp at h9; omega
    refine W_seq ?_
    refine W_reg rfl ?_
    refine run_op rfl rfl rfl (by simp; exact .mk) ?_
    refine run_op rfl rfl rfl (by simp; exact .mk) ?_
    refine run_end [2, 3] (by simp) (by simp; exact .mk) ?_
    rintro -
    refine W_ret ?_
    refine end_ret (by simp [Try.f139]; exact .mk) (by simp [cl, cls]; exact .mk) ?_ (by simp [D.noSn])
    simp [nrmR, nrmRs, nrmK, kindsOf, kinds, Try.f139, hr]
  · intro h9
    have hr : ¬ (c < 0 ∨ 6 ≤ c) := by simp at h9; omega
    obtain ⟨k, rfl⟩ : ∃ k : Nat, c = k := ⟨c.toNat, by omega⟩
    have hk : k < wordsL.length := by show k < 6; omega
    have hk6 : (k : Int) < 6 := by omega
    refine W_skip ?_
    rintro -
    refine W_seq ?_
    refine W_reg rfl ?_
    refine run_call0 rfl rfl rfl rfl (by simp [calleeA]; exact .mk) (by simp [kindsOf, kinds, expAs, expA]; exact .mk) (ct138 g) (by simp [D.noRo]) (by simp [impA, impAs, impAs_vI]; exact .mk) ?_
    refine run_op rfl rfl rfl (by simp; exact .mk) ?_
    refine run_op rfl rfl rfl (by simp [indexA, partA, Ty.agg, -List.getElem?_map, map_get hk, hk6]; exact .mk) ?_
    refine run_op rfl rfl rfl (by simp; exact .mk) ?_
    refine run_op rfl rfl rfl (by simp; exact .mk) ?_
    refine run_end [2, 3] (by simp) (by simp; exact .mk) ?_
    rintro -
    refine W_ret ?_
    refine end_ret (by simp [Try.f139]; exact .mk) (by simp [cl, cls]; exact .mk) ?_ (by simp [D.noSn])
    simp [nrmR, nrmRs, nrmK, kindsOf, kinds, Try.f139, hr]

theorem ct134 (g : Gl) (n : Int) : CtAt Try.prog g 134 [vI n] (.tup [vI (pagesS n).1, vI (pagesS n).2]) := by
  refine ctAt_of_W Try.func134 rfl rfl (Nat.le_of_ble_eq_true rfl) fun B S => ?_
  refine W_seq ?_
  refine W_reg rfl ?_
  refine run_op rfl rfl rfl (by simp; exact .mk) ?_
  refine run_op rfl rfl rfl (by simp; exact .mk) ?_
  refine run_end [0] (by simp) (by simp; exact .mk) ?_
  rintro -
  refine W_seq ?_
  refine W_seq ?_
  refine W_reg rfl ?_
  refine run_op rfl rfl rfl (by simp; exact .mk) ?_
  refine run_call0 rfl rfl rfl rfl (by simp [calleeA]; exact .mk) (by simp [kindsOf, kinds, expAs, expA]; exact .mk) (ct137 g) (by simp [D.noRo]) (by simp [impA, impAs]; exact .mk) ?_
  refine run_op rfl rfl rfl (by simp [eqA, eqFs, isStructTy, eqlNeq, strOp, isBoolTy, isPtrTy, isFnTy]; exact .mk) ?_
  refine run_op rfl rfl rfl (by simp; exact .mk) ?_
  refine run_if rfl (by simp; exact .mk) rfl (by simp <;> first | omega | grind) (fun hb => by simp; exact .mk) ?_
  refine run_if rfl (by simp; exact .mk) rfl (by simp <;> first | omega | grind) (fun hb => by simp [eqA, eqFs, isStructTy, eqlNeq, strOp, isBoolTy, isPtrTy, isFnTy]; exact .mk) ?_
  refine run_pick rfl (by simp; exact .mk) rfl rfl (by simp) (by simp; exact .mk) (by simp; exact .mk) (by simp; exact .mk) ?_
  refine run_end [0, 10] (by simp <;> first | omega | grind) (by simp; exact .mk) ?_
  rintro -
  refine W_cond rfl ?_ ?_
  · intro h10
    have hr : pagesS n = (0, 1) := by unfold pagesS; rw [if_pos (by simp at h10; omega)]
    refine W_seq ?_
    refine W_reg rfl ?_
    refine run_op rfl rfl rfl (by simp; exact .mk) ?_
    refine run_op rfl rfl rfl (by simp; exact .mk) ?_
    refine run_end [2, 3] (by simp) (by simp; exact .mk) ?_
    rintro -
    refine W_ret ?_
    refine end_ret (by simp [Try.f134]; exact .mk) (by simp [cl, cls]; exact .mk) ?_ (by simp [D.noSn])
    simp [nrmR, nrmRs, nrmK, kindsOf, kinds, Try.f134, hr]
  · intro h10
    have hn : 120 < n ∧ n ≤ 2048 := by simp at h10; omega
    have hr : pagesS n = ((n + 256 - 1).tdiv 256, 0) := by unfold pagesS; rw [if_neg (by omega)]
    have hd : 0 ≤ (n + 256 - 1).tdiv 256 ∧ (n + 256 - 1).tdiv 256 ≤ n + 255 := ⟨Int.tdiv_nonneg (by omega) (by omega), by rw [Int.tdiv_eq_ediv_of_nonneg (by omega)]; omega⟩
    have e1 : IntKind.i64.wrap (n + 256) = n + 256 := wrap64 (by omega) (by omega)
    have e2 : IntKind.i64.wrap (n + 256 - 1) = n + 256 - 1 := wrap64 (by omega) (by omega)
    have e3 : IntKind.i64.wrap ((n + 256 - 1).tdiv 256) = (n + 256 - 1).tdiv 256 := wrap64 (by omega) (by omega)
    refine W_skip ?_
    rintro -
    refine W_seq ?_
    refine W_reg rfl ?_
    refine run_op rfl rfl rfl (by simp; exact .mk) ?_
    refine run_op rfl rfl rfl (by simp [eqA, eqFs, isStructTy, eqlNeq, strOp, isBoolTy, isPtrTy, isFnTy, e1]; exact .mk) ?_
    refine run_op rfl rfl rfl (by simp [eqA, eqFs, isStructTy, eqlNeq, strOp, isBoolTy, isPtrTy, isFnTy, e1, e2]; exact .mk) ?_
    refine run_op rfl rfl rfl (by simp [eqA, eqFs, isStructTy, eqlNeq, strOp, isBoolTy, isPtrTy, isFnTy, e1, e2, e3]; exact .mk) ?_
    refine run_op rfl rfl rfl (by simp; exact .mk) ?_
    refine run_op rfl rfl rfl (by simp; exact .mk) ?_
    refine run_end [2, 3] (by simp) (by simp; exact .mk) ?_
    rintro -
    refine W_ret ?_
    refine end_ret (by simp [Try.f134]; exact .mk) (by simp [cl, cls]; exact .mk) ?_ (by simp [D.noSn])
    simp [nrmR, nrmRs, nrmK, kindsOf, kinds, Try.f134, hr]

theorem ct136 (g : Gl) (n : Int) (h : 0 ≤ n ∧ n ≤ 2^40) : CtAt Try.prog g 136 [vI n] (vI (if n = 0 then 1 else (n - 1).tdiv 7 + 1)) := by
  refine ctAt_of_W Try.func136 rfl rfl (Nat.le_of_ble_eq_true rfl) fun B S => ?_
  have hd : (n - 1).tdiv 7 ≤ n := by
    rcases Int.lt_or_le n 1 with q | q
    · obtain rfl : n = 0 := by omega
      decide
    · rw [Int.tdiv_eq_ediv_of_nonneg (by omega)]; omega
  have hd2 : -1 ≤ (n - 1).tdiv 7 := by
    rcases Int.lt_or_le n 1 with q | q
    · obtain rfl : n = 0 := by omega
      decide
    · rw [Int.tdiv_eq_ediv_of_nonneg (by omega)]; omega
  have e1 : IntKind.i64.wrap (n - 1) = n - 1 := wrap64 (by omega) (by omega)
  have e2 : IntKind.i64.wrap ((n - 1).tdiv 7) = (n - 1).tdiv 7 := wrap64 (by omega) (by omega)
  have e3 : IntKind.i64.wrap ((n - 1).tdiv 7 + 1) = (n - 1).tdiv 7 + 1 := wrap64 (by omega) (by omega)
  refine W_seq ?_
  refine W_reg rfl ?_
  refine run_op rfl rfl rfl (by simp; exact .mk) ?_
  refine run_end [0] (by simp) (by simp; exact .mk) ?_
  rintro -
  refine W_seq ?_
  refine W_seq ?_
  refine W_reg rfl ?_
  refine run_op rfl rfl rfl (by simp; exact .mk) ?_
  refine run_op rfl rfl rfl (by simp [eqA, eqFs, isStructTy, eqlNeq, strOp, isBoolTy, isPtrTy, isFnTy]; exact .mk) ?_
  refine run_end [0, 4] (by simp) (by simp; exact .mk) ?_
  rintro -
  refine W_cond rfl ?_ ?_
  · intro h4
    refine W_seq ?_
    refine W_reg rfl ?_
    refine run_op rfl rfl rfl (by simp; exact .mk) ?_
    refine run_end [2] (by simp) (by simp; exact .mk) ?_
    rintro -
    refine W_ret ?_
    refine end_ret (by simp [Try.f136]; exact .mk) (by simp [cl, cls]; exact .mk) ?_ (by simp [D.noSn])
    first | (simp [nrmR, nrmRs, nrmK, kindsOf, kinds, Try.f136]; done) | (simp [nrmR, nrmRs, nrmK, kindsOf, kinds, Try.f136] at *; simp [*])
  · intro h4
    refine W_skip ?_
    rintro -
    refine W_seq ?_
    refine W_reg rfl ?_
    refine run_op rfl rfl rfl (by simp; exact .mk) ?_
    refine run_op rfl rfl rfl (by simp [eqA, eqFs, isStructTy, eqlNeq, strOp, isBoolTy, isPtrTy, isFnTy, e1]; exact .mk) ?_
    refine run_op rfl rfl rfl (by simp [eqA, eqFs, isStructTy, eqlNeq, strOp, isBoolTy, isPtrTy, isFnTy, e1, e2]; exact .mk) ?_
    refine run_op rfl rfl rfl (by simp [eqA, eqFs, isStructTy, eqlNeq, strOp, isBoolTy, isPtrTy, isFnTy, e1, e2, e3]; exact .mk) ?_
    refine run_op rfl rfl rfl (by simp; exact .mk) ?_
    refine run_end [2] (by simp) (by simp; exact .mk) ?_
    rintro -
    refine W_ret ?_
    refine end_ret (by simp [Try.f136]; exact .mk) (by simp [cl, cls]; exact .mk) ?_ (by simp [D.noSn])
    first | (simp [nrmR, nrmRs, nrmK, kindsOf, kinds, Try.f136]; done) | (simp [nrmR, nrmRs, nrmK, kindsOf, kinds, Try.f136] at *; simp [*])

theorem ct67 (g : Gl) (n : Int) : CtAt Try.prog g 67 [vI n] (.tup [oSl (if tnewOk n then List.replicate n.toNat zSlot else []), vI (if tnewOk n then 0 else 1)]) := by
  refine ctAt_of_W Try.func67 rfl rfl (Nat.le_of_ble_eq_true rfl) fun B S => ?_
  refine W_seq ?_
  refine W_reg rfl ?_
  refine run_op rfl rfl rfl (by simp; exact .mk) ?_
  refine run_op rfl rfl rfl (by simp; exact .mk) ?_
  refine run_end [0] (by simp) (by simp; exact .mk) ?_
  rintro -
  refine W_seq ?_
  refine W_seq ?_
  refine W_reg rfl ?_
  refine run_op rfl rfl rfl (by simp; exact .mk) ?_
  refine run_op rfl rfl rfl (by simp [eqA, eqFs, isStructTy, eqlNeq, strOp, isBoolTy, isPtrTy, isFnTy]; exact .mk) ?_
  refine run_op rfl rfl rfl (by simp; exact .mk) ?_
  refine run_if rfl (by simp; exact .mk) rfl (by simp <;> first | omega | grind) (fun hb => by simp; exact .mk) ?_
  refine run_if rfl (by simp; exact .mk) rfl (by simp <;> first | omega | grind) (fun hb => by simp [eqA, eqFs, isStructTy, eqlNeq, strOp, isBoolTy, isPtrTy, isFnTy]; exact .mk) ?_
  refine run_pick rfl (by simp; exact .mk) rfl rfl (by simp) (by simp; exact .mk) (by simp; exact .mk) (by simp; exact .mk) ?_
  refine run_op1 rfl rfl rfl (by simp <;> first | omega | grind) (by simp; exact .mk) ?_
  refine run_if rfl (by simp; exact .mk) rfl (by simp <;> first | omega | grind) (fun hb => by simp; exact .mk) ?_
  refine run_if rfl (by simp; exact .mk) rfl (by simp <;> first | omega | grind) (fun hb => by simp [eqA, eqFs, isStructTy, eqlNeq, strOp, isBoolTy, isPtrTy, isFnTy]; exact .mk) ?_
  refine run_if rfl (by simp; exact .mk) rfl (by simp <;> first | omega | grind) (fun hb => by simp [eqA, eqFs, isStructTy, eqlNeq, strOp, isBoolTy, isPtrTy, isFnTy]; exact .mk) ?_
  refine run_pick rfl (by simp; exact .mk) rfl rfl (by simp) (by simp; exact .mk) (by simp; exact .mk) (by simp; exact .mk) ?_
  refine run_end [0, 14] (by simp <;> first | omega | grind) (by simp; exact .mk) ?_
  rintro -
  refine W_cond rfl ?_ ?_
  · intro h14
    have hr : tnewOk n = false := by simp [tnewOk] at *; grind
    refine W_seq ?_
    refine W_reg rfl ?_
    refine run_op rfl rfl rfl (by simp; exact .mk) ?_
    refine run_op rfl rfl rfl (by simp; exact .mk) ?_
    refine run_end [2, 3] (by simp) (by simp; exact .mk) ?_
    rintro -
    refine W_ret ?_
    refine end_ret (by simp [Try.f67]; exact .mk) (by simp [cl, cls]; exact .mk) ?_ (by simp [D.noSn])
    simp [nrmR, nrmRs, nrmK, kindsOf, kinds, Try.f67, hr, ownR, eSlot, zSlot]
  · intro h14
    have hr : tnewOk n = true := by simp [tnewOk] at *; grind
    have hn : 2 ≤ n ∧ n ≤ 32 := by simp [tnewOk] at hr; omega
    refine W_skip ?_
    rintro -
    refine W_seq ?_
    have e1 : 0 ≤ n := by omega
    have e2 : 32 * n ≤ 140737488355328 := by omega
    have e3 : n ≤ 140737488355328 := by omega
    refine W_reg rfl ?_
    refine run_op rfl rfl rfl (by simp; exact .mk) ?_
    refine run_op rfl rfl rfl (by simp [makeSliceA, elemD, maxLen, kinds, kDs, kD, Value.oneCell', makeSliceA, elemD, maxLen, kinds, kDs, kD, Value.oneCell', e1, e2, e3]; exact .mk) ?_
    refine run_op rfl rfl rfl (by simp; exact .mk) ?_
    refine run_op rfl rfl rfl (by simp; exact .mk) ?_
    refine run_end [2, 3] (by simp) (by simp; exact .mk) ?_
    rintro -
    refine W_ret ?_
    refine end_ret (by simp [Try.f67]; exact .mk) (by simp [cl, cls]; exact .mk) ?_ (by simp [D.noSn])
    simp [nrmR, nrmRs, nrmK, kindsOf, kinds, Try.f67, hr, ownR, eSlot, zSlot]

end Go.Proofs

set_option linter.unusedSimpArgs false
set_option linter.unusedVariables false
set_option maxHeartbeats 4000000
set_option maxRecDepth 4000
namespace Go.Proofs
open Go.Awp
theorem ct132 (g : Gl) (n : Int) : CtAt Try.prog g 132 [vI n] (.tup [vI (classS n).1, .v (.bool (classS n).2)]) := by
  refine ctAt_of_W Try.func132 rfl rfl (Nat.le_of_ble_eq_true rfl) fun B S => ?_
  refine W_seq ?_
  refine W_reg rfl ?_
  iterate 2 (refine run_op rfl rfl rfl (by simp; exact .mk) ?_)
  refine run_end [0] (by simp) (by simp; exact .mk) ?_
  rintro -
  refine W_seq ?_
  refine W_seq ?_
  refine W_reg rfl ?_
  refine run_op rfl rfl rfl (by simp; exact .mk) ?_
  refine run_op rfl rfl rfl (by simp [eqA, eqFs, isStructTy, eqlNeq, strOp, isBoolTy, isPtrTy, isFnTy]; exact .mk) ?_
  refine run_op rfl rfl rfl (by simp; exact .mk) ?_
  refine run_if rfl (by simp; exact .mk) rfl (by simp <;> first | omega | grind) (fun hb => by simp; exact .mk) ?_
  refine run_call rfl (by simp; exact .mk) rfl rfl (by simp) (by simp [calleeA]; exact .mk) (by simp [kindsOf, kinds, expAs, expA]; exact .mk) (fun hb => ct137 g) (by simp [D.noRo]) (by simp [impA, impAs, impAs_vI]; exact .mk) (by simp) ?_
  refine run_if rfl (by simp; exact .mk) rfl (by simp <;> first | omega | grind) (fun hb => by simp [eqA, eqFs, isStructTy, eqlNeq, strOp, isBoolTy, isPtrTy, isFnTy]; exact .mk) ?_
  refine run_pick rfl (by simp; exact .mk) rfl rfl (by simp) (by simp; exact .mk) (by simp; exact .mk) (by simp; exact .mk) ?_
  refine run_end [0, 12] (by simp <;> first | omega | grind) (by simp; exact .mk) ?_
  rintro -
  refine W_cond rfl ?_ ?_
  · intro h12
    have hr : classS n = (0, false) := by unfold classS; rw [if_pos (by simp at h12; omega)]
    refine W_seq ?_
    refine W_reg rfl ?_
    iterate 2 (refine run_op rfl rfl rfl (by simp; exact .mk) ?_)
    refine run_end [2, 3] (by simp) (by simp; exact .mk) ?_
    rintro -
    refine W_ret ?_
    refine end_ret (by simp [Try.f132]; exact .mk) (by simp [cl, cls]; exact .mk) ?_ (by simp [D.noSn])
    simp [nrmR, nrmRs, nrmK, kindsOf, kinds, Try.f132, hr]
  · intro h12
    have hn : 1 ≤ n ∧ n ≤ 120 := by simp at h12; omega
    have hr0 : ∀ x, wordsL.findIdx? (fun w => decide (n ≤ w * 8)) = x → classS n = (match x with | some i => ((i : Int), true) | none => (0, false)) := by intro x hx; unfold classS; rw [if_neg (by omega), hx]; cases x <;> rfl
    refine W_skip ?_
    rintro -
    refine W_seq ?_
    refine W_seq ?_
    refine W_reg rfl ?_
    refine run_call0 rfl rfl rfl rfl (by simp [calleeA]; exact .mk) (by simp [kindsOf, kinds, expAs, expA]; exact .mk) (ct138 g) (by simp [D.noRo]) (by simp [impA, impAs, impAs_vI]; exact .mk) ?_
    refine run_op rfl rfl rfl (by simp; exact .mk) ?_
    refine run_end [0, 13, 14] (by simp) (by simp; exact .mk) ?_
    rintro -
    refine W_block ?_
    refine W_rounds (fun m σ o => ∃ i : Nat, m = 6 - i ∧ i ≤ 6 ∧ (∀ j, j < i → decide (n ≤ nth wordsL j * 8) = false) ∧ σ = slots [(0, .d (vI n)), (13, .agg (wordsL.map fun n => .d (vI n))), (14, .d (vI i))] ∧ o = []) 6 .refl ⟨0, by simp, by simp, by simp, rfl, rfl⟩ ?_
    rintro m σ o ⟨i, rfl, hi, hinv, rfl, rfl⟩ _
    refine W_seq ?_
    refine W_reg rfl ?_
    refine run_op rfl rfl rfl (by simp [eqA, eqFs, isStructTy, eqlNeq, strOp, isBoolTy, isPtrTy, isFnTy]; exact .mk) ?_
    refine run_end [0, 13, 14, 15] (by simp) (by simp; exact .mk) ?_
    rintro -
    refine W_seq ?_
    refine W_cond rfl ?_ ?_
    · intro h15
      have hi2 : i < wordsL.length := by simp at h15; show i < 6; omega
      have hi6 : (i : Int) < 6 := by simpa using h15
      have hw : 2 ≤ nth wordsL i ∧ nth wordsL i ≤ 15 := by
        have : i = 0 ∨ i = 1 ∨ i = 2 ∨ i = 3 ∨ i = 4 ∨ i = 5 := by omega
        rcases this with rfl | rfl | rfl | rfl | rfl | rfl <;> decide
      have e1 : IntKind.i64.wrap (nth wordsL i * 8) = nth wordsL i * 8 := wrap64 (by omega) (by omega)
      refine W_skip ?_
      rintro -
      refine W_seq ?_
      refine W_block ?_
      refine W_seq ?_
      refine W_reg rfl ?_
      refine run_op rfl rfl rfl (by simp; exact .mk) ?_
      refine run_op rfl rfl rfl (by simp [indexA, partA, Ty.agg, -List.getElem?_map, map_get hi2, hi6]; exact .mk) ?_
      iterate 2 (refine run_op rfl rfl rfl (by simp; exact .mk) ?_)
      refine run_end [0, 4, 5, 13, 14] (by simp) (by simp; exact .mk) ?_
      rintro -
      refine W_seq ?_
      refine W_reg rfl ?_
      iterate 2 (refine run_op rfl rfl rfl (by simp; exact .mk) ?_)
      refine run_op rfl rfl rfl (by simp [eqA, eqFs, isStructTy, eqlNeq, strOp, isBoolTy, isPtrTy, isFnTy, e1]; exact .mk) ?_
      refine run_op rfl rfl rfl (by simp [eqA, eqFs, isStructTy, eqlNeq, strOp, isBoolTy, isPtrTy, isFnTy]; exact .mk) ?_
      refine run_end [0, 4, 13, 14, 21] (by simp) (by simp; exact .mk) ?_
      rintro -
      refine W_cond rfl ?_ ?_
      · intro h21
        have hr : classS n = ((i : Int), true) := by
          refine hr0 (some i) ?_
          rw [List.findIdx?_eq_some_iff_getElem]
          refine ⟨hi2, by rw [← nth_eq hi2]; exact h21, fun j hj => ?_⟩
          have := hinv j hj
          rw [nth_eq (by omega)] at this; simpa using this
        refine W_seq ?_
        refine W_reg rfl ?_
        iterate 3 (refine run_op rfl rfl rfl (by simp; exact .mk) ?_)
        refine run_end [2, 3] (by simp) (by simp; exact .mk) ?_
        rintro -
        refine W_ret ?_
        refine end_ret (by simp [Try.f132]; exact .mk) (by simp [cl, cls]; exact .mk) ?_ (by simp [D.noSn])
        simp [nrmR, nrmRs, nrmK, kindsOf, kinds, Try.f132, hr]
      · intro h21
        refine W_skip ?_
        rintro -
        refine W_reg rfl ?_
        refine run_op rfl rfl rfl (by simp [eqA, eqFs, isStructTy, eqlNeq, strOp, isBoolTy, isPtrTy, isFnTy]; exact .mk) ?_
        refine run_op rfl rfl rfl (by simp; exact .mk) ?_
        refine run_end [0, 13, 14] (by simp) (by simp; exact .mk) ?_
        refine rounds_kill [0, 13, 14] ?_
        refine rounds_next (m' := 6 - (i+1)) (by omega) ⟨i+1, rfl, by omega, ?_, ?_, rfl⟩
        · intro j hj
          rcases Nat.lt_succ_iff_lt_or_eq.1 hj with hj | rfl
          · exact hinv j hj
          · exact h21
        · rw [wrap64 (by omega) (by omega)]; rfl
    · intro h15
      exfalso
      have := hinv 5 (by simp at h15; omega)
      have h5 : nth wordsL 5 = 15 := rfl
      rw [h5] at this
      simp at this; omega

theorem ct133 (g : Gl) (c off : Int) (h : -2^40 ≤ off ∧ off ≤ 2^40) : CtAt Try.prog g 133 [vI c, vI off] (.tup [vI (whichS c off).1, .v (.bool (whichS c off).2)]) := by
  refine ctAt_of_W Try.func133 rfl rfl (Nat.le_of_ble_eq_true rfl) fun B S => ?_
  refine W_seq ?_
  refine W_reg rfl ?_
  iterate 2 (refine run_op rfl rfl rfl (by simp; exact .mk) ?_)
  refine run_end [0, 1] (by simp) (by simp; exact .mk) ?_
  rintro -
  refine W_seq ?_
  refine W_reg rfl ?_
  refine run_op rfl rfl rfl (by simp; exact .mk) ?_
  refine run_call0 rfl rfl rfl rfl (by simp [calleeA]; exact .mk) (by simp [kindsOf, kinds, expAs, expA]; exact .mk) (ct139 g c) (by simp [D.noRo]) (by simp [impA, impAs]; exact .mk) ?_
  iterate 5 (refine run_op rfl rfl rfl (by simp; exact .mk) ?_)
  refine run_end [1, 6, 7] (by simp) (by simp; exact .mk) ?_
  rintro -
  refine W_seq ?_
  refine W_seq ?_
  refine W_reg rfl ?_
  refine run_op rfl rfl rfl (by simp; exact .mk) ?_
  refine run_op rfl rfl rfl (by simp [eqA, eqFs, isStructTy, eqlNeq, strOp, isBoolTy, isPtrTy, isFnTy]; exact .mk) ?_
  refine run_op rfl rfl rfl (by simp; exact .mk) ?_
  refine run_if rfl (by simp; exact .mk) rfl (by simp <;> first | omega | grind) (fun hb => by simp; exact .mk) ?_
  refine run_if rfl (by simp; exact .mk) rfl (by simp <;> first | omega | grind) (fun hb => by simp [eqA, eqFs, isStructTy, eqlNeq, strOp, isBoolTy, isPtrTy, isFnTy]; exact .mk) ?_
  refine run_pick rfl (by simp; exact .mk) rfl rfl (by simp) (by simp; exact .mk) (by simp; exact .mk) (by simp; exact .mk) ?_
  refine run_end [1, 6, 19] (by simp <;> first | omega | grind) (by simp; exact .mk) ?_
  rintro -
  refine W_cond rfl ?_ ?_
  · intro h19
    have hr : whichS c off = (0, false) := by unfold whichS; rw [if_pos (by by_cases q : c < 0 ∨ 6 ≤ c <;> simp [q] at h19 <;> omega)]
    refine W_seq ?_
    refine W_reg rfl ?_
    iterate 2 (refine run_op rfl rfl rfl (by simp; exact .mk) ?_)
    refine run_end [4, 5] (by simp) (by simp; exact .mk) ?_
    rintro -
    refine W_ret ?_
    refine end_ret (by simp [Try.f133]; exact .mk) (by simp [cl, cls]; exact .mk) ?_ (by simp [D.noSn])
    simp [nrmR, nrmRs, nrmK, kindsOf, kinds, Try.f133, hr]
  · intro h19
    have hc : ¬ (c < 0 ∨ 6 ≤ c) ∧ 4 ≤ off := by by_cases q : c < 0 ∨ 6 ≤ c <;> simp [q] at h19 <;> omega
    obtain ⟨hc1, hc2⟩ := hc
    obtain ⟨k, rfl⟩ : ∃ k : Nat, c = k := ⟨c.toNat, by omega⟩
    have hw : 2 ≤ nth wordsL k ∧ nth wordsL k ≤ 15 := by
      have : k = 0 ∨ k = 1 ∨ k = 2 ∨ k = 3 ∨ k = 4 ∨ k = 5 := by omega
      rcases this with rfl | rfl | rfl | rfl | rfl | rfl <;> decide
    have hw0 : nth wordsL k ≠ 0 := by omega
    simp only [hc1, if_false, Int.toNat_natCast]
    have e1 : IntKind.i64.wrap (off - 4) = off - 4 := wrap64 (by omega) (by omega)
    have b1 : 0 ≤ (off - 4).tdiv (nth wordsL k) ∧ (off - 4).tdiv (nth wordsL k) ≤ off - 4 := by rw [Int.tdiv_eq_ediv_of_nonneg (by omega)]; exact ⟨Int.ediv_nonneg (by omega) (by omega), Int.ediv_le_self _ (by omega)⟩
    have b2 : 0 ≤ (28 : Int).tdiv (nth wordsL k) ∧ (28 : Int).tdiv (nth wordsL k) ≤ 28 := by rw [Int.tdiv_eq_ediv_of_nonneg (by omega)]; exact ⟨Int.ediv_nonneg (by omega) (by omega), Int.ediv_le_self _ (by omega)⟩
    have e2 : IntKind.i64.wrap ((off - 4).tdiv (nth wordsL k)) = (off - 4).tdiv (nth wordsL k) := wrap64 (by omega) (by omega)
    have e3 : IntKind.i64.wrap ((28 : Int).tdiv (nth wordsL k)) = (28 : Int).tdiv (nth wordsL k) := wrap64 (by omega) (by omega)
    have hr0 : whichS k off = if (off - 4).tmod (nth wordsL k) ≠ 0 ∨ (28 : Int).tdiv (nth wordsL k) ≤ (off - 4).tdiv (nth wordsL k) then (0, false) else ((off - 4).tdiv (nth wordsL k), true) := by unfold whichS; rw [if_neg (by omega), Int.toNat_natCast]
    refine W_skip ?_
    rintro -
    refine W_seq ?_
    refine W_reg rfl ?_
    refine run_op rfl rfl rfl (by simp; exact .mk) ?_
    refine run_op rfl rfl rfl (by simp [eqA, eqFs, isStructTy, eqlNeq, strOp, isBoolTy, isPtrTy, isFnTy, e1]; exact .mk) ?_
    refine run_op rfl rfl rfl (by simp; exact .mk) ?_
    refine run_end [6, 8] (by simp) (by simp; exact .mk) ?_
    rintro -
    refine W_seq ?_
    refine W_seq ?_
    refine W_regD (by kernel_rfl) [] 4 [0, 1, 2, 3, 4, 5, 6, 7, 8, 9, 10, 11] (by decide +kernel) ?_
    iterate 2 (refine run_op rfl rfl rfl (by simp; exact .mk) ?_)
    refine run_op rfl rfl rfl (by simp [eqA, eqFs, isStructTy, eqlNeq, strOp, isBoolTy, isPtrTy, isFnTy, hw0]; exact .mk) ?_
    refine run_op rfl rfl rfl (by simp [eqA, eqFs, isStructTy, eqlNeq, strOp, isBoolTy, isPtrTy, isFnTy]; exact .mk) ?_
    refine run_op rfl rfl rfl (by simp; exact .mk) ?_
    refine run_if rfl (by simp; exact .mk) rfl (by simp <;> first | omega | grind) (fun hb => by simp; exact .mk) ?_
    refine run_if rfl (by simp; exact .mk) rfl (by simp <;> first | omega | grind) (fun hb => by simp; exact .mk) ?_
    refine run_if rfl (by simp; exact .mk) rfl (by simp <;> first | omega | grind) (fun hb => by simp [eqA, eqFs, isStructTy, eqlNeq, strOp, isBoolTy, isPtrTy, isFnTy, hw0, e2]; exact .mk) ?_
    refine run_if rfl (by simp; exact .mk) rfl (by simp <;> first | omega | grind) (fun hb => by simp; exact .mk) ?_
    refine run_if rfl (by simp; exact .mk) rfl (by simp <;> first | omega | grind) (fun hb => by simp [eqA, eqFs, isStructTy, eqlNeq, strOp, isBoolTy, isPtrTy, isFnTy, hw0, e3]; exact .mk) ?_
    refine run_if rfl (by simp; exact .mk) rfl (by simp <;> first | omega | grind) (fun hb => by simp [eqA, eqFs, isStructTy, eqlNeq, strOp, isBoolTy, isPtrTy, isFnTy]; exact .mk) ?_
    refine run_pick rfl (by simp; exact .mk) rfl rfl (by simp) (by simp; exact .mk) (by simp; exact .mk) (by simp; exact .mk) ?_
    refine run_end [6, 8, 33] (by simp <;> first | omega | grind) (by simp; exact .mk) ?_
    rintro -
    refine W_cond rfl ?_ ?_
    · intro h33
      have hr : whichS k off = (0, false) := by rw [hr0, if_pos (by simpa using h33)]
      refine W_seq ?_
      refine W_reg rfl ?_
      iterate 2 (refine run_op rfl rfl rfl (by simp; exact .mk) ?_)
      refine run_end [4, 5] (by simp) (by simp; exact .mk) ?_
      rintro -
      refine W_ret ?_
      refine end_ret (by simp [Try.f133]; exact .mk) (by simp [cl, cls]; exact .mk) ?_ (by simp [D.noSn])
      simp [nrmR, nrmRs, nrmK, kindsOf, kinds, Try.f133, hr]
    · intro h33
      have hr : whichS k off = ((off - 4).tdiv (nth wordsL k), true) := by rw [hr0, if_neg (by simpa using h33)]
      refine W_skip ?_
      rintro -
      refine W_seq ?_
      refine W_reg rfl ?_
      iterate 2 (refine run_op rfl rfl rfl (by simp; exact .mk) ?_)
      refine run_op rfl rfl rfl (by simp [eqA, eqFs, isStructTy, eqlNeq, strOp, isBoolTy, isPtrTy, isFnTy, hw0, e2]; exact .mk) ?_
      iterate 2 (refine run_op rfl rfl rfl (by simp; exact .mk) ?_)
      refine run_end [4, 5] (by simp) (by simp; exact .mk) ?_
      rintro -
      refine W_ret ?_
      refine end_ret (by simp [Try.f133]; exact .mk) (by simp [cl, cls]; exact .mk) ?_ (by simp [D.noSn])
      simp [nrmR, nrmRs, nrmK, kindsOf, kinds, Try.f133, hr]

end Go.Proofs

set_option linter.unusedSimpArgs false
set_option linter.unusedVariables false
set_option maxHeartbeats 4000000
set_option maxRecDepth 4000
namespace Go.Proofs
open Go.Awp
theorem ct128 (g : Gl) (pages : Int) (o : Int × Int) (hp : 0 ≤ pages ∧ pages ≤ 64) (ho : o.1 ≤ 2^40) : CtAt Try.prog g 128 [vI pages, eObj o] (.tup [eSpot (spotS pages o).1, .v (.bool (spotS pages o).2)]) := by
  refine ctAt_of_W Try.func128 rfl rfl (Nat.le_of_ble_eq_true rfl) fun B S => ?_
  obtain ⟨at_, len⟩ := o
  simp only [eObj, List.map, argD_agg, argD_v]
  refine W_seq ?_
  refine W_reg rfl ?_
  refine run_op rfl rfl rfl (by simp [boxA, AV.cells, AV.isCell, boxA, AV.cells, AV.isCell]; exact .mk) ?_
  refine run_op rfl rfl rfl (by simp [boxA, AV.cells, AV.isCell, allocA, Value.oneCell']; exact .mk) ?_
  refine run_op rfl rfl rfl (by simp [boxA, AV.cells, AV.isCell]; exact .mk) ?_
  refine run_end [0, 3, 4] (by simp) (by simp; exact .mk) ?_
  rintro -
  refine W_seq ?_
  refine W_seq ?_
  refine W_reg rfl ?_
  iterate 2 (refine run_op rfl rfl rfl (by simp [boxA, AV.cells, AV.isCell]; exact .mk) ?_)
  refine run_op rfl rfl rfl (by simp [boxA, AV.cells, AV.isCell, eqA, eqFs, isStructTy, eqlNeq, strOp, isBoolTy, isPtrTy, isFnTy]; exact .mk) ?_
  refine run_end [0, 3, 4, 10] (by simp) (by simp; exact .mk) ?_
  rintro -
  refine W_cond rfl ?_ ?_
  · intro h10
    have hr : spotS pages (at_, len) = (⟨0, 0, false, 0, 0⟩, false) := by unfold spotS; rw [if_pos (by simpa using h10)]
    refine W_seq ?_
    refine W_reg rfl ?_
    refine run_op rfl rfl rfl (by simp [boxA, AV.cells, AV.isCell]; exact .mk) ?_
    refine run_op rfl rfl rfl (by simp [boxA, AV.cells, AV.isCell, storeA, AV.cells, AV.isCell, splice]; exact .mk) ?_
    refine run_op rfl rfl rfl (by simp [boxA, AV.cells, AV.isCell]; exact .mk) ?_
    refine run_end [4, 5] (by simp) (by simp; exact .mk) ?_
    rintro -
    refine W_ret ?_
    refine end_ret (by simp [boxA, AV.cells, AV.isCell, Try.f128]; exact .mk) (by simp [boxA, AV.cells, AV.isCell, cl, cls]; exact .mk) ?_ (by simp [boxA, AV.cells, AV.isCell, D.noSn, hr])
    simp [nrmR, nrmRs, nrmK, kindsOf, kinds, Try.f128, eSpot, hr] <;> (try refine ⟨‹_›, ?_⟩) <;> first | assumption | rfl
  · intro h10
    have h0 : 0 ≤ at_ := by simpa using h10
    have h00 : at_ ≤ 2^40 := ho
    have d1 : 0 ≤ at_.tdiv 32 := Int.tdiv_nonneg h0 (by omega)
    have d3 : at_.tdiv 32 ≤ at_ := by rw [Int.tdiv_eq_ediv_of_nonneg h0]; omega
    have d2 : 0 ≤ at_.tmod 32 ∧ at_.tmod 32 < 32 := by rw [Int.tmod_eq_emod_of_nonneg h0]; omega
    have e1 : IntKind.i64.wrap (at_.tdiv 32) = at_.tdiv 32 := wrap64 (by omega) (by omega)
    have e2 : IntKind.i64.wrap (at_.tmod 32) = at_.tmod 32 := wrap64 (by omega) (by omega)
    have e3 : IntKind.i64.wrap (pages - at_.tdiv 32) = pages - at_.tdiv 32 := wrap64 (by omega) (by omega)
    refine W_skip ?_
    rintro -
    refine W_seq ?_
    refine W_reg rfl ?_
    iterate 2 (refine run_op rfl rfl rfl (by simp [boxA, AV.cells, AV.isCell]; exact .mk) ?_)
    refine run_op rfl rfl rfl (by simp [boxA, AV.cells, AV.isCell, eqA, eqFs, isStructTy, eqlNeq, strOp, isBoolTy, isPtrTy, isFnTy, e1]; exact .mk) ?_
    refine run_op rfl rfl rfl (by simp [boxA, AV.cells, AV.isCell]; exact .mk) ?_
    refine run_op rfl rfl rfl (by simp [boxA, AV.cells, AV.isCell, storeA, AV.cells, AV.isCell, splice]; exact .mk) ?_
    refine run_op rfl rfl rfl (by simp [boxA, AV.cells, AV.isCell]; exact .mk) ?_
    refine run_op rfl rfl rfl (by simp [boxA, AV.cells, AV.isCell, storeA, AV.cells, AV.isCell, splice]; exact .mk) ?_
    refine run_end [0, 3, 4] (by simp) (by simp; exact .mk) ?_
    rintro -
    refine W_seq ?_
    refine W_reg rfl ?_
    iterate 2 (refine run_op rfl rfl rfl (by simp [boxA, AV.cells, AV.isCell]; exact .mk) ?_)
    refine run_call0 rfl rfl rfl rfl (by simp [boxA, AV.cells, AV.isCell, calleeA]; exact .mk) (by simp [boxA, AV.cells, AV.isCell, kindsOf, kinds, expAs, expA]; exact .mk) (ct132 g len) (by simp [boxA, AV.cells, AV.isCell, D.noRo]) (by simp [boxA, AV.cells, AV.isCell, impA, impAs]; exact .mk) ?_
    iterate 4 (refine run_op rfl rfl rfl (by simp [boxA, AV.cells, AV.isCell]; exact .mk) ?_)
    refine run_op rfl rfl rfl (by simp [boxA, AV.cells, AV.isCell, storeA, AV.cells, AV.isCell, splice]; exact .mk) ?_
    refine run_op rfl rfl rfl (by simp [boxA, AV.cells, AV.isCell]; exact .mk) ?_
    refine run_op rfl rfl rfl (by simp [boxA, AV.cells, AV.isCell, storeA, AV.cells, AV.isCell, splice]; exact .mk) ?_
    refine run_end [0, 3, 4] (by simp) (by simp; exact .mk) ?_
    rintro -
    refine W_seq ?_
    refine W_seq ?_
    refine W_reg rfl ?_
    iterate 2 (refine run_op rfl rfl rfl (by simp [boxA, AV.cells, AV.isCell]; exact .mk) ?_)
    refine run_end [0, 3, 4, 26] (by simp) (by simp; exact .mk) ?_
    rintro -
    refine W_cond rfl ?_ ?_
    · intro h26
      have hr : spotS pages (at_, len) = (⟨at_.tdiv 32, 1, true, (classS len).1, (whichS (classS len).1 (at_.tmod 32)).1⟩, (whichS (classS len).1 (at_.tmod 32)).2 && decide (at_.tdiv 32 < pages)) := by unfold spotS; rw [if_neg (by simpa using h10), if_pos h26]
      refine W_seq ?_
      refine W_reg rfl ?_
      iterate 4 (refine run_op rfl rfl rfl (by simp [boxA, AV.cells, AV.isCell]; exact .mk) ?_)
      refine run_op rfl rfl rfl (by simp [boxA, AV.cells, AV.isCell, eqA, eqFs, isStructTy, eqlNeq, strOp, isBoolTy, isPtrTy, isFnTy, e2]; exact .mk) ?_
      refine run_call0 rfl rfl rfl rfl (by simp [boxA, AV.cells, AV.isCell, calleeA]; exact .mk) (by simp [boxA, AV.cells, AV.isCell, kindsOf, kinds, expAs, expA]; exact .mk) (ct133 g _ (at_.tmod 32) (by omega)) (by simp [boxA, AV.cells, AV.isCell, D.noRo]) (by simp [boxA, AV.cells, AV.isCell, impA, impAs]; exact .mk) ?_
      iterate 4 (refine run_op rfl rfl rfl (by simp [boxA, AV.cells, AV.isCell]; exact .mk) ?_)
      refine run_op rfl rfl rfl (by simp [boxA, AV.cells, AV.isCell, storeA, AV.cells, AV.isCell, splice]; exact .mk) ?_
      refine run_op rfl rfl rfl (by simp [boxA, AV.cells, AV.isCell]; exact .mk) ?_
      refine run_end [0, 4, 5] (by simp) (by simp; exact .mk) ?_
      rintro -
      refine W_seq ?_
      refine W_reg rfl ?_
      iterate 3 (refine run_op rfl rfl rfl (by simp [boxA, AV.cells, AV.isCell]; exact .mk) ?_)
      refine run_if rfl (by simp [boxA, AV.cells, AV.isCell]; exact .mk) rfl (by simp <;> first | omega | grind) (fun hb => by simp [boxA, AV.cells, AV.isCell]; exact .mk) ?_
      refine run_if rfl (by simp [boxA, AV.cells, AV.isCell]; exact .mk) rfl (by simp <;> first | omega | grind) (fun hb => by simp [boxA, AV.cells, AV.isCell]; exact .mk) ?_
      refine run_if rfl (by simp [boxA, AV.cells, AV.isCell]; exact .mk) rfl (by simp <;> first | omega | grind) (fun hb => by simp [boxA, AV.cells, AV.isCell]; exact .mk) ?_
      refine run_if rfl (by simp [boxA, AV.cells, AV.isCell]; exact .mk) rfl (by simp <;> first | omega | grind) (fun hb => by simp [boxA, AV.cells, AV.isCell, eqA, eqFs, isStructTy, eqlNeq, strOp, isBoolTy, isPtrTy, isFnTy]; exact .mk) ?_
      refine run_pick rfl (by simp [boxA, AV.cells, AV.isCell]; exact .mk) rfl rfl (by simp) (by simp [boxA, AV.cells, AV.isCell]; exact .mk) (by simp [boxA, AV.cells, AV.isCell]; exact .mk) (by simp; exact .mk) ?_
      refine run_op1 rfl rfl rfl (by simp <;> first | omega | grind) (by simp [boxA, AV.cells, AV.isCell, storeA, AV.cells, AV.isCell, splice]; exact .mk) ?_
      refine run_op1 rfl rfl rfl (by simp <;> first | omega | grind) (by simp [boxA, AV.cells, AV.isCell]; exact .mk) ?_
      refine run_end [4, 5] (by simp <;> first | omega | grind) (by simp; exact .mk) ?_
      rintro -
      refine W_ret ?_
      refine end_ret (by simp [boxA, AV.cells, AV.isCell, Try.f128]; exact .mk) (by simp [boxA, AV.cells, AV.isCell, cl, cls]; exact .mk) ?_ (by simp [boxA, AV.cells, AV.isCell, D.noSn, hr])
      simp [nrmR, nrmRs, nrmK, kindsOf, kinds, Try.f128, eSpot, hr] <;> (try refine ⟨‹_›, ?_⟩) <;> first | assumption | rfl
    · intro h26
      have hr : spotS pages (at_, len) = (⟨at_.tdiv 32, (pagesS len).1, false, (classS len).1, 0⟩, decide ((pagesS len).2 = 0) && decide (at_.tmod 32 = 0) && decide (at_.tdiv 32 < pages) && decide ((pagesS len).1 ≤ pages - at_.tdiv 32)) := by unfold spotS; rw [if_neg (by simpa using h10), if_neg (by simp [h26])]
      refine W_skip ?_
      rintro -
      refine W_seq ?_
      refine W_reg rfl ?_
      iterate 2 (refine run_op rfl rfl rfl (by simp [boxA, AV.cells, AV.isCell]; exact .mk) ?_)
      refine run_call0 rfl rfl rfl rfl (by simp [boxA, AV.cells, AV.isCell, calleeA]; exact .mk) (by simp [boxA, AV.cells, AV.isCell, kindsOf, kinds, expAs, expA]; exact .mk) (ct134 g len) (by simp [boxA, AV.cells, AV.isCell, D.noRo]) (by simp [boxA, AV.cells, AV.isCell, impA, impAs]; exact .mk) ?_
      iterate 5 (refine run_op rfl rfl rfl (by simp [boxA, AV.cells, AV.isCell]; exact .mk) ?_)
      refine run_end [0, 3, 4, 6, 7] (by simp) (by simp; exact .mk) ?_
      rintro -
      refine W_seq ?_
      refine W_reg rfl ?_
      iterate 2 (refine run_op rfl rfl rfl (by simp [boxA, AV.cells, AV.isCell]; exact .mk) ?_)
      refine run_op rfl rfl rfl (by simp [boxA, AV.cells, AV.isCell, storeA, AV.cells, AV.isCell, splice]; exact .mk) ?_
      refine run_end [0, 3, 4, 6, 7] (by simp) (by simp; exact .mk) ?_
      rintro -
      refine W_seq ?_
      refine W_reg rfl ?_
      iterate 2 (refine run_op rfl rfl rfl (by simp [boxA, AV.cells, AV.isCell]; exact .mk) ?_)
      refine run_op rfl rfl rfl (by simp [boxA, AV.cells, AV.isCell, eqA, eqFs, isStructTy, eqlNeq, strOp, isBoolTy, isPtrTy, isFnTy]; exact .mk) ?_
      refine run_op rfl rfl rfl (by simp [boxA, AV.cells, AV.isCell]; exact .mk) ?_
      refine run_if rfl (by simp [boxA, AV.cells, AV.isCell]; exact .mk) rfl (by simp <;> first | omega | grind) (fun hb => by simp [boxA, AV.cells, AV.isCell]; exact .mk) ?_
      refine run_if rfl (by simp [boxA, AV.cells, AV.isCell]; exact .mk) rfl (by simp <;> first | omega | grind) (fun hb => by simp [boxA, AV.cells, AV.isCell]; exact .mk) ?_
      refine run_if rfl (by simp [boxA, AV.cells, AV.isCell]; exact .mk) rfl (by simp <;> first | omega | grind) (fun hb => by simp [boxA, AV.cells, AV.isCell, eqA, eqFs, isStructTy, eqlNeq, strOp, isBoolTy, isPtrTy, isFnTy, e2]; exact .mk) ?_
      refine run_if rfl (by simp [boxA, AV.cells, AV.isCell]; exact .mk) rfl (by simp <;> first | omega | grind) (fun hb => by simp [boxA, AV.cells, AV.isCell, eqA, eqFs, isStructTy, eqlNeq, strOp, isBoolTy, isPtrTy, isFnTy]; exact .mk) ?_
      refine run_pick rfl (by simp [boxA, AV.cells, AV.isCell]; exact .mk) rfl rfl (by simp) (by simp [boxA, AV.cells, AV.isCell]; exact .mk) (by simp [boxA, AV.cells, AV.isCell]; exact .mk) (by simp; exact .mk) ?_
      refine run_op1 rfl rfl rfl (by simp <;> first | omega | grind) (by simp [boxA, AV.cells, AV.isCell]; exact .mk) ?_
      refine run_if rfl (by simp [boxA, AV.cells, AV.isCell]; exact .mk) rfl (by simp <;> first | omega | grind) (fun hb => by simp [boxA, AV.cells, AV.isCell]; exact .mk) ?_
      refine run_if rfl (by simp [boxA, AV.cells, AV.isCell]; exact .mk) rfl (by simp <;> first | omega | grind) (fun hb => by simp [boxA, AV.cells, AV.isCell]; exact .mk) ?_
      refine run_if rfl (by simp [boxA, AV.cells, AV.isCell]; exact .mk) rfl (by simp <;> first | omega | grind) (fun hb => by simp [boxA, AV.cells, AV.isCell]; exact .mk) ?_
      refine run_if rfl (by simp [boxA, AV.cells, AV.isCell]; exact .mk) rfl (by simp <;> first | omega | grind) (fun hb => by simp [boxA, AV.cells, AV.isCell, eqA, eqFs, isStructTy, eqlNeq, strOp, isBoolTy, isPtrTy, isFnTy]; exact .mk) ?_
      refine run_pick rfl (by simp [boxA, AV.cells, AV.isCell]; exact .mk) rfl rfl (by simp) (by simp [boxA, AV.cells, AV.isCell]; exact .mk) (by simp [boxA, AV.cells, AV.isCell]; exact .mk) (by simp; exact .mk) ?_
      refine run_op1 rfl rfl rfl (by simp <;> first | omega | grind) (by simp [boxA, AV.cells, AV.isCell]; exact .mk) ?_
      refine run_if rfl (by simp [boxA, AV.cells, AV.isCell]; exact .mk) rfl (by simp <;> first | omega | grind) (fun hb => by simp [boxA, AV.cells, AV.isCell]; exact .mk) ?_
      refine run_if rfl (by simp [boxA, AV.cells, AV.isCell]; exact .mk) rfl (by simp <;> first | omega | grind) (fun hb => by simp [boxA, AV.cells, AV.isCell]; exact .mk) ?_
      refine run_if rfl (by simp [boxA, AV.cells, AV.isCell]; exact .mk) rfl (by simp <;> first | omega | grind) (fun hb => by simp [boxA, AV.cells, AV.isCell]; exact .mk) ?_
      refine run_if rfl (by simp [boxA, AV.cells, AV.isCell]; exact .mk) rfl (by simp <;> first | omega | grind) (fun hb => by simp [boxA, AV.cells, AV.isCell]; exact .mk) ?_
      refine run_if rfl (by simp [boxA, AV.cells, AV.isCell]; exact .mk) rfl (by simp <;> first | omega | grind) (fun hb => by simp [boxA, AV.cells, AV.isCell, eqA, eqFs, isStructTy, eqlNeq, strOp, isBoolTy, isPtrTy, isFnTy, e3]; exact .mk) ?_
      refine run_if rfl (by simp [boxA, AV.cells, AV.isCell]; exact .mk) rfl (by simp <;> first | omega | grind) (fun hb => by simp [boxA, AV.cells, AV.isCell, eqA, eqFs, isStructTy, eqlNeq, strOp, isBoolTy, isPtrTy, isFnTy]; exact .mk) ?_
      refine run_pick rfl (by simp [boxA, AV.cells, AV.isCell]; exact .mk) rfl rfl (by simp) (by simp [boxA, AV.cells, AV.isCell]; exact .mk) (by simp [boxA, AV.cells, AV.isCell]; exact .mk) (by simp; exact .mk) ?_
      refine run_op1 rfl rfl rfl (by simp <;> first | omega | grind) (by simp [boxA, AV.cells, AV.isCell, storeA, AV.cells, AV.isCell, splice]; exact .mk) ?_
      refine run_op1 rfl rfl rfl (by simp <;> first | omega | grind) (by simp [boxA, AV.cells, AV.isCell]; exact .mk) ?_
      refine run_end [4, 5] (by simp <;> first | omega | grind) (by simp; exact .mk) ?_
      rintro -
      refine W_ret ?_
      refine end_ret (by simp [boxA, AV.cells, AV.isCell, Try.f128]; exact .mk) (by simp [boxA, AV.cells, AV.isCell, cl, cls]; exact .mk) ?_ (by simp [boxA, AV.cells, AV.isCell, D.noSn, hr])
      simp [nrmR, nrmRs, nrmK, kindsOf, kinds, Try.f128, eSpot, hr] <;> (try refine ⟨‹_›, ?_⟩) <;> first | assumption | rfl

end Go.Proofs

set_option linter.unusedSimpArgs false
namespace Go.Proofs
open Go.Awp
def isOne (s : Slot) : Bool := s.live && !s.two
def oneIx (l : List Slot) (i : Nat) : List Nat := (List.range i).filter fun j => isOne (nth l j)
theorem oneIx_t {l : List Slot} {i : Nat} (h : isOne (nth l i) = true) : oneIx l (i + 1) = oneIx l i ++ [i] := by simp [oneIx, List.range_succ, List.filter_append, h]
theorem oneIx_f {l : List Slot} {i : Nat} (h : isOne (nth l i) = false) : oneIx l (i + 1) = oneIx l i := by simp [oneIx, List.range_succ, List.filter_append, h]
theorem oneIx_len {l : List Slot} {i : Nat} : (oneIx l i).length ≤ i := by
  have := List.length_filter_le (fun j => isOne (nth l j)) (List.range i)
  simpa [oneIx] using this
def blkAt (l : List Slot) (j : Nat) : Blk := ⟨(nth l j).at_, (needS (nth l j).len).1, j⟩
def onesR (l : List Slot) : List Blk := (oneIx l l.length).map (blkAt l)
/-- The blocks of objects of format 1, by their places. -/
def onesS (l : List Slot) : List Blk := stS ltB (onesR l)
theorem onesR_len {l : List Slot} : (onesR l).length ≤ l.length := by simpa [onesR] using oneIx_len
theorem onesS_len {l : List Slot} : (onesS l).length ≤ l.length := by rw [onesS, nodup_of_stS]; exact onesR_len
end Go.Proofs

set_option linter.unusedSimpArgs false
namespace Go.Proofs
open Go.Awp
abbrev vU (m : Nat) : D := .v (.int .u64 m)
def cU (m : Nat) : AV := .d (vU m)
theorem andU {a b : Nat} (ha : a < 2^64) (hb : b < 2^64) : IntKind.u64.wrap (((BitVec.ofInt 64 (a : Int) &&& BitVec.ofInt 64 (b : Int)).toNat : Nat) : Int) = ((a &&& b : Nat) : Int) := by
  have h : a &&& b < 2^64 := Nat.lt_of_le_of_lt Nat.and_le_left ha
  rw [show (BitVec.ofInt 64 (a : Int) &&& BitVec.ofInt 64 (b : Int)).toNat = a &&& b by
    rw [BitVec.toNat_and, BitVec.ofInt_natCast, BitVec.ofInt_natCast, BitVec.toNat_ofNat, BitVec.toNat_ofNat, Nat.mod_eq_of_lt ha, Nat.mod_eq_of_lt hb]]
  simp only [IntKind.wrap, IntKind.signed, IntKind.bits]
  simp; omega
theorem orU {a b : Nat} (ha : a < 2^64) (hb : b < 2^64) : IntKind.u64.wrap (((BitVec.ofInt 64 (a : Int) ||| BitVec.ofInt 64 (b : Int)).toNat : Nat) : Int) = ((a ||| b : Nat) : Int) := by
  have h : a ||| b < 2^64 := Nat.or_lt_two_pow ha hb
  rw [show (BitVec.ofInt 64 (a : Int) ||| BitVec.ofInt 64 (b : Int)).toNat = a ||| b by
    rw [BitVec.toNat_or, BitVec.ofInt_natCast, BitVec.ofInt_natCast, BitVec.toNat_ofNat, BitVec.toNat_ofNat, Nat.mod_eq_of_lt ha, Nat.mod_eq_of_lt hb]]
  simp only [IntKind.wrap, IntKind.signed, IntKind.bits]
  simp; omega
theorem wrapU64 {n : Nat} (h : n < 2^64) : IntKind.u64.wrap (n : Int) = (n : Int) := by
  simp only [IntKind.wrap, IntKind.signed, IntKind.bits]
  simp; omega
theorem shlU {c : Nat} (h : c < 64) : IntKind.u64.wrap (1 * 2 ^ (min (c : Int).toNat 64)) = ((2 ^ c : Nat) : Int) := by
  rw [Int.toNat_natCast, Nat.min_eq_left (by omega), Int.one_mul, show ((2 : Int) ^ c) = ((2 ^ c : Nat) : Int) by simp]
  exact wrapU64 (Nat.pow_lt_pow_right (by omega) h)
theorem drop_map_nth {α β : Type} [Inhabited α] {l : List α} {f : α → β} {p : Nat} (h : p < l.length) : (l.map f).drop p = f (nth l p) :: (l.map f).drop (p + 1) := by
  rw [List.drop_eq_getElem_cons (by simpa using h), List.getElem_map, nth_eq h]
theorem splice_set {α β : Type} {l : List α} {f : α → β} {p : Nat} {x : β} {y : α} (h : p < l.length) : Go.splice (x :: l.map f) (p + 1) [f y] = x :: (l.set p y).map f := by
  simp only [Go.splice, List.length_singleton, List.take_succ_cons, List.drop_succ_cons, List.cons_append]
  congr 1
  rw [List.map_set, List.set_eq_take_append_cons_drop, if_pos (by simpa using h)]
  simp
theorem drop_cons_nth {α β : Type} [Inhabited α] {l : List α} {f : α → β} {p : Nat} (h : p < l.length) (x : β) : (x :: l.map f).drop (1 + p) = f (nth l p) :: (l.map f).drop (p + 1) := by
  rw [Nat.add_comm, List.drop_succ_cons]; exact drop_map_nth h
theorem splice_one {α β : Type} {l : List α} {f : α → β} {p : Nat} (h : p < l.length) (x : β) (y : α) : Go.splice (x :: l.map f) (1 + p) [f y] = x :: (l.set p y).map f := by
  rw [Nat.add_comm]; exact splice_set h
@[simp] theorem lts_cU (m : Nat) (l : List Nat) : AV.lts m (l.map cU) = true := by
  induction l with
  | nil => rfl
  | cons a l ih => simp [AV.lts, AV.lt, cU, ih]
@[simp] theorem lts_cU_set (m : Nat) (l : List Nat) (p x : Nat) : AV.lts m ((l.map cU).set p (cU x)) = true := by rw [← List.map_set]; exact lts_cU _ _
theorem shlU2 {c : Nat} (h : c < 64) : IntKind.u64.wrap (2 ^ min c 64) = ((2 ^ c : Nat) : Int) := by
  have := shlU h
  rwa [Int.one_mul, Int.toNat_natCast] at this
theorem andU2 {a b : Nat} (ha : a < 2^64) (hb : b < 2^64) : IntKind.u64.wrap (((BitVec.ofNat 64 a &&& BitVec.ofNat 64 b).toNat : Nat) : Int) = ((a &&& b : Nat) : Int) := by
  have := andU ha hb
  rwa [BitVec.ofInt_natCast, BitVec.ofInt_natCast] at this
theorem orU2 {a b : Nat} (ha : a < 2^64) (hb : b < 2^64) : IntKind.u64.wrap (((BitVec.ofNat 64 a ||| BitVec.ofNat 64 b).toNat : Nat) : Int) = ((a ||| b : Nat) : Int) := by
  have := orU ha hb
  rwa [BitVec.ofInt_natCast, BitVec.ofInt_natCast] at this
theorem shlO {c bit : Nat} (h : c < 64) (hb : bit = 2 ^ c) : shOp .shl .u64 1 (c : Int) = some (.int .u64 (bit : Int)) := by
  unfold shOp
  rw [if_neg (by omega), hb]
  exact congrArg (fun x => some (Value.int .u64 x)) (shlU h)
theorem andO {a b : Nat} (ha : a < 2^64) (hb : b < 2^64) : IntKind.u64.wrap ((a % 2 ^ IntKind.u64.bits &&& b % 2 ^ IntKind.u64.bits : Nat) : Int) = ((a &&& b : Nat) : Int) := by
  rw [show 2 ^ IntKind.u64.bits = 2 ^ 64 from rfl, Nat.mod_eq_of_lt ha, Nat.mod_eq_of_lt hb]
  exact wrapU64 (Nat.lt_of_le_of_lt Nat.and_le_left ha)
theorem orO {a b : Nat} (ha : a < 2^64) (hb : b < 2^64) : IntKind.u64.wrap ((a % 2 ^ IntKind.u64.bits ||| b % 2 ^ IntKind.u64.bits : Nat) : Int) = ((a ||| b : Nat) : Int) := by
  rw [show 2 ^ IntKind.u64.bits = 2 ^ 64 from rfl, Nat.mod_eq_of_lt ha, Nat.mod_eq_of_lt hb]
  exact wrapU64 (Nat.or_lt_two_pow ha hb)
/-- Pages of one object, from its page on. -/
def fillF (p : Nat) : Nat → Nat → List Int → Bool × List Int
  | 0, _, l => (true, l)
  | f + 1, j, l => if nth l (p + j) = -1 then fillF p f (j + 1) (l.set (p + j) 7) else (false, l)
/-- One object laid into a layout: its page, how many, is it small, its class, its cell. -/
def layS (ks : List Int) (ms : List Nat) (p k : Nat) (small : Bool) (cls : Int) (c : Nat) : Bool × List Int × List Nat :=
  if small = true then
    if nth ks p = cls ∧ nth ms p &&& 2 ^ c = 0 then (true, ks, ms.set p (nth ms p ||| 2 ^ c))
    else if nth ks p = -1 then (true, ks.set p cls, ms.set p (2 ^ c))
    else (false, ks, ms)
  else if (fillF p k 0 ks).1 = true then (true, (fillF p k 0 ks).2.set p 6, ms) else (false, (fillF p k 0 ks).2, ms)
theorem layS_bit {ks : List Int} {ms : List Nat} {p k : Nat} {small : Bool} {cls : Int} {c bit : Nat} (h : bit = 2 ^ c) : layS ks ms p k small cls c = if small = true then
    if nth ks p = cls ∧ nth ms p &&& bit = 0 then (true, ks, ms.set p (nth ms p ||| bit))
    else if nth ks p = -1 then (true, ks.set p cls, ms.set p bit)
    else (false, ks, ms)
  else if (fillF p k 0 ks).1 = true then (true, (fillF p k 0 ks).2.set p 6, ms) else (false, (fillF p k 0 ks).2, ms) := by subst h; rfl
theorem fillF_t {p f j : Nat} {l : List Int} (h : nth l (p + j) = -1) : fillF p (f + 1) j l = fillF p f (j + 1) (l.set (p + j) 7) := by
  conv => lhs; unfold fillF
  rw [if_pos h]
theorem fillF_f {p f j : Nat} {l : List Int} (h : nth l (p + j) ≠ -1) : fillF p (f + 1) j l = (false, l) := by
  conv => lhs; unfold fillF
  rw [if_neg h]
theorem fillF_len {p : Nat} : ∀ {f j : Nat} {l : List Int}, (fillF p f j l).2.length = l.length
  | 0, _, _ => rfl
  | f + 1, j, l => by
    unfold fillF
    split
    · rw [fillF_len]; simp
    · rfl
end Go.Proofs

set_option linter.unusedSimpArgs false
set_option linter.unusedVariables false
set_option maxHeartbeats 4000000
set_option maxRecDepth 4000
namespace Go.Proofs
open Go.Awp
theorem in117 (g : Gl) (o0 o1 o4 o5 o6 o7 o8 o9 o10 : Awp.Obj) (ks : List Int) (n : Nat) (hn : ks.length = n) (ms : List Nat) (p k : Nat) (small : Bool) (kd : Int) (c : Nat) (h1 : ms.length = 64) (h2 : ks.length ≤ 64) (h3 : p < ks.length) (h4 : p + k ≤ ks.length) (h5 : c < 64) (h6 : nth ms p < 2^64) (z0 : o0.lt 11 = true) (z1 : o1.lt 11 = true) (z4 : o4.lt 11 = true) (z5 : o5.lt 11 = true) (z6 : o6.lt 11 = true) (z7 : o7.lt 11 = true) (z8 : o8.lt 11 = true) (z9 : o9.lt 11 = true) (z10 : o10.lt 11 = true) :
    ∀ B S, CallsA Try.prog g B S ⟨11, true⟩ 117 [.ptr 3 0 0, .agg [.d (vI p), .d (vI k), .d (vT small), .d (vI kd), .d (vI c)]] [o0, o1, .row 1 (ks.map vI), .var 134 (AV.hdr 2 0 n :: ms.map cU), o4, o5, o6, o7, o8, o9, o10]
    (fun x r => x = .d (vT (layS ks ms p k small kd c).1) ∧ r = [o0, o1, .row 1 ((layS ks ms p k small kd c).2.1.map vI), .var 134 (AV.hdr 2 0 n :: (layS ks ms p k small kd c).2.2.map cU), o4, o5, o6, o7, o8, o9, o10]) := by
  refine callsA_at Try.func117 rfl (Nat.le_of_ble_eq_true rfl) fun B S => ?_
  subst hn
  obtain ⟨bit, hbit⟩ : ∃ bit : Nat, bit = 2 ^ c := ⟨_, rfl⟩
  have b1 := shlO h5 hbit
  have b2 : bit < 2 ^ 64 := by rw [hbit]; exact Nat.pow_lt_pow_right (by omega) h5
  have b3 := andO h6 b2
  have b4 := orO h6 b2
  have hl := layS_bit (ks := ks) (ms := ms) (p := p) (k := k) (small := small) (cls := kd) hbit
  have r1 : p < ms.length := by omega
  have q1 : (p : Int) < 64 := by omega
  have d1 := drop_cons_nth (f := cU) r1
  have d2 : ∀ (x : AV) (m : Nat), Go.splice (x :: ms.map cU) (1 + p) [AV.d (vU m)] = x :: (ms.set p m).map cU := fun x m => splice_one (f := cU) r1 x m
  have q2 : 1 + p + 1 ≤ ms.length + 1 := by omega
  refine W_seq ?_
  refine W_reg rfl ?_
  refine run_op rfl rfl rfl (by simp [boxA, AV.cells, AV.isCell, z0, z1, z4, z5, z6, z7, z8, z9, z10, d1, boxA, AV.cells, AV.isCell]; exact .mk) ?_
  refine run_op rfl rfl rfl (by simp [boxA, AV.cells, AV.isCell, z0, z1, z4, z5, z6, z7, z8, z9, z10, d1]; exact .mk) ?_
  refine run_end [0, 3] (by simp) (by simp; exact .mk) ?_
  rintro -
  refine W_seq ?_
  refine W_reg rfl ?_
  iterate 2 (refine run_op rfl rfl rfl (by simp [boxA, AV.cells, AV.isCell, z0, z1, z4, z5, z6, z7, z8, z9, z10, d1]; exact .mk) ?_)
  refine run_op rfl rfl rfl (by simp [boxA, AV.cells, AV.isCell, z0, z1, z4, z5, z6, z7, z8, z9, z10, d1, eqA, eqFs, isStructTy, eqlNeq, strOp, isBoolTy, isPtrTy, isFnTy, b1]; exact .mk) ?_
  refine run_op rfl rfl rfl (by simp [boxA, AV.cells, AV.isCell, z0, z1, z4, z5, z6, z7, z8, z9, z10, d1]; exact .mk) ?_
  refine run_end [0, 3, 5] (by simp) (by simp; exact .mk) ?_
  rintro -
  refine W_seq ?_
  refine W_block ?_
  refine W_seq ?_
  refine W_regD (by kernel_rfl) [] 4 [0, 1, 2, 3, 4, 5, 6, 7, 8, 9, 10, 11, 12, 13, 14, 15, 16, 17, 18, 19, 20, 21, 22, 23, 24, 25, 26, 27] (by decide +kernel) ?_
  iterate 3 (refine run_op rfl rfl rfl (by simp [boxA, AV.cells, AV.isCell, z0, z1, z4, z5, z6, z7, z8, z9, z10, d1]; exact .mk) ?_)
  refine run_if rfl (by simp [boxA, AV.cells, AV.isCell, z0, z1, z4, z5, z6, z7, z8, z9, z10, d1]; exact .mk) rfl (by simp <;> first | omega | grind) (fun hb => by simp [boxA, AV.cells, AV.isCell, z0, z1, z4, z5, z6, z7, z8, z9, z10, d1]; exact .mk) ?_
  refine run_if rfl (by simp [boxA, AV.cells, AV.isCell, z0, z1, z4, z5, z6, z7, z8, z9, z10, d1]; exact .mk) rfl (by simp <;> first | omega | grind) (fun hb => by simp [boxA, AV.cells, AV.isCell, z0, z1, z4, z5, z6, z7, z8, z9, z10, d1]; exact .mk) ?_
  refine run_if rfl (by simp [boxA, AV.cells, AV.isCell, z0, z1, z4, z5, z6, z7, z8, z9, z10, d1]; exact .mk) rfl (by simp <;> first | omega | grind) (fun hb => by simp [boxA, AV.cells, AV.isCell, z0, z1, z4, z5, z6, z7, z8, z9, z10, d1]; exact .mk) ?_
  refine run_if rfl (by simp [boxA, AV.cells, AV.isCell, z0, z1, z4, z5, z6, z7, z8, z9, z10, d1]; exact .mk) rfl (by simp <;> first | omega | grind) (fun hb => by simp [boxA, AV.cells, AV.isCell, z0, z1, z4, z5, z6, z7, z8, z9, z10, d1]; exact .mk) ?_
  refine run_if rfl (by simp [boxA, AV.cells, AV.isCell, z0, z1, z4, z5, z6, z7, z8, z9, z10, d1]; exact .mk) rfl (by simp <;> first | omega | grind) (fun hb => by simp [boxA, AV.cells, AV.isCell, z0, z1, z4, z5, z6, z7, z8, z9, z10, d1]; exact .mk) ?_
  refine run_if rfl (by simp [boxA, AV.cells, AV.isCell, z0, z1, z4, z5, z6, z7, z8, z9, z10, d1]; exact .mk) rfl (by simp <;> first | omega | grind) (fun hb => by simp [boxA, AV.cells, AV.isCell, z0, z1, z4, z5, z6, z7, z8, z9, z10, d1]; exact .mk) ?_
  refine run_if rfl (by simp [boxA, AV.cells, AV.isCell, z0, z1, z4, z5, z6, z7, z8, z9, z10, d1]; exact .mk) rfl (by simp <;> first | omega | grind) (fun hb => by simp [boxA, AV.cells, AV.isCell, z0, z1, z4, z5, z6, z7, z8, z9, z10, d1, h3]; exact .mk) ?_
  refine run_if rfl (by simp [boxA, AV.cells, AV.isCell, z0, z1, z4, z5, z6, z7, z8, z9, z10, d1]; exact .mk) rfl (by simp <;> first | omega | grind) (fun hb => by simp [-List.getElem?_map, map_get h3]; exact .mk) ?_
  refine run_if rfl (by simp [boxA, AV.cells, AV.isCell, z0, z1, z4, z5, z6, z7, z8, z9, z10, d1]; exact .mk) rfl (by simp <;> first | omega | grind) (fun hb => by simp [boxA, AV.cells, AV.isCell, z0, z1, z4, z5, z6, z7, z8, z9, z10, d1]; exact .mk) ?_
  refine run_if rfl (by simp [boxA, AV.cells, AV.isCell, z0, z1, z4, z5, z6, z7, z8, z9, z10, d1]; exact .mk) rfl (by simp <;> first | omega | grind) (fun hb => by simp [boxA, AV.cells, AV.isCell, z0, z1, z4, z5, z6, z7, z8, z9, z10, d1]; exact .mk) ?_
  refine run_if rfl (by simp [boxA, AV.cells, AV.isCell, z0, z1, z4, z5, z6, z7, z8, z9, z10, d1]; exact .mk) rfl (by simp <;> first | omega | grind) (fun hb => by simp [boxA, AV.cells, AV.isCell, z0, z1, z4, z5, z6, z7, z8, z9, z10, d1, eqA, eqFs, isStructTy, eqlNeq, strOp, isBoolTy, isPtrTy, isFnTy]; exact .mk) ?_
  refine run_pick rfl (by simp [boxA, AV.cells, AV.isCell, z0, z1, z4, z5, z6, z7, z8, z9, z10, d1]; exact .mk) rfl rfl (by simp) (by simp [boxA, AV.cells, AV.isCell, z0, z1, z4, z5, z6, z7, z8, z9, z10, d1]; exact .mk) (by simp [boxA, AV.cells, AV.isCell, z0, z1, z4, z5, z6, z7, z8, z9, z10, d1]; exact .mk) (by simp; exact .mk) ?_
  refine run_op1 rfl rfl rfl (by simp <;> first | omega | grind) (by simp [boxA, AV.cells, AV.isCell, z0, z1, z4, z5, z6, z7, z8, z9, z10, d1]; exact .mk) ?_
  refine run_if rfl (by simp [boxA, AV.cells, AV.isCell, z0, z1, z4, z5, z6, z7, z8, z9, z10, d1]; exact .mk) rfl (by simp <;> first | omega | grind) (fun hb => by simp [boxA, AV.cells, AV.isCell, z0, z1, z4, z5, z6, z7, z8, z9, z10, d1]; exact .mk) ?_
  refine run_if rfl (by simp [boxA, AV.cells, AV.isCell, z0, z1, z4, z5, z6, z7, z8, z9, z10, d1]; exact .mk) rfl (by simp <;> first | omega | grind) (fun hb => by simp [boxA, AV.cells, AV.isCell, z0, z1, z4, z5, z6, z7, z8, z9, z10, d1]; exact .mk) ?_
  refine run_if rfl (by simp [boxA, AV.cells, AV.isCell, z0, z1, z4, z5, z6, z7, z8, z9, z10, d1]; exact .mk) rfl (by simp <;> first | omega | grind) (fun hb => by simp [boxA, AV.cells, AV.isCell, z0, z1, z4, z5, z6, z7, z8, z9, z10, d1]; exact .mk) ?_
  refine run_if rfl (by simp [boxA, AV.cells, AV.isCell, z0, z1, z4, z5, z6, z7, z8, z9, z10, d1]; exact .mk) rfl (by simp <;> first | omega | grind) (fun hb => by simp [boxA, AV.cells, AV.isCell, z0, z1, z4, z5, z6, z7, z8, z9, z10, d1]; exact .mk) ?_
  refine run_if rfl (by simp [boxA, AV.cells, AV.isCell, z0, z1, z4, z5, z6, z7, z8, z9, z10, d1]; exact .mk) rfl (by simp <;> first | omega | grind) (fun hb => by simp [boxA, AV.cells, AV.isCell, z0, z1, z4, z5, z6, z7, z8, z9, z10, d1]; exact .mk) ?_
  refine run_if rfl (by simp [boxA, AV.cells, AV.isCell, z0, z1, z4, z5, z6, z7, z8, z9, z10, d1]; exact .mk) rfl (by simp <;> first | omega | grind) (fun hb => by simp [boxA, AV.cells, AV.isCell, z0, z1, z4, z5, z6, z7, z8, z9, z10, d1, indexAddrA, q1]; exact .mk) ?_
  refine run_if rfl (by simp [boxA, AV.cells, AV.isCell, z0, z1, z4, z5, z6, z7, z8, z9, z10, d1]; exact .mk) rfl (by simp <;> first | omega | grind) (fun hb => by simp [boxA, AV.cells, AV.isCell, z0, z1, z4, z5, z6, z7, z8, z9, z10, d1, cU]; exact .mk) ?_
  refine run_if rfl (by simp [boxA, AV.cells, AV.isCell, z0, z1, z4, z5, z6, z7, z8, z9, z10, d1]; exact .mk) rfl (by simp <;> first | omega | grind) (fun hb => by simp [boxA, AV.cells, AV.isCell, z0, z1, z4, z5, z6, z7, z8, z9, z10, d1]; exact .mk) ?_
  refine run_if rfl (by simp [boxA, AV.cells, AV.isCell, z0, z1, z4, z5, z6, z7, z8, z9, z10, d1]; exact .mk) rfl (by simp <;> first | omega | grind) (fun hb => by simp [boxA, AV.cells, AV.isCell, z0, z1, z4, z5, z6, z7, z8, z9, z10, d1, eqA, eqFs, isStructTy, eqlNeq, strOp, isBoolTy, isPtrTy, isFnTy, b3]; exact .mk) ?_
  refine run_if rfl (by simp [boxA, AV.cells, AV.isCell, z0, z1, z4, z5, z6, z7, z8, z9, z10, d1]; exact .mk) rfl (by simp <;> first | omega | grind) (fun hb => by simp [boxA, AV.cells, AV.isCell, z0, z1, z4, z5, z6, z7, z8, z9, z10, d1, eqA, eqFs, isStructTy, eqlNeq, strOp, isBoolTy, isPtrTy, isFnTy]; exact .mk) ?_
  refine run_pick rfl (by simp [boxA, AV.cells, AV.isCell, z0, z1, z4, z5, z6, z7, z8, z9, z10, d1]; exact .mk) rfl rfl (by simp) (by simp [boxA, AV.cells, AV.isCell, z0, z1, z4, z5, z6, z7, z8, z9, z10, d1]; exact .mk) (by simp [boxA, AV.cells, AV.isCell, z0, z1, z4, z5, z6, z7, z8, z9, z10, d1]; exact .mk) (by simp; exact .mk) ?_
  refine run_op1 rfl rfl rfl (by simp <;> first | omega | grind) (by simp [boxA, AV.cells, AV.isCell, z0, z1, z4, z5, z6, z7, z8, z9, z10, d1]; exact .mk) ?_
  refine run_end [0, 3, 5, 10] (by simp <;> first | omega | grind) (by simp; exact .mk) ?_
  rintro -
  refine W_cond rfl ?_ ?_
  · intro h10
    have hc : small = true ∧ nth ks p = kd ∧ nth ms p &&& bit = 0 := by simp at h10; grind
    rw [if_pos hc.1, if_pos hc.2] at hl
    refine W_seq ?_
    refine W_regD (by kernel_rfl) [] 4 [0, 1, 2, 3, 4, 5, 6, 7, 8, 9, 10, 11, 12] (by decide +kernel) ?_
    iterate 5 (refine run_op rfl rfl rfl (by simp [boxA, AV.cells, AV.isCell, z0, z1, z4, z5, z6, z7, z8, z9, z10, d1]; exact .mk) ?_)
    refine run_op rfl rfl rfl (by simp [boxA, AV.cells, AV.isCell, z0, z1, z4, z5, z6, z7, z8, z9, z10, d1, indexAddrA, q1]; exact .mk) ?_
    refine run_op rfl rfl rfl (by simp [boxA, AV.cells, AV.isCell, z0, z1, z4, z5, z6, z7, z8, z9, z10, d1, cU]; exact .mk) ?_
    refine run_op rfl rfl rfl (by simp [boxA, AV.cells, AV.isCell, z0, z1, z4, z5, z6, z7, z8, z9, z10, d1]; exact .mk) ?_
    refine run_op rfl rfl rfl (by simp [boxA, AV.cells, AV.isCell, z0, z1, z4, z5, z6, z7, z8, z9, z10, d1, eqA, eqFs, isStructTy, eqlNeq, strOp, isBoolTy, isPtrTy, isFnTy, b4]; exact .mk) ?_
    iterate 2 (refine run_op rfl rfl rfl (by simp [boxA, AV.cells, AV.isCell, z0, z1, z4, z5, z6, z7, z8, z9, z10, d1]; exact .mk) ?_)
    refine run_op rfl rfl rfl (by simp [boxA, AV.cells, AV.isCell, z0, z1, z4, z5, z6, z7, z8, z9, z10, d1, indexAddrA, q1]; exact .mk) ?_
    refine run_op rfl rfl rfl (by simp [storeA, AV.cells, AV.isCell, d2, q2]; exact .mk) ?_
    refine run_end [] (by simp) (by simp; exact .mk) ?_
    rintro -
    refine W_seq ?_
    refine W_reg rfl ?_
    refine run_op rfl rfl rfl (by simp [boxA, AV.cells, AV.isCell, z0, z1, z4, z5, z6, z7, z8, z9, z10, d1]; exact .mk) ?_
    refine run_end [4] (by simp) (by simp; exact .mk) ?_
    rintro -
    refine W_ret ?_
    refine endAt_drop 11 (by simp [boxA, AV.cells, AV.isCell, z0, z1, z4, z5, z6, z7, z8, z9, z10, d1, Try.f117]; exact .mk) ?_ ?_ (by simp) (by simp [boxA, AV.cells, AV.isCell, z0, z1, z4, z5, z6, z7, z8, z9, z10, d1]) (by simp [boxA, AV.cells, AV.isCell, z0, z1, z4, z5, z6, z7, z8, z9, z10, d1])
    · simp [hl]
    · simp [hl, nrmL, nrm]
  · intro h10
    refine W_seq ?_
    refine W_regD (by kernel_rfl) [] 4 [0, 1, 2, 3, 4, 5, 6, 7, 8, 9, 10, 11, 12, 13] (by decide +kernel) ?_
    iterate 3 (refine run_op rfl rfl rfl (by simp [boxA, AV.cells, AV.isCell, z0, z1, z4, z5, z6, z7, z8, z9, z10, d1]; exact .mk) ?_)
    refine run_if rfl (by simp [boxA, AV.cells, AV.isCell, z0, z1, z4, z5, z6, z7, z8, z9, z10, d1]; exact .mk) rfl (by simp <;> first | omega | grind) (fun hb => by simp [boxA, AV.cells, AV.isCell, z0, z1, z4, z5, z6, z7, z8, z9, z10, d1]; exact .mk) ?_
    refine run_if rfl (by simp [boxA, AV.cells, AV.isCell, z0, z1, z4, z5, z6, z7, z8, z9, z10, d1]; exact .mk) rfl (by simp <;> first | omega | grind) (fun hb => by simp [boxA, AV.cells, AV.isCell, z0, z1, z4, z5, z6, z7, z8, z9, z10, d1]; exact .mk) ?_
    refine run_if rfl (by simp [boxA, AV.cells, AV.isCell, z0, z1, z4, z5, z6, z7, z8, z9, z10, d1]; exact .mk) rfl (by simp <;> first | omega | grind) (fun hb => by simp [boxA, AV.cells, AV.isCell, z0, z1, z4, z5, z6, z7, z8, z9, z10, d1]; exact .mk) ?_
    refine run_if rfl (by simp [boxA, AV.cells, AV.isCell, z0, z1, z4, z5, z6, z7, z8, z9, z10, d1]; exact .mk) rfl (by simp <;> first | omega | grind) (fun hb => by simp [boxA, AV.cells, AV.isCell, z0, z1, z4, z5, z6, z7, z8, z9, z10, d1]; exact .mk) ?_
    refine run_if rfl (by simp [boxA, AV.cells, AV.isCell, z0, z1, z4, z5, z6, z7, z8, z9, z10, d1]; exact .mk) rfl (by simp <;> first | omega | grind) (fun hb => by simp [boxA, AV.cells, AV.isCell, z0, z1, z4, z5, z6, z7, z8, z9, z10, d1]; exact .mk) ?_
    refine run_if rfl (by simp [boxA, AV.cells, AV.isCell, z0, z1, z4, z5, z6, z7, z8, z9, z10, d1]; exact .mk) rfl (by simp <;> first | omega | grind) (fun hb => by simp [boxA, AV.cells, AV.isCell, z0, z1, z4, z5, z6, z7, z8, z9, z10, d1]; exact .mk) ?_
    refine run_if rfl (by simp [boxA, AV.cells, AV.isCell, z0, z1, z4, z5, z6, z7, z8, z9, z10, d1]; exact .mk) rfl (by simp <;> first | omega | grind) (fun hb => by simp [boxA, AV.cells, AV.isCell, z0, z1, z4, z5, z6, z7, z8, z9, z10, d1, h3]; exact .mk) ?_
    refine run_if rfl (by simp [boxA, AV.cells, AV.isCell, z0, z1, z4, z5, z6, z7, z8, z9, z10, d1]; exact .mk) rfl (by simp <;> first | omega | grind) (fun hb => by simp [-List.getElem?_map, map_get h3]; exact .mk) ?_
    refine run_if rfl (by simp [boxA, AV.cells, AV.isCell, z0, z1, z4, z5, z6, z7, z8, z9, z10, d1]; exact .mk) rfl (by simp <;> first | omega | grind) (fun hb => by simp [boxA, AV.cells, AV.isCell, z0, z1, z4, z5, z6, z7, z8, z9, z10, d1, eqA, eqFs, isStructTy, eqlNeq, strOp, isBoolTy, isPtrTy, isFnTy]; exact .mk) ?_
    refine run_pick rfl (by simp [boxA, AV.cells, AV.isCell, z0, z1, z4, z5, z6, z7, z8, z9, z10, d1]; exact .mk) rfl rfl (by simp) (by simp [boxA, AV.cells, AV.isCell, z0, z1, z4, z5, z6, z7, z8, z9, z10, d1]; exact .mk) (by simp [boxA, AV.cells, AV.isCell, z0, z1, z4, z5, z6, z7, z8, z9, z10, d1]; exact .mk) (by simp; exact .mk) ?_
    refine run_op1 rfl rfl rfl (by simp <;> first | omega | grind) (by simp [boxA, AV.cells, AV.isCell, z0, z1, z4, z5, z6, z7, z8, z9, z10, d1]; exact .mk) ?_
    refine run_end [0, 3, 5, 50] (by simp <;> first | omega | grind) (by simp; exact .mk) ?_
    rintro -
    refine W_cond rfl ?_ ?_
    · intro h50
      have hc2 : small = true ∧ nth ks p = -1 := by simp at h50; grind
      have hc3 : ¬ (nth ks p = kd ∧ nth ms p &&& bit = 0) := by simp [hc2] at h10; grind
      rw [if_pos hc2.1, if_neg hc3, if_pos hc2.2] at hl
      refine W_seq ?_
      refine W_regD2 (hard := []) 8 13 (keepOk_lt (by decide)) (by kernel_rfl) 4 [0, 1, 2, 3, 4, 5, 6, 7, 8, 9, 10, 11, 12, 14, 15, 13, 16, 17] [0, 1, 2, 3, 4, 5, 6, 7, 9, 10, 11, 12, 14, 15, 13, 8, 16, 17] (by decide +kernel) (by decide +kernel) ?_ ?_
      · skip
        iterate 12 (refine run_op rfl rfl rfl (by simp [boxA, AV.cells, AV.isCell, z0, z1, z4, z5, z6, z7, z8, z9, z10, d1]; exact .mk) ?_)
        refine run_op rfl rfl rfl (by simp [boxA, AV.cells, AV.isCell, z0, z1, z4, z5, z6, z7, z8, z9, z10, d1, h3]; exact .mk) ?_
        iterate 2 (refine run_op rfl rfl rfl (by simp [boxA, AV.cells, AV.isCell, z0, z1, z4, z5, z6, z7, z8, z9, z10, d1]; exact .mk) ?_)
        refine run_op rfl rfl rfl (by simp [boxA, AV.cells, AV.isCell, z0, z1, z4, z5, z6, z7, z8, z9, z10, d1, storeA, AV.cells, AV.isCell, splice, cl, cls, h3, putC, nrmL, nrm, -List.map_set]; exact .mk) ?_
        refine run_op rfl rfl rfl (by simp [boxA, AV.cells, AV.isCell, z0, z1, z4, z5, z6, z7, z8, z9, z10, d1, indexAddrA, q1]; exact .mk) ?_
        refine run_op rfl rfl rfl (by simp [storeA, AV.cells, AV.isCell, d2, q2]; exact .mk) ?_
        refine run_end [] (by simp) (by simp; exact .mk) ?_
        rintro -
        refine W_seq ?_
        refine W_reg rfl ?_
        refine run_op rfl rfl rfl (by simp [boxA, AV.cells, AV.isCell, z0, z1, z4, z5, z6, z7, z8, z9, z10, d1]; exact .mk) ?_
        refine run_end [4] (by simp) (by simp; exact .mk) ?_
        rintro -
        refine W_ret ?_
        refine endAt_drop 11 (by simp [boxA, AV.cells, AV.isCell, z0, z1, z4, z5, z6, z7, z8, z9, z10, d1, Try.f117]; exact .mk) ?_ ?_ (by simp) (by simp [boxA, AV.cells, AV.isCell, z0, z1, z4, z5, z6, z7, z8, z9, z10, d1]) (by simp [boxA, AV.cells, AV.isCell, z0, z1, z4, z5, z6, z7, z8, z9, z10, d1])
        · simp [hl]
        · simp [hl, nrmL, nrm]
      · skip
        iterate 11 (refine run_op rfl rfl rfl (by simp [boxA, AV.cells, AV.isCell, z0, z1, z4, z5, z6, z7, z8, z9, z10, d1]; exact .mk) ?_)
        refine run_op rfl rfl rfl (by simp [boxA, AV.cells, AV.isCell, z0, z1, z4, z5, z6, z7, z8, z9, z10, d1, h3]; exact .mk) ?_
        iterate 2 (refine run_op rfl rfl rfl (by simp [boxA, AV.cells, AV.isCell, z0, z1, z4, z5, z6, z7, z8, z9, z10, d1]; exact .mk) ?_)
        refine run_op rfl rfl rfl (by simp [boxA, AV.cells, AV.isCell, z0, z1, z4, z5, z6, z7, z8, z9, z10, d1, storeA, AV.cells, AV.isCell, splice, cl, cls, h3, putC, nrmL, nrm, -List.map_set]; exact .mk) ?_
        refine run_op rfl rfl rfl (by simp [boxA, AV.cells, AV.isCell, z0, z1, z4, z5, z6, z7, z8, z9, z10, d1]; exact .mk) ?_
        refine run_op rfl rfl rfl (by simp [boxA, AV.cells, AV.isCell, z0, z1, z4, z5, z6, z7, z8, z9, z10, d1, indexAddrA, q1]; exact .mk) ?_
        refine run_op rfl rfl rfl (by simp [storeA, AV.cells, AV.isCell, d2, q2]; exact .mk) ?_
        refine run_end [] (by simp) (by simp; exact .mk) ?_
        rintro -
        refine W_seq ?_
        refine W_reg rfl ?_
        refine run_op rfl rfl rfl (by simp [boxA, AV.cells, AV.isCell, z0, z1, z4, z5, z6, z7, z8, z9, z10, d1]; exact .mk) ?_
        refine run_end [4] (by simp) (by simp; exact .mk) ?_
        rintro -
        refine W_ret ?_
        refine endAt_drop 11 (by simp [boxA, AV.cells, AV.isCell, z0, z1, z4, z5, z6, z7, z8, z9, z10, d1, Try.f117]; exact .mk) ?_ ?_ (by simp) (by simp [boxA, AV.cells, AV.isCell, z0, z1, z4, z5, z6, z7, z8, z9, z10, d1]) (by simp [boxA, AV.cells, AV.isCell, z0, z1, z4, z5, z6, z7, z8, z9, z10, d1])
        · simp [hl]
        · simp [hl, nrmL, nrm]
    · intro h50
      refine W_seq ?_
      refine W_reg rfl ?_
      iterate 3 (refine run_op rfl rfl rfl (by simp [boxA, AV.cells, AV.isCell, z0, z1, z4, z5, z6, z7, z8, z9, z10, d1]; exact .mk) ?_)
      refine run_end [0, 3, 80] (by simp) (by simp; exact .mk) ?_
      rintro -
      refine W_cond rfl ?_ ?_
      · intro h80
        have hc2 : small = true := h80
        have hc3 : ¬ (nth ks p = kd ∧ nth ms p &&& bit = 0) := by simp [hc2] at h10; grind
        have hc4 : ¬ nth ks p = -1 := by simp [hc2] at h50; grind
        rw [if_pos hc2, if_neg hc3, if_neg hc4] at hl
        refine W_seq ?_
        refine W_reg rfl ?_
        refine run_op rfl rfl rfl (by simp [boxA, AV.cells, AV.isCell, z0, z1, z4, z5, z6, z7, z8, z9, z10, d1]; exact .mk) ?_
        refine run_end [4] (by simp) (by simp; exact .mk) ?_
        rintro -
        refine W_ret ?_
        refine endAt_drop 11 (by simp [boxA, AV.cells, AV.isCell, z0, z1, z4, z5, z6, z7, z8, z9, z10, d1, Try.f117]; exact .mk) ?_ ?_ (by simp) (by simp [boxA, AV.cells, AV.isCell, z0, z1, z4, z5, z6, z7, z8, z9, z10, d1]) (by simp [boxA, AV.cells, AV.isCell, z0, z1, z4, z5, z6, z7, z8, z9, z10, d1])
        · simp [hl]
        · simp [hl, nrmL, nrm]
      · intro h80
        have hc2 : ¬ small = true := by simp [h80]
        rw [if_neg hc2] at hl
        refine W_skip ?_
        rintro -
        refine W_seq ?_
        refine W_seq ?_
        refine W_reg rfl ?_
        iterate 3 (refine run_op rfl rfl rfl (by simp [boxA, AV.cells, AV.isCell, z0, z1, z4, z5, z6, z7, z8, z9, z10, d1]; exact .mk) ?_)
        refine run_end [0, 3, 84, 85] (by simp) (by simp; exact .mk) ?_
        rintro -
        refine W_block ?_
        refine W_rounds (fun f σ o' => ∃ (j : Nat) (l : List Int), f = k - j ∧ j ≤ k ∧ l.length = ks.length ∧ fillF p f j l = fillF p k 0 ks ∧ σ = slots [(0, .ptr 3 0 0), (3, .ptr 11 0 0), (84, .d (vI k)), (85, .d (vI j))] ∧ o' = [o0, o1, .row 1 (l.map vI), .var 134 (AV.hdr 2 0 ks.length :: ms.map cU), o4, o5, o6, o7, o8, o9, o10, .var 157 [.d (vI p), .d (vI k), .d (vT small), .d (vI kd), .d (vI c)]]) k .refl ⟨0, ks, by simp, by simp, rfl, rfl, rfl, rfl⟩ ?_
        rintro f σ o' ⟨j, l, rfl, hj, hlen, hinv, rfl, rfl⟩ _
        refine W_seq ?_
        refine W_reg rfl ?_
        refine run_op rfl rfl rfl (by simp [boxA, AV.cells, AV.isCell, z0, z1, z4, z5, z6, z7, z8, z9, z10, d1, eqA, eqFs, isStructTy, eqlNeq, strOp, isBoolTy, isPtrTy, isFnTy]; exact .mk) ?_
        refine run_end [0, 3, 84, 85, 86] (by simp) (by simp; exact .mk) ?_
        rintro -
        refine W_seq ?_
        refine W_cond rfl ?_ ?_
        · intro h86
          have hj2 : j < k := by simpa using h86
          have e1 : IntKind.i64.wrap ((p : Int) + (j : Int)) = ((p + j : Nat) : Int) := by rw [wrap64 (by omega) (by omega)]; omega
          have r3 : p + j < l.length := by omega
          have q3 : 0 ≤ (p : Int) + (j : Int) ∧ (p : Int) + (j : Int) < (ks.length : Int) := by omega
          have t3 : ((p : Int) + (j : Int)).toNat = p + j := by omega
          rw [show k - j = k - (j + 1) + 1 by omega] at hinv
          refine W_skip ?_
          rintro -
          refine W_seq ?_
          refine W_block ?_
          refine W_seq ?_
          refine W_reg rfl ?_
          iterate 2 (refine run_op rfl rfl rfl (by simp [boxA, AV.cells, AV.isCell, z0, z1, z4, z5, z6, z7, z8, z9, z10, d1]; exact .mk) ?_)
          refine run_end [0, 3, 6, 84, 85] (by simp) (by simp; exact .mk) ?_
          rintro -
          refine W_seq ?_
          refine W_seq ?_
          refine W_regD (by kernel_rfl) [] 4 [0, 1, 2, 3, 4, 5, 6, 7, 8, 9, 10] (by decide +kernel) ?_
          iterate 7 (refine run_op rfl rfl rfl (by simp [boxA, AV.cells, AV.isCell, z0, z1, z4, z5, z6, z7, z8, z9, z10, d1]; exact .mk) ?_)
          refine run_op rfl rfl rfl (by simp [boxA, AV.cells, AV.isCell, z0, z1, z4, z5, z6, z7, z8, z9, z10, d1, eqA, eqFs, isStructTy, eqlNeq, strOp, isBoolTy, isPtrTy, isFnTy, e1]; exact .mk) ?_
          refine run_op rfl rfl rfl (by simp [boxA, AV.cells, AV.isCell, z0, z1, z4, z5, z6, z7, z8, z9, z10, d1, q3, t3]; exact .mk) ?_
          refine run_op rfl rfl rfl (by simp [-List.getElem?_map, map_get r3]; exact .mk) ?_
          refine run_op rfl rfl rfl (by simp [boxA, AV.cells, AV.isCell, z0, z1, z4, z5, z6, z7, z8, z9, z10, d1, eqA, eqFs, isStructTy, eqlNeq, strOp, isBoolTy, isPtrTy, isFnTy]; exact .mk) ?_
          refine run_end [0, 3, 6, 84, 85, 98] (by simp) (by simp; exact .mk) ?_
          rintro -
          refine W_cond rfl ?_ ?_
          · intro h98
            rw [fillF_f (by simpa using h98)] at hinv
            rw [← hinv] at hl
            refine W_seq ?_
            refine W_reg rfl ?_
            refine run_op rfl rfl rfl (by simp [boxA, AV.cells, AV.isCell, z0, z1, z4, z5, z6, z7, z8, z9, z10, d1]; exact .mk) ?_
            refine run_end [4] (by simp) (by simp; exact .mk) ?_
            rintro -
            refine W_ret ?_
            refine endAt_drop 11 (by simp [boxA, AV.cells, AV.isCell, z0, z1, z4, z5, z6, z7, z8, z9, z10, d1, Try.f117]; exact .mk) ?_ ?_ (by simp) (by simp [boxA, AV.cells, AV.isCell, z0, z1, z4, z5, z6, z7, z8, z9, z10, d1]) (by simp [boxA, AV.cells, AV.isCell, z0, z1, z4, z5, z6, z7, z8, z9, z10, d1])
            · simp [hl]
            · simp [hl, nrmL, nrm]
          · intro h98
            rw [fillF_t (by simpa using h98)] at hinv
            refine W_skip ?_
            rintro -
            refine W_regD (by kernel_rfl) [] 4 [0, 1, 2, 3, 4, 5, 6, 7, 8, 9] (by decide +kernel) ?_
            iterate 7 (refine run_op rfl rfl rfl (by simp [boxA, AV.cells, AV.isCell, z0, z1, z4, z5, z6, z7, z8, z9, z10, d1]; exact .mk) ?_)
            refine run_op rfl rfl rfl (by simp [boxA, AV.cells, AV.isCell, z0, z1, z4, z5, z6, z7, z8, z9, z10, d1, eqA, eqFs, isStructTy, eqlNeq, strOp, isBoolTy, isPtrTy, isFnTy, e1]; exact .mk) ?_
            refine run_op rfl rfl rfl (by simp [boxA, AV.cells, AV.isCell, z0, z1, z4, z5, z6, z7, z8, z9, z10, d1, q3, t3]; exact .mk) ?_
            refine run_op rfl rfl rfl (by simp [boxA, AV.cells, AV.isCell, z0, z1, z4, z5, z6, z7, z8, z9, z10, d1, storeA, AV.cells, AV.isCell, splice, cl, cls, r3, putC, nrmL, nrm, -List.map_set]; exact .mk) ?_
            refine run_end [0, 3, 84, 85] (by simp) (by simp; exact .mk) ?_
            rintro -
            refine W_reg rfl ?_
            refine run_op rfl rfl rfl (by simp [boxA, AV.cells, AV.isCell, z0, z1, z4, z5, z6, z7, z8, z9, z10, d1, eqA, eqFs, isStructTy, eqlNeq, strOp, isBoolTy, isPtrTy, isFnTy]; exact .mk) ?_
            refine run_op rfl rfl rfl (by simp [boxA, AV.cells, AV.isCell, z0, z1, z4, z5, z6, z7, z8, z9, z10, d1]; exact .mk) ?_
            refine run_end [0, 3, 84, 85] (by simp) (by simp; exact .mk) ?_
            refine rounds_kill [0, 3, 84, 85] ?_
            exact rounds_next (m' := k - (j + 1)) (by omega) ⟨j + 1, l.set (p + j) 7, rfl, by omega, by simpa using hlen, hinv, by rw [wrap64 (by omega) (by omega)]; rfl, by simp [nrmL, nrm]⟩
        · intro h86
          obtain rfl : j = k := by simp at h86; omega
          rw [Nat.sub_self] at hinv
          rw [← hinv] at hl
          have r4 : p < l.length := by omega
          simp only [fillF, if_true] at hl
          refine W_exit ?_
          rintro -
          refine W_seq ?_
          refine W_regD (by kernel_rfl) [] 4 [0, 1, 2, 3, 4, 5, 6, 7] (by decide +kernel) ?_
          iterate 6 (refine run_op rfl rfl rfl (by simp [boxA, AV.cells, AV.isCell, z0, z1, z4, z5, z6, z7, z8, z9, z10, d1]; exact .mk) ?_)
          refine run_op rfl rfl rfl (by simp [boxA, AV.cells, AV.isCell, z0, z1, z4, z5, z6, z7, z8, z9, z10, d1, h3]; exact .mk) ?_
          refine run_op rfl rfl rfl (by simp [boxA, AV.cells, AV.isCell, z0, z1, z4, z5, z6, z7, z8, z9, z10, d1, storeA, AV.cells, AV.isCell, splice, cl, cls, r4, putC, nrmL, nrm, -List.map_set]; exact .mk) ?_
          refine run_end [] (by simp) (by simp; exact .mk) ?_
          rintro -
          refine W_seq ?_
          refine W_reg rfl ?_
          refine run_op rfl rfl rfl (by simp [boxA, AV.cells, AV.isCell, z0, z1, z4, z5, z6, z7, z8, z9, z10, d1]; exact .mk) ?_
          refine run_end [4] (by simp) (by simp; exact .mk) ?_
          rintro -
          refine W_ret ?_
          refine endAt_drop 11 (by simp [boxA, AV.cells, AV.isCell, z0, z1, z4, z5, z6, z7, z8, z9, z10, d1, Try.f117]; exact .mk) ?_ ?_ (by simp) (by simp [boxA, AV.cells, AV.isCell, z0, z1, z4, z5, z6, z7, z8, z9, z10, d1]) (by simp [boxA, AV.cells, AV.isCell, z0, z1, z4, z5, z6, z7, z8, z9, z10, d1])
          · simp [hl]
          · simp [hl, nrmL, nrm]

end Go.Proofs

set_option linter.unusedSimpArgs false
set_option linter.unusedVariables false
set_option maxHeartbeats 4000000
set_option maxRecDepth 4000
namespace Go.Proofs
open Go.Awp
theorem ct30 (g : Gl) (s : Stt) (hs : s.Ok) : CtAt Try.prog g 30 [eStt s] (oBk (onesS s.slots)) := by
  refine ctAt_of_W Try.func30 rfl rfl (Nat.le_of_ble_eq_true rfl) fun B S => ?_
  simp only [eStt, List.map, argD_agg]
  have q0 := hs.h1
  refine W_seq ?_
  refine W_reg rfl ?_
  refine run_op rfl rfl rfl (by simp [boxA, AV.cells, AV.isCell, boxA, AV.cells, AV.isCell]; exact .mk) ?_
  refine run_op rfl rfl rfl (by simp [boxA, AV.cells, AV.isCell]; exact .mk) ?_
  refine run_end [1] (by simp) (by simp; exact .mk) ?_
  rintro -
  refine W_seq ?_
  refine W_reg rfl ?_
  refine run_op rfl rfl rfl (by simp [boxA, AV.cells, AV.isCell]; exact .mk) ?_
  refine run_end [1, 3] (by simp) (by simp; exact .mk) ?_
  rintro -
  refine W_seq ?_
  refine W_seq ?_
  refine W_reg rfl ?_
  refine run_op rfl rfl rfl (by simp [boxA, AV.cells, AV.isCell]; exact .mk) ?_
  refine run_op rfl rfl rfl (by simp [boxA, AV.cells, AV.isCell, eSlot]; exact .mk) ?_
  iterate 2 (refine run_op rfl rfl rfl (by simp [boxA, AV.cells, AV.isCell]; exact .mk) ?_)
  refine run_end [3, 9, 10, 11] (by simp) (by simp; exact .mk) ?_
  rintro -
  refine W_block ?_
  refine W_rounds (fun m σ o => ∃ i : Nat, m = s.slots.length - i ∧ i ≤ s.slots.length ∧ σ = slots [(3, .hdr 1 0 (oneIx s.slots i).length), (9, .d (rSl s.slots)), (10, .d (vI s.slots.length)), (11, .d (vI i))] ∧ o = [.var 56 [.d (vI s.sh.pages), .d (vI s.sh.slots), .d (vI s.sh.roots), .d (vI s.sh.room), .d (vI s.mode), .d (vI s.base), .d (rSl s.slots), .d (rR s.roots), .d (rBB s.data)], .row 3 ((oneIx s.slots i).map fun j => eBlk (blkAt s.slots j))]) s.slots.length
    (Weak.trans (Weak.nilRow 3 3 rfl) (Weak.kills [3, 9, 10, 11] rfl) (fun _ _ _ h1 h2 => by rw [← h1.len]; exact h2)) ⟨0, by simp, by simp, by simp [oneIx], by simp [oneIx]⟩ ?_
  rintro m σ o ⟨i, rfl, hi, rfl, rfl⟩ _
  have hle := oneIx_len (l := s.slots) (i := i)
  refine W_seq ?_
  refine W_reg rfl ?_
  refine run_op rfl rfl rfl (by simp [boxA, AV.cells, AV.isCell, eqA, eqFs, isStructTy, eqlNeq, strOp, isBoolTy, isPtrTy, isFnTy]; exact .mk) ?_
  refine run_end [3, 9, 10, 11, 12] (by simp) (by simp; exact .mk) ?_
  rintro -
  refine W_seq ?_
  refine W_cond rfl ?_ ?_
  · intro h12
    have hi2 : i < s.slots.length := by simpa using h12
    refine W_skip ?_
    rintro -
    refine W_seq ?_
    refine W_block ?_
    refine W_seq ?_
    refine W_reg rfl ?_
    refine run_op rfl rfl rfl (by simp [boxA, AV.cells, AV.isCell]; exact .mk) ?_
    refine run_op rfl rfl rfl (by simp [boxA, AV.cells, AV.isCell, eSlot, *]; exact .mk) ?_
    refine run_op rfl rfl rfl (by simp [boxA, AV.cells, AV.isCell, eSlot]; exact .mk) ?_
    refine run_op rfl rfl rfl (by simp [boxA, AV.cells, AV.isCell, allocA, Value.oneCell']; exact .mk) ?_
    refine run_op rfl rfl rfl (by simp [boxA, AV.cells, AV.isCell]; exact .mk) ?_
    refine run_op rfl rfl rfl (by simp [boxA, AV.cells, AV.isCell, storeA, AV.cells, AV.isCell, splice]; exact .mk) ?_
    refine run_end [3, 4, 5, 9, 10, 11] (by simp) (by simp; exact .mk) ?_
    rintro -
    refine W_seq ?_
    refine W_reg rfl ?_
    refine run_op rfl rfl rfl (by simp [boxA, AV.cells, AV.isCell]; exact .mk) ?_
    refine run_op rfl rfl rfl (by simp [boxA, AV.cells, AV.isCell, eSlot]; exact .mk) ?_
    refine run_op rfl rfl rfl (by simp [boxA, AV.cells, AV.isCell]; exact .mk) ?_
    refine run_if rfl (by simp [boxA, AV.cells, AV.isCell]; exact .mk) rfl (by simp <;> first | omega | grind) (fun hb => by simp [boxA, AV.cells, AV.isCell]; exact .mk) ?_
    refine run_if rfl (by simp [boxA, AV.cells, AV.isCell]; exact .mk) rfl (by simp <;> first | omega | grind) (fun hb => by simp [boxA, AV.cells, AV.isCell, eSlot]; exact .mk) ?_
    refine run_if rfl (by simp [boxA, AV.cells, AV.isCell]; exact .mk) rfl (by simp <;> first | omega | grind) (fun hb => by simp [boxA, AV.cells, AV.isCell, unA]; exact .mk) ?_
    refine run_pick rfl (by simp [boxA, AV.cells, AV.isCell]; exact .mk) rfl rfl (by simp) (by simp [boxA, AV.cells, AV.isCell]; exact .mk) (by simp [boxA, AV.cells, AV.isCell]; exact .mk) (by simp; exact .mk) ?_
    refine run_end [3, 4, 5, 9, 10, 11, 22] (by simp <;> first | omega | grind) (by simp; exact .mk) ?_
    rintro -
    refine W_cond rfl ?_ ?_
    · intro h22
      have h2 : isOne (nth s.slots i) = true := by simpa [isOne] using h22
      have e1 : ((oneIx s.slots i).length + 1) * 24 ≤ 140737488355328 := by omega
      have e2 : (oneIx s.slots i).length ≤ 140737488355327 := by omega
      refine W_seq ?_
      refine W_reg rfl ?_
      refine run_op rfl rfl rfl (by simp [boxA, AV.cells, AV.isCell]; exact .mk) ?_
      refine run_op rfl rfl rfl (by simp [boxA, AV.cells, AV.isCell, eSlot]; exact .mk) ?_
      refine run_call0 rfl rfl rfl rfl (by simp [boxA, AV.cells, AV.isCell, calleeA]; exact .mk) (by simp [boxA, AV.cells, AV.isCell, kindsOf, kinds, expAs, expA]; exact .mk) (ct33 g _) (by simp [boxA, AV.cells, AV.isCell, D.noRo]) (by simp [boxA, AV.cells, AV.isCell, impA, impAs]; exact .mk) ?_
      iterate 5 (refine run_op rfl rfl rfl (by simp [boxA, AV.cells, AV.isCell]; exact .mk) ?_)
      refine run_end [3, 4, 5, 6, 9, 10, 11] (by simp) (by simp; exact .mk) ?_
      rintro -
      refine W_reg rfl ?_
      iterate 2 (refine run_op rfl rfl rfl (by simp [boxA, AV.cells, AV.isCell]; exact .mk) ?_)
      refine run_op rfl rfl rfl (by simp [boxA, AV.cells, AV.isCell, eSlot]; exact .mk) ?_
      iterate 2 (refine run_op rfl rfl rfl (by simp [boxA, AV.cells, AV.isCell]; exact .mk) ?_)
      refine run_op rfl rfl rfl (by simp [boxA, AV.cells, AV.isCell, buildA, fillA, placesOf, splice, Value.oneCell', AV.cells, AV.isCell]; exact .mk) ?_
      refine run_op rfl rfl rfl (by simp [boxA, AV.cells, AV.isCell, buildSliceA, inOrder, cls, cl, elemsD, kinds, nrmKs, Value.oneCell']; exact .mk) ?_
      refine run_op rfl rfl rfl (by simp [boxA, AV.cells, AV.isCell, appendA, srcA, dstA, isNilA, rows, e1, e2]; exact .mk) ?_
      refine run_op rfl rfl rfl (by simp [boxA, AV.cells, AV.isCell]; exact .mk) ?_
      refine run_end [3, 9, 10, 11] (by simp) (by simp; exact .mk) ?_
      rintro -
      refine W_reg rfl ?_
      refine run_op rfl rfl rfl (by simp [boxA, AV.cells, AV.isCell, eqA, eqFs, isStructTy, eqlNeq, strOp, isBoolTy, isPtrTy, isFnTy]; exact .mk) ?_
      refine run_op rfl rfl rfl (by simp [boxA, AV.cells, AV.isCell]; exact .mk) ?_
      refine run_end [3, 9, 10, 11] (by simp) (by simp; exact .mk) ?_
      refine rounds_kill [3, 9, 10, 11] ?_
      first
      | (refine rounds_drop 2 [3, 9, 10, 11] (by decide) (by rfl) (by rfl) ?_
         refine rounds_next (m' := s.slots.length - (i+1)) (by omega) ⟨i+1, rfl, by omega, ?_, ?_⟩
         · rw [wrap64 (by omega) (by omega), oneIx_f h2]; rfl
         · rw [oneIx_f h2]; rfl)
      | (refine rounds_kills [3, 9, 10, 11] rfl ?_
         refine rounds_swap 1 4 1 (by decide) (by simp) (by decide) rfl rfl ?_
         refine rounds_drop 2 [3, 9, 10, 11] (by decide) (by rfl) (by rfl) ?_
         refine rounds_next (m' := s.slots.length - (i+1)) (by omega) ⟨i+1, rfl, by omega, ?_, ?_⟩
         · rw [wrap64 (by omega) (by omega), oneIx_t h2]; simp; try rfl
         · rw [oneIx_t h2]; simp [eBlk, blkAt]; try rfl)
    · intro h22
      have h2 : isOne (nth s.slots i) = false := by simpa [isOne] using h22
      refine W_skip ?_
      rintro -
      refine W_reg rfl ?_
      refine run_op rfl rfl rfl (by simp [boxA, AV.cells, AV.isCell, eqA, eqFs, isStructTy, eqlNeq, strOp, isBoolTy, isPtrTy, isFnTy]; exact .mk) ?_
      refine run_op rfl rfl rfl (by simp [boxA, AV.cells, AV.isCell]; exact .mk) ?_
      refine run_end [3, 9, 10, 11] (by simp) (by simp; exact .mk) ?_
      refine rounds_kill [3, 9, 10, 11] ?_
      first
      | (refine rounds_drop 2 [3, 9, 10, 11] (by decide) (by rfl) (by rfl) ?_
         refine rounds_next (m' := s.slots.length - (i+1)) (by omega) ⟨i+1, rfl, by omega, ?_, ?_⟩
         · rw [wrap64 (by omega) (by omega), oneIx_f h2]; rfl
         · rw [oneIx_f h2]; rfl)
      | (refine rounds_kills [3, 9, 10, 11] rfl ?_
         refine rounds_swap 1 4 1 (by decide) (by simp) (by decide) rfl rfl ?_
         refine rounds_drop 2 [3, 9, 10, 11] (by decide) (by rfl) (by rfl) ?_
         refine rounds_next (m' := s.slots.length - (i+1)) (by omega) ⟨i+1, rfl, by omega, ?_, ?_⟩
         · rw [wrap64 (by omega) (by omega), oneIx_t h2]; simp; try rfl
         · rw [oneIx_t h2]; simp [eBlk, blkAt]; try rfl)
  · intro h12
    obtain rfl : i = s.slots.length := by simp at h12; omega
    obtain ⟨L, hL⟩ : ∃ L, L = onesR s.slots := ⟨_, rfl⟩
    have hm : (oneIx s.slots s.slots.length).map (fun j => eBlk (blkAt s.slots j)) = L.map eBlk := by rw [hL, onesR, List.map_map]; rfl
    have hm2 : (oneIx s.slots s.slots.length).length = L.length := by rw [hL, onesR, List.length_map]
    rw [hm, hm2]
    refine W_exit ?_
    rintro -
    refine W_seq ?_
    refine W_reg rfl ?_
    refine run_op rfl rfl rfl (by simp [boxA, AV.cells, AV.isCell]; exact .mk) ?_
    refine run_inl0 rfl rfl rfl rfl (by simp [boxA, AV.cells, AV.isCell, calleeA]; exact .mk) ⟨_, Try.func63, rfl, rfl⟩ (in63 g _ L (by omega)) (.inl (by simp)) ?_
    refine run_end [3] (by simp) (by simp; exact .mk) ?_
    have hLe : L.length = (stS ltB L).length := nodup_of_stS.symm
    rw [hLe]
    rintro -
    refine W_seq ?_
    refine W_reg rfl ?_
    iterate 2 (refine run_op rfl rfl rfl (by simp [boxA, AV.cells, AV.isCell]; exact .mk) ?_)
    refine run_end [2] (by simp) (by simp; exact .mk) ?_
    rintro -
    refine W_ret ?_
    refine end_ret (by simp [boxA, AV.cells, AV.isCell, Try.f30]; exact .mk) (by simp [boxA, AV.cells, AV.isCell, cl, cls]; exact .mk) ?_ (by simp [boxA, AV.cells, AV.isCell, D.noSn])
    simp [nrmR, nrmRs, nrmK, kindsOf, kinds, Try.f30, ownR, onesS, hL]; try rfl

end Go.Proofs

set_option linter.unusedSimpArgs false
namespace Go.Proofs
open Go.Awp
/-- One object laid, as far as it may stand where it says. -/
def layO (pages : Int) (st : List Int × List Nat) (o : Int × Int) : Bool × List Int × List Nat :=
  if (spotS pages o).2 = true then layS st.1 st.2 (spotS pages o).1.page.toNat (spotS pages o).1.count.toNat (spotS pages o).1.small (spotS pages o).1.cls (spotS pages o).1.cell.toNat else (false, st)
def stI (pages : Int) (l : List (Int × Int)) : Nat → List Int × List Nat
  | 0 => (List.replicate pages.toNat (-1), List.replicate 64 0)
  | i + 1 => (layO pages (stI pages l i) (nth l i)).2
def okI (pages : Int) (l : List (Int × Int)) (i : Nat) : Bool := (layO pages (stI pages l i) (nth l i)).1
/-- The layout of objects. -/
def laidS (pages : Int) (l : List (Int × Int)) : Option (List Int × List Nat) :=
  if decide (0 ≤ pages ∧ pages ≤ 64) && (List.range l.length).all (okI pages l) then some (stI pages l l.length) else none
theorem layS_len {ks : List Int} {ms : List Nat} {p k : Nat} {small : Bool} {kd : Int} {c : Nat} : (layS ks ms p k small kd c).2.1.length = ks.length ∧ (layS ks ms p k small kd c).2.2.length = ms.length := by
  unfold layS
  repeat' split
  all_goals simp [fillF_len]
theorem layO_len {pages : Int} {st : List Int × List Nat} {o : Int × Int} : (layO pages st o).2.1.length = st.1.length ∧ (layO pages st o).2.2.length = st.2.length := by
  unfold layO; split
  · exact layS_len
  · exact ⟨rfl, rfl⟩
theorem stI_len {pages : Int} {l : List (Int × Int)} : ∀ {i : Nat}, (stI pages l i).1.length = pages.toNat ∧ (stI pages l i).2.length = 64
  | 0 => by simp [stI]
  | i + 1 => by
    have := stI_len (pages := pages) (l := l) (i := i)
    have h := layO_len (pages := pages) (st := stI pages l i) (o := nth l i)
    exact ⟨h.1.trans this.1, h.2.trans this.2⟩
theorem whichS_le {c off : Int} (h : (whichS c off).2 = true) (ho : off ≤ 32) : 0 ≤ (whichS c off).1 ∧ (whichS c off).1 ≤ 28 := by
  unfold whichS at h ⊢
  split
  · rename_i h1; rw [if_pos h1] at h; simp at h
  · rename_i h1
    rw [if_neg h1] at h
    have hk : 2 ≤ nth wordsL c.toNat ∧ nth wordsL c.toNat ≤ 15 := by
      have : c.toNat = 0 ∨ c.toNat = 1 ∨ c.toNat = 2 ∨ c.toNat = 3 ∨ c.toNat = 4 ∨ c.toNat = 5 := by omega
      rcases this with h | h | h | h | h | h <;> rw [h] <;> decide
    split
    · rename_i h2; rw [if_pos h2] at h; simp at h
    · simp only
      rw [Int.tdiv_eq_ediv_of_nonneg (by omega)]
      exact ⟨Int.ediv_nonneg (by omega) (by omega), Int.le_trans (Int.ediv_le_self _ (by omega)) (by omega)⟩
/-- What a right spot is. -/
theorem spot_ok {pages : Int} {o : Int × Int} (h : (spotS pages o).2 = true) : ∃ (p k c : Nat), (spotS pages o).1 = ⟨p, k, (spotS pages o).1.small, (spotS pages o).1.cls, c⟩ ∧ (p : Int) < pages ∧ 1 ≤ k ∧ (p : Int) + k ≤ pages ∧ c < 64 := by
  unfold spotS at h ⊢
  split
  · rename_i h1; rw [if_pos h1] at h; simp at h
  · rename_i h1
    rw [if_neg h1] at h
    have hp : 0 ≤ o.1.tdiv 32 := Int.tdiv_nonneg (by omega) (by omega)
    split
    · rename_i h2
      rw [if_pos h2] at h
      simp only [Bool.and_eq_true, decide_eq_true_eq] at h
      have := whichS_le h.1 (by rw [Int.tmod_eq_emod_of_nonneg (by omega)]; omega)
      refine ⟨(o.1.tdiv 32).toNat, 1, (whichS (classS o.2).1 (o.1.tmod 32)).1.toNat, ?_, by omega, by omega, by omega, by omega⟩
      simp only [Spot.mk.injEq, and_true, true_and]
      omega
    · rename_i h2
      rw [if_neg h2] at h
      simp only [Bool.and_eq_true, decide_eq_true_eq] at h
      obtain ⟨⟨⟨q1, q2⟩, q3⟩, q4⟩ := h
      have hk : 1 ≤ (pagesS o.2).1 := by
        unfold pagesS at q1 ⊢
        split
        · rename_i h3; rw [if_pos h3] at q1; simp at q1
        · simp only; rw [Int.tdiv_eq_ediv_of_nonneg (by omega)]; omega
      refine ⟨(o.1.tdiv 32).toNat, (pagesS o.2).1.toNat, 0, ?_, by omega, by omega, by omega, by omega⟩
      simp only [Spot.mk.injEq, and_true, true_and]
      omega
theorem layS_lt {ks : List Int} {ms : List Nat} {p k : Nat} {small : Bool} {kd : Int} {c : Nat} (hc : c < 64) (h : ∀ i, i < ms.length → nth ms i < 2^64) : ∀ i, i < ms.length → nth (layS ks ms p k small kd c).2.2 i < 2^64 := by
  have h2 : 2 ^ c < 2 ^ 64 := Nat.pow_lt_pow_right (by omega) hc
  have key : ∀ x : Nat, (p < ms.length → x < 2^64) → ∀ i, i < ms.length → nth (ms.set p x) i < 2^64 := by
    intro x hx i hi
    by_cases e : p = i
    · subst e; rw [nth_eq (by simpa using hi)]; simpa using hx hi
    · rw [nth_eq (by simpa using hi), List.getElem_set_ne e, ← nth_eq hi]; exact h i hi
  unfold layS
  repeat' split
  · exact key _ fun hp => Nat.or_lt_two_pow (h p hp) h2
  · exact key _ fun _ => h2
  all_goals exact h
theorem stI_lt {pages : Int} {l : List (Int × Int)} : ∀ {i : Nat}, ∀ j, j < 64 → nth (stI pages l i).2 j < 2^64
  | 0 => fun j hj => by
    show nth (List.replicate 64 0) j < 2^64
    rw [nth_eq (by rw [List.length_replicate]; exact hj), List.getElem_replicate]; omega
  | i + 1 => fun j hj => by
    simp only [stI, layO]
    split
    · rename_i h
      obtain ⟨p, k, c, e, _, _, _, hc⟩ := spot_ok h
      rw [e]
      exact layS_lt (by simpa using hc) (by rw [stI_len.2]; exact fun j hj => stI_lt j hj) j (by rw [stI_len.2]; exact hj)
    · exact stI_lt j hj
theorem rep_set {α : Type} {a b : α} {i n : Nat} (h : i < n) : (List.replicate i a ++ List.replicate (n - i) b).set i a = List.replicate (i + 1) a ++ List.replicate (n - (i + 1)) b := by
  rw [List.set_append_right _ _ (by simp), show n - i = n - (i + 1) + 1 by omega, List.replicate_succ]
  simp [List.replicate_succ']
def fillL (n i : Nat) : List Int := List.replicate i (-1) ++ List.replicate (n - i) 0
theorem fillL_len {n i : Nat} (h : i ≤ n) : (fillL n i).length = n := by simp [fillL]; omega
theorem fillL_0 {n : Nat} : fillL n 0 = List.replicate n 0 := by simp [fillL]
theorem fillL_n {n : Nat} : fillL n n = List.replicate n (-1) := by simp [fillL]
theorem fillL_set {n i : Nat} (h : i < n) : ((fillL n i).map vI).set i (vI (-1)) = (fillL n (i + 1)).map vI := by
  rw [← List.map_set]; exact congrArg _ (rep_set h)
end Go.Proofs

set_option linter.unusedSimpArgs false
set_option linter.unusedVariables false
set_option maxHeartbeats 4000000
set_option maxRecDepth 4000
namespace Go.Proofs
open Go.Awp
theorem in127 (g : Gl) (pages : Int) (l : List (Int × Int)) (hp : 0 ≤ pages ∧ pages ≤ 64) (hl : l.length ≤ 2^40) (ho : ∀ i, i < l.length → (nth l i).1 ≤ 2^40) (b lb : Nat) (c : LoopC) (L : List (Nat × AV)) (hc1 : c.params.size = 2) (hc2 : ∀ p ∈ c.params.toList, p < c.n)
    (A0 A1 A2 A3 A4 : Nat → Awp.Obj) (ok : Nat → Bool) (z0 : ∀ i, (A0 i).lt 9 = true) (z1 : ∀ i, (A1 i).lt 9 = true) (z2 : ∀ i, (A2 i).lt 9 = true) (z3 : ∀ i, (A3 i).lt 9 = true) (z4 : ∀ i, (A4 i).lt 9 = true) (zL : (L.all fun p => p.2.lt 9) = true)
    (hround : ∀ i, i < l.length → ∀ B S, RoundI Try.prog g B S lb 8 c L [.agg [.d (vI (spotS pages (nth l i)).1.page), .d (vI (spotS pages (nth l i)).1.count), .d (vT (spotS pages (nth l i)).1.small), .d (vI (spotS pages (nth l i)).1.cls), .d (vI (spotS pages (nth l i)).1.cell)], .d (vT (spotS pages (nth l i)).2)] [A0 (i), A1 (i), A2 (i), A3 (i), A4 (i), .var 3 [.d (vI pages)], .var 63 [.d (rO l)], .blk b, .lp lb c L .ready none, .var 72 [.d (vI (nth l i).1), .d (vI (nth l i).2)]] (fun bb o => bb = ok i ∧ o = if ok i = true then [A0 (i + 1), A1 (i + 1), A2 (i + 1), A3 (i + 1), A4 (i + 1), .var 3 [.d (vI pages)], .var 63 [.d (rO l)], .blk b, .lp lb c L .ready none, .var 72 [.d (vI (nth l i).1), .d (vI (nth l i).2)]] else [A0 (i + 1), A1 (i + 1), A2 (i + 1), A3 (i + 1), A4 (i + 1), .var 3 [.d (vI pages)], .var 63 [.d (rO l)], .blk b, .lp lb c L .done (some .ret), .var 72 [.d (vI (nth l i).1), .d (vI (nth l i).2)]])) :
    ∀ B S, CallsA Try.prog g B S ⟨9, true⟩ 127 [.fn (.yield lb) [] [], .ptr 6 0 0, .ptr 5 0 0] [A0 (0), A1 (0), A2 (0), A3 (0), A4 (0), .var 3 [.d (vI pages)], .var 63 [.d (rO l)], .blk b, .lp lb c L .ready none] (fun x r => x = .tup [] ∧ ((∀ i, i < l.length → ok i = true) ∧ r = [A0 (l.length), A1 (l.length), A2 (l.length), A3 (l.length), A4 (l.length), .var 3 [.d (vI pages)], .var 63 [.d (rO l)], .blk b, .lp lb c L .ready none] ∨ ∃ i, i < l.length ∧ ok i = false ∧ r = [A0 (i + 1), A1 (i + 1), A2 (i + 1), A3 (i + 1), A4 (i + 1), .var 3 [.d (vI pages)], .var 63 [.d (rO l)], .blk b, .lp lb c L .done (some .ret)])) := by
  refine callsA_WI Try.func127 rfl (Nat.le_of_ble_eq_true rfl) fun B S => ?_
  refine WI_seq ?_
  refine WI_reg rfl ?_ (by decide +kernel)
  refine run_op rfl rfl rfl (by simp [boxA, AV.cells, AV.isCell, z0, z1, z2, z3, z4, zL, eObj]; exact .mk) ?_
  iterate 2 (refine run_op rfl rfl rfl (by simp [boxA, AV.cells, AV.isCell, z0, z1, z2, z3, z4, zL]; exact .mk) ?_)
  refine run_end [0, 2, 6, 7, 8] (by simp) (by simp; exact .mk) ?_
  rintro -
  refine WI_block ?_
  refine WI_rounds (fun m σ o => ∃ i : Nat, m = l.length - i ∧ i ≤ l.length ∧ (∀ j, j < i → ok j = true) ∧ σ = slots [(0, .fn (.yield lb) [] []), (2, .ptr 5 0 0), (6, .d (rO l)), (7, .d (vI l.length)), (8, .d (vI i))] ∧ o = [A0 (i), A1 (i), A2 (i), A3 (i), A4 (i), .var 3 [.d (vI pages)], .var 63 [.d (rO l)], .blk b, .lp lb c L .ready none]) l.length .refl ⟨0, by simp, by simp, by simp, rfl, rfl⟩ ?_
  rintro m σ o ⟨i, rfl, hi, hinv, rfl, rfl⟩ _
  refine WI_seq ?_
  refine WI_reg rfl ?_ (by decide +kernel)
  refine run_op rfl rfl rfl (by simp [boxA, AV.cells, AV.isCell, z0, z1, z2, z3, z4, zL, eqA, eqFs, isStructTy, eqlNeq, strOp, isBoolTy, isPtrTy, isFnTy]; exact .mk) ?_
  refine run_end [0, 2, 6, 7, 8, 9] (by simp) (by simp; exact .mk) ?_
  rintro -
  refine WI_seq ?_
  refine WI_cond rfl ?_ ?_
  · intro h9
    have hi2 : i < l.length := by simpa using h9
    refine WI_skip ?_
    rintro -
    refine WI_seq ?_
    refine WI_block ?_
    refine WI_seq ?_
    refine WI_reg rfl ?_ (by decide +kernel)
    refine run_op rfl rfl rfl (by simp [boxA, AV.cells, AV.isCell, z0, z1, z2, z3, z4, zL, eObj, *]; exact .mk) ?_
    refine run_op rfl rfl rfl (by simp [boxA, AV.cells, AV.isCell, z0, z1, z2, z3, z4, zL, eObj]; exact .mk) ?_
    refine run_op rfl rfl rfl (by simp [boxA, AV.cells, AV.isCell, z0, z1, z2, z3, z4, zL, allocA, Value.oneCell']; exact .mk) ?_
    refine run_op rfl rfl rfl (by simp [boxA, AV.cells, AV.isCell, z0, z1, z2, z3, z4, zL, storeA, AV.cells, AV.isCell, splice]; exact .mk) ?_
    refine run_end [0, 2, 5, 6, 7, 8] (by simp) (by simp; exact .mk) ?_
    rintro -
    refine WI_seq ?_
    refine WI_regY [0, 1, 2, 3, 4, 5] 6 [7] rfl ?_ (by decide +kernel)
    refine run_op rfl rfl rfl (by simp [boxA, AV.cells, AV.isCell, z0, z1, z2, z3, z4, zL]; exact .mk) ?_
    iterate 2 (refine run_op rfl rfl rfl (by simp [boxA, AV.cells, AV.isCell, z0, z1, z2, z3, z4, zL, eObj]; exact .mk) ?_)
    refine run_call0 rfl rfl rfl rfl (by simp [boxA, AV.cells, AV.isCell, z0, z1, z2, z3, z4, zL, calleeA]; exact .mk) (by simp [boxA, AV.cells, AV.isCell, z0, z1, z2, z3, z4, zL, kindsOf, kinds, expAs, expA]; exact .mk) (ct128 g pages (nth l i) hp (ho i hi2)) (by simp [boxA, AV.cells, AV.isCell, z0, z1, z2, z3, z4, zL, D.noRo]) (by simp [boxA, AV.cells, AV.isCell, z0, z1, z2, z3, z4, zL, impA, impAs]; exact .mk) ?_
    iterate 2 (refine run_op rfl rfl rfl (by simp [boxA, AV.cells, AV.isCell, z0, z1, z2, z3, z4, zL]; exact .mk) ?_)
    refine run_yieldA (fun bb o => bb = ok i ∧ o = if ok i = true then [A0 (i + 1), A1 (i + 1), A2 (i + 1), A3 (i + 1), A4 (i + 1), .var 3 [.d (vI pages)], .var 63 [.d (rO l)], .blk b, .lp lb c L .ready none, .var 72 [.d (vI (nth l i).1), .d (vI (nth l i).2)]] else [A0 (i + 1), A1 (i + 1), A2 (i + 1), A3 (i + 1), A4 (i + 1), .var 3 [.d (vI pages)], .var 63 [.d (rO l)], .blk b, .lp lb c L .done (some .ret), .var 72 [.d (vI (nth l i).1), .d (vI (nth l i).2)]]) rfl rfl rfl rfl rfl (by simp) (by simp; exact .mk) (by simp [eSpot]; exact .mk) rfl hc1 hc2 (hround i hi2) ?_
    rintro bb o2 ⟨rfl, rfl⟩
    cases hok : ok i
    · skip
      simp only [Bool.false_eq_true, if_false]
      refine run_op rfl rfl rfl (by simp [boxA, AV.cells, AV.isCell, z0, z1, z2, z3, z4, zL, unA]; exact .mk) ?_
      refine run_end [0, 2, 6, 7, 8, 19] (by simp) (by simp; exact .mk) ?_
      rintro -
      refine WI_cond rfl ?_ ?_
      · intro h19
        refine WI_ret ?_
        try simp only [thenI_ret, roundsI_ret, inBlkI_ret, thenI_exit, roundsI_exit, inBlkI_exit, if_true]
        refine endInM_ret (fn := Try.f127) (rs := []) 9 .nil ?_ (Nat.le_refl _) ?_ ?_ ?_
        · simp [Try.f127]; exact .mk
        · rfl
        · simp [z0, z1, z2, z3, z4, zL]
        exact ⟨rfl, .inr ⟨i, hi2, hok, rfl⟩⟩
      · intro h19
        simp at h19
    · skip
      simp only [if_true]
      have hinv2 : ∀ j, j < i + 1 → ok j = true := fun j hj => by
        rcases Nat.lt_succ_iff_lt_or_eq.1 hj with hj | rfl
        · exact hinv j hj
        · exact hok
      refine run_op rfl rfl rfl (by simp [boxA, AV.cells, AV.isCell, z0, z1, z2, z3, z4, zL, unA]; exact .mk) ?_
      refine run_end [0, 2, 6, 7, 8, 19] (by simp) (by simp; exact .mk) ?_
      rintro -
      refine WI_cond rfl ?_ ?_
      · intro h19
        simp at h19
      · intro h19
        refine WI_skip ?_
        rintro -
        refine WI_reg rfl ?_ (by decide +kernel)
        refine run_op rfl rfl rfl (by simp [boxA, AV.cells, AV.isCell, z0, z1, z2, z3, z4, zL, eqA, eqFs, isStructTy, eqlNeq, strOp, isBoolTy, isPtrTy, isFnTy]; exact .mk) ?_
        refine run_op rfl rfl rfl (by simp [boxA, AV.cells, AV.isCell, z0, z1, z2, z3, z4, zL]; exact .mk) ?_
        refine run_end [0, 2, 6, 7, 8] (by simp) (by simp; exact .mk) ?_
        refine roundsI_of ?_
        refine rounds_drop 9 [0, 2, 6, 7, 8] (by simp) (by simp [boxA, AV.cells, AV.isCell, z0, z1, z2, z3, z4, zL]) (by simp [boxA, AV.cells, AV.isCell, z0, z1, z2, z3, z4, zL]) ?_
        exact rounds_next (m' := l.length - (i + 1)) (by omega) ⟨i + 1, rfl, by omega, hinv2, by rw [wrap64 (by omega) (by omega)]; rfl, rfl⟩
  · intro h9
    obtain rfl : i = l.length := by simp at h9; omega
    refine WI_exit ?_
    try simp only [thenI_ret, roundsI_ret, inBlkI_ret, thenI_exit, roundsI_exit, inBlkI_exit, if_true]
    refine endInM_normal (fn := Try.f127) (rs := []) 9 .nil ?_ (Nat.le_refl _) ?_ ?_ ?_
    · simp [Try.f127]; exact .mk
    · rfl
    · simp [z0, z1, z2, z3, z4, zL]
    exact ⟨rfl, .inl ⟨hinv, rfl⟩⟩

end Go.Proofs

set_option linter.unusedSimpArgs false
set_option linter.unusedVariables false
set_option maxHeartbeats 4000000
set_option maxRecDepth 4000
namespace Go.Proofs
open Go.Awp
theorem in116 (g : Gl) (o0 o1 o2 o3 o4 : Awp.Obj) (pages : Int) (l : List (Int × Int)) : ∀ B S, CallsA Try.prog g B S ⟨5, true⟩ 116 [.d (vI pages), .d (rO l)] [o0, o1, o2, o3, o4]
    (fun x r => x = .fn (.func 127) [] [.ptr 6 0 0, .ptr 5 0 0] ∧ r = [o0, o1, o2, o3, o4, .var 3 [.d (vI pages)], .var 63 [.d (rO l)]]) := by
  refine callsA_at Try.func116 rfl (Nat.le_of_ble_eq_true rfl) fun B S => ?_
  refine W_seq ?_
  refine W_reg rfl ?_
  iterate 2 (refine run_op rfl rfl rfl (by simp [boxA, AV.cells, AV.isCell, boxA, AV.cells, AV.isCell]; exact .mk) ?_)
  refine run_op rfl rfl rfl (by simp [boxA, AV.cells, AV.isCell]; exact .mk) ?_
  refine run_end [2, 3] (by simp) (by simp; exact .mk) ?_
  rintro -
  refine W_seq ?_
  refine W_reg rfl ?_
  iterate 2 (refine run_op rfl rfl rfl (by simp [boxA, AV.cells, AV.isCell]; exact .mk) ?_)
  refine run_end [4] (by simp) (by simp; exact .mk) ?_
  rintro -
  refine W_ret ?_
  refine endAt_ret (by simp [boxA, AV.cells, AV.isCell, Try.f116]; exact .mk) ?_ ?_
  · simp
  · simp

theorem in97 (g : Gl) (pages : Int) (l : List (Int × Int)) (hl : l.length ≤ 2^40) (ho : ∀ i, i < l.length → (nth l i).1 ≤ 2^40) : ∀ B S, CallsA Try.prog g B S ⟨0, true⟩ 97 [.d (vI pages), .d (rO l)] [] (fun x r => (match laidS pages l with
    | some y => x = .tup [.ptr 3 0 0, .d (vT true)] ∧ r = [.var 128 [.ptr 3 0 0], .var 4 [.d (vT true)], .row 1 (y.1.map vI), .var 134 (AV.hdr 2 0 pages.toNat :: y.2.map cU)]
    | none => x = .tup [.d (.v (.pointer none)), .d (vT false)] ∧ r = [])) := by
  refine callsA_WI Try.func97 rfl (Nat.le_of_ble_eq_true rfl) fun B S => ?_
  refine WI_seq ?_
  refine WI_reg rfl ?_ (by decide +kernel)
  iterate 2 (refine run_op rfl rfl rfl (by simp [boxA, AV.cells, AV.isCell, allocA, Value.oneCell']; exact .mk) ?_)
  refine run_end [0, 1, 4, 5] (by simp) (by simp; exact .mk) ?_
  rintro -
  refine WI_seq ?_
  refine WI_seq ?_
  refine WI_reg rfl ?_ (by decide +kernel)
  refine run_op rfl rfl rfl (by simp [boxA, AV.cells, AV.isCell]; exact .mk) ?_
  refine run_op rfl rfl rfl (by simp [boxA, AV.cells, AV.isCell, eqA, eqFs, isStructTy, eqlNeq, strOp, isBoolTy, isPtrTy, isFnTy]; exact .mk) ?_
  refine run_op rfl rfl rfl (by simp [boxA, AV.cells, AV.isCell]; exact .mk) ?_
  refine run_if rfl (by simp [boxA, AV.cells, AV.isCell]; exact .mk) rfl (by simp <;> first | omega | grind) (fun hb => by simp [boxA, AV.cells, AV.isCell]; exact .mk) ?_
  refine run_if rfl (by simp [boxA, AV.cells, AV.isCell]; exact .mk) rfl (by simp <;> first | omega | grind) (fun hb => by simp [boxA, AV.cells, AV.isCell, eqA, eqFs, isStructTy, eqlNeq, strOp, isBoolTy, isPtrTy, isFnTy]; exact .mk) ?_
  refine run_pick rfl (by simp [boxA, AV.cells, AV.isCell]; exact .mk) rfl rfl (by simp) (by simp [boxA, AV.cells, AV.isCell]; exact .mk) (by simp [boxA, AV.cells, AV.isCell]; exact .mk) (by simp; exact .mk) ?_
  refine run_end [0, 1, 4, 5, 15] (by simp <;> first | omega | grind) (by simp; exact .mk) ?_
  rintro -
  refine WI_cond rfl ?_ ?_
  · intro h15
    have hr : laidS pages l = none := by
      have : ¬ (0 ≤ pages ∧ pages ≤ 64) := by simp at h15; omega
      simp [laidS, this]
    refine WI_seq ?_
    refine WI_reg rfl ?_ (by decide +kernel)
    iterate 2 (refine run_op rfl rfl rfl (by simp [boxA, AV.cells, AV.isCell, storeA, AV.cells, AV.isCell, splice]; exact .mk) ?_)
    refine run_end [4, 5] (by simp) (by simp; exact .mk) ?_
    rintro -
    refine WI_ret ?_
    try simp only [thenI_ret, roundsI_ret, inBlkI_ret, thenI_exit, roundsI_exit, inBlkI_exit, if_true]
    refine endInM_ret (fn := Try.f97) (rs := [.d (.v (.pointer none)), .d (vT false)]) 0 .nil ?_ (Nat.le_refl _) ?_ ?_ ?_
    · simp [Try.f97]; exact .mk
    · rfl
    · rfl
    · rw [hr]; exact ⟨rfl, rfl⟩
  · intro h15
    have hp : 0 ≤ pages ∧ pages ≤ 64 := by simp at h15; omega
    obtain ⟨n, rfl⟩ : ∃ n : Nat, pages = n := ⟨pages.toNat, by omega⟩
    refine WI_skip ?_
    rintro -
    refine WI_seq ?_
    refine WI_reg rfl ?_ (by decide +kernel)
    refine run_op rfl rfl rfl (by simp [boxA, AV.cells, AV.isCell]; exact .mk) ?_
    refine run_op rfl rfl rfl (by simp [boxA, AV.cells, AV.isCell, makeSliceA, elemD, maxLen, kinds, kDs, kD, Value.oneCell', makeSliceA, elemD, maxLen, kinds, kDs, kD, Value.oneCell', hp, show 8 * (n : Int) ≤ 140737488355328 by omega, show (n : Int) ≤ 140737488355328 by omega]; exact .mk) ?_
    refine run_op rfl rfl rfl (by simp [boxA, AV.cells, AV.isCell, buildA, fillA, placesOf, splice, Value.oneCell', AV.cells, AV.isCell]; exact .mk) ?_
    refine run_op rfl rfl rfl (by simp [boxA, AV.cells, AV.isCell, boxA, AV.cells, AV.isCell]; exact .mk) ?_
    refine run_op rfl rfl rfl (by simp [boxA, AV.cells, AV.isCell, allocA, Value.oneCell']; exact .mk) ?_
    refine run_op rfl rfl rfl (by simp [boxA, AV.cells, AV.isCell, storeA, AV.cells, AV.isCell, splice]; exact .mk) ?_
    refine run_end [0, 1, 4, 5, 6] (by simp) (by simp; exact .mk) ?_
    rintro -
    refine WI_seq ?_
    refine WI_seq ?_
    refine WI_reg rfl ?_ (by decide +kernel)
    iterate 6 (refine run_op rfl rfl rfl (by simp [boxA, AV.cells, AV.isCell]; exact .mk) ?_)
    refine run_end [0, 1, 4, 5, 6, 24, 25] (by simp) (by simp; exact .mk) ?_
    rintro -
    refine WI_block ?_
    obtain ⟨z64, hz⟩ : ∃ z : List Nat, List.replicate 64 0 = z := ⟨_, rfl⟩
    refine WI_rounds (fun m σ o => ∃ i : Nat, m = n - i ∧ i ≤ n ∧ σ = slots [(0, .d (vI n)), (1, .d (rO l)), (4, .ptr 0 0 0), (5, .ptr 1 0 0), (6, .ptr 4 0 0), (24, .d (vI n)), (25, .d (vI i))] ∧ o = [.var 128 [.d (.v (.pointer none))], .var 4 [.d (vT false)], .row 1 ((fillL n i).map vI), .var 134 (AV.hdr 2 0 n :: z64.map cU), .var 128 [.ptr 3 0 0]]) n .refl ⟨0, by simp, by simp, by simp, by rw [← hz, fillL_0]; simp; rfl⟩ ?_
    rintro m σ o ⟨i, rfl, hi, rfl, rfl⟩ _
    refine WI_seq ?_
    refine WI_reg rfl ?_ (by decide +kernel)
    refine run_op rfl rfl rfl (by simp [boxA, AV.cells, AV.isCell, eqA, eqFs, isStructTy, eqlNeq, strOp, isBoolTy, isPtrTy, isFnTy]; exact .mk) ?_
    refine run_end [0, 1, 4, 5, 6, 24, 25, 26] (by simp) (by simp; exact .mk) ?_
    rintro -
    refine WI_seq ?_
    refine WI_cond rfl ?_ ?_
    · intro h26
      have hi2 : i < n := by simp at h26; omega
      have r1 : i < (fillL n i).length := by rw [fillL_len hi]; exact hi2
      refine WI_skip ?_
      rintro -
      refine WI_seq ?_
      refine WI_block ?_
      refine WI_seq ?_
      refine WI_reg rfl ?_ (by decide +kernel)
      iterate 2 (refine run_op rfl rfl rfl (by simp [boxA, AV.cells, AV.isCell]; exact .mk) ?_)
      refine run_end [0, 1, 4, 5, 6, 7, 24, 25] (by simp) (by simp; exact .mk) ?_
      rintro -
      refine WI_reg rfl ?_ (by decide +kernel)
      iterate 5 (refine run_op rfl rfl rfl (by simp [boxA, AV.cells, AV.isCell]; exact .mk) ?_)
      refine run_op rfl rfl rfl (by simp [boxA, AV.cells, AV.isCell, *]; exact .mk) ?_
      refine run_op rfl rfl rfl (by simp [boxA, AV.cells, AV.isCell, storeA, AV.cells, AV.isCell, splice, cl, cls, r1, putC, nrmL, nrm, -List.map_set, -List.map_append]; exact .mk) ?_
      refine run_end [0, 1, 4, 5, 6, 24, 25] (by simp) (by simp; exact .mk) ?_
      rintro -
      refine WI_reg rfl ?_ (by decide +kernel)
      refine run_op rfl rfl rfl (by simp [boxA, AV.cells, AV.isCell, eqA, eqFs, isStructTy, eqlNeq, strOp, isBoolTy, isPtrTy, isFnTy]; exact .mk) ?_
      refine run_op rfl rfl rfl (by simp [boxA, AV.cells, AV.isCell]; exact .mk) ?_
      refine run_end [0, 1, 4, 5, 6, 24, 25] (by simp) (by simp; exact .mk) ?_
      refine roundsI_of ?_
      refine rounds_drop 5 [0, 1, 4, 5, 6, 24, 25] (by simp) (by simp [boxA, AV.cells, AV.isCell]) (by simp [boxA, AV.cells, AV.isCell]) ?_
      exact rounds_next (m' := n - (i + 1)) (by omega) ⟨i + 1, rfl, by omega, by rw [wrap64 (by omega) (by omega)]; rfl, by simp [fillL_set hi2]⟩
    · intro h26
      obtain rfl : n = i := by simp at h26; omega
      rw [show fillL n n = (stI (n : Int) l 0).1 by rw [fillL_n]; simp [stI], show z64 = (stI (n : Int) l 0).2 from hz.symm]
      clear hz
      refine WI_exit ?_
      rintro -
      refine WI_seq ?_
      refine WI_seq ?_
      refine WI_reg rfl ?_ (by decide +kernel)
      iterate 2 (refine run_op rfl rfl rfl (by simp [boxA, AV.cells, AV.isCell]; exact .mk) ?_)
      refine run_inl0 rfl rfl rfl rfl (by simp [boxA, AV.cells, AV.isCell, calleeA]; exact .mk) ⟨_, Try.func116, rfl, rfl⟩ (in116 g _ _ _ _ _ n l) (.inl (by simp)) ?_
      refine run_end [4, 5, 6, 37] (by simp) (by simp; exact .mk) ?_
      rintro -
      refine WI_block ?_
      refine WI_rangeFunc [4, 5, 6] (by simp; exact .mk) ⟨_, Try.func127, rfl, rfl⟩ (by simp; exact .mk) _ (fun fn b lb B S => in127 g n l hp hl ho b lb _ _ rfl ?_ (fun _ => .var 128 [.d (.v (.pointer none))]) (fun _ => .var 4 [.d (vT false)]) (fun i => .row 1 ((stI (n : Int) l i).1.map vI)) (fun i => .var 134 (AV.hdr 2 0 n :: (stI (n : Int) l i).2.map cU)) (fun _ => .var 128 [.ptr 3 0 0]) (okI (n : Int) l) (fun _ => rfl) (fun _ => rfl) (fun _ => rfl) (fun _ => by simp) (fun _ => rfl) rfl (fun i hi B S => ?_) B S) ?_
      · intro p hp2
        have hp3 : p = 38 ∨ p = 39 := by simpa using hp2
        show p < 49
        rcases hp3 with rfl | rfl <;> decide
      · skip
        cases hsp : (spotS (n : Int) (nth l i)).2
        · skip
          have hA : stI (n : Int) l (i + 1) = stI (n : Int) l i := by simp only [stI, layO]; rw [if_neg (by simp [hsp])]
          have hk : okI (n : Int) l i = false := by simp only [okI, layO]; rw [if_neg (by simp [hsp])]
          rw [hA, hk]
          unfold RoundI
          refine WI_weak (Weak.kills [4, 5, 6, 38, 39] (L := [(4, .ptr 0 0 0), (5, .ptr 1 0 0), (6, .ptr 4 0 0), (38, .agg [.d (vI (spotS (n : Int) (nth l i)).1.page), .d (vI (spotS (n : Int) (nth l i)).1.count), .d (vT (spotS (n : Int) (nth l i)).1.small), .d (vI (spotS (n : Int) (nth l i)).1.cls), .d (vI (spotS (n : Int) (nth l i)).1.cell)]), (39, .d (vT false))]) rfl) ?_
          refine WI_seq ?_
          refine WI_reg rfl ?_ (by decide +kernel)
          refine run_op rfl rfl rfl (by simp [boxA, AV.cells, AV.isCell, allocA, Value.oneCell']; exact .mk) ?_
          refine run_op rfl rfl rfl (by simp [boxA, AV.cells, AV.isCell, storeA, AV.cells, AV.isCell, splice]; exact .mk) ?_
          refine run_end [4, 5, 6, 8, 39] (by simp) (by simp; exact .mk) ?_
          rintro -
          refine WI_reg rfl ?_ (by decide +kernel)
          refine run_op rfl rfl rfl (by simp [boxA, AV.cells, AV.isCell]; exact .mk) ?_
          refine run_end [4, 5, 6, 8, 9] (by simp) (by simp; exact .mk) ?_
          refine ⟨rfl, rfl, rfl, fun _ => ?_⟩
          refine WI_block ?_
          refine WI_seq ?_
          refine WI_reg rfl ?_ (by decide +kernel)
          refine run_op rfl rfl rfl (by simp [boxA, AV.cells, AV.isCell]; exact .mk) ?_
          refine run_op rfl rfl rfl (by simp [boxA, AV.cells, AV.isCell, unA]; exact .mk) ?_
          refine run_op rfl rfl rfl (by simp [boxA, AV.cells, AV.isCell]; exact .mk) ?_
          refine run_if rfl (by simp [boxA, AV.cells, AV.isCell]; exact .mk) rfl (by simp <;> first | omega | grind) (fun hb => by simp [boxA, AV.cells, AV.isCell]; exact .mk) ?_
          refine run_if rfl (by simp [boxA, AV.cells, AV.isCell]; exact .mk) rfl (by simp <;> first | omega | grind) (fun hb => by simp [boxA, AV.cells, AV.isCell]; exact .mk) ?_
          refine run_not (av := .dead) rfl (by simp [boxA, AV.cells, AV.isCell]; exact .mk) rfl ?_
          refine run_not (av := .dead) rfl (by simp [boxA, AV.cells, AV.isCell]; exact .mk) rfl ?_
          refine run_pick rfl (by simp [boxA, AV.cells, AV.isCell]; exact .mk) rfl rfl (by simp) (by simp [boxA, AV.cells, AV.isCell]; exact .mk) (by simp [boxA, AV.cells, AV.isCell]; exact .mk) (by simp; exact .mk) ?_
          refine run_end [4, 5, 47] (by simp <;> first | omega | grind) (by simp; exact .mk) ?_
          rintro -
          refine WI_cond rfl ?_ ?_
          · intro h47
            refine WI_seq ?_
            refine WI_reg rfl ?_ (by decide +kernel)
            iterate 2 (refine run_op rfl rfl rfl (by simp [boxA, AV.cells, AV.isCell, storeA, AV.cells, AV.isCell, splice]; exact .mk) ?_)
            refine run_end [4, 5] (by simp) (by simp; exact .mk) ?_
            rintro -
            refine WI_weak (Weak.drop (m := 10) [] (Nat.le_refl _) rfl (by simp)) ?_
            refine WI_ret ?_
            simp only [thenI_ret, inBlkI_ret]
            refine ⟨?_, ?_, ?_⟩ <;> first | trivial | rfl
          · intro h47
            simp at h47
        · skip
          obtain ⟨p, k, c, e, e1, e2, e3, e4⟩ := spot_ok hsp
          obtain ⟨sm, hsm⟩ : ∃ sm, sm = (spotS (n : Int) (nth l i)).1.small := ⟨_, rfl⟩
          obtain ⟨kd, hkd⟩ : ∃ kd, kd = (spotS (n : Int) (nth l i)).1.cls := ⟨_, rfl⟩
          rw [← hsm, ← hkd] at e
          have hA : stI (n : Int) l (i + 1) = (layS (stI (n : Int) l i).1 (stI (n : Int) l i).2 p k sm kd c).2 := by simp only [stI, layO]; rw [if_pos hsp, e]; rfl
          have hk : okI (n : Int) l i = (layS (stI (n : Int) l i).1 (stI (n : Int) l i).2 p k sm kd c).1 := by simp only [okI, layO]; rw [if_pos hsp, e]; rfl
          rw [hA, hk, e]
          unfold RoundI
          refine WI_weak (Weak.kills [4, 5, 6, 38, 39] (L := [(4, .ptr 0 0 0), (5, .ptr 1 0 0), (6, .ptr 4 0 0), (38, .agg [.d (vI p), .d (vI k), .d (vT sm), .d (vI kd), .d (vI c)]), (39, .d (vT true))]) rfl) ?_
          refine WI_seq ?_
          refine WI_reg rfl ?_ (by decide +kernel)
          refine run_op rfl rfl rfl (by simp [boxA, AV.cells, AV.isCell, allocA, Value.oneCell']; exact .mk) ?_
          refine run_op rfl rfl rfl (by simp [boxA, AV.cells, AV.isCell, storeA, AV.cells, AV.isCell, splice]; exact .mk) ?_
          refine run_end [4, 5, 6, 8, 39] (by simp) (by simp; exact .mk) ?_
          rintro -
          refine WI_reg rfl ?_ (by decide +kernel)
          refine run_op rfl rfl rfl (by simp [boxA, AV.cells, AV.isCell]; exact .mk) ?_
          refine run_end [4, 5, 6, 8, 9] (by simp) (by simp; exact .mk) ?_
          refine ⟨rfl, rfl, rfl, fun _ => ?_⟩
          refine WI_block ?_
          refine WI_seq ?_
          refine WI_reg rfl ?_ (by decide +kernel)
          refine run_op rfl rfl rfl (by simp [boxA, AV.cells, AV.isCell]; exact .mk) ?_
          refine run_op rfl rfl rfl (by simp [boxA, AV.cells, AV.isCell, unA]; exact .mk) ?_
          refine run_op rfl rfl rfl (by simp [boxA, AV.cells, AV.isCell]; exact .mk) ?_
          refine run_if rfl (by simp [boxA, AV.cells, AV.isCell]; exact .mk) rfl (by simp <;> first | omega | grind) (fun hb => by simp [boxA, AV.cells, AV.isCell]; exact .mk) ?_
          refine run_if rfl (by simp [boxA, AV.cells, AV.isCell]; exact .mk) rfl (by simp <;> first | omega | grind) (fun hb => by simp [boxA, AV.cells, AV.isCell]; exact .mk) ?_
          refine run_inlT rfl (by simp [boxA, AV.cells, AV.isCell]; exact .mk) rfl rfl (by simp) (by simp [boxA, AV.cells, AV.isCell, calleeA]; exact .mk) ⟨_, Try.func117, rfl, rfl⟩ (in117 g _ _ _ _ _ _ _ _ _ (stI (n : Int) l i).1 n (by rw [stI_len.1]; rfl) (stI (n : Int) l i).2 p k sm kd c stI_len.2 (by rw [stI_len.1]; omega) (by rw [stI_len.1]; omega) (by rw [stI_len.1]; omega) e4 (stI_lt p (by omega)) rfl rfl rfl rfl rfl rfl rfl rfl rfl) (.inl (by simp)) ?_
          refine run_if rfl (by simp [boxA, AV.cells, AV.isCell]; exact .mk) rfl (by simp <;> first | omega | grind) (fun hb => by simp [boxA, AV.cells, AV.isCell, unA]; exact .mk) ?_
          refine run_pick rfl (by simp [boxA, AV.cells, AV.isCell]; exact .mk) rfl rfl (by simp) (by simp [boxA, AV.cells, AV.isCell]; exact .mk) (by simp [boxA, AV.cells, AV.isCell]; exact .mk) (by simp; exact .mk) ?_
          refine run_end [4, 5, 47] (by simp <;> first | omega | grind) (by simp; exact .mk) ?_
          rintro -
          refine WI_cond rfl ?_ ?_
          · intro h47
            refine WI_seq ?_
            refine WI_reg rfl ?_ (by decide +kernel)
            iterate 2 (refine run_op rfl rfl rfl (by simp [boxA, AV.cells, AV.isCell, storeA, AV.cells, AV.isCell, splice]; exact .mk) ?_)
            refine run_end [4, 5] (by simp) (by simp; exact .mk) ?_
            rintro -
            refine WI_weak (Weak.drop (m := 10) [] (Nat.le_refl _) rfl (by simp)) ?_
            refine WI_ret ?_
            have hf : (layS (stI (n : Int) l i).1 (stI (n : Int) l i).2 p k sm kd c).1 = false := by simpa using h47
            simp only [thenI_ret, inBlkI_ret]
            refine ⟨rfl, hf.symm, ?_⟩
            rw [if_neg (by simp [hf])]; rfl
          · intro h47
            have hf : (layS (stI (n : Int) l i).1 (stI (n : Int) l i).2 p k sm kd c).1 = true := by simpa using h47
            refine WI_weak (Weak.drop (m := 10) [] (Nat.le_refl _) rfl (by simp)) ?_
            refine WI_skip ?_
            simp only [inBlkI_normal]
            refine ⟨rfl, hf.symm, ?_⟩
            rw [if_pos hf]; rfl
      · rintro fn b lb av o ⟨rfl, ⟨hok, rfl⟩ | ⟨i, hi, hok, rfl⟩⟩
        · refine ⟨_, _, rfl, by simp, ?_⟩
          have hr : laidS (n : Int) l = some (stI (n : Int) l l.length) := by simp [laidS, hp]; exact hok
          simp only [pending_none, inBlkI_normal]
          rintro -
          refine WI_seq ?_
          refine WI_reg rfl ?_ (by decide +kernel)
          refine run_op rfl rfl rfl (by simp [boxA, AV.cells, AV.isCell]; exact .mk) ?_
          iterate 2 (refine run_op rfl rfl rfl (by simp [boxA, AV.cells, AV.isCell, storeA, AV.cells, AV.isCell, splice]; exact .mk) ?_)
          refine run_end [4, 5] (by simp) (by simp; exact .mk) ?_
          rintro -
          refine WI_ret ?_
          try simp only [thenI_ret, roundsI_ret, inBlkI_ret, thenI_exit, roundsI_exit, inBlkI_exit, if_true]
          refine endInM_ret (fn := Try.f97) (rs := [.ptr 3 0 0, .d (vT true)]) 4 (.cons (r := 7) rfl .nil) ?_ (Nat.zero_le _) ?_ ?_ ?_
          · simp [Try.f97]; exact .mk
          · rfl
          · simp
          · rw [hr]; exact ⟨rfl, rfl⟩
        · refine ⟨_, _, rfl, by simp, ?_⟩
          have hr : laidS (n : Int) l = none := by simp [laidS]; exact fun _ => ⟨i, hi, hok⟩
          simp only [pending_ret, thenI_ret, inBlkI_ret]
          refine endInM_ret (fn := Try.f97) (rs := [.d (.v (.pointer none)), .d (vT false)]) 0 (.cons (r := 7) rfl .nil) ?_ (Nat.le_refl _) ?_ ?_ ?_
          · simp [Try.f97]; exact .mk
          · rfl
          · rfl
          · rw [hr]; exact ⟨rfl, rfl⟩

end Go.Proofs
