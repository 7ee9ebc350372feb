/- Contracts of functions that compare and copy rows: each answers what its plain function answers, for at most 2^40 elements. -/
import Derived.Test.YtaeglabjhpfepaaK
import Derived.Test.YtaeglabjhpfepaaBase
import Derived.Test.YtaeglabjhpfepaaAwpC
set_option linter.all false
set_option linter.unusedSimpArgs false
namespace Go.Proofs
open Go.Awp
theorem ct15 (g : Gl) (a : Abs) (ha : a.Ok) : CtAt Try.prog g 15 [eAbs a] (.v (.bool (rightS a))) := by
  refine ctAt_of_W Try.func15 rfl rfl (Nat.le_of_ble_eq_true rfl) fun B S => ?_
  simp only [eAbs, List.map, argD_agg]
  refine W_seq ?_
  refine W_reg rfl ?_
  refine run_op rfl rfl rfl (by simp [boxA, AV.cells, AV.isCell]; exact .mk) ?_
  refine run_op rfl rfl rfl (by simp; exact .mk) ?_
  refine run_end [1] (by simp) (by simp; exact .mk) ?_
  rintro -
  refine W_seq ?_
  refine W_reg rfl ?_
  refine run_op rfl rfl rfl (by simp; exact .mk) ?_
  refine run_op rfl rfl rfl (by simp; exact .mk) ?_
  refine run_op rfl rfl rfl (by simp; exact .mk) ?_
  refine run_op rfl rfl rfl (by simp; exact .mk) ?_
  refine run_end [1, 3] (by simp) (by simp; exact .mk) ?_
  rintro -
  refine W_seq ?_
  refine W_seq ?_
  refine W_reg rfl ?_
  refine run_op rfl rfl rfl (by simp; exact .mk) ?_
  refine run_op rfl rfl rfl (by simp; exact .mk) ?_
  refine run_op rfl rfl rfl (by simp; exact .mk) ?_
  refine run_op rfl rfl rfl (by simp; exact .mk) ?_
  refine run_op rfl rfl rfl (by simp [eqA, eqFs, isStructTy, eqlNeq, strOp, isBoolTy, isPtrTy, isFnTy]; exact .mk) ?_
  refine run_op rfl rfl rfl (by simp; exact .mk) ?_
  refine run_if rfl (by simp; exact .mk) rfl (by simp <;> omega) (fun hb => by simp; exact .mk) ?_
  refine run_if rfl (by simp; exact .mk) rfl (by simp <;> omega) (fun hb => by simp [eqA, eqFs, isStructTy, eqlNeq, strOp, isBoolTy, isPtrTy, isFnTy]; exact .mk) ?_
  refine run_pick rfl (by simp; exact .mk) rfl rfl (by simp) (by simp; exact .mk) (by simp; exact .mk) (by simp; exact .mk) ?_
  refine run_op1 rfl rfl rfl (by simp <;> omega) (by simp; exact .mk) ?_
  refine run_if rfl (by simp; exact .mk) rfl (by simp <;> omega) (fun hb => by simp; exact .mk) ?_
  refine run_if rfl (by simp; exact .mk) rfl (by simp <;> omega) (fun hb => by simp [eqA, eqFs, isStructTy, eqlNeq, strOp, isBoolTy, isPtrTy, isFnTy]; exact .mk) ?_
  refine run_pick rfl (by simp; exact .mk) rfl rfl (by simp) (by simp; exact .mk) (by simp; exact .mk) (by simp; exact .mk) ?_
  refine run_op1 rfl rfl rfl (by simp <;> omega) (by simp; exact .mk) ?_
  refine run_if rfl (by simp; exact .mk) rfl (by simp <;> omega) (fun hb => by simp; exact .mk) ?_
  refine run_if rfl (by simp; exact .mk) rfl (by simp <;> omega) (fun hb => by simp [eqA, eqFs, isStructTy, eqlNeq, strOp, isBoolTy, isPtrTy, isFnTy]; exact .mk) ?_
  refine run_if rfl (by simp; exact .mk) rfl (by simp <;> omega) (fun hb => by simp [eqA, eqFs, isStructTy, eqlNeq, strOp, isBoolTy, isPtrTy, isFnTy]; exact .mk) ?_
  refine run_pick rfl (by simp; exact .mk) rfl rfl (by simp) (by simp; exact .mk) (by simp; exact .mk) (by simp; exact .mk) ?_
  refine run_end [1, 26] (by simp <;> omega) (by simp; exact .mk) ?_
  rintro -
  refine W_cond rfl ?_ ?_
  · intro h26
    have hr : rightS a = false := right_len (by simp [lensOk] at *; omega)
    refine W_seq ?_
    refine W_reg rfl ?_
    refine run_op rfl rfl rfl (by simp; exact .mk) ?_
    refine run_end [2] (by simp) (by simp; exact .mk) ?_
    rintro -
    refine W_ret ?_
    refine end_ret (by simp [Try.f15]; exact .mk) (by simp [cl, cls]; exact .mk) ?_ (by simp [D.noSn])
    simp [nrmR, nrmRs, nrmK, kindsOf, kinds, Try.f15, hr]
  · intro h26
    have h0 : lensOk a = true := by simp [lensOk] at *; omega
    have hgd : a.gens.length = a.data.length := by simp [lensOk] at h0; omega
    refine W_skip ?_
    rintro -
    refine W_seq ?_
    refine W_seq ?_
    refine W_reg rfl ?_
    refine run_op rfl rfl rfl (by simp; exact .mk) ?_
    refine run_op rfl rfl rfl (by simp; exact .mk) ?_
    refine run_op rfl rfl rfl (by simp; exact .mk) ?_
    refine run_op rfl rfl rfl (by simp; exact .mk) ?_
    refine run_end [1, 28, 29, 30] (by simp) (by simp; exact .mk) ?_
    rintro -
    refine W_block ?_
    refine W_rounds (fun m σ o => ∃ i : Nat, m = a.gens.length - i ∧ i ≤ a.gens.length ∧ (∀ j, j < i → slotOk a j = true) ∧ σ = slots [(1, .ptr 0 0 0), (28, .d (rI a.gens)), (29, .d (vI a.gens.length)), (30, .d (vI i))] ∧ o = [.var 26 [.d (rI a.gens), .d (rBB a.data), .d (rR a.roots)]]) a.gens.length .refl ⟨0, by simp, by simp, by simp, rfl, rfl⟩ ?_
    have q1 := ha.h1
    rintro m σ o ⟨i, rfl, hi, hinv, rfl, rfl⟩ _
    refine W_seq ?_
    refine W_reg rfl ?_
    refine run_op rfl rfl rfl (by simp [eqA, eqFs, isStructTy, eqlNeq, strOp, isBoolTy, isPtrTy, isFnTy]; exact .mk) ?_
    refine run_end [1, 28, 29, 30, 31] (by simp) (by simp; exact .mk) ?_
    rintro -
    refine W_seq ?_
    refine W_cond rfl ?_ ?_
    · intro h31
      have hi2 : i < a.gens.length := by simpa using h31
      have hi3 : i < a.data.length := by omega
      refine W_skip ?_
      rintro -
      refine W_seq ?_
      refine W_block ?_
      refine W_seq ?_
      refine W_reg rfl ?_
      refine run_op rfl rfl rfl (by simp; exact .mk) ?_
      refine run_op rfl rfl rfl (by simp [*]; exact .mk) ?_
      refine run_op rfl rfl rfl (by simp; exact .mk) ?_
      refine run_op rfl rfl rfl (by simp; exact .mk) ?_
      refine run_op rfl rfl rfl (by simp; exact .mk) ?_
      refine run_end [1, 4, 5, 28, 29, 30] (by simp) (by simp; exact .mk) ?_
      rintro -
      refine W_seq ?_
      refine W_reg rfl ?_
      refine run_op rfl rfl rfl (by simp; exact .mk) ?_
      refine run_op rfl rfl rfl (by simp [eqA, eqFs, isStructTy, eqlNeq, strOp, isBoolTy, isPtrTy, isFnTy]; exact .mk) ?_
      refine run_op rfl rfl rfl (by simp; exact .mk) ?_
      refine run_if rfl (by simp; exact .mk) rfl (by simp <;> omega) (fun hb => by simp; exact .mk) ?_
      refine run_if rfl (by simp; exact .mk) rfl (by simp <;> omega) (fun hb => by simp [eqA, eqFs, isStructTy, eqlNeq, strOp, isBoolTy, isPtrTy, isFnTy]; exact .mk) ?_
      refine run_pick rfl (by simp; exact .mk) rfl rfl (by simp) (by simp; exact .mk) (by simp; exact .mk) (by simp; exact .mk) ?_
      refine run_op1 rfl rfl rfl (by simp <;> omega) (by simp; exact .mk) ?_
      refine run_if rfl (by simp; exact .mk) rfl (by simp <;> omega) (fun hb => by simp; exact .mk) ?_
      refine run_if rfl (by simp; exact .mk) rfl (by simp <;> omega) (fun hb => by simp; exact .mk) ?_
      refine run_if rfl (by simp; exact .mk) rfl (by simp <;> omega) (fun hb => by simp; exact .mk) ?_
      refine run_if rfl (by simp; exact .mk) rfl (by simp <;> omega) (fun hb => by simp [*]; exact .mk) ?_
      refine run_if rfl (by simp; exact .mk) rfl (by simp <;> omega) (fun hb => by simp; exact .mk) ?_
      refine run_if rfl (by simp; exact .mk) rfl (by simp <;> omega) (fun hb => by simp; exact .mk) ?_
      refine run_if rfl (by simp; exact .mk) rfl (by simp <;> omega) (fun hb => by simp [eqA, eqFs, isStructTy, eqlNeq, strOp, isBoolTy, isPtrTy, isFnTy]; exact .mk) ?_
      refine run_pick rfl (by simp; exact .mk) rfl rfl (by simp) (by simp; exact .mk) (by simp; exact .mk) (by simp; exact .mk) ?_
      refine run_end [1, 28, 29, 30, 49] (by simp <;> omega) (by simp; exact .mk) ?_
      rintro -
      refine W_cond rfl ?_ ?_
      · intro h49
        refine W_seq ?_
        have hr : rightS a = false := right_bad hi2 (by simp [slotOk] at *; omega)
        refine W_reg rfl ?_
        refine run_op rfl rfl rfl (by simp; exact .mk) ?_
        refine run_end [2] (by simp) (by simp; exact .mk) ?_
        rintro -
        refine W_ret ?_
        refine end_ret (by simp [Try.f15]; exact .mk) (by simp [cl, cls]; exact .mk) ?_ (by simp [D.noSn])
        simp [nrmR, nrmRs, nrmK, kindsOf, kinds, Try.f15, hr]
      · intro h49
        refine W_skip ?_
        rintro -
        refine W_reg rfl ?_
        refine run_op rfl rfl rfl (by simp [eqA, eqFs, isStructTy, eqlNeq, strOp, isBoolTy, isPtrTy, isFnTy]; exact .mk) ?_
        refine run_op rfl rfl rfl (by simp; exact .mk) ?_
        refine run_end [1, 28, 29, 30] (by simp) (by simp; exact .mk) ?_
        refine rounds_kill [1, 28, 29, 30] ?_
        refine rounds_next (m' := a.gens.length - (i+1)) (by omega) ⟨i+1, rfl, by omega, ?_, ?_, rfl⟩
        · intro j hj
          rcases Nat.lt_succ_iff_lt_or_eq.1 hj with hj | rfl
          · exact hinv j hj
          · simp [slotOk] at *; omega
        · rw [wrap64 (by omega) (by omega)]; rfl
    · intro h31
      refine W_exit ?_
      rintro -
      refine W_seq ?_
      have hr : rightS a = rootsS a.roots := right_good h0 (fun j hj => hinv j (by simp at h31; omega))
      refine W_reg rfl ?_
      refine run_op rfl rfl rfl (by simp; exact .mk) ?_
      refine run_op rfl rfl rfl (by simp; exact .mk) ?_
      refine run_call0 rfl rfl rfl rfl (by simp [calleeA]; exact .mk) (by simp [kindsOf, kinds, expAs, expA]; exact .mk) (ct44 g _ ha.h3 ha.h5) (by simp [D.noRo]) (by simp [impA, impAs]; exact .mk) ?_
      refine run_op rfl rfl rfl (by simp; exact .mk) ?_
      refine run_end [2] (by simp) (by simp; exact .mk) ?_
      rintro -
      refine W_ret ?_
      refine end_ret (by simp [Try.f15]; exact .mk) (by simp [cl, cls]; exact .mk) ?_ (by simp [D.noSn])
      simp [nrmR, nrmRs, nrmK, kindsOf, kinds, Try.f15, hr]

theorem ct47 (g : Gl) (x y : List Int) (hx : x.length ≤ 2^40) : CtAt Try.prog g 47 [rI x, rI y] (.v (.bool (sameL (fun a b => a == b) x y))) := by
  refine ctAt_of_W Try.func47 rfl rfl (Nat.le_of_ble_eq_true rfl) fun B S => ?_
  refine W_seq ?_
  refine W_reg rfl ?_
  refine run_op rfl rfl rfl (by simp; exact .mk) ?_
  refine run_end [0, 1] (by simp) (by simp; exact .mk) ?_
  rintro -
  refine W_seq ?_
  refine W_seq ?_
  refine W_reg rfl ?_
  refine run_op rfl rfl rfl (by simp; exact .mk) ?_
  refine run_op rfl rfl rfl (by simp; exact .mk) ?_
  refine run_op rfl rfl rfl (by simp; exact .mk) ?_
  refine run_op rfl rfl rfl (by simp; exact .mk) ?_
  refine run_op rfl rfl rfl (by simp [eqA, eqFs, isStructTy, eqlNeq, strOp, isBoolTy, isPtrTy, isFnTy]; exact .mk) ?_
  refine run_end [0, 1, 10] (by simp) (by simp; exact .mk) ?_
  rintro -
  refine W_cond rfl ?_ ?_
  · intro h10
    have hr : sameL (fun a b => a == b) x y = false := sameL_len (by simp at h10; omega)
    refine W_seq ?_
    refine W_reg rfl ?_
    refine run_op rfl rfl rfl (by simp; exact .mk) ?_
    refine run_end [4] (by simp) (by simp; exact .mk) ?_
    rintro -
    refine W_ret ?_
    refine end_ret (by simp [Try.f47]; exact .mk) (by simp [cl, cls]; exact .mk) ?_ (by simp [D.noSn])
    simp [nrmR, nrmRs, nrmK, kindsOf, kinds, Try.f47, hr]
  · intro h10
    have hxy : x.length = y.length := by simp at h10; omega
    refine W_skip ?_
    rintro -
    refine W_seq ?_
    refine W_seq ?_
    refine W_reg rfl ?_
    refine run_op rfl rfl rfl (by simp; exact .mk) ?_
    refine run_end [0, 1, 5] (by simp) (by simp; exact .mk) ?_
    rintro -
    refine W_block ?_
    refine W_rounds (fun m σ o => ∃ i : Nat, m = x.length - i ∧ i ≤ x.length ∧ (∀ j, j < i → (fun a b => a == b) (nth x j) (nth y j) = true) ∧ σ = slots [(0, .d (rI x)), (1, .d (rI y)), (5, .d (vI i))] ∧ o = []) x.length .refl ⟨0, by simp, by simp, by simp, rfl, rfl⟩ ?_
    rintro m σ o ⟨i, rfl, hi, hinv, rfl, rfl⟩ _
    refine W_seq ?_
    refine W_seq ?_
    refine W_reg rfl ?_
    refine run_op rfl rfl rfl (by simp; exact .mk) ?_
    refine run_op rfl rfl rfl (by simp; exact .mk) ?_
    refine run_op rfl rfl rfl (by simp; exact .mk) ?_
    refine run_op rfl rfl rfl (by simp [eqA, eqFs, isStructTy, eqlNeq, strOp, isBoolTy, isPtrTy, isFnTy]; exact .mk) ?_
    refine run_end [0, 1, 5, 14] (by simp) (by simp; exact .mk) ?_
    rintro -
    refine W_cond rfl ?_ ?_
    · intro h14
      have h2 : i < x.length := by simpa using h14
      have h3 : i < y.length := by omega
      refine W_skip ?_
      rintro -
      refine W_seq ?_
      refine W_block ?_
      refine W_seq ?_
      refine W_regD (by kernel_rfl) [] 4 [0, 1, 2, 3, 4, 5, 6, 7, 8] (by decide +kernel) ?_
      refine run_op rfl rfl rfl (by simp; exact .mk) ?_
      refine run_op rfl rfl rfl (by simp; exact .mk) ?_
      refine run_op rfl rfl rfl (by simp [*]; exact .mk) ?_
      refine run_op rfl rfl rfl (by simp; exact .mk) ?_
      refine run_op rfl rfl rfl (by simp; exact .mk) ?_
      refine run_op rfl rfl rfl (by simp; exact .mk) ?_
      refine run_op rfl rfl rfl (by simp [*]; exact .mk) ?_
      refine run_op rfl rfl rfl (by simp; exact .mk) ?_
      refine run_op rfl rfl rfl (by simp [eqA, eqFs, isStructTy, eqlNeq, strOp, isBoolTy, isPtrTy, isFnTy]; exact .mk) ?_
      refine run_end [0, 1, 5, 25] (by simp) (by simp; exact .mk) ?_
      rintro -
      refine W_cond rfl ?_ ?_
      · intro h25
        have hr : sameL (fun a b => a == b) x y = false := sameL_bad h2 (by simpa using h25)
        refine W_seq ?_
        refine W_reg rfl ?_
        refine run_op rfl rfl rfl (by simp; exact .mk) ?_
        refine run_end [4] (by simp) (by simp; exact .mk) ?_
        rintro -
        refine W_ret ?_
        refine end_ret (by simp [Try.f47]; exact .mk) (by simp [cl, cls]; exact .mk) ?_ (by simp [D.noSn])
        simp [nrmR, nrmRs, nrmK, kindsOf, kinds, Try.f47, hr]
      · intro h25
        refine W_skip ?_
        rintro -
        refine W_reg rfl ?_
        refine run_op rfl rfl rfl (by simp; exact .mk) ?_
        refine run_op rfl rfl rfl (by simp [eqA, eqFs, isStructTy, eqlNeq, strOp, isBoolTy, isPtrTy, isFnTy]; exact .mk) ?_
        refine run_op rfl rfl rfl (by simp; exact .mk) ?_
        refine run_end [0, 1, 5] (by simp) (by simp; exact .mk) ?_
        refine rounds_kill [0, 1, 5] ?_
        refine rounds_next (m' := x.length - (i+1)) (by omega) ⟨i+1, rfl, by omega, ?_, ?_, rfl⟩
        · intro j hj
          rcases Nat.lt_succ_iff_lt_or_eq.1 hj with hj | rfl
          · exact hinv j hj
          · simpa using h25
        · rw [wrap64 (by omega) (by omega)]; rfl
    · intro h14
      have hr : sameL (fun a b => a == b) x y = true := sameL_good hxy (fun j hj => hinv j (by simp at h14; omega))
      refine W_exit ?_
      rintro -
      refine W_seq ?_
      refine W_reg rfl ?_
      refine run_op rfl rfl rfl (by simp; exact .mk) ?_
      refine run_end [4] (by simp) (by simp; exact .mk) ?_
      rintro -
      refine W_ret ?_
      refine end_ret (by simp [Try.f47]; exact .mk) (by simp [cl, cls]; exact .mk) ?_ (by simp [D.noSn])
      simp [nrmR, nrmRs, nrmK, kindsOf, kinds, Try.f47, hr]

theorem ct48 (g : Gl) (x y : List (List UInt8)) (hx : x.length ≤ 2^40) : CtAt Try.prog g 48 [rBB x, rBB y] (.v (.bool (sameL (fun a b => (str a).toList == (str b).toList) x y))) := by
  refine ctAt_of_W Try.func48 rfl rfl (Nat.le_of_ble_eq_true rfl) fun B S => ?_
  refine W_seq ?_
  refine W_reg rfl ?_
  refine run_op rfl rfl rfl (by simp; exact .mk) ?_
  refine run_end [0, 1] (by simp) (by simp; exact .mk) ?_
  rintro -
  refine W_seq ?_
  refine W_seq ?_
  refine W_reg rfl ?_
  refine run_op rfl rfl rfl (by simp; exact .mk) ?_
  refine run_op rfl rfl rfl (by simp; exact .mk) ?_
  refine run_op rfl rfl rfl (by simp; exact .mk) ?_
  refine run_op rfl rfl rfl (by simp; exact .mk) ?_
  refine run_op rfl rfl rfl (by simp [eqA, eqFs, isStructTy, eqlNeq, strOp, isBoolTy, isPtrTy, isFnTy]; exact .mk) ?_
  refine run_end [0, 1, 10] (by simp) (by simp; exact .mk) ?_
  rintro -
  refine W_cond rfl ?_ ?_
  · intro h10
    have hr : sameL (fun a b => (str a).toList == (str b).toList) x y = false := sameL_len (by simp at h10; omega)
    refine W_seq ?_
    refine W_reg rfl ?_
    refine run_op rfl rfl rfl (by simp; exact .mk) ?_
    refine run_end [4] (by simp) (by simp; exact .mk) ?_
    rintro -
    refine W_ret ?_
    refine end_ret (by simp [Try.f48]; exact .mk) (by simp [cl, cls]; exact .mk) ?_ (by simp [D.noSn])
    simp [nrmR, nrmRs, nrmK, kindsOf, kinds, Try.f48, hr]
  · intro h10
    have hxy : x.length = y.length := by simp at h10; omega
    refine W_skip ?_
    rintro -
    refine W_seq ?_
    refine W_seq ?_
    refine W_reg rfl ?_
    refine run_op rfl rfl rfl (by simp; exact .mk) ?_
    refine run_end [0, 1, 5] (by simp) (by simp; exact .mk) ?_
    rintro -
    refine W_block ?_
    refine W_rounds (fun m σ o => ∃ i : Nat, m = x.length - i ∧ i ≤ x.length ∧ (∀ j, j < i → (fun a b => (str a).toList == (str b).toList) (nth x j) (nth y j) = true) ∧ σ = slots [(0, .d (rBB x)), (1, .d (rBB y)), (5, .d (vI i))] ∧ o = []) x.length .refl ⟨0, by simp, by simp, by simp, rfl, rfl⟩ ?_
    rintro m σ o ⟨i, rfl, hi, hinv, rfl, rfl⟩ _
    refine W_seq ?_
    refine W_seq ?_
    refine W_reg rfl ?_
    refine run_op rfl rfl rfl (by simp; exact .mk) ?_
    refine run_op rfl rfl rfl (by simp; exact .mk) ?_
    refine run_op rfl rfl rfl (by simp; exact .mk) ?_
    refine run_op rfl rfl rfl (by simp [eqA, eqFs, isStructTy, eqlNeq, strOp, isBoolTy, isPtrTy, isFnTy]; exact .mk) ?_
    refine run_end [0, 1, 5, 14] (by simp) (by simp; exact .mk) ?_
    rintro -
    refine W_cond rfl ?_ ?_
    · intro h14
      have h2 : i < x.length := by simpa using h14
      have h3 : i < y.length := by omega
      refine W_skip ?_
      rintro -
      refine W_seq ?_
      refine W_block ?_
      refine W_seq ?_
      refine W_regD (by kernel_rfl) [] 4 [0, 1, 2, 3, 5, 6, 7, 8, 4, 9, 10] (by decide +kernel) ?_
      refine run_op rfl rfl rfl (by simp; exact .mk) ?_
      refine run_op rfl rfl rfl (by simp; exact .mk) ?_
      refine run_op rfl rfl rfl (by simp [*]; exact .mk) ?_
      refine run_op rfl rfl rfl (by simp; exact .mk) ?_
      refine run_op rfl rfl rfl (by simp; exact .mk) ?_
      refine run_op rfl rfl rfl (by simp; exact .mk) ?_
      refine run_op rfl rfl rfl (by simp [*]; exact .mk) ?_
      refine run_op rfl rfl rfl (by simp; exact .mk) ?_
      refine run_op rfl rfl rfl (by simp [conv_rB]; exact .mk) ?_
      refine run_op rfl rfl rfl (by simp [conv_rB]; exact .mk) ?_
      refine run_op rfl rfl rfl (by simp [eqA, eqFs, isStructTy, eqlNeq, strOp, isBoolTy, isPtrTy, isFnTy]; exact .mk) ?_
      refine run_end [0, 1, 5, 27] (by simp) (by simp; exact .mk) ?_
      rintro -
      refine W_cond rfl ?_ ?_
      · intro h27
        have hr : sameL (fun a b => (str a).toList == (str b).toList) x y = false := sameL_bad h2 (by simpa using h27)
        refine W_seq ?_
        refine W_reg rfl ?_
        refine run_op rfl rfl rfl (by simp; exact .mk) ?_
        refine run_end [4] (by simp) (by simp; exact .mk) ?_
        rintro -
        refine W_ret ?_
        refine end_ret (by simp [Try.f48]; exact .mk) (by simp [cl, cls]; exact .mk) ?_ (by simp [D.noSn])
        simp [nrmR, nrmRs, nrmK, kindsOf, kinds, Try.f48, hr]
      · intro h27
        refine W_skip ?_
        rintro -
        refine W_reg rfl ?_
        refine run_op rfl rfl rfl (by simp; exact .mk) ?_
        refine run_op rfl rfl rfl (by simp [eqA, eqFs, isStructTy, eqlNeq, strOp, isBoolTy, isPtrTy, isFnTy]; exact .mk) ?_
        refine run_op rfl rfl rfl (by simp; exact .mk) ?_
        refine run_end [0, 1, 5] (by simp) (by simp; exact .mk) ?_
        refine rounds_kill [0, 1, 5] ?_
        refine rounds_next (m' := x.length - (i+1)) (by omega) ⟨i+1, rfl, by omega, ?_, ?_, rfl⟩
        · intro j hj
          rcases Nat.lt_succ_iff_lt_or_eq.1 hj with hj | rfl
          · exact hinv j hj
          · simpa using h27
        · rw [wrap64 (by omega) (by omega)]; rfl
    · intro h14
      have hr : sameL (fun a b => (str a).toList == (str b).toList) x y = true := sameL_good hxy (fun j hj => hinv j (by simp at h14; omega))
      refine W_exit ?_
      rintro -
      refine W_seq ?_
      refine W_reg rfl ?_
      refine run_op rfl rfl rfl (by simp; exact .mk) ?_
      refine run_end [4] (by simp) (by simp; exact .mk) ?_
      rintro -
      refine W_ret ?_
      refine end_ret (by simp [Try.f48]; exact .mk) (by simp [cl, cls]; exact .mk) ?_ (by simp [D.noSn])
      simp [nrmR, nrmRs, nrmK, kindsOf, kinds, Try.f48, hr]

theorem ct49 (g : Gl) (x y : List Root) (hx : x.length ≤ 2^40) : CtAt Try.prog g 49 [rR x, rR y] (.v (.bool (sameL sameRoot x y))) := by
  refine ctAt_of_W Try.func49 rfl rfl (Nat.le_of_ble_eq_true rfl) fun B S => ?_
  refine W_seq ?_
  refine W_reg rfl ?_
  refine run_op rfl rfl rfl (by simp; exact .mk) ?_
  refine run_end [0, 1] (by simp) (by simp; exact .mk) ?_
  rintro -
  refine W_seq ?_
  refine W_seq ?_
  refine W_reg rfl ?_
  refine run_op rfl rfl rfl (by simp; exact .mk) ?_
  refine run_op rfl rfl rfl (by simp; exact .mk) ?_
  refine run_op rfl rfl rfl (by simp; exact .mk) ?_
  refine run_op rfl rfl rfl (by simp; exact .mk) ?_
  refine run_op rfl rfl rfl (by simp [eqA, eqFs, isStructTy, eqlNeq, strOp, isBoolTy, isPtrTy, isFnTy]; exact .mk) ?_
  refine run_end [0, 1, 10] (by simp) (by simp; exact .mk) ?_
  rintro -
  refine W_cond rfl ?_ ?_
  · intro h10
    have hr : sameL sameRoot x y = false := sameL_len (by simp at h10; omega)
    refine W_seq ?_
    refine W_reg rfl ?_
    refine run_op rfl rfl rfl (by simp; exact .mk) ?_
    refine run_end [4] (by simp) (by simp; exact .mk) ?_
    rintro -
    refine W_ret ?_
    refine end_ret (by simp [Try.f49]; exact .mk) (by simp [cl, cls]; exact .mk) ?_ (by simp [D.noSn])
    simp [nrmR, nrmRs, nrmK, kindsOf, kinds, Try.f49, hr]
  · intro h10
    have hxy : x.length = y.length := by simp at h10; omega
    refine W_skip ?_
    rintro -
    refine W_seq ?_
    refine W_seq ?_
    refine W_reg rfl ?_
    refine run_op rfl rfl rfl (by simp; exact .mk) ?_
    refine run_end [0, 1, 5] (by simp) (by simp; exact .mk) ?_
    rintro -
    refine W_block ?_
    refine W_rounds (fun m σ o => ∃ i : Nat, m = x.length - i ∧ i ≤ x.length ∧ (∀ j, j < i → sameRoot (nth x j) (nth y j) = true) ∧ σ = slots [(0, .d (rR x)), (1, .d (rR y)), (5, .d (vI i))] ∧ o = []) x.length .refl ⟨0, by simp, by simp, by simp, rfl, rfl⟩ ?_
    rintro m σ o ⟨i, rfl, hi, hinv, rfl, rfl⟩ _
    refine W_seq ?_
    refine W_seq ?_
    refine W_reg rfl ?_
    refine run_op rfl rfl rfl (by simp; exact .mk) ?_
    refine run_op rfl rfl rfl (by simp; exact .mk) ?_
    refine run_op rfl rfl rfl (by simp; exact .mk) ?_
    refine run_op rfl rfl rfl (by simp [eqA, eqFs, isStructTy, eqlNeq, strOp, isBoolTy, isPtrTy, isFnTy]; exact .mk) ?_
    refine run_end [0, 1, 5, 14] (by simp) (by simp; exact .mk) ?_
    rintro -
    refine W_cond rfl ?_ ?_
    · intro h14
      have h2 : i < x.length := by simpa using h14
      have h3 : i < y.length := by omega
      refine W_skip ?_
      rintro -
      refine W_seq ?_
      refine W_block ?_
      refine W_seq ?_
      refine W_regD (by kernel_rfl) [] 4 [0, 1, 2, 3, 4, 5, 6, 7, 8] (by decide +kernel) ?_
      refine run_op rfl rfl rfl (by simp; exact .mk) ?_
      refine run_op rfl rfl rfl (by simp; exact .mk) ?_
      refine run_op rfl rfl rfl (by simp [eRoot, *]; exact .mk) ?_
      refine run_op rfl rfl rfl (by simp [eRoot]; exact .mk) ?_
      refine run_op rfl rfl rfl (by simp; exact .mk) ?_
      refine run_op rfl rfl rfl (by simp; exact .mk) ?_
      refine run_op rfl rfl rfl (by simp [eRoot, *]; exact .mk) ?_
      refine run_op rfl rfl rfl (by simp [eRoot]; exact .mk) ?_
      refine run_op rfl rfl rfl (by simp [eqA, eqFs, isStructTy, eqlNeq, strOp, isBoolTy, isPtrTy, isFnTy]; exact .mk) ?_
      refine run_end [0, 1, 5, 25] (by simp) (by simp; exact .mk) ?_
      rintro -
      refine W_cond rfl ?_ ?_
      · intro h25
        have hr : sameL sameRoot x y = false := sameL_bad h2 (and3_f h25)
        refine W_seq ?_
        refine W_reg rfl ?_
        refine run_op rfl rfl rfl (by simp; exact .mk) ?_
        refine run_end [4] (by simp) (by simp; exact .mk) ?_
        rintro -
        refine W_ret ?_
        refine end_ret (by simp [Try.f49]; exact .mk) (by simp [cl, cls]; exact .mk) ?_ (by simp [D.noSn])
        simp [nrmR, nrmRs, nrmK, kindsOf, kinds, Try.f49, hr]
      · intro h25
        refine W_skip ?_
        rintro -
        refine W_reg rfl ?_
        refine run_op rfl rfl rfl (by simp; exact .mk) ?_
        refine run_op rfl rfl rfl (by simp [eqA, eqFs, isStructTy, eqlNeq, strOp, isBoolTy, isPtrTy, isFnTy]; exact .mk) ?_
        refine run_op rfl rfl rfl (by simp; exact .mk) ?_
        refine run_end [0, 1, 5] (by simp) (by simp; exact .mk) ?_
        refine rounds_kill [0, 1, 5] ?_
        refine rounds_next (m' := x.length - (i+1)) (by omega) ⟨i+1, rfl, by omega, ?_, ?_, rfl⟩
        · intro j hj
          rcases Nat.lt_succ_iff_lt_or_eq.1 hj with hj | rfl
          · exact hinv j hj
          · exact and3_t h25
        · rw [wrap64 (by omega) (by omega)]; rfl
    · intro h14
      have hr : sameL sameRoot x y = true := sameL_good hxy (fun j hj => hinv j (by simp at h14; omega))
      refine W_exit ?_
      rintro -
      refine W_seq ?_
      refine W_reg rfl ?_
      refine run_op rfl rfl rfl (by simp; exact .mk) ?_
      refine run_end [4] (by simp) (by simp; exact .mk) ?_
      rintro -
      refine W_ret ?_
      refine end_ret (by simp [Try.f49]; exact .mk) (by simp [cl, cls]; exact .mk) ?_ (by simp [D.noSn])
      simp [nrmR, nrmRs, nrmK, kindsOf, kinds, Try.f49, hr]

theorem ct108 (g : Gl) (n : Int) : CtAt Try.prog g 108 [vI n] (.v (.bool (decide (1 ≤ n) && decide (n ≤ 2048)))) := by
  refine ctAt_of_W Try.func108 rfl rfl (Nat.le_of_ble_eq_true rfl) fun B S => ?_
  refine W_seq ?_
  refine W_reg rfl ?_
  refine run_op rfl rfl rfl (by simp; exact .mk) ?_
  refine run_end [0] (by simp) (by simp; exact .mk) ?_
  rintro -
  refine W_seq ?_
  refine W_reg rfl ?_
  refine run_op rfl rfl rfl (by simp; exact .mk) ?_
  refine run_op rfl rfl rfl (by simp [eqA, eqFs, isStructTy, eqlNeq, strOp, isBoolTy, isPtrTy, isFnTy]; exact .mk) ?_
  refine run_op rfl rfl rfl (by simp; exact .mk) ?_
  refine run_if rfl (by simp; exact .mk) rfl (by simp <;> omega) (fun hb => by simp; exact .mk) ?_
  refine run_if rfl (by simp; exact .mk) rfl (by simp <;> omega) (fun hb => by simp [eqA, eqFs, isStructTy, eqlNeq, strOp, isBoolTy, isPtrTy, isFnTy]; exact .mk) ?_
  refine run_pick rfl (by simp; exact .mk) rfl rfl (by simp) (by simp; exact .mk) (by simp; exact .mk) (by simp; exact .mk) ?_
  refine run_op1 rfl rfl rfl (by simp <;> omega) (by simp; exact .mk) ?_
  refine run_end [2] (by simp <;> omega) (by simp; exact .mk) ?_
  rintro -
  refine W_ret ?_
  refine end_ret (by simp [Try.f108]; exact .mk) (by simp [cl, cls]; exact .mk) ?_ (by simp [D.noSn])
  simp [nrmR, nrmRs, nrmK, kindsOf, kinds, Try.f108]

theorem ct17 (g : Gl) (a b : Abs) (ha : a.Ok) : CtAt Try.prog g 17 [eAbs a, eAbs b] (.v (.bool (sameAbs a b))) := by
  refine ctAt_of_W Try.func17 rfl rfl (Nat.le_of_ble_eq_true rfl) fun B S => ?_
  simp only [eAbs, List.map, argD_agg]
  refine W_seq ?_
  refine W_reg rfl ?_
  refine run_op rfl rfl rfl (by simp [boxA, AV.cells, AV.isCell]; exact .mk) ?_
  refine run_op rfl rfl rfl (by simp [boxA, AV.cells, AV.isCell]; exact .mk) ?_
  refine run_op rfl rfl rfl (by simp; exact .mk) ?_
  refine run_end [2, 3] (by simp) (by simp; exact .mk) ?_
  rintro -
  refine W_seq ?_
  refine W_reg rfl ?_
  refine run_op rfl rfl rfl (by simp; exact .mk) ?_
  refine run_op rfl rfl rfl (by simp; exact .mk) ?_
  refine run_op rfl rfl rfl (by simp; exact .mk) ?_
  refine run_op rfl rfl rfl (by simp; exact .mk) ?_
  refine run_call0 rfl rfl rfl rfl (by simp [calleeA]; exact .mk) (by simp [kindsOf, kinds, expAs, expA]; exact .mk) (ct47 g _ _ ha.h1) (by simp [D.noRo]) (by simp [impA, impAs]; exact .mk) ?_
  refine run_op rfl rfl rfl (by simp; exact .mk) ?_
  refine run_if rfl (by simp; exact .mk) rfl (by simp <;> omega) (fun hb => by simp; exact .mk) ?_
  refine run_if rfl (by simp; exact .mk) rfl (by simp <;> omega) (fun hb => by simp; exact .mk) ?_
  refine run_if rfl (by simp; exact .mk) rfl (by simp <;> omega) (fun hb => by simp; exact .mk) ?_
  refine run_if rfl (by simp; exact .mk) rfl (by simp <;> omega) (fun hb => by simp; exact .mk) ?_
  refine run_call rfl (by simp; exact .mk) rfl rfl (by simp) (by simp [calleeA]; exact .mk) (by simp [kindsOf, kinds, expAs, expA]; exact .mk) (fun hb => ct48 g _ _ ha.h2) (by simp [D.noRo]) (by simp [impA, impAs]; exact .mk) (by simp) ?_
  refine run_pick rfl (by simp; exact .mk) rfl rfl (by simp) (by simp; exact .mk) (by simp; exact .mk) (by simp; exact .mk) ?_
  refine run_op1 rfl rfl rfl (by simp <;> omega) (by simp; exact .mk) ?_
  refine run_if rfl (by simp; exact .mk) rfl (by simp <;> omega) (fun hb => by simp; exact .mk) ?_
  refine run_if rfl (by simp; exact .mk) rfl (by simp <;> omega) (fun hb => by simp; exact .mk) ?_
  refine run_if rfl (by simp; exact .mk) rfl (by simp <;> omega) (fun hb => by simp; exact .mk) ?_
  refine run_if rfl (by simp; exact .mk) rfl (by simp <;> omega) (fun hb => by simp; exact .mk) ?_
  refine run_call rfl (by simp; exact .mk) rfl rfl (by simp) (by simp [calleeA]; exact .mk) (by simp [kindsOf, kinds, expAs, expA]; exact .mk) (fun hb => ct49 g _ _ ha.h3) (by simp [D.noRo]) (by simp [impA, impAs]; exact .mk) (by simp) ?_
  refine run_pick rfl (by simp; exact .mk) rfl rfl (by simp) (by simp; exact .mk) (by simp; exact .mk) (by simp; exact .mk) ?_
  refine run_op1 rfl rfl rfl (by simp <;> omega) (by simp; exact .mk) ?_
  refine run_end [4] (by simp <;> omega) (by simp; exact .mk) ?_
  rintro -
  refine W_ret ?_
  refine end_ret (by simp [Try.f17]; exact .mk) (by simp [cl, cls]; exact .mk) ?_ (by simp [D.noSn])
  simp [nrmR, nrmRs, nrmK, kindsOf, kinds, Try.f17, sameAbs, Bool.and_assoc]

theorem ct14 (g : Gl) (o : Op) : CtAt Try.prog g 14 [eOp o] (.v (.bool (fewOp o))) := by
  refine ctAt_of_W Try.func14 rfl rfl (Nat.le_of_ble_eq_true rfl) fun B S => ?_
  simp only [eOp, List.map, argD_agg]
  refine W_seq ?_
  refine W_reg rfl ?_
  refine run_op rfl rfl rfl (by simp [boxA, AV.cells, AV.isCell]; exact .mk) ?_
  refine run_op rfl rfl rfl (by simp; exact .mk) ?_
  refine run_end [1] (by simp) (by simp; exact .mk) ?_
  rintro -
  refine W_seq ?_
  refine W_reg rfl ?_
  refine run_op rfl rfl rfl (by simp; exact .mk) ?_
  refine run_op rfl rfl rfl (by simp; exact .mk) ?_
  refine run_op rfl rfl rfl (by simp; exact .mk) ?_
  refine run_op rfl rfl rfl (by simp [eqA, eqFs, isStructTy, eqlNeq, strOp, isBoolTy, isPtrTy, isFnTy]; exact .mk) ?_
  refine run_op rfl rfl rfl (by simp; exact .mk) ?_
  refine run_if rfl (by simp; exact .mk) rfl (by simp <;> omega) (fun hb => by simp; exact .mk) ?_
  refine run_if rfl (by simp; exact .mk) rfl (by simp <;> omega) (fun hb => by simp; exact .mk) ?_
  refine run_if rfl (by simp; exact .mk) rfl (by simp <;> omega) (fun hb => by simp; exact .mk) ?_
  refine run_if rfl (by simp; exact .mk) rfl (by simp <;> omega) (fun hb => by simp [eqA, eqFs, isStructTy, eqlNeq, strOp, isBoolTy, isPtrTy, isFnTy]; exact .mk) ?_
  refine run_pick rfl (by simp; exact .mk) rfl rfl (by simp) (by simp; exact .mk) (by simp; exact .mk) (by simp; exact .mk) ?_
  refine run_op1 rfl rfl rfl (by simp <;> omega) (by simp; exact .mk) ?_
  refine run_end [2] (by simp <;> omega) (by simp; exact .mk) ?_
  rintro -
  refine W_ret ?_
  refine end_ret (by simp [Try.f14]; exact .mk) (by simp [cl, cls]; exact .mk) ?_ (by simp [D.noSn])
  simp [nrmR, nrmRs, nrmK, kindsOf, kinds, Try.f14, fewOp]

theorem ct85 (g : Gl) (a : Abs) (ix gn : Int) (hl : a.data.length = a.gens.length) : CtAt Try.prog g 85 [eAbs a, .agg [vI ix, vI gn]] (.v (.bool (goodS a ix gn))) := by
  refine ctAt_of_W Try.func85 rfl rfl (Nat.le_of_ble_eq_true rfl) fun B S => ?_
  simp only [eAbs, List.map, argD_agg]
  refine W_seq ?_
  refine W_reg rfl ?_
  refine run_op rfl rfl rfl (by simp [boxA, AV.cells, AV.isCell]; exact .mk) ?_
  refine run_op rfl rfl rfl (by simp [boxA, AV.cells, AV.isCell]; exact .mk) ?_
  refine run_op rfl rfl rfl (by simp; exact .mk) ?_
  refine run_end [2, 3] (by simp) (by simp; exact .mk) ?_
  rintro -
  refine W_seq ?_
  refine W_regD (by kernel_rfl) [] 4 [0, 1, 2, 3, 4, 5, 6, 7, 8, 9, 10, 11, 12, 13, 14, 15, 16, 17, 18, 19, 20, 21, 22, 23, 24, 25, 26, 27, 28, 29, 30, 31, 32] (by decide +kernel) ?_
  refine run_op rfl rfl rfl (by simp; exact .mk) ?_
  refine run_op rfl rfl rfl (by simp; exact .mk) ?_
  refine run_op rfl rfl rfl (by simp [eqA, eqFs, isStructTy, eqlNeq, strOp, isBoolTy, isPtrTy, isFnTy]; exact .mk) ?_
  refine run_op rfl rfl rfl (by simp; exact .mk) ?_
  refine run_if rfl (by simp; exact .mk) rfl (by simp <;> omega) (fun hb => by simp; exact .mk) ?_
  refine run_if rfl (by simp; exact .mk) rfl (by simp <;> omega) (fun hb => by simp; exact .mk) ?_
  refine run_if rfl (by simp; exact .mk) rfl (by simp <;> omega) (fun hb => by simp; exact .mk) ?_
  refine run_if rfl (by simp; exact .mk) rfl (by simp <;> omega) (fun hb => by simp; exact .mk) ?_
  refine run_if rfl (by simp; exact .mk) rfl (by simp <;> omega) (fun hb => by simp; exact .mk) ?_
  refine run_if rfl (by simp; exact .mk) rfl (by simp <;> omega) (fun hb => by simp [eqA, eqFs, isStructTy, eqlNeq, strOp, isBoolTy, isPtrTy, isFnTy]; exact .mk) ?_
  refine run_pick rfl (by simp; exact .mk) rfl rfl (by simp) (by simp; exact .mk) (by simp; exact .mk) (by simp; exact .mk) ?_
  refine run_op1 rfl rfl rfl (by simp <;> omega) (by simp; exact .mk) ?_
  refine run_if rfl (by simp; exact .mk) rfl (by simp <;> omega) (fun hb => by simp; exact .mk) ?_
  refine run_if rfl (by simp; exact .mk) rfl (by simp <;> omega) (fun hb => by simp; exact .mk) ?_
  refine run_if rfl (by simp; exact .mk) rfl (by simp <;> omega) (fun hb => by simp; exact .mk) ?_
  refine run_if rfl (by simp; exact .mk) rfl (by simp <;> omega) (fun hb => by simp; exact .mk) ?_
  refine run_if rfl (by simp; exact .mk) rfl (by simp <;> omega) (fun hb => by simp at hb; simp [show 0 ≤ ix ∧ ix < a.data.length from by omega]; exact .mk) ?_
  refine run_if rfl (by simp; exact .mk) rfl (by simp <;> omega) (fun hb => by simp; exact .mk) ?_
  refine run_if rfl (by simp; exact .mk) rfl (by simp <;> omega) (fun hb => by simp; exact .mk) ?_
  refine run_if rfl (by simp; exact .mk) rfl (by simp <;> omega) (fun hb => by simp [eqA, eqFs, isStructTy, eqlNeq, strOp, isBoolTy, isPtrTy, isFnTy]; exact .mk) ?_
  refine run_pick rfl (by simp; exact .mk) rfl rfl (by simp) (by simp; exact .mk) (by simp; exact .mk) (by simp; exact .mk) ?_
  refine run_op1 rfl rfl rfl (by simp <;> omega) (by simp; exact .mk) ?_
  refine run_if rfl (by simp; exact .mk) rfl (by simp <;> omega) (fun hb => by simp; exact .mk) ?_
  refine run_if rfl (by simp; exact .mk) rfl (by simp <;> omega) (fun hb => by simp; exact .mk) ?_
  refine run_if rfl (by simp; exact .mk) rfl (by simp <;> omega) (fun hb => by simp; exact .mk) ?_
  refine run_if rfl (by simp; exact .mk) rfl (by simp <;> omega) (fun hb => by simp; exact .mk) ?_
  refine run_if rfl (by simp; exact .mk) rfl (by simp <;> omega) (fun hb => by simp at hb; simp [show 0 ≤ ix ∧ ix < a.gens.length from by omega]; exact .mk) ?_
  refine run_if rfl (by simp; exact .mk) rfl (by simp <;> omega) (fun hb => by simp; exact .mk) ?_
  refine run_if rfl (by simp; exact .mk) rfl (by simp <;> omega) (fun hb => by simp; exact .mk) ?_
  refine run_if rfl (by simp; exact .mk) rfl (by simp <;> omega) (fun hb => by simp; exact .mk) ?_
  refine run_if rfl (by simp; exact .mk) rfl (by simp <;> omega) (fun hb => by simp [eqA, eqFs, isStructTy, eqlNeq, strOp, isBoolTy, isPtrTy, isFnTy]; exact .mk) ?_
  refine run_pick rfl (by simp; exact .mk) rfl rfl (by simp) (by simp; exact .mk) (by simp; exact .mk) (by simp; exact .mk) ?_
  refine run_op1 rfl rfl rfl (by simp <;> omega) (by simp; exact .mk) ?_
  refine run_end [4] (by simp <;> omega) (by simp; exact .mk) ?_
  rintro -
  refine W_ret ?_
  refine end_ret (by simp [Try.f85]; exact .mk) (by simp [cl, cls]; exact .mk) ?_ (by simp [D.noSn])
  simp [nrmR, nrmRs, nrmK, kindsOf, kinds, Try.f85, goodS, Bool.and_assoc]

end Go.Proofs

set_option linter.unusedSimpArgs false
set_option linter.unusedVariables false
set_option maxHeartbeats 4000000
namespace Go.Proofs
open Go.Awp
theorem ct55 (g : Gl) (x y : List UInt8) : CtAt Try.prog g 55 [rB x, rB y] (.v (.bool ((str x).toList == (str y).toList))) := by
  refine ctAt_of_W Try.func55 rfl rfl (Nat.le_of_ble_eq_true rfl) fun B S => ?_
  refine W_seq ?_
  refine W_reg rfl ?_
  refine run_op rfl rfl rfl (by simp; exact .mk) ?_
  refine run_end [0, 1] (by simp) (by simp; exact .mk) ?_
  rintro -
  refine W_seq ?_
  refine W_reg rfl ?_
  refine run_op rfl rfl rfl (by simp; exact .mk) ?_
  refine run_op rfl rfl rfl (by simp [conv_rB]; exact .mk) ?_
  refine run_op rfl rfl rfl (by simp; exact .mk) ?_
  refine run_op rfl rfl rfl (by simp [conv_rB]; exact .mk) ?_
  refine run_op rfl rfl rfl (by simp [eqA, eqFs, isStructTy, eqlNeq, strOp, isBoolTy, isPtrTy, isFnTy]; exact .mk) ?_
  refine run_op rfl rfl rfl (by simp; exact .mk) ?_
  refine run_end [4] (by simp) (by simp; exact .mk) ?_
  rintro -
  refine W_ret ?_
  refine end_ret (by simp [Try.f55]; exact .mk) (by simp [cl, cls]; exact .mk) ?_ (by simp [D.noSn])
  simp [nrmR, nrmRs, nrmK, kindsOf, kinds, Try.f55]

theorem ct56 (g : Gl) (x y : List Int) (hx : x.length ≤ 2^40) : CtAt Try.prog g 56 [rI x, rI y] (.v (.bool (sameL (fun a b => a == b) x y))) := by
  refine ctAt_of_W Try.func56 rfl rfl (Nat.le_of_ble_eq_true rfl) fun B S => ?_
  refine W_seq ?_
  refine W_reg rfl ?_
  refine run_op rfl rfl rfl (by simp; exact .mk) ?_
  refine run_end [0, 1] (by simp) (by simp; exact .mk) ?_
  rintro -
  refine W_seq ?_
  refine W_seq ?_
  refine W_reg rfl ?_
  refine run_op rfl rfl rfl (by simp; exact .mk) ?_
  refine run_op rfl rfl rfl (by simp; exact .mk) ?_
  refine run_op rfl rfl rfl (by simp; exact .mk) ?_
  refine run_op rfl rfl rfl (by simp; exact .mk) ?_
  refine run_op rfl rfl rfl (by simp [eqA, eqFs, isStructTy, eqlNeq, strOp, isBoolTy, isPtrTy, isFnTy]; exact .mk) ?_
  refine run_end [0, 1, 10] (by simp) (by simp; exact .mk) ?_
  rintro -
  refine W_cond rfl ?_ ?_
  · intro h10
    have hr : sameL (fun a b => a == b) x y = false := sameL_len (by simp at h10; omega)
    refine W_seq ?_
    refine W_reg rfl ?_
    refine run_op rfl rfl rfl (by simp; exact .mk) ?_
    refine run_end [4] (by simp) (by simp; exact .mk) ?_
    rintro -
    refine W_ret ?_
    refine end_ret (by simp [Try.f56]; exact .mk) (by simp [cl, cls]; exact .mk) ?_ (by simp [D.noSn])
    simp [nrmR, nrmRs, nrmK, kindsOf, kinds, Try.f56, hr]
  · intro h10
    have hxy : x.length = y.length := by simp at h10; omega
    refine W_skip ?_
    rintro -
    refine W_seq ?_
    refine W_seq ?_
    refine W_reg rfl ?_
    refine run_op rfl rfl rfl (by simp; exact .mk) ?_
    refine run_op rfl rfl rfl (by simp; exact .mk) ?_
    refine run_op rfl rfl rfl (by simp; exact .mk) ?_
    refine run_end [0, 1, 12, 13] (by simp) (by simp; exact .mk) ?_
    rintro -
    refine W_block ?_
    refine W_rounds (fun m σ o => ∃ i : Nat, m = x.length - i ∧ i ≤ x.length ∧ (∀ j, j < i → (fun a b => a == b) (nth x j) (nth y j) = true) ∧ σ = slots [(0, .d (rI x)), (1, .d (rI y)), (12, .d (vI x.length)), (13, .d (vI i))] ∧ o = []) x.length .refl ⟨0, by simp, by simp, by simp, rfl, rfl⟩ ?_
    rintro m σ o ⟨i, rfl, hi, hinv, rfl, rfl⟩ _
    refine W_seq ?_
    refine W_reg rfl ?_
    refine run_op rfl rfl rfl (by simp [eqA, eqFs, isStructTy, eqlNeq, strOp, isBoolTy, isPtrTy, isFnTy]; exact .mk) ?_
    refine run_end [0, 1, 12, 13, 14] (by simp) (by simp; exact .mk) ?_
    rintro -
    refine W_seq ?_
    refine W_cond rfl ?_ ?_
    · intro h14
      have h2 : i < x.length := by simpa using h14
      have h3 : i < y.length := by omega
      refine W_skip ?_
      rintro -
      refine W_seq ?_
      refine W_block ?_
      refine W_seq ?_
      refine W_reg rfl ?_
      refine run_op rfl rfl rfl (by simp; exact .mk) ?_
      refine run_op rfl rfl rfl (by simp; exact .mk) ?_
      refine run_end [0, 1, 5, 12, 13] (by simp) (by simp; exact .mk) ?_
      rintro -
      refine W_seq ?_
      refine W_regD (by kernel_rfl) [] 4 [0, 1, 2, 3, 4, 5, 6, 7, 8] (by decide +kernel) ?_
      refine run_op rfl rfl rfl (by simp; exact .mk) ?_
      refine run_op rfl rfl rfl (by simp; exact .mk) ?_
      refine run_op rfl rfl rfl (by simp [*]; exact .mk) ?_
      refine run_op rfl rfl rfl (by simp; exact .mk) ?_
      refine run_op rfl rfl rfl (by simp; exact .mk) ?_
      refine run_op rfl rfl rfl (by simp; exact .mk) ?_
      refine run_op rfl rfl rfl (by simp [*]; exact .mk) ?_
      refine run_op rfl rfl rfl (by simp; exact .mk) ?_
      refine run_op rfl rfl rfl (by simp [eqA, eqFs, isStructTy, eqlNeq, strOp, isBoolTy, isPtrTy, isFnTy]; exact .mk) ?_
      refine run_end [0, 1, 12, 13, 24] (by simp) (by simp; exact .mk) ?_
      rintro -
      refine W_cond rfl ?_ ?_
      · intro h24
        have hr : sameL (fun a b => a == b) x y = false := sameL_bad h2 (by simpa using h24)
        refine W_seq ?_
        refine W_reg rfl ?_
        refine run_op rfl rfl rfl (by simp; exact .mk) ?_
        refine run_end [4] (by simp) (by simp; exact .mk) ?_
        rintro -
        refine W_ret ?_
        refine end_ret (by simp [Try.f56]; exact .mk) (by simp [cl, cls]; exact .mk) ?_ (by simp [D.noSn])
        simp [nrmR, nrmRs, nrmK, kindsOf, kinds, Try.f56, hr]
      · intro h24
        refine W_skip ?_
        rintro -
        refine W_reg rfl ?_
        refine run_op rfl rfl rfl (by simp [eqA, eqFs, isStructTy, eqlNeq, strOp, isBoolTy, isPtrTy, isFnTy]; exact .mk) ?_
        refine run_op rfl rfl rfl (by simp; exact .mk) ?_
        refine run_end [0, 1, 12, 13] (by simp) (by simp; exact .mk) ?_
        refine rounds_kill [0, 1, 12, 13] ?_
        refine rounds_next (m' := x.length - (i+1)) (by omega) ⟨i+1, rfl, by omega, ?_, ?_, rfl⟩
        · intro j hj
          rcases Nat.lt_succ_iff_lt_or_eq.1 hj with hj | rfl
          · exact hinv j hj
          · simpa using h24
        · rw [wrap64 (by omega) (by omega)]; rfl
    · intro h14
      have hr : sameL (fun a b => a == b) x y = true := sameL_good hxy (fun j hj => hinv j (by simp at h14; omega))
      refine W_exit ?_
      rintro -
      refine W_seq ?_
      refine W_reg rfl ?_
      refine run_op rfl rfl rfl (by simp; exact .mk) ?_
      refine run_end [4] (by simp) (by simp; exact .mk) ?_
      rintro -
      refine W_ret ?_
      refine end_ret (by simp [Try.f56]; exact .mk) (by simp [cl, cls]; exact .mk) ?_ (by simp [D.noSn])
      simp [nrmR, nrmRs, nrmK, kindsOf, kinds, Try.f56, hr]

theorem ct58 (g : Gl) (x y : List Root) (hx : x.length ≤ 2^40) : CtAt Try.prog g 58 [rR x, rR y] (.v (.bool (sameL sameRoot x y))) := by
  refine ctAt_of_W Try.func58 rfl rfl (Nat.le_of_ble_eq_true rfl) fun B S => ?_
  refine W_seq ?_
  refine W_reg rfl ?_
  refine run_op rfl rfl rfl (by simp; exact .mk) ?_
  refine run_end [0, 1] (by simp) (by simp; exact .mk) ?_
  rintro -
  refine W_seq ?_
  refine W_seq ?_
  refine W_reg rfl ?_
  refine run_op rfl rfl rfl (by simp; exact .mk) ?_
  refine run_op rfl rfl rfl (by simp; exact .mk) ?_
  refine run_op rfl rfl rfl (by simp; exact .mk) ?_
  refine run_op rfl rfl rfl (by simp; exact .mk) ?_
  refine run_op rfl rfl rfl (by simp [eqA, eqFs, isStructTy, eqlNeq, strOp, isBoolTy, isPtrTy, isFnTy]; exact .mk) ?_
  refine run_end [0, 1, 10] (by simp) (by simp; exact .mk) ?_
  rintro -
  refine W_cond rfl ?_ ?_
  · intro h10
    have hr : sameL sameRoot x y = false := sameL_len (by simp at h10; omega)
    refine W_seq ?_
    refine W_reg rfl ?_
    refine run_op rfl rfl rfl (by simp; exact .mk) ?_
    refine run_end [4] (by simp) (by simp; exact .mk) ?_
    rintro -
    refine W_ret ?_
    refine end_ret (by simp [Try.f58]; exact .mk) (by simp [cl, cls]; exact .mk) ?_ (by simp [D.noSn])
    simp [nrmR, nrmRs, nrmK, kindsOf, kinds, Try.f58, hr]
  · intro h10
    have hxy : x.length = y.length := by simp at h10; omega
    refine W_skip ?_
    rintro -
    refine W_seq ?_
    refine W_seq ?_
    refine W_reg rfl ?_
    refine run_op rfl rfl rfl (by simp; exact .mk) ?_
    refine run_op rfl rfl rfl (by simp; exact .mk) ?_
    refine run_op rfl rfl rfl (by simp; exact .mk) ?_
    refine run_end [0, 1, 12, 13] (by simp) (by simp; exact .mk) ?_
    rintro -
    refine W_block ?_
    refine W_rounds (fun m σ o => ∃ i : Nat, m = x.length - i ∧ i ≤ x.length ∧ (∀ j, j < i → sameRoot (nth x j) (nth y j) = true) ∧ σ = slots [(0, .d (rR x)), (1, .d (rR y)), (12, .d (vI x.length)), (13, .d (vI i))] ∧ o = []) x.length .refl ⟨0, by simp, by simp, by simp, rfl, rfl⟩ ?_
    rintro m σ o ⟨i, rfl, hi, hinv, rfl, rfl⟩ _
    refine W_seq ?_
    refine W_reg rfl ?_
    refine run_op rfl rfl rfl (by simp [eqA, eqFs, isStructTy, eqlNeq, strOp, isBoolTy, isPtrTy, isFnTy]; exact .mk) ?_
    refine run_end [0, 1, 12, 13, 14] (by simp) (by simp; exact .mk) ?_
    rintro -
    refine W_seq ?_
    refine W_cond rfl ?_ ?_
    · intro h14
      have h2 : i < x.length := by simpa using h14
      have h3 : i < y.length := by omega
      refine W_skip ?_
      rintro -
      refine W_seq ?_
      refine W_block ?_
      refine W_seq ?_
      refine W_reg rfl ?_
      refine run_op rfl rfl rfl (by simp; exact .mk) ?_
      refine run_op rfl rfl rfl (by simp; exact .mk) ?_
      refine run_end [0, 1, 5, 12, 13] (by simp) (by simp; exact .mk) ?_
      rintro -
      refine W_seq ?_
      refine W_regD (by kernel_rfl) [] 4 [0, 1, 2, 3, 4, 5, 6, 7, 8] (by decide +kernel) ?_
      refine run_op rfl rfl rfl (by simp; exact .mk) ?_
      refine run_op rfl rfl rfl (by simp; exact .mk) ?_
      refine run_op rfl rfl rfl (by simp [eRoot, *]; exact .mk) ?_
      refine run_op rfl rfl rfl (by simp [eRoot]; exact .mk) ?_
      refine run_op rfl rfl rfl (by simp; exact .mk) ?_
      refine run_op rfl rfl rfl (by simp; exact .mk) ?_
      refine run_op rfl rfl rfl (by simp [eRoot, *]; exact .mk) ?_
      refine run_op rfl rfl rfl (by simp [eRoot]; exact .mk) ?_
      refine run_op rfl rfl rfl (by simp [eqA, eqFs, isStructTy, eqlNeq, strOp, isBoolTy, isPtrTy, isFnTy]; exact .mk) ?_
      refine run_end [0, 1, 12, 13, 24] (by simp) (by simp; exact .mk) ?_
      rintro -
      refine W_cond rfl ?_ ?_
      · intro h24
        have hr : sameL sameRoot x y = false := sameL_bad h2 (by simp [sameRoot] at h24 ⊢; grind)
        refine W_seq ?_
        refine W_reg rfl ?_
        refine run_op rfl rfl rfl (by simp; exact .mk) ?_
        refine run_end [4] (by simp) (by simp; exact .mk) ?_
        rintro -
        refine W_ret ?_
        refine end_ret (by simp [Try.f58]; exact .mk) (by simp [cl, cls]; exact .mk) ?_ (by simp [D.noSn])
        simp [nrmR, nrmRs, nrmK, kindsOf, kinds, Try.f58, hr]
      · intro h24
        refine W_skip ?_
        rintro -
        refine W_reg rfl ?_
        refine run_op rfl rfl rfl (by simp [eqA, eqFs, isStructTy, eqlNeq, strOp, isBoolTy, isPtrTy, isFnTy]; exact .mk) ?_
        refine run_op rfl rfl rfl (by simp; exact .mk) ?_
        refine run_end [0, 1, 12, 13] (by simp) (by simp; exact .mk) ?_
        refine rounds_kill [0, 1, 12, 13] ?_
        refine rounds_next (m' := x.length - (i+1)) (by omega) ⟨i+1, rfl, by omega, ?_, ?_, rfl⟩
        · intro j hj
          rcases Nat.lt_succ_iff_lt_or_eq.1 hj with hj | rfl
          · exact hinv j hj
          · simp [sameRoot] at h24 ⊢; grind
        · rw [wrap64 (by omega) (by omega)]; rfl
    · intro h14
      have hr : sameL sameRoot x y = true := sameL_good hxy (fun j hj => hinv j (by simp at h14; omega))
      refine W_exit ?_
      rintro -
      refine W_seq ?_
      refine W_reg rfl ?_
      refine run_op rfl rfl rfl (by simp; exact .mk) ?_
      refine run_end [4] (by simp) (by simp; exact .mk) ?_
      rintro -
      refine W_ret ?_
      refine end_ret (by simp [Try.f58]; exact .mk) (by simp [cl, cls]; exact .mk) ?_ (by simp [D.noSn])
      simp [nrmR, nrmRs, nrmK, kindsOf, kinds, Try.f58, hr]

theorem in57 (g : Gl) (objs : List Awp.Obj) (x y : List (List UInt8)) (hx : x.length ≤ 2^40) : ∀ B S, CallsA Try.prog g B S ⟨objs.length, true⟩ 57 [.d (rBB x), .d (rBB y), .fn (.func 55) [] []] objs
    (fun a o => a = .d (.v (.bool (sameL (fun a b => (str a).toList == (str b).toList) x y))) ∧ o = objs) := by
  refine callsA_at Try.func57 rfl (Nat.le_of_ble_eq_true rfl) fun B S => ?_
  refine W_seq ?_
  refine W_reg rfl ?_
  refine run_op rfl rfl rfl (by simp; exact .mk) ?_
  refine run_end [0, 1, 2] (by simp) (by simp; exact .mk) ?_
  rintro -
  refine W_seq ?_
  refine W_seq ?_
  refine W_reg rfl ?_
  refine run_op rfl rfl rfl (by simp; exact .mk) ?_
  refine run_op rfl rfl rfl (by simp; exact .mk) ?_
  refine run_op rfl rfl rfl (by simp; exact .mk) ?_
  refine run_op rfl rfl rfl (by simp; exact .mk) ?_
  refine run_op rfl rfl rfl (by simp [eqA, eqFs, isStructTy, eqlNeq, strOp, isBoolTy, isPtrTy, isFnTy]; exact .mk) ?_
  refine run_end [0, 1, 2, 14] (by simp) (by simp; exact .mk) ?_
  rintro -
  refine W_cond rfl ?_ ?_
  · intro h14
    have hr : sameL (fun a b => (str a).toList == (str b).toList) x y = false := sameL_len (by simp at h14; omega)
    refine W_seq ?_
    refine W_reg rfl ?_
    refine run_op rfl rfl rfl (by simp; exact .mk) ?_
    refine run_end [6] (by simp) (by simp; exact .mk) ?_
    rintro -
    refine W_ret ?_
    refine endAt_ret (by simp [Try.f57]; exact .mk) ?_ ?_
    · simp [hr]
    · rfl
  · intro h14
    have hxy : x.length = y.length := by simp at h14; omega
    refine W_skip ?_
    rintro -
    refine W_seq ?_
    refine W_seq ?_
    refine W_reg rfl ?_
    refine run_op rfl rfl rfl (by simp; exact .mk) ?_
    refine run_op rfl rfl rfl (by simp; exact .mk) ?_
    refine run_op rfl rfl rfl (by simp; exact .mk) ?_
    refine run_end [1, 2, 15, 16, 17] (by simp) (by simp; exact .mk) ?_
    rintro -
    refine W_block ?_
    refine W_rounds (fun m σ o => ∃ i : Nat, m = x.length - i ∧ i ≤ x.length ∧ (∀ j, j < i → (fun a b => (str a).toList == (str b).toList) (nth x j) (nth y j) = true) ∧ σ = slots [(1, .d (rBB y)), (2, .fn (.func 55) [] []), (15, .d (rBB x)), (16, .d (vI x.length)), (17, .d (vI i))] ∧ o = objs) x.length .refl ⟨0, by simp, by simp, by simp, rfl, rfl⟩ ?_
    rintro m σ o ⟨i, rfl, hi, hinv, rfl, rfl⟩ _
    refine W_seq ?_
    refine W_reg rfl ?_
    refine run_op rfl rfl rfl (by simp [eqA, eqFs, isStructTy, eqlNeq, strOp, isBoolTy, isPtrTy, isFnTy]; exact .mk) ?_
    refine run_end [1, 2, 15, 16, 17, 18] (by simp) (by simp; exact .mk) ?_
    rintro -
    refine W_seq ?_
    refine W_cond rfl ?_ ?_
    · intro h18
      have h2 : i < x.length := by simpa using h18
      have h3 : i < y.length := by omega
      refine W_skip ?_
      rintro -
      refine W_seq ?_
      refine W_block ?_
      refine W_seq ?_
      refine W_reg rfl ?_
      refine run_op rfl rfl rfl (by simp; exact .mk) ?_
      refine run_op rfl rfl rfl (by simp [*]; exact .mk) ?_
      refine run_op rfl rfl rfl (by simp; exact .mk) ?_
      refine run_op rfl rfl rfl (by simp; exact .mk) ?_
      refine run_op rfl rfl rfl (by simp; exact .mk) ?_
      refine run_end [1, 2, 7, 8, 15, 16, 17] (by simp) (by simp; exact .mk) ?_
      rintro -
      refine W_seq ?_
      refine W_reg rfl ?_
      refine run_op rfl rfl rfl (by simp; exact .mk) ?_
      refine run_op rfl rfl rfl (by simp; exact .mk) ?_
      refine run_op rfl rfl rfl (by simp [*]; exact .mk) ?_
      refine run_op rfl rfl rfl (by simp; exact .mk) ?_
      refine run_op rfl rfl rfl (by simp; exact .mk) ?_
      refine run_end [1, 2, 8, 9, 15, 16, 17] (by simp) (by simp; exact .mk) ?_
      rintro -
      refine W_seq ?_
      refine W_reg rfl ?_
      refine run_op rfl rfl rfl (by simp; exact .mk) ?_
      refine run_op rfl rfl rfl (by simp; exact .mk) ?_
      refine run_op rfl rfl rfl (by simp; exact .mk) ?_
      refine run_call0 rfl rfl rfl rfl (by simp [calleeA]; exact .mk) (by simp [kindsOf, kinds, expAs, expA]; exact .mk) (ct55 g _ _) (by simp [D.noRo]) (by simp [impA, impAs]; exact .mk) ?_
      refine run_op rfl rfl rfl (by simp [unA]; exact .mk) ?_
      refine run_end [1, 2, 15, 16, 17, 30] (by simp) (by simp; exact .mk) ?_
      rintro -
      refine W_cond rfl ?_ ?_
      · intro h30
        have hr : sameL (fun a b => (str a).toList == (str b).toList) x y = false := sameL_bad h2 (by simpa using h30)
        refine W_seq ?_
        refine W_reg rfl ?_
        refine run_op rfl rfl rfl (by simp; exact .mk) ?_
        refine run_end [6] (by simp) (by simp; exact .mk) ?_
        rintro -
        refine W_ret ?_
        refine endAt_ret (by simp [Try.f57]; exact .mk) ?_ ?_
        · simp [hr]
        · rfl
      · intro h30
        refine W_skip ?_
        rintro -
        refine W_reg rfl ?_
        refine run_op rfl rfl rfl (by simp [eqA, eqFs, isStructTy, eqlNeq, strOp, isBoolTy, isPtrTy, isFnTy]; exact .mk) ?_
        refine run_op rfl rfl rfl (by simp; exact .mk) ?_
        refine run_end [1, 2, 15, 16, 17] (by simp) (by simp; exact .mk) ?_
        refine rounds_kill [1, 2, 15, 16, 17] ?_
        refine rounds_next (m' := x.length - (i+1)) (by omega) ⟨i+1, rfl, by omega, ?_, ?_, rfl⟩
        · intro j hj
          rcases Nat.lt_succ_iff_lt_or_eq.1 hj with hj | rfl
          · exact hinv j hj
          · simpa using h30
        · rw [wrap64 (by omega) (by omega)]; rfl
    · intro h18
      have hr : sameL (fun a b => (str a).toList == (str b).toList) x y = true := sameL_good hxy (fun j hj => hinv j (by simp at h18; omega))
      refine W_exit ?_
      rintro -
      refine W_seq ?_
      refine W_reg rfl ?_
      refine run_op rfl rfl rfl (by simp; exact .mk) ?_
      refine run_end [6] (by simp) (by simp; exact .mk) ?_
      rintro -
      refine W_ret ?_
      refine endAt_ret (by simp [Try.f57]; exact .mk) ?_ ?_
      · simp [hr]
      · rfl

theorem ct26 (g : Gl) (a b : Abs) (ha : a.Ok) : CtAt Try.prog g 26 [eAbs a, eAbs b] (.v (.bool (sameAbs a b))) := by
  refine ctAt_of_W Try.func26 rfl rfl (Nat.le_of_ble_eq_true rfl) fun B S => ?_
  simp only [eAbs, List.map, argD_agg]
  refine W_seq ?_
  refine W_reg rfl ?_
  refine run_op rfl rfl rfl (by simp [boxA, AV.cells, AV.isCell, boxA, AV.cells, AV.isCell]; exact .mk) ?_
  refine run_op rfl rfl rfl (by simp [boxA, AV.cells, AV.isCell, boxA, AV.cells, AV.isCell]; exact .mk) ?_
  refine run_op rfl rfl rfl (by simp [boxA, AV.cells, AV.isCell]; exact .mk) ?_
  refine run_end [2, 3] (by simp) (by simp; exact .mk) ?_
  rintro -
  refine W_seq ?_
  refine W_reg rfl ?_
  refine run_op rfl rfl rfl (by simp [boxA, AV.cells, AV.isCell]; exact .mk) ?_
  refine run_op rfl rfl rfl (by simp [boxA, AV.cells, AV.isCell]; exact .mk) ?_
  refine run_op rfl rfl rfl (by simp [boxA, AV.cells, AV.isCell]; exact .mk) ?_
  refine run_op rfl rfl rfl (by simp [boxA, AV.cells, AV.isCell]; exact .mk) ?_
  refine run_call0 rfl rfl rfl rfl (by simp [boxA, AV.cells, AV.isCell, calleeA]; exact .mk) (by simp [boxA, AV.cells, AV.isCell, kindsOf, kinds, expAs, expA]; exact .mk) (ct56 g _ _ ha.h1) (by simp [boxA, AV.cells, AV.isCell, D.noRo]) (by simp [boxA, AV.cells, AV.isCell, impA, impAs]; exact .mk) ?_
  refine run_op rfl rfl rfl (by simp [boxA, AV.cells, AV.isCell]; exact .mk) ?_
  refine run_if rfl (by simp [boxA, AV.cells, AV.isCell]; exact .mk) rfl (by simp <;> first | omega | grind) (fun hb => by simp [boxA, AV.cells, AV.isCell]; exact .mk) ?_
  refine run_if rfl (by simp [boxA, AV.cells, AV.isCell]; exact .mk) rfl (by simp <;> first | omega | grind) (fun hb => by simp [boxA, AV.cells, AV.isCell]; exact .mk) ?_
  refine run_if rfl (by simp [boxA, AV.cells, AV.isCell]; exact .mk) rfl (by simp <;> first | omega | grind) (fun hb => by simp [boxA, AV.cells, AV.isCell]; exact .mk) ?_
  refine run_if rfl (by simp [boxA, AV.cells, AV.isCell]; exact .mk) rfl (by simp <;> first | omega | grind) (fun hb => by simp [boxA, AV.cells, AV.isCell]; exact .mk) ?_
  refine run_inlG rfl (by simp [boxA, AV.cells, AV.isCell]; exact .mk) rfl rfl (by simp) (by simp [boxA, AV.cells, AV.isCell, calleeA]; exact .mk) ⟨_, Try.func57, rfl, rfl⟩ (fun hb => in57 g _ _ _ ha.h2) ?_
  refine run_pick rfl (by simp [boxA, AV.cells, AV.isCell]; exact .mk) rfl rfl (by simp) (by simp [boxA, AV.cells, AV.isCell]; exact .mk) (by simp [boxA, AV.cells, AV.isCell]; exact .mk) (by simp; exact .mk) ?_
  refine run_op1 rfl rfl rfl (by simp <;> first | omega | grind) (by simp [boxA, AV.cells, AV.isCell]; exact .mk) ?_
  refine run_if rfl (by simp [boxA, AV.cells, AV.isCell]; exact .mk) rfl (by simp <;> first | omega | grind) (fun hb => by simp [boxA, AV.cells, AV.isCell]; exact .mk) ?_
  refine run_if rfl (by simp [boxA, AV.cells, AV.isCell]; exact .mk) rfl (by simp <;> first | omega | grind) (fun hb => by simp [boxA, AV.cells, AV.isCell]; exact .mk) ?_
  refine run_if rfl (by simp [boxA, AV.cells, AV.isCell]; exact .mk) rfl (by simp <;> first | omega | grind) (fun hb => by simp [boxA, AV.cells, AV.isCell]; exact .mk) ?_
  refine run_if rfl (by simp [boxA, AV.cells, AV.isCell]; exact .mk) rfl (by simp <;> first | omega | grind) (fun hb => by simp [boxA, AV.cells, AV.isCell]; exact .mk) ?_
  refine run_call rfl (by simp [boxA, AV.cells, AV.isCell]; exact .mk) rfl rfl (by simp) (by simp [boxA, AV.cells, AV.isCell, calleeA]; exact .mk) (by simp [boxA, AV.cells, AV.isCell, kindsOf, kinds, expAs, expA]; exact .mk) (fun hb => ct58 g _ _ ha.h3) (by simp [boxA, AV.cells, AV.isCell, D.noRo]) (by simp [boxA, AV.cells, AV.isCell, impA, impAs]; exact .mk) (by simp) ?_
  refine run_pick rfl (by simp [boxA, AV.cells, AV.isCell]; exact .mk) rfl rfl (by simp) (by simp [boxA, AV.cells, AV.isCell]; exact .mk) (by simp [boxA, AV.cells, AV.isCell]; exact .mk) (by simp; exact .mk) ?_
  refine run_op1 rfl rfl rfl (by simp <;> first | omega | grind) (by simp [boxA, AV.cells, AV.isCell]; exact .mk) ?_
  refine run_end [4] (by simp <;> first | omega | grind) (by simp; exact .mk) ?_
  rintro -
  refine W_ret ?_
  refine end_ret (by simp [boxA, AV.cells, AV.isCell, Try.f26]; exact .mk) (by simp [boxA, AV.cells, AV.isCell, cl, cls]; exact .mk) ?_ (by simp [boxA, AV.cells, AV.isCell, D.noSn])
  simp [nrmR, nrmRs, nrmK, kindsOf, kinds, Try.f26, sameAbs, Bool.and_assoc]

end Go.Proofs

set_option linter.unusedSimpArgs false
namespace Go.Proofs
open Go.Awp
theorem ct80 (g : Gl) (l : List Int) (hl : l.length ≤ 2^40) : CtAt Try.prog g 80 [rI l] (oI l) := by
  refine ctAt_of_W Try.func80 rfl rfl (Nat.le_of_ble_eq_true rfl) fun B S => ?_
  refine W_seq ?_
  refine W_reg rfl ?_
  refine run_op rfl rfl rfl (by simp; exact .mk) ?_
  refine run_end [0] (by simp) (by simp; exact .mk) ?_
  rintro -
  refine W_seq ?_
  refine W_seq ?_
  refine W_region rfl (WR_cut (hard := []) [0] [1] ?_)
  refine run_op rfl rfl rfl (by simp; exact .mk) ?_
  refine run_end [0, 3] (by simp) (by simp; exact .mk) ?_
  refine WR_nilcmp rfl rfl rfl (.inl rfl) rfl ⟨_, Try.underlying22⟩ (by simp; rfl) ?_
  intro nb hnb
  refine WR_run (hard := []) ?_
  refine run_end [0, 4] (by simp) (by simp; exact .mk) ?_
  rintro -
  refine W_cond rfl ?_ ?_
  · intro h4
    have hl0 : l = [] := List.eq_nil_of_length_eq_zero (hnb (by simpa using h4))
    subst hl0
    refine W_seq ?_
    refine W_reg rfl ?_
    refine run_op rfl rfl rfl (by simp; exact .mk) ?_
    refine run_end [2] (by simp) (by simp; exact .mk) ?_
    rintro -
    refine W_ret ?_
    refine end_ret (by simp [Try.f80]; exact .mk) (by simp [cl, cls]; exact .mk) ?_ (by simp [D.noSn])
    simp [nrmR, nrmRs, nrmK, kindsOf, kinds, Try.f80, ownR]
  · intro h4
    refine W_skip ?_
    rintro -
    refine W_seq ?_
    have e1 : l.length * 32 ≤ 140737488355328 := by omega
    have e2 : l.length ≤ 140737488355328 := by omega
    have e3 : l.length * 8 ≤ 140737488355328 := by omega
    refine W_reg rfl ?_
    refine run_op rfl rfl rfl (by simp [buildSliceA, inOrder, cls, cl, elemsD, kinds, Value.oneCell']; exact .mk) ?_
    refine run_op rfl rfl rfl (by simp; exact .mk) ?_
    refine run_op rfl rfl rfl (by simp [appendA, srcA, dstA, isNilA, rows, e1, e2, e3]; exact .mk) ?_
    refine run_op rfl rfl rfl (by simp; exact .mk) ?_
    refine run_end [2] (by simp) (by simp; exact .mk) ?_
    rintro -
    refine W_ret ?_
    refine end_ret (by simp [Try.f80]; exact .mk) (by simp [cl, cls]; exact .mk) ?_ (by simp [D.noSn])
    simp [nrmR, nrmRs, nrmK, kindsOf, kinds, Try.f80, ownR]

theorem ct73 (g : Gl) (l : List Root) (hl : l.length ≤ 2^40) : CtAt Try.prog g 73 [rR l] (oR l) := by
  refine ctAt_of_W Try.func73 rfl rfl (Nat.le_of_ble_eq_true rfl) fun B S => ?_
  refine W_seq ?_
  refine W_reg rfl ?_
  refine run_op rfl rfl rfl (by simp; exact .mk) ?_
  refine run_end [0] (by simp) (by simp; exact .mk) ?_
  rintro -
  refine W_seq ?_
  refine W_seq ?_
  refine W_region rfl (WR_cut (hard := []) [0] [1] ?_)
  refine run_op rfl rfl rfl (by simp; exact .mk) ?_
  refine run_end [0, 3] (by simp) (by simp; exact .mk) ?_
  refine WR_nilcmp rfl rfl rfl (.inl rfl) rfl ⟨_, Try.underlying24⟩ (by simp; rfl) ?_
  intro nb hnb
  refine WR_run (hard := []) ?_
  refine run_end [0, 4] (by simp) (by simp; exact .mk) ?_
  rintro -
  refine W_cond rfl ?_ ?_
  · intro h4
    have hl0 : l = [] := List.eq_nil_of_length_eq_zero (hnb (by simpa using h4))
    subst hl0
    refine W_seq ?_
    refine W_reg rfl ?_
    refine run_op rfl rfl rfl (by simp; exact .mk) ?_
    refine run_end [2] (by simp) (by simp; exact .mk) ?_
    rintro -
    refine W_ret ?_
    refine end_ret (by simp [Try.f73]; exact .mk) (by simp [cl, cls]; exact .mk) ?_ (by simp [D.noSn])
    simp [nrmR, nrmRs, nrmK, kindsOf, kinds, Try.f73, ownR]
  · intro h4
    refine W_skip ?_
    rintro -
    refine W_seq ?_
    have e1 : l.length * 32 ≤ 140737488355328 := by omega
    have e2 : l.length ≤ 140737488355328 := by omega
    have e3 : l.length * 8 ≤ 140737488355328 := by omega
    refine W_reg rfl ?_
    refine run_op rfl rfl rfl (by simp [buildSliceA, inOrder, cls, cl, elemsD, kinds, Value.oneCell']; exact .mk) ?_
    refine run_op rfl rfl rfl (by simp; exact .mk) ?_
    refine run_op rfl rfl rfl (by simp [appendA, srcA, dstA, isNilA, rows, e1, e2, e3]; exact .mk) ?_
    refine run_op rfl rfl rfl (by simp; exact .mk) ?_
    refine run_end [2] (by simp) (by simp; exact .mk) ?_
    rintro -
    refine W_ret ?_
    refine end_ret (by simp [Try.f73]; exact .mk) (by simp [cl, cls]; exact .mk) ?_ (by simp [D.noSn])
    simp [nrmR, nrmRs, nrmK, kindsOf, kinds, Try.f73, ownR]

theorem ct75 (g : Gl) (l : List UInt8) (hl : l.length ≤ 2^40) : CtAt Try.prog g 75 [rB l] (oB l) := by
  refine ctAt_of_W Try.func75 rfl rfl (Nat.le_of_ble_eq_true rfl) fun B S => ?_
  refine W_seq ?_
  refine W_reg rfl ?_
  refine run_op rfl rfl rfl (by simp; exact .mk) ?_
  refine run_end [0] (by simp) (by simp; exact .mk) ?_
  rintro -
  refine W_seq ?_
  refine W_seq ?_
  refine W_region rfl (WR_cut (hard := []) [0] [1] ?_)
  refine run_op rfl rfl rfl (by simp; exact .mk) ?_
  refine run_end [0, 3] (by simp) (by simp; exact .mk) ?_
  refine WR_nilcmp rfl rfl rfl (.inl rfl) rfl ⟨_, Try.underlying29⟩ (by simp; rfl) ?_
  intro nb hnb
  refine WR_run (hard := []) ?_
  refine run_end [0, 4] (by simp) (by simp; exact .mk) ?_
  rintro -
  refine W_cond rfl ?_ ?_
  · intro h4
    have hl0 : l = [] := List.eq_nil_of_length_eq_zero (hnb (by simpa using h4))
    subst hl0
    refine W_seq ?_
    refine W_reg rfl ?_
    refine run_op rfl rfl rfl (by simp; exact .mk) ?_
    refine run_end [2] (by simp) (by simp; exact .mk) ?_
    rintro -
    refine W_ret ?_
    refine end_ret (by simp [Try.f75]; exact .mk) (by simp [cl, cls]; exact .mk) ?_ (by simp [D.noSn])
    simp [nrmR, nrmRs, nrmK, kindsOf, kinds, Try.f75, ownR]
  · intro h4
    refine W_skip ?_
    rintro -
    refine W_seq ?_
    have e1 : l.length * 32 ≤ 140737488355328 := by omega
    have e2 : l.length ≤ 140737488355328 := by omega
    have e3 : l.length * 8 ≤ 140737488355328 := by omega
    refine W_reg rfl ?_
    refine run_op rfl rfl rfl (by simp [buildSliceA, inOrder, cls, cl, elemsD, kinds, Value.oneCell']; exact .mk) ?_
    refine run_op rfl rfl rfl (by simp; exact .mk) ?_
    refine run_op rfl rfl rfl (by simp [appendA, srcA, dstA, isNilA, rows, e1, e2, e3]; exact .mk) ?_
    refine run_op rfl rfl rfl (by simp; exact .mk) ?_
    refine run_end [2] (by simp) (by simp; exact .mk) ?_
    rintro -
    refine W_ret ?_
    refine end_ret (by simp [Try.f75]; exact .mk) (by simp [cl, cls]; exact .mk) ?_ (by simp [D.noSn])
    simp [nrmR, nrmRs, nrmK, kindsOf, kinds, Try.f75, ownR]

end Go.Proofs

set_option linter.unusedSimpArgs false
namespace Go.Proofs
open Go.Awp
theorem ct123 (g : Gl) (l : List Root) (k : Nat) (r : Root) (hl : l.length ≤ 2^40) (hk : k < l.length) : CtAt Try.prog g 123 [rR l, vI k, eRoot r] (oR (l.set k r)) := by
  refine ctAt_of_W Try.func123 rfl rfl (Nat.le_of_ble_eq_true rfl) fun B S => ?_
  simp only [eRoot, List.map, argD_agg]
  refine W_seq ?_
  refine W_reg rfl ?_
  refine run_op rfl rfl rfl (by simp [boxA, AV.cells, AV.isCell]; exact .mk) ?_
  refine run_op rfl rfl rfl (by simp; exact .mk) ?_
  refine run_end [0, 1, 5] (by simp) (by simp; exact .mk) ?_
  rintro -
  refine W_seq ?_
  refine W_reg rfl ?_
  refine run_op rfl rfl rfl (by simp; exact .mk) ?_
  refine run_call0 rfl rfl rfl rfl (by simp [calleeA]; exact .mk) (by simp [kindsOf, kinds, expAs, expA]; exact .mk) (ct73 g _ hl) (by simp [D.noRo]) (by simp [impA, impAs]; exact .mk) ?_
  refine run_op rfl rfl rfl (by simp; exact .mk) ?_
  refine run_end [1, 5, 7] (by simp) (by simp; exact .mk) ?_
  rintro -
  refine W_seq ?_
  refine W_reg rfl ?_
  refine run_op rfl rfl rfl (by simp; exact .mk) ?_
  refine run_op rfl rfl rfl (by simp; exact .mk) ?_
  refine run_op rfl rfl rfl (by simp; exact .mk) ?_
  refine run_op rfl rfl rfl (by simp [hk]; exact .mk) ?_
  refine run_op rfl rfl rfl (by simp [storeA, AV.cells, AV.isCell, splice, hk, cls, cl, nrmL, nrm, putC, eRoot]; exact .mk) ?_
  refine run_end [7] (by simp) (by simp; exact .mk) ?_
  rintro -
  refine W_seq ?_
  refine W_reg rfl ?_
  refine run_op rfl rfl rfl (by simp; exact .mk) ?_
  refine run_op rfl rfl rfl (by simp; exact .mk) ?_
  refine run_end [6] (by simp) (by simp; exact .mk) ?_
  rintro -
  refine W_ret ?_
  refine end_ret (by simp [Try.f123]; exact .mk) (by simp [cl, cls]; exact .mk) ?_ (by simp [D.noSn])
  simp [nrmR, nrmRs, nrmK, kindsOf, kinds, Try.f123, ownR, List.map_set, eRoot]

theorem ct122 (g : Gl) (l : List Root) (nm : ByteArray) (hl : RootsOk l) (hn : nm.size ≤ 2^40) : CtAt Try.prog g 122 [rR l, vS nm] (.tup [vI (findS l nm).1, vI (findS l nm).2]) := by
  refine ctAt_of_W Try.func122 rfl rfl (Nat.le_of_ble_eq_true rfl) fun B S => ?_
  refine W_seq ?_
  refine W_reg rfl ?_
  refine run_op rfl rfl rfl (by simp; exact .mk) ?_
  refine run_op rfl rfl rfl (by simp; exact .mk) ?_
  refine run_end [0, 1] (by simp) (by simp; exact .mk) ?_
  rintro -
  refine W_seq ?_
  refine W_block ?_
  refine W_seq ?_
  refine W_reg rfl ?_
  refine run_op rfl rfl rfl (by simp; exact .mk) ?_
  refine run_call0 rfl rfl rfl rfl (by simp [calleeA]; exact .mk) (by simp [kindsOf, kinds, expAs, expA]; exact .mk) (ct44 g _ hl.h1 hl.h2) (by simp [D.noRo]) (by simp [impA, impAs]; exact .mk) ?_
  refine run_op rfl rfl rfl (by simp [unA]; exact .mk) ?_
  refine run_op rfl rfl rfl (by simp; exact .mk) ?_
  refine run_end [0, 1, 6] (by simp) (by simp; exact .mk) ?_
  rintro -
  refine W_cond rfl ?_ ?_
  · intro h6
    have hr : rootsS l = false := by simpa using h6
    refine W_seq ?_
    refine W_reg rfl ?_
    refine run_op rfl rfl rfl (by simp; exact .mk) ?_
    refine run_op rfl rfl rfl (by simp; exact .mk) ?_
    refine run_end [4, 5] (by simp) (by simp; exact .mk) ?_
    rintro -
    refine W_ret ?_
    refine end_ret (by simp [Try.f122]; exact .mk) (by simp [cl, cls]; exact .mk) ?_ (by simp [D.noSn])
    simp [nrmR, nrmRs, nrmK, kindsOf, kinds, Try.f122, findS, *]
  · intro h6
    have hr : rootsS l = true := by simpa using h6
    refine W_seq ?_
    refine W_reg rfl ?_
    refine run_op rfl rfl rfl (by simp; exact .mk) ?_
    refine run_call0 rfl rfl rfl rfl (by simp [calleeA]; exact .mk) (by simp [kindsOf, kinds, expAs, expA]; exact .mk) (ct77 g _ hn) (by simp [D.noRo]) (by simp [impA, impAs]; exact .mk) ?_
    refine run_op rfl rfl rfl (by simp [unA]; exact .mk) ?_
    refine run_op rfl rfl rfl (by simp; exact .mk) ?_
    refine run_end [0, 1, 10] (by simp) (by simp; exact .mk) ?_
    rintro -
    refine W_cond rfl ?_ ?_
    · intro h10
      have hr2 : nameS nm = false := by simpa using h10
      refine W_seq ?_
      refine W_reg rfl ?_
      refine run_op rfl rfl rfl (by simp; exact .mk) ?_
      refine run_op rfl rfl rfl (by simp; exact .mk) ?_
      refine run_end [4, 5] (by simp) (by simp; exact .mk) ?_
      rintro -
      refine W_ret ?_
      refine end_ret (by simp [Try.f122]; exact .mk) (by simp [cl, cls]; exact .mk) ?_ (by simp [D.noSn])
      simp [nrmR, nrmRs, nrmK, kindsOf, kinds, Try.f122, findS, *]
    · intro h10
      have hr2 : nameS nm = true := by simpa using h10
      refine W_skip ?_
      rintro -
      refine W_seq ?_
      refine W_reg rfl ?_
      refine run_op rfl rfl rfl (by simp; exact .mk) ?_
      refine run_op rfl rfl rfl (by simp; exact .mk) ?_
      refine run_call0 rfl rfl rfl rfl (by simp [calleeA]; exact .mk) (by simp [kindsOf, kinds, expAs, expA]; exact .mk) (ct79 g _ _ hl.h1) (by simp [D.noRo]) (by simp [impA, impAs]; exact .mk) ?_
      refine run_op rfl rfl rfl (by simp; exact .mk) ?_
      refine run_op rfl rfl rfl (by simp; exact .mk) ?_
      refine run_end [4, 5] (by simp) (by simp; exact .mk) ?_
      rintro -
      refine W_ret ?_
      refine end_ret (by simp [Try.f122]; exact .mk) (by simp [cl, cls]; exact .mk) ?_ (by simp [D.noSn])
      simp [nrmR, nrmRs, nrmK, kindsOf, kinds, Try.f122, findS, *]

theorem ct111 (g : Gl) (l : List Root) (nm : ByteArray) (hl : RootsOk l) (hn : nm.size ≤ 2^40) : CtAt Try.prog g 111 [rR l, vS nm] (.tup [oR (dropS l nm).1, vI (dropS l nm).2]) := by
  refine ctAt_of_W Try.func111 rfl rfl (Nat.le_of_ble_eq_true rfl) fun B S => ?_
  refine W_seq ?_
  refine W_reg rfl ?_
  refine run_op rfl rfl rfl (by simp; exact .mk) ?_
  refine run_op rfl rfl rfl (by simp; exact .mk) ?_
  refine run_end [0, 1] (by simp) (by simp; exact .mk) ?_
  rintro -
  refine W_seq ?_
  refine W_reg rfl ?_
  refine run_op rfl rfl rfl (by simp; exact .mk) ?_
  refine run_op rfl rfl rfl (by simp; exact .mk) ?_
  refine run_call0 rfl rfl rfl rfl (by simp [calleeA]; exact .mk) (by simp [kindsOf, kinds, expAs, expA]; exact .mk) (ct122 g _ _ hl hn) (by simp [D.noRo]) (by simp [impA, impAs]; exact .mk) ?_
  refine run_op rfl rfl rfl (by simp; exact .mk) ?_
  refine run_op rfl rfl rfl (by simp; exact .mk) ?_
  refine run_op rfl rfl rfl (by simp; exact .mk) ?_
  refine run_op rfl rfl rfl (by simp; exact .mk) ?_
  refine run_op rfl rfl rfl (by simp; exact .mk) ?_
  refine run_end [0, 6, 7] (by simp) (by simp; exact .mk) ?_
  rintro -
  refine W_seq ?_
  refine W_block ?_
  refine W_seq ?_
  refine W_reg rfl ?_
  refine run_op rfl rfl rfl (by simp; exact .mk) ?_
  refine run_op rfl rfl rfl (by simp [eqA, eqFs, isStructTy, eqlNeq, strOp, isBoolTy, isPtrTy, isFnTy]; exact .mk) ?_
  refine run_op rfl rfl rfl (by simp; exact .mk) ?_
  refine run_end [0, 6, 7, 14] (by simp) (by simp; exact .mk) ?_
  rintro -
  refine W_cond rfl ?_ ?_
  · intro h14
    have hr : (findS l nm).2 ≠ 0 := by simpa using h14
    refine W_seq ?_
    refine W_reg rfl ?_
    refine run_op rfl rfl rfl (by simp; exact .mk) ?_
    refine run_op rfl rfl rfl (by simp; exact .mk) ?_
    refine run_op rfl rfl rfl (by simp; exact .mk) ?_
    refine run_end [4, 5] (by simp) (by simp; exact .mk) ?_
    rintro -
    refine W_ret ?_
    refine end_ret (by simp [Try.f111]; exact .mk) (by simp [cl, cls]; exact .mk) ?_ (by simp [D.noSn])
    simp [nrmR, nrmRs, nrmK, kindsOf, kinds, Try.f111, dropS, ownR, List.map_set, *]
  · intro h14
    have hr : (findS l nm).2 = 0 := by simpa using h14
    refine W_seq ?_
    refine W_reg rfl ?_
    refine run_op rfl rfl rfl (by simp; exact .mk) ?_
    refine run_op rfl rfl rfl (by simp [eqA, eqFs, isStructTy, eqlNeq, strOp, isBoolTy, isPtrTy, isFnTy]; exact .mk) ?_
    refine run_op rfl rfl rfl (by simp; exact .mk) ?_
    refine run_end [0, 6, 18] (by simp) (by simp; exact .mk) ?_
    rintro -
    refine W_cond rfl ?_ ?_
    · intro h18
      have hr2 : (findS l nm).1 < 0 := by simpa using h18
      refine W_seq ?_
      refine W_reg rfl ?_
      refine run_op rfl rfl rfl (by simp; exact .mk) ?_
      refine run_op rfl rfl rfl (by simp; exact .mk) ?_
      refine run_end [4, 5] (by simp) (by simp; exact .mk) ?_
      rintro -
      refine W_ret ?_
      refine end_ret (by simp [Try.f111]; exact .mk) (by simp [cl, cls]; exact .mk) ?_ (by simp [D.noSn])
      simp [nrmR, nrmRs, nrmK, kindsOf, kinds, Try.f111, dropS, ownR, List.map_set, *]
    · intro h18
      have hr2 : 0 ≤ (findS l nm).1 := by simpa using h18
      obtain ⟨k, hk, hkl⟩ := findS_nat hl hr hr2
      have hk0 : ¬ ((k : Int) < 0) := by omega
      refine W_skip ?_
      rintro -
      refine W_seq ?_
      refine W_reg rfl ?_
      refine run_op rfl rfl rfl (by simp; exact .mk) ?_
      refine run_op rfl rfl rfl (by simp; exact .mk) ?_
      refine run_op rfl rfl rfl (by simp [buildA, fillA, placesOf, splice, Value.oneCell', AV.cells, AV.isCell]; exact .mk) ?_
      refine run_call0 rfl rfl rfl rfl (by simp [calleeA]; exact .mk) (by simp [kindsOf, kinds, expAs, expA]; exact .mk) (by have := ct123 g l k zRoot hl.h1 hkl; rw [← hk] at this; exact this) (by simp [D.noRo]) (by simp [impA, impAs]; exact .mk) ?_
      refine run_op rfl rfl rfl (by simp; exact .mk) ?_
      refine run_op rfl rfl rfl (by simp; exact .mk) ?_
      refine run_end [4, 5] (by simp) (by simp; exact .mk) ?_
      rintro -
      refine W_ret ?_
      refine end_ret (by simp [Try.f111]; exact .mk) (by simp [cl, cls]; exact .mk) ?_ (by simp [D.noSn])
      simp [nrmR, nrmRs, nrmK, kindsOf, kinds, Try.f111, dropS, ownR, List.map_set, *]

theorem ct110 (g : Gl) (l : List Root) (nm : ByteArray) (hl : RootsOk l) (hn : nm.size ≤ 2^40) : CtAt Try.prog g 110 [rR l, vS nm] (.tup [.agg [vI (getS l nm).1, vI (getS l nm).2.1], vI (getS l nm).2.2]) := by
  refine ctAt_of_W Try.func110 rfl rfl (Nat.le_of_ble_eq_true rfl) fun B S => ?_
  refine W_seq ?_
  refine W_reg rfl ?_
  refine run_op rfl rfl rfl (by simp [allocA, Value.oneCell']; exact .mk) ?_
  refine run_op rfl rfl rfl (by simp; exact .mk) ?_
  refine run_end [0, 1, 4] (by simp) (by simp; exact .mk) ?_
  rintro -
  refine W_seq ?_
  refine W_reg rfl ?_
  refine run_op rfl rfl rfl (by simp; exact .mk) ?_
  refine run_op rfl rfl rfl (by simp; exact .mk) ?_
  refine run_call0 rfl rfl rfl rfl (by simp [calleeA]; exact .mk) (by simp [kindsOf, kinds, expAs, expA]; exact .mk) (ct122 g _ _ hl hn) (by simp [D.noRo]) (by simp [impA, impAs]; exact .mk) ?_
  refine run_op rfl rfl rfl (by simp; exact .mk) ?_
  refine run_op rfl rfl rfl (by simp; exact .mk) ?_
  refine run_op rfl rfl rfl (by simp; exact .mk) ?_
  refine run_op rfl rfl rfl (by simp; exact .mk) ?_
  refine run_op rfl rfl rfl (by simp; exact .mk) ?_
  refine run_end [0, 4, 6, 7] (by simp) (by simp; exact .mk) ?_
  rintro -
  refine W_seq ?_
  refine W_block ?_
  refine W_seq ?_
  refine W_reg rfl ?_
  refine run_op rfl rfl rfl (by simp; exact .mk) ?_
  refine run_op rfl rfl rfl (by simp [eqA, eqFs, isStructTy, eqlNeq, strOp, isBoolTy, isPtrTy, isFnTy]; exact .mk) ?_
  refine run_op rfl rfl rfl (by simp; exact .mk) ?_
  refine run_end [0, 4, 6, 7, 14] (by simp) (by simp; exact .mk) ?_
  rintro -
  refine W_cond rfl ?_ ?_
  · intro h14
    have hr : (findS l nm).2 ≠ 0 := by simpa using h14
    refine W_seq ?_
    refine W_reg rfl ?_
    refine run_op rfl rfl rfl (by simp [buildA, fillA, placesOf, splice, Value.oneCell', AV.cells, AV.isCell]; exact .mk) ?_
    refine run_op rfl rfl rfl (by simp; exact .mk) ?_
    refine run_op rfl rfl rfl (by simp [storeA, AV.cells, AV.isCell, splice]; exact .mk) ?_
    refine run_op rfl rfl rfl (by simp; exact .mk) ?_
    refine run_end [4, 5] (by simp) (by simp; exact .mk) ?_
    rintro -
    refine W_ret ?_
    refine end_ret (by simp [Try.f110]; exact .mk) (by simp [cl, cls]; exact .mk) ?_ (by simp [D.noSn])
    simp [nrmR, nrmRs, nrmK, kindsOf, kinds, Try.f110, getS, *]
  · intro h14
    have hr : (findS l nm).2 = 0 := by simpa using h14
    refine W_seq ?_
    refine W_reg rfl ?_
    refine run_op rfl rfl rfl (by simp; exact .mk) ?_
    refine run_op rfl rfl rfl (by simp [eqA, eqFs, isStructTy, eqlNeq, strOp, isBoolTy, isPtrTy, isFnTy]; exact .mk) ?_
    refine run_op rfl rfl rfl (by simp; exact .mk) ?_
    refine run_end [0, 4, 6, 19] (by simp) (by simp; exact .mk) ?_
    rintro -
    refine W_cond rfl ?_ ?_
    · intro h19
      have hr2 : (findS l nm).1 < 0 := by simpa using h19
      refine W_seq ?_
      refine W_reg rfl ?_
      refine run_op rfl rfl rfl (by simp [buildA, fillA, placesOf, splice, Value.oneCell', AV.cells, AV.isCell]; exact .mk) ?_
      refine run_op rfl rfl rfl (by simp [storeA, AV.cells, AV.isCell, splice]; exact .mk) ?_
      refine run_op rfl rfl rfl (by simp; exact .mk) ?_
      refine run_end [4, 5] (by simp) (by simp; exact .mk) ?_
      rintro -
      refine W_ret ?_
      refine end_ret (by simp [Try.f110]; exact .mk) (by simp [cl, cls]; exact .mk) ?_ (by simp [D.noSn])
      simp [nrmR, nrmRs, nrmK, kindsOf, kinds, Try.f110, getS, *]
    · intro h19
      have hr2 : 0 ≤ (findS l nm).1 := by simpa using h19
      obtain ⟨k, hk, hkl⟩ := findS_nat hl hr hr2
      have hk0 : ¬ ((k : Int) < 0) := by omega
      refine W_skip ?_
      rintro -
      refine W_seq ?_
      refine W_reg rfl ?_
      refine run_op rfl rfl rfl (by simp; exact .mk) ?_
      refine run_op rfl rfl rfl (by simp; exact .mk) ?_
      refine run_op rfl rfl rfl (by simp [eRoot, hk, hkl]; exact .mk) ?_
      refine run_op rfl rfl rfl (by simp; exact .mk) ?_
      refine run_op rfl rfl rfl (by simp [eRoot]; exact .mk) ?_
      refine run_op rfl rfl rfl (by simp [storeA, AV.cells, AV.isCell, splice]; exact .mk) ?_
      refine run_op rfl rfl rfl (by simp; exact .mk) ?_
      refine run_end [4, 5] (by simp) (by simp; exact .mk) ?_
      rintro -
      refine W_ret ?_
      refine end_ret (by simp [Try.f110]; exact .mk) (by simp [cl, cls]; exact .mk) ?_ (by simp [D.noSn])
      simp [nrmR, nrmRs, nrmK, kindsOf, kinds, Try.f110, getS, *]

end Go.Proofs

set_option linter.unusedSimpArgs false
namespace Go.Proofs
open Go.Awp
theorem ct109 (g : Gl) (l : List Root) (nm : ByteArray) (ix gn : Int) (hl : RootsOk l) (hn : nm.size ≤ 2^40) : CtAt Try.prog g 109 [rR l, vS nm, .agg [vI ix, vI gn]] (.tup [oR (setS l nm ix gn).1, vI (setS l nm ix gn).2]) := by
  refine ctAt_of_W Try.func109 rfl rfl (Nat.le_of_ble_eq_true rfl) fun B S => ?_
  refine W_seq ?_
  refine W_reg rfl ?_
  refine run_op rfl rfl rfl (by simp [boxA, AV.cells, AV.isCell]; exact .mk) ?_
  refine run_op rfl rfl rfl (by simp; exact .mk) ?_
  refine run_op rfl rfl rfl (by simp; exact .mk) ?_
  refine run_end [0, 1, 5] (by simp) (by simp; exact .mk) ?_
  rintro -
  refine W_seq ?_
  refine W_reg rfl ?_
  refine run_op rfl rfl rfl (by simp; exact .mk) ?_
  refine run_op rfl rfl rfl (by simp; exact .mk) ?_
  refine run_call0 rfl rfl rfl rfl (by simp [calleeA]; exact .mk) (by simp [kindsOf, kinds, expAs, expA]; exact .mk) (ct122 g _ _ hl hn) (by simp [D.noRo]) (by simp [impA, impAs]; exact .mk) ?_
  refine run_op rfl rfl rfl (by simp; exact .mk) ?_
  refine run_op rfl rfl rfl (by simp; exact .mk) ?_
  refine run_op rfl rfl rfl (by simp; exact .mk) ?_
  refine run_op rfl rfl rfl (by simp; exact .mk) ?_
  refine run_op rfl rfl rfl (by simp; exact .mk) ?_
  refine run_end [0, 1, 5, 8, 9] (by simp) (by simp; exact .mk) ?_
  rintro -
  refine W_seq ?_
  refine W_block ?_
  refine W_seq ?_
  refine W_reg rfl ?_
  refine run_op rfl rfl rfl (by simp; exact .mk) ?_
  refine run_op rfl rfl rfl (by simp [eqA, eqFs, isStructTy, eqlNeq, strOp, isBoolTy, isPtrTy, isFnTy]; exact .mk) ?_
  refine run_op rfl rfl rfl (by simp; exact .mk) ?_
  refine run_end [0, 1, 5, 8, 9, 16] (by simp) (by simp; exact .mk) ?_
  rintro -
  refine W_cond rfl ?_ ?_
  · intro h16
    have hr : (findS l nm).2 ≠ 0 := by simpa using h16
    have hr5 : setS l nm ix gn = ([], (findS l nm).2) := by simp [setS, hr]
    refine W_seq ?_
    refine W_reg rfl ?_
    refine run_op rfl rfl rfl (by simp; exact .mk) ?_
    refine run_op rfl rfl rfl (by simp; exact .mk) ?_
    refine run_op rfl rfl rfl (by simp; exact .mk) ?_
    refine run_end [6, 7] (by simp) (by simp; exact .mk) ?_
    rintro -
    refine W_ret ?_
    refine end_ret (by simp [Try.f109]; exact .mk) (by simp [cl, cls]; exact .mk) ?_ (by simp [D.noSn])
    simp [nrmR, nrmRs, nrmK, kindsOf, kinds, Try.f109, hr5, ownR, List.map_set]
  · intro h16
    have hr : (findS l nm).2 = 0 := by simpa using h16
    refine W_seq ?_
    refine W_reg rfl ?_
    refine run_op rfl rfl rfl (by simp; exact .mk) ?_
    refine run_call0 rfl rfl rfl rfl (by simp [calleeA]; exact .mk) (by simp [kindsOf, kinds, expAs, expA]; exact .mk) (ct78 g _ _) (by simp [D.noRo]) (by simp [impA, impAs]; exact .mk) ?_
    refine run_op rfl rfl rfl (by simp [unA]; exact .mk) ?_
    refine run_op rfl rfl rfl (by simp; exact .mk) ?_
    refine run_end [0, 1, 5, 8, 20] (by simp) (by simp; exact .mk) ?_
    rintro -
    refine W_cond rfl ?_ ?_
    · intro h20
      have hr2 : handleS ix gn = false := by simpa using h20
      have hr5 : setS l nm ix gn = ([], 1) := by simp [setS, hr, hr2]
      refine W_seq ?_
      refine W_reg rfl ?_
      refine run_op rfl rfl rfl (by simp; exact .mk) ?_
      refine run_op rfl rfl rfl (by simp; exact .mk) ?_
      refine run_end [6, 7] (by simp) (by simp; exact .mk) ?_
      rintro -
      refine W_ret ?_
      refine end_ret (by simp [Try.f109]; exact .mk) (by simp [cl, cls]; exact .mk) ?_ (by simp [D.noSn])
      simp [nrmR, nrmRs, nrmK, kindsOf, kinds, Try.f109, hr5, ownR, List.map_set]
    · intro h20
      have hr2 : handleS ix gn = true := by simpa using h20
      refine W_skip ?_
      rintro -
      refine W_seq ?_
      refine W_seq ?_
      refine W_reg rfl ?_
      refine run_op rfl rfl rfl (by simp; exact .mk) ?_
      refine run_op rfl rfl rfl (by simp [eqA, eqFs, isStructTy, eqlNeq, strOp, isBoolTy, isPtrTy, isFnTy]; exact .mk) ?_
      refine run_end [0, 1, 5, 8, 25] (by simp) (by simp; exact .mk) ?_
      rintro -
      refine W_cond rfl ?_ ?_
      · intro h25
        have hr3 : (findS l nm).1 < 0 := by simpa using h25
        refine W_reg rfl ?_
        refine run_op rfl rfl rfl (by simp; exact .mk) ?_
        refine run_call0 rfl rfl rfl rfl (by simp [calleeA]; exact .mk) (by simp [kindsOf, kinds, expAs, expA]; exact .mk) (ct79 g _ _ hl.h1) (by simp [D.noRo]) (by simp [impA, impAs]; exact .mk) ?_
        refine run_op rfl rfl rfl (by simp; exact .mk) ?_
        refine run_end [0, 1, 5, 8] (by simp) (by simp; exact .mk) ?_
        rintro -
        refine W_seq ?_
        refine W_seq ?_
        refine W_reg rfl ?_
        refine run_op rfl rfl rfl (by simp; exact .mk) ?_
        refine run_op rfl rfl rfl (by simp [eqA, eqFs, isStructTy, eqlNeq, strOp, isBoolTy, isPtrTy, isFnTy]; exact .mk) ?_
        refine run_end [0, 1, 5, 8, 29] (by simp) (by simp; exact .mk) ?_
        rintro -
        refine W_cond rfl ?_ ?_
        · intro h29
          have hr4 : slotS l nm < 0 := by unfold slotS; split <;> (simp at h29; omega)
          have hr5 : setS l nm ix gn = ([], 9) := by simp [setS, hr, hr2, hr4]
          refine W_seq ?_
          refine W_reg rfl ?_
          refine run_op rfl rfl rfl (by simp; exact .mk) ?_
          refine run_op rfl rfl rfl (by simp; exact .mk) ?_
          refine run_end [6, 7] (by simp) (by simp; exact .mk) ?_
          rintro -
          refine W_ret ?_
          refine end_ret (by simp [Try.f109]; exact .mk) (by simp [cl, cls]; exact .mk) ?_ (by simp [D.noSn])
          simp [nrmR, nrmRs, nrmK, kindsOf, kinds, Try.f109, hr5, ownR, List.map_set]
        · intro h29
          have hr4 : 0 ≤ slotS l nm := by unfold slotS; split <;> (simp at h29; omega)
          obtain ⟨k, hk, hkl⟩ := slotS_nat hl hr hr4
          have hk0 : ¬ ((k : Int) < 0) := by omega
          have hr5 : setS l nm ix gn = (l.set k ⟨nm, ix, gn⟩, 0) := by simp [setS, hr, hr2, hk, hk0]
          simp only [slotS, hr3, if_true, if_false] at hk
          refine W_skip ?_
          rintro -
          refine W_seq ?_
          refine W_reg rfl ?_
          refine run_op rfl rfl rfl (by simp; exact .mk) ?_
          refine run_op rfl rfl rfl (by simp; exact .mk) ?_
          refine run_op rfl rfl rfl (by simp; exact .mk) ?_
          refine run_op rfl rfl rfl (by simp; exact .mk) ?_
          refine run_op rfl rfl rfl (by simp [buildA, fillA, placesOf, splice, Value.oneCell', AV.cells, AV.isCell]; exact .mk) ?_
          refine run_call0 rfl rfl rfl rfl (by simp [calleeA]; exact .mk) (by simp [kindsOf, kinds, expAs, expA]; exact .mk) (by have := ct123 g l k ⟨nm, ix, gn⟩ hl.h1 hkl; rw [← hk] at this; exact this) (by simp [D.noRo]) (by simp [impA, impAs]; exact .mk) ?_
          refine run_op rfl rfl rfl (by simp; exact .mk) ?_
          refine run_op rfl rfl rfl (by simp; exact .mk) ?_
          refine run_end [6, 7] (by simp) (by simp; exact .mk) ?_
          rintro -
          refine W_ret ?_
          refine end_ret (by simp [Try.f109]; exact .mk) (by simp [cl, cls]; exact .mk) ?_ (by simp [D.noSn])
          simp [nrmR, nrmRs, nrmK, kindsOf, kinds, Try.f109, hr5, ownR, List.map_set]
      · intro h25
        have hr3 : ¬ (findS l nm).1 < 0 := by simpa using h25
        refine W_skip ?_
        rintro -
        refine W_seq ?_
        refine W_seq ?_
        refine W_reg rfl ?_
        refine run_op rfl rfl rfl (by simp; exact .mk) ?_
        refine run_op rfl rfl rfl (by simp [eqA, eqFs, isStructTy, eqlNeq, strOp, isBoolTy, isPtrTy, isFnTy]; exact .mk) ?_
        refine run_end [0, 1, 5, 8, 29] (by simp) (by simp; exact .mk) ?_
        rintro -
        refine W_cond rfl ?_ ?_
        · intro h29
          have hr4 : slotS l nm < 0 := by unfold slotS; split <;> (simp at h29; omega)
          have hr5 : setS l nm ix gn = ([], 9) := by simp [setS, hr, hr2, hr4]
          refine W_seq ?_
          refine W_reg rfl ?_
          refine run_op rfl rfl rfl (by simp; exact .mk) ?_
          refine run_op rfl rfl rfl (by simp; exact .mk) ?_
          refine run_end [6, 7] (by simp) (by simp; exact .mk) ?_
          rintro -
          refine W_ret ?_
          refine end_ret (by simp [Try.f109]; exact .mk) (by simp [cl, cls]; exact .mk) ?_ (by simp [D.noSn])
          simp [nrmR, nrmRs, nrmK, kindsOf, kinds, Try.f109, hr5, ownR, List.map_set]
        · intro h29
          have hr4 : 0 ≤ slotS l nm := by unfold slotS; split <;> (simp at h29; omega)
          obtain ⟨k, hk, hkl⟩ := slotS_nat hl hr hr4
          have hk0 : ¬ ((k : Int) < 0) := by omega
          have hr5 : setS l nm ix gn = (l.set k ⟨nm, ix, gn⟩, 0) := by simp [setS, hr, hr2, hk, hk0]
          simp only [slotS, hr3, if_true, if_false] at hk
          refine W_skip ?_
          rintro -
          refine W_seq ?_
          refine W_reg rfl ?_
          refine run_op rfl rfl rfl (by simp; exact .mk) ?_
          refine run_op rfl rfl rfl (by simp; exact .mk) ?_
          refine run_op rfl rfl rfl (by simp; exact .mk) ?_
          refine run_op rfl rfl rfl (by simp; exact .mk) ?_
          refine run_op rfl rfl rfl (by simp [buildA, fillA, placesOf, splice, Value.oneCell', AV.cells, AV.isCell]; exact .mk) ?_
          refine run_call0 rfl rfl rfl rfl (by simp [calleeA]; exact .mk) (by simp [kindsOf, kinds, expAs, expA]; exact .mk) (by have := ct123 g l k ⟨nm, ix, gn⟩ hl.h1 hkl; rw [← hk] at this; exact this) (by simp [D.noRo]) (by simp [impA, impAs]; exact .mk) ?_
          refine run_op rfl rfl rfl (by simp; exact .mk) ?_
          refine run_op rfl rfl rfl (by simp; exact .mk) ?_
          refine run_end [6, 7] (by simp) (by simp; exact .mk) ?_
          rintro -
          refine W_ret ?_
          refine end_ret (by simp [Try.f109]; exact .mk) (by simp [cl, cls]; exact .mk) ?_ (by simp [D.noSn])
          simp [nrmR, nrmRs, nrmK, kindsOf, kinds, Try.f109, hr5, ownR, List.map_set]

end Go.Proofs

set_option linter.unusedSimpArgs false
set_option linter.unusedVariables false
set_option maxHeartbeats 4000000
namespace Go.Proofs
open Go.Awp
theorem in74 (g : Gl) (o0 o1 o2 : Awp.Obj) (l : List (List UInt8)) (hl : l.length ≤ 2^40) : ∀ B S, CallsA Try.prog g B S ⟨3, true⟩ 74 [.d (rBB l)] [o0, o1, o2]
    (fun x r => x = .hdr 4 0 l.length ∧ r = [o0, o1, o2, .dead, .row 1 (l.map rB)]) := by
  refine callsA_at Try.func74 rfl (Nat.le_of_ble_eq_true rfl) fun B S => ?_
  refine W_seq ?_
  refine W_reg rfl ?_
  refine run_op rfl rfl rfl (by simp; exact .mk) ?_
  refine run_end [0] (by simp) (by simp; exact .mk) ?_
  rintro -
  refine W_seq ?_
  refine W_seq ?_
  refine W_region rfl (WR_cut (hard := []) [0] [1] ?_)
  refine run_op rfl rfl rfl (by simp; exact .mk) ?_
  refine run_end [0, 3] (by simp) (by simp; exact .mk) ?_
  refine WR_nilcmp rfl rfl rfl (.inl rfl) rfl ⟨_, Try.underlying23⟩ (by simp; rfl) ?_
  intro nb hnb
  refine WR_run (hard := []) ?_
  refine run_end [0, 4] (by simp) (by simp; exact .mk) ?_
  rintro -
  refine W_cond rfl ?_ ?_
  · intro h4
    have hl0 : l = [] := List.eq_nil_of_length_eq_zero (hnb (by simpa using h4))
    subst hl0
    refine W_seq ?_
    refine W_reg rfl ?_
    refine run_op rfl rfl rfl (by simp; exact .mk) ?_
    refine run_end [2] (by simp) (by simp; exact .mk) ?_
    refine then_weak Weak.pad ?_
    refine then_weak (s2 := slots [(2, .hdr 4 0 0), (2, .d (.v (.slice none 0 0)))]) (objs2 := [o0, o1, o2, .dead, .row 1 []]) (Weak.nilRow 2 1 rfl) ?_
    rintro -
    refine W_ret ?_
    refine endAt_ret (by simp [Try.f74]; exact .mk) ?_ ?_
    · simp
    · simp
  · intro h4
    refine W_skip ?_
    rintro -
    refine W_seq ?_
    have e1 : l.length * 24 ≤ 140737488355328 := by omega
    have e2 : l.length ≤ 140737488355328 := by omega
    refine W_reg rfl ?_
    refine run_op rfl rfl rfl (by simp [buildSliceA, inOrder, cls, cl, elemsD, kinds, Value.oneCell']; exact .mk) ?_
    refine run_op rfl rfl rfl (by simp; exact .mk) ?_
    refine run_op rfl rfl rfl (by simp [appendA, srcA, dstA, isNilA, rows, e1, e2]; exact .mk) ?_
    refine run_op rfl rfl rfl (by simp; exact .mk) ?_
    refine run_end [2] (by simp) (by simp; exact .mk) ?_
    rintro -
    refine W_ret ?_
    refine endAt_ret (by simp [Try.f74]; exact .mk) ?_ ?_
    · simp
    · simp

end Go.Proofs
