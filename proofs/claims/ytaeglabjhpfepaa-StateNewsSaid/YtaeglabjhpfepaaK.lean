/- Contracts of the functions of the packages names, handle and roots: each answers what its plain function answers, for arguments of at most 2^40 elements. -/
import Derived.Test.YtaeglabjhpfepaaBase
set_option linter.all false
set_option linter.unusedSimpArgs false
namespace Go.Proofs
open Go.Awp
theorem ct105 (g : Gl) (c : Int) : CtAt Try.prog g 105 [.v (.int .i32 c)] (.v (.bool (mayS c))) := by
  refine ctAt_of_W Try.func105 rfl rfl (Nat.le_of_ble_eq_true rfl) fun B S => ?_
  refine W_seq ?_
  refine W_reg rfl ?_
  refine run_op rfl rfl rfl (by simp; exact .mk) ?_
  refine run_end [0] (by simp) (by simp; exact .mk) ?_
  rintro -
  refine W_seq ?_
  refine W_block ?_
  refine W_seq ?_
  refine W_seq ?_
  refine W_reg rfl ?_
  refine run_op rfl rfl rfl (by simp; exact .mk) ?_
  refine run_op rfl rfl rfl (by simp [eqA, eqFs, isStructTy, eqlNeq, strOp, isBoolTy, isPtrTy, isFnTy]; exact .mk) ?_
  refine run_op rfl rfl rfl (by simp; exact .mk) ?_
  refine run_end [0, 3] (by simp) (by simp; exact .mk) ?_
  rintro -
  refine W_cond rfl ?_ ?_
  · intro h3
    refine W_skip ?_
    rintro -
    refine W_cond rfl ?_ ?_
    · intro h3'
      refine W_seq ?_
      refine W_reg rfl ?_
      refine run_op rfl rfl rfl (by simp; exact .mk) ?_
      refine run_end [2] (by simp) (by simp; exact .mk) ?_
      rintro -
      refine W_ret ?_
      refine end_ret (by simp [Try.f105]; exact .mk) (by simp [cl, cls]; exact .mk) ?_ (by simp [D.noSn])
      simp [nrmR, nrmK, mayS] at * <;> omega
    · intro h3'
      refine W_skip ?_
      rintro -
      refine W_seq ?_
      refine W_reg rfl ?_
      refine run_op rfl rfl rfl (by simp; exact .mk) ?_
      refine run_end [2] (by simp) (by simp; exact .mk) ?_
      rintro -
      refine W_ret ?_
      refine end_ret (by simp [Try.f105]; exact .mk) (by simp [cl, cls]; exact .mk) ?_ (by simp [D.noSn])
      simp [nrmR, nrmK, mayS] at * <;> omega
  · intro h3
    refine W_seq ?_
    refine W_reg rfl ?_
    refine run_op rfl rfl rfl (by simp; exact .mk) ?_
    refine run_op rfl rfl rfl (by simp [eqA, eqFs, isStructTy, eqlNeq, strOp, isBoolTy, isPtrTy, isFnTy]; exact .mk) ?_
    refine run_op rfl rfl rfl (by simp; exact .mk) ?_
    refine run_if rfl (by simp; exact .mk) rfl (by simp <;> omega) (fun hb => by simp; exact .mk) ?_
    refine run_if rfl (by simp; exact .mk) rfl (by simp <;> omega) (fun hb => by simp [eqA, eqFs, isStructTy, eqlNeq, strOp, isBoolTy, isPtrTy, isFnTy]; exact .mk) ?_
    refine run_pick rfl (by simp; exact .mk) rfl rfl (by simp) (by simp; exact .mk) (by simp; exact .mk) (by simp; exact .mk) ?_
    refine run_op1 rfl rfl rfl (by simp <;> omega) (by simp; exact .mk) ?_
    refine run_end [0, 3] (by simp <;> omega) (by simp; exact .mk) ?_
    rintro -
    refine W_cond rfl ?_ ?_
    · intro h3'
      refine W_skip ?_
      rintro -
      refine W_cond rfl ?_ ?_
      · intro h3''
        refine W_seq ?_
        refine W_reg rfl ?_
        refine run_op rfl rfl rfl (by simp; exact .mk) ?_
        refine run_end [2] (by simp) (by simp; exact .mk) ?_
        rintro -
        refine W_ret ?_
        refine end_ret (by simp [Try.f105]; exact .mk) (by simp [cl, cls]; exact .mk) ?_ (by simp [D.noSn])
        simp [nrmR, nrmK, mayS] at * <;> omega
      · intro h3''
        refine W_skip ?_
        rintro -
        refine W_seq ?_
        refine W_reg rfl ?_
        refine run_op rfl rfl rfl (by simp; exact .mk) ?_
        refine run_end [2] (by simp) (by simp; exact .mk) ?_
        rintro -
        refine W_ret ?_
        refine end_ret (by simp [Try.f105]; exact .mk) (by simp [cl, cls]; exact .mk) ?_ (by simp [D.noSn])
        simp [nrmR, nrmK, mayS] at * <;> omega
    · intro h3'
      refine W_reg rfl ?_
      refine run_op rfl rfl rfl (by simp; exact .mk) ?_
      refine run_op rfl rfl rfl (by simp [eqA, eqFs, isStructTy, eqlNeq, strOp, isBoolTy, isPtrTy, isFnTy]; exact .mk) ?_
      refine run_op rfl rfl rfl (by simp; exact .mk) ?_
      refine run_end [3] (by simp) (by simp; exact .mk) ?_
      rintro -
      refine W_cond rfl ?_ ?_
      · intro h3''
        refine W_seq ?_
        refine W_reg rfl ?_
        refine run_op rfl rfl rfl (by simp; exact .mk) ?_
        refine run_end [2] (by simp) (by simp; exact .mk) ?_
        rintro -
        refine W_ret ?_
        refine end_ret (by simp [Try.f105]; exact .mk) (by simp [cl, cls]; exact .mk) ?_ (by simp [D.noSn])
        simp [nrmR, nrmK, mayS] at * <;> omega
      · intro h3''
        refine W_skip ?_
        rintro -
        refine W_seq ?_
        refine W_reg rfl ?_
        refine run_op rfl rfl rfl (by simp; exact .mk) ?_
        refine run_end [2] (by simp) (by simp; exact .mk) ?_
        rintro -
        refine W_ret ?_
        refine end_ret (by simp [Try.f105]; exact .mk) (by simp [cl, cls]; exact .mk) ?_ (by simp [D.noSn])
        simp [nrmR, nrmK, mayS] at * <;> omega

theorem ct78 (g : Gl) (a b : Int) : CtAt Try.prog g 78 [.agg [vI a, vI b]] (.v (.bool (handleS a b))) := by
  refine ctAt_of_W Try.func78 rfl rfl (Nat.le_of_ble_eq_true rfl) fun B S => ?_
  refine W_seq ?_
  refine W_reg rfl ?_
  refine run_op rfl rfl rfl (by simp [boxA, AV.cells, AV.isCell, boxA, AV.cells, AV.isCell]; exact .mk) ?_
  refine run_op rfl rfl rfl (by simp [boxA, AV.cells, AV.isCell]; exact .mk) ?_
  refine run_end [1] (by simp) (by simp; exact .mk) ?_
  rintro -
  refine W_seq ?_
  refine W_reg rfl ?_
  refine run_op rfl rfl rfl (by simp [boxA, AV.cells, AV.isCell]; exact .mk) ?_
  refine run_op rfl rfl rfl (by simp [boxA, AV.cells, AV.isCell]; exact .mk) ?_
  refine run_op rfl rfl rfl (by simp [boxA, AV.cells, AV.isCell, eqA, eqFs, isStructTy, eqlNeq, strOp, isBoolTy, isPtrTy, isFnTy]; exact .mk) ?_
  refine run_op rfl rfl rfl (by simp [boxA, AV.cells, AV.isCell]; exact .mk) ?_
  refine run_if rfl (by simp [boxA, AV.cells, AV.isCell]; exact .mk) rfl (by simp <;> omega) (fun hb => by simp [boxA, AV.cells, AV.isCell]; exact .mk) ?_
  refine run_if rfl (by simp [boxA, AV.cells, AV.isCell]; exact .mk) rfl (by simp <;> omega) (fun hb => by simp [boxA, AV.cells, AV.isCell]; exact .mk) ?_
  refine run_if rfl (by simp [boxA, AV.cells, AV.isCell]; exact .mk) rfl (by simp <;> omega) (fun hb => by simp [boxA, AV.cells, AV.isCell, eqA, eqFs, isStructTy, eqlNeq, strOp, isBoolTy, isPtrTy, isFnTy]; exact .mk) ?_
  refine run_pick rfl (by simp [boxA, AV.cells, AV.isCell]; exact .mk) rfl rfl (by simp) (by simp [boxA, AV.cells, AV.isCell]; exact .mk) (by simp [boxA, AV.cells, AV.isCell]; exact .mk) (by simp; exact .mk) ?_
  refine run_op1 rfl rfl rfl (by simp <;> omega) (by simp [boxA, AV.cells, AV.isCell]; exact .mk) ?_
  refine run_if rfl (by simp [boxA, AV.cells, AV.isCell]; exact .mk) rfl (by simp <;> omega) (fun hb => by simp [boxA, AV.cells, AV.isCell]; exact .mk) ?_
  refine run_if rfl (by simp [boxA, AV.cells, AV.isCell]; exact .mk) rfl (by simp <;> omega) (fun hb => by simp [boxA, AV.cells, AV.isCell]; exact .mk) ?_
  refine run_if rfl (by simp [boxA, AV.cells, AV.isCell]; exact .mk) rfl (by simp <;> omega) (fun hb => by simp [boxA, AV.cells, AV.isCell, eqA, eqFs, isStructTy, eqlNeq, strOp, isBoolTy, isPtrTy, isFnTy]; exact .mk) ?_
  refine run_pick rfl (by simp [boxA, AV.cells, AV.isCell]; exact .mk) rfl rfl (by simp) (by simp [boxA, AV.cells, AV.isCell]; exact .mk) (by simp [boxA, AV.cells, AV.isCell]; exact .mk) (by simp; exact .mk) ?_
  refine run_op1 rfl rfl rfl (by simp <;> omega) (by simp [boxA, AV.cells, AV.isCell]; exact .mk) ?_
  refine run_if rfl (by simp [boxA, AV.cells, AV.isCell]; exact .mk) rfl (by simp <;> omega) (fun hb => by simp [boxA, AV.cells, AV.isCell]; exact .mk) ?_
  refine run_if rfl (by simp [boxA, AV.cells, AV.isCell]; exact .mk) rfl (by simp <;> omega) (fun hb => by simp [boxA, AV.cells, AV.isCell]; exact .mk) ?_
  refine run_if rfl (by simp [boxA, AV.cells, AV.isCell]; exact .mk) rfl (by simp <;> omega) (fun hb => by simp [boxA, AV.cells, AV.isCell, eqA, eqFs, isStructTy, eqlNeq, strOp, isBoolTy, isPtrTy, isFnTy]; exact .mk) ?_
  refine run_pick rfl (by simp [boxA, AV.cells, AV.isCell]; exact .mk) rfl rfl (by simp) (by simp [boxA, AV.cells, AV.isCell]; exact .mk) (by simp [boxA, AV.cells, AV.isCell]; exact .mk) (by simp; exact .mk) ?_
  refine run_op1 rfl rfl rfl (by simp <;> omega) (by simp [boxA, AV.cells, AV.isCell]; exact .mk) ?_
  refine run_end [2] (by simp <;> omega) (by simp; exact .mk) ?_
  rintro -
  refine W_ret ?_
  refine end_ret (by simp [boxA, AV.cells, AV.isCell, Try.f78]; exact .mk) (by simp [boxA, AV.cells, AV.isCell, cl, cls]; exact .mk) ?_ (by simp [boxA, AV.cells, AV.isCell, D.noSn])
  simp [nrmR, nrmK, handleS]

theorem ct77 (g : Gl) (s : ByteArray) (hs : s.size ≤ 2^40) : CtAt Try.prog g 77 [vS s] (.v (.bool (nameS s))) := by
  refine ctAt_of_W Try.func77 rfl rfl (Nat.le_of_ble_eq_true rfl) fun B S => ?_
  refine W_seq ?_
  refine W_reg rfl ?_
  refine run_op rfl rfl rfl (by simp; exact .mk) ?_
  refine run_end [0] (by simp) (by simp; exact .mk) ?_
  rintro -
  refine W_seq ?_
  refine W_seq ?_
  refine W_reg rfl ?_
  refine run_op rfl rfl rfl (by simp; exact .mk) ?_
  refine run_op rfl rfl rfl (by simp; exact .mk) ?_
  refine run_end [0, 6] (by simp) (by simp; exact .mk) ?_
  rintro -
  refine W_block ?_
  refine W_rounds (fun m σ o => ∃ pos : Nat, m = s.size + 1 - pos ∧ runesOk s pos = runesOk s 0 ∧ σ = slots [(0, .d (vS s)), (6, .ptr 0 0 0)] ∧ o = [.it s pos]) (s.size + 1) .refl ⟨0, by simp, rfl, rfl, rfl⟩ ?_
  rintro m σ o ⟨pos, rfl, hinv, rfl, rfl⟩ _
  refine W_seq ?_
  by_cases hp : pos < s.size
  · skip
    refine W_reg rfl ?_
    refine run_op rfl rfl rfl (by simp [hp]; exact .mk) ?_
    refine run_op rfl rfl rfl (by simp; exact .mk) ?_
    refine run_end [0, 6, 7, 8] (by simp) (by simp; exact .mk) ?_
    rintro -
    refine W_seq ?_
    refine W_cond rfl ?_ ?_
    · intro h8
      refine W_skip ?_
      rintro -
      refine W_block ?_
      refine W_seq ?_
      refine W_reg rfl ?_
      refine run_op rfl rfl rfl (by simp; exact .mk) ?_
      refine run_op rfl rfl rfl (by simp; exact .mk) ?_
      refine run_end [0, 4, 6] (by simp) (by simp; exact .mk) ?_
      rintro -
      refine W_seq ?_
      refine W_reg rfl ?_
      refine run_op rfl rfl rfl (by simp; exact .mk) ?_
      refine run_call0 rfl rfl rfl rfl (by simp [calleeA]; exact .mk) (by simp [kindsOf, kinds, expAs, expA]; exact .mk) (ct105 g _) (by simp [D.noRo]) (by simp [impA, impAs]; exact .mk) ?_
      refine run_op rfl rfl rfl (by simp [unA]; exact .mk) ?_
      refine run_end [0, 6, 12] (by simp) (by simp; exact .mk) ?_
      rintro -
      refine W_cond rfl ?_ ?_
      · intro h12
        have hr : runesOk s 0 = false := by rw [← hinv, runesOk]; simp at h12; simp [hp, h12]
        refine W_seq ?_
        refine W_reg rfl ?_
        refine run_op rfl rfl rfl (by simp; exact .mk) ?_
        refine run_end [2] (by simp) (by simp; exact .mk) ?_
        rintro -
        refine W_ret ?_
        refine end_ret (by simp [Try.f77]; exact .mk) (by simp [cl, cls]; exact .mk) ?_ (by simp [D.noSn])
        simp [nrmR, nrmK, nameS, hr]
      · intro h12
        refine W_skip ?_
        refine rounds_kill [0, 6] ?_
        refine rounds_next (m' := s.size + 1 - (pos + (Utf8.decode s pos).2)) (by have := decode_pos s pos; omega) ⟨pos + (Utf8.decode s pos).2, rfl, ?_, rfl, rfl⟩
        rw [← hinv]; conv => rhs; rw [runesOk]
        simp at h12; simp [hp, h12]
    · intro h8
      simp at h8
  · skip
    refine W_reg rfl ?_
    refine run_op rfl rfl rfl (by simp [hp]; exact .mk) ?_
    refine run_op rfl rfl rfl (by simp; exact .mk) ?_
    refine run_end [0, 6, 7, 8] (by simp) (by simp; exact .mk) ?_
    rintro -
    refine W_seq ?_
    refine W_cond rfl ?_ ?_
    · intro h8
      simp at h8
    · intro h8
      refine W_exit ?_
      rintro -
      refine W_seq ?_
      have hr : runesOk s 0 = true := by rw [← hinv, runesOk]; simp [hp]
      refine W_reg rfl ?_
      refine run_op rfl rfl rfl (by simp; exact .mk) ?_
      refine run_op rfl rfl rfl (by simp [eqA, eqFs, isStructTy, eqlNeq, strOp, isBoolTy, isPtrTy, isFnTy]; exact .mk) ?_
      refine run_op rfl rfl rfl (by simp; exact .mk) ?_
      refine run_if rfl (by simp; exact .mk) rfl (by simp <;> omega) (fun hb => by simp; exact .mk) ?_
      refine run_if rfl (by simp; exact .mk) rfl (by simp <;> omega) (fun hb => by simp; exact .mk) ?_
      refine run_if rfl (by simp; exact .mk) rfl (by simp <;> omega) (fun hb => by simp [eqA, eqFs, isStructTy, eqlNeq, strOp, isBoolTy, isPtrTy, isFnTy]; exact .mk) ?_
      refine run_pick rfl (by simp; exact .mk) rfl rfl (by simp) (by simp; exact .mk) (by simp; exact .mk) (by simp; exact .mk) ?_
      refine run_op1 rfl rfl rfl (by simp <;> omega) (by simp; exact .mk) ?_
      refine run_end [2] (by simp <;> omega) (by simp; exact .mk) ?_
      rintro -
      refine W_ret ?_
      refine end_ret (by simp [Try.f77]; exact .mk) (by simp [cl, cls]; exact .mk) ?_ (by simp [D.noSn])
      simp [nrmR, nrmK, nameS, hr]

end Go.Proofs

set_option linter.unusedSimpArgs false
namespace Go.Proofs
open Go.Awp
theorem in107 (g : Gl) (nm : ByteArray) (r : Root) (a b c : D) : ∀ B S, CallsA Try.prog g B S ⟨2, true⟩ 107 [.agg [.d (vS r.name), .d (vI r.ix), .d (vI r.gen)], .ptr 0 0 0] [.var 9 [.d (vS nm)], .var 82 [.d a, .d b, .d c]]
    (fun q o => q = .d (.v (.bool (r.name.toList == nm.toList))) ∧ o = [.var 9 [.d (vS nm)], .var 82 [.d a, .d b, .d c]]) := by
  refine callsA_at Try.func107 rfl (Nat.le_of_ble_eq_true rfl) fun B S => ?_
  refine W_seq ?_
  refine W_reg rfl ?_
  refine run_op rfl rfl rfl (by simp [boxA, AV.cells, AV.isCell, strOp, boxA, AV.cells, AV.isCell]; exact .mk) ?_
  refine run_op rfl rfl rfl (by simp [boxA, AV.cells, AV.isCell, strOp]; exact .mk) ?_
  refine run_end [1, 2] (by simp) (by simp; exact .mk) ?_
  rintro -
  refine W_seq ?_
  refine W_reg rfl ?_
  refine run_op rfl rfl rfl (by simp [boxA, AV.cells, AV.isCell, strOp]; exact .mk) ?_
  refine run_op rfl rfl rfl (by simp [boxA, AV.cells, AV.isCell, strOp]; exact .mk) ?_
  refine run_op rfl rfl rfl (by simp [boxA, AV.cells, AV.isCell, strOp]; exact .mk) ?_
  refine run_op rfl rfl rfl (by simp [boxA, AV.cells, AV.isCell, strOp, eqA, eqFs, isStructTy, eqlNeq, strOp, isBoolTy, isPtrTy, isFnTy]; exact .mk) ?_
  refine run_op rfl rfl rfl (by simp [boxA, AV.cells, AV.isCell, strOp]; exact .mk) ?_
  refine run_end [3] (by simp) (by simp; exact .mk) ?_
  rintro -
  refine W_ret ?_
  refine endAt_drop 2 (by simp [boxA, AV.cells, AV.isCell, strOp, Try.f107]; exact .mk) ?_ ?_ (by simp) (by simp [boxA, AV.cells, AV.isCell, strOp]) (by simp [boxA, AV.cells, AV.isCell, strOp])
  · rfl
  · rfl

theorem in106 (g : Gl) (l : List Root) (nm : ByteArray) (hl : l.length ≤ 2^40) : ∀ B S, CallsA Try.prog g B S ⟨1, true⟩ 106 [.d (rR l), .fn (.func 107) [] [.ptr 0 0 0]] [.var 9 [.d (vS nm)]]
    (fun a o => a = .d (vI (firstS l nm)) ∧ o = [.var 9 [.d (vS nm)]]) := by
  refine callsA_at Try.func106 rfl (Nat.le_of_ble_eq_true rfl) fun B S => ?_
  refine W_seq ?_
  refine W_reg rfl ?_
  refine run_op rfl rfl rfl (by simp; exact .mk) ?_
  refine run_end [0, 1] (by simp) (by simp; exact .mk) ?_
  rintro -
  refine W_seq ?_
  refine W_seq ?_
  refine W_reg rfl ?_
  refine run_op rfl rfl rfl (by simp; exact .mk) ?_
  refine run_op rfl rfl rfl (by simp; exact .mk) ?_
  refine run_op rfl rfl rfl (by simp; exact .mk) ?_
  refine run_end [1, 7, 8, 9] (by simp) (by simp; exact .mk) ?_
  rintro -
  refine W_block ?_
  refine W_rounds (fun m σ o => ∃ i : Nat, m = l.length - i ∧ i ≤ l.length ∧ (∀ j, j < i → ((nth l j).name.toList == nm.toList) = false) ∧ σ = slots [(1, .fn (.func 107) [] [.ptr 0 0 0]), (7, .d (rR l)), (8, .d (vI l.length)), (9, .d (vI i))] ∧ o = [.var 9 [.d (vS nm)]]) l.length .refl ⟨0, by simp, by simp, by simp, rfl, rfl⟩ ?_
  rintro m σ o ⟨i, rfl, hi, hinv, rfl, rfl⟩ _
  refine W_seq ?_
  refine W_reg rfl ?_
  refine run_op rfl rfl rfl (by simp [eqA, eqFs, isStructTy, eqlNeq, strOp, isBoolTy, isPtrTy, isFnTy]; exact .mk) ?_
  refine run_end [1, 7, 8, 9, 10] (by simp) (by simp; exact .mk) ?_
  rintro -
  refine W_seq ?_
  refine W_cond rfl ?_ ?_
  · intro h10
    have hi2 : i < l.length := by simpa using h10
    refine W_skip ?_
    rintro -
    refine W_seq ?_
    refine W_block ?_
    refine W_seq ?_
    refine W_reg rfl ?_
    refine run_op rfl rfl rfl (by simp; exact .mk) ?_
    refine run_op rfl rfl rfl (by simp [eRoot, *]; exact .mk) ?_
    refine run_op rfl rfl rfl (by simp [eRoot]; exact .mk) ?_
    refine run_op rfl rfl rfl (by simp [allocA, Value.oneCell']; exact .mk) ?_
    refine run_op rfl rfl rfl (by simp; exact .mk) ?_
    refine run_op rfl rfl rfl (by simp [storeA, AV.cells, AV.isCell, splice]; exact .mk) ?_
    refine run_end [1, 5, 6, 7, 8, 9] (by simp) (by simp; exact .mk) ?_
    rintro -
    refine W_seq ?_
    refine W_reg rfl ?_
    refine run_op rfl rfl rfl (by simp; exact .mk) ?_
    refine run_op rfl rfl rfl (by simp [eRoot]; exact .mk) ?_
    refine run_inl0 rfl rfl rfl rfl (by simp [calleeA]; exact .mk) ⟨_, Try.func107, rfl, rfl⟩ (in107 g nm (nth l i) _ _ _) (.inr ⟨[], rfl⟩) ?_
    refine run_end [1, 5, 7, 8, 9, 16] (by simp) (by simp; exact .mk) ?_
    rintro -
    refine W_cond rfl ?_ ?_
    · intro h16
      have hr : firstS l nm = i := firstS_at hi2 hinv h16
      refine W_seq ?_
      refine W_reg rfl ?_
      refine run_op rfl rfl rfl (by simp; exact .mk) ?_
      refine run_op rfl rfl rfl (by simp; exact .mk) ?_
      refine run_end [4] (by simp) (by simp; exact .mk) ?_
      rintro -
      refine W_ret ?_
      refine endAt_drop 1 (by simp [Try.f106]; exact .mk) ?_ ?_ (by simp) (by simp) (by simp)
      · rw [hr]; rfl
      · rfl
    · intro h16
      refine W_skip ?_
      rintro -
      refine W_reg rfl ?_
      refine run_op rfl rfl rfl (by simp [eqA, eqFs, isStructTy, eqlNeq, strOp, isBoolTy, isPtrTy, isFnTy]; exact .mk) ?_
      refine run_op rfl rfl rfl (by simp; exact .mk) ?_
      refine run_end [1, 7, 8, 9] (by simp) (by simp; exact .mk) ?_
      refine rounds_drop 1 [1, 7, 8, 9] (by simp) (by simp) (by simp) ?_
      refine rounds_next (m' := l.length - (i+1)) (by omega) ⟨i+1, rfl, by omega, ?_, ?_, rfl⟩
      · intro j hj
        rcases Nat.lt_succ_iff_lt_or_eq.1 hj with hj | rfl
        · exact hinv j hj
        · exact h16
      · rw [wrap64 (by omega) (by omega)]; rfl
  · intro h10
    have hr : firstS l nm = -1 := firstS_none (fun j hj => hinv j (by simp at h10; omega))
    refine W_exit ?_
    rintro -
    refine W_seq ?_
    refine W_reg rfl ?_
    refine run_op rfl rfl rfl (by simp; exact .mk) ?_
    refine run_end [4] (by simp) (by simp; exact .mk) ?_
    rintro -
    refine W_ret ?_
    refine endAt_drop 1 (by simp [Try.f106]; exact .mk) ?_ ?_ (by simp) (by simp) (by simp)
    · rw [hr]; rfl
    · rfl

theorem ct79 (g : Gl) (l : List Root) (nm : ByteArray) (hl : l.length ≤ 2^40) : CtAt Try.prog g 79 [rR l, vS nm] (vI (firstS l nm)) := by
  refine ctAt_of_W Try.func79 rfl rfl (Nat.le_of_ble_eq_true rfl) fun B S => ?_
  refine W_seq ?_
  refine W_reg rfl ?_
  refine run_op rfl rfl rfl (by simp [boxA, AV.cells, AV.isCell, boxA, AV.cells, AV.isCell]; exact .mk) ?_
  refine run_op rfl rfl rfl (by simp [boxA, AV.cells, AV.isCell]; exact .mk) ?_
  refine run_end [0, 3] (by simp) (by simp; exact .mk) ?_
  rintro -
  refine W_seq ?_
  refine W_reg rfl ?_
  refine run_op rfl rfl rfl (by simp [boxA, AV.cells, AV.isCell]; exact .mk) ?_
  refine run_op rfl rfl rfl (by simp [boxA, AV.cells, AV.isCell]; exact .mk) ?_
  refine run_inl0 rfl rfl rfl rfl (by simp [boxA, AV.cells, AV.isCell, calleeA]; exact .mk) ⟨_, Try.func106, rfl, rfl⟩ (in106 g l nm hl) (.inr ⟨[], rfl⟩) ?_
  refine run_op rfl rfl rfl (by simp [boxA, AV.cells, AV.isCell]; exact .mk) ?_
  refine run_end [4] (by simp) (by simp; exact .mk) ?_
  rintro -
  refine W_ret ?_
  refine end_ret (by simp [boxA, AV.cells, AV.isCell, Try.f79]; exact .mk) (by simp [boxA, AV.cells, AV.isCell, cl, cls]; exact .mk) ?_ (by simp [boxA, AV.cells, AV.isCell, D.noSn])
  simp [nrmR, nrmK]

theorem ct68 (g : Gl) (n : Int) : CtAt Try.prog g 68 [vI n] (.tup [oR (if newOk n then List.replicate n.toNat zRoot else []), vI (if newOk n then 0 else 1)]) := by
  refine ctAt_of_W Try.func68 rfl rfl (Nat.le_of_ble_eq_true rfl) fun B S => ?_
  refine W_seq ?_
  refine W_reg rfl ?_
  refine run_op rfl rfl rfl (by simp; exact .mk) ?_
  refine run_op rfl rfl rfl (by simp; exact .mk) ?_
  refine run_end [0] (by simp) (by simp; exact .mk) ?_
  rintro -
  refine W_seq ?_
  refine W_seq ?_
  refine W_reg rfl ?_
  refine run_op rfl rfl rfl (by simp; exact .mk) ?_
  refine run_op rfl rfl rfl (by simp [eqA, eqFs, isStructTy, eqlNeq, strOp, isBoolTy, isPtrTy, isFnTy]; exact .mk) ?_
  refine run_op rfl rfl rfl (by simp; exact .mk) ?_
  refine run_if rfl (by simp; exact .mk) rfl (by simp <;> omega) (fun hb => by simp; exact .mk) ?_
  refine run_if rfl (by simp; exact .mk) rfl (by simp <;> omega) (fun hb => by simp [eqA, eqFs, isStructTy, eqlNeq, strOp, isBoolTy, isPtrTy, isFnTy]; exact .mk) ?_
  refine run_pick rfl (by simp; exact .mk) rfl rfl (by simp) (by simp; exact .mk) (by simp; exact .mk) (by simp; exact .mk) ?_
  refine run_op1 rfl rfl rfl (by simp <;> omega) (by simp; exact .mk) ?_
  refine run_if rfl (by simp; exact .mk) rfl (by simp <;> omega) (fun hb => by simp; exact .mk) ?_
  refine run_if rfl (by simp; exact .mk) rfl (by simp <;> omega) (fun hb => by simp [eqA, eqFs, isStructTy, eqlNeq, strOp, isBoolTy, isPtrTy, isFnTy]; exact .mk) ?_
  refine run_if rfl (by simp; exact .mk) rfl (by simp <;> omega) (fun hb => by simp [eqA, eqFs, isStructTy, eqlNeq, strOp, isBoolTy, isPtrTy, isFnTy]; exact .mk) ?_
  refine run_pick rfl (by simp; exact .mk) rfl rfl (by simp) (by simp; exact .mk) (by simp; exact .mk) (by simp; exact .mk) ?_
  refine run_end [0, 14] (by simp <;> omega) (by simp; exact .mk) ?_
  rintro -
  refine W_cond rfl ?_ ?_
  · intro h14
    have hr : newOk n = false := by simp at h14; simp [newOk]; omega
    refine W_seq ?_
    refine W_reg rfl ?_
    refine run_op rfl rfl rfl (by simp; exact .mk) ?_
    refine run_op rfl rfl rfl (by simp; exact .mk) ?_
    refine run_end [2, 3] (by simp) (by simp; exact .mk) ?_
    rintro -
    refine W_ret ?_
    refine end_ret (by simp [Try.f68]; exact .mk) (by simp [cl, cls]; exact .mk) ?_ (by simp [D.noSn])
    simp [nrmR, nrmRs, nrmK, kindsOf, kinds, Try.f68, hr, ownR, eRoot, zRoot]
  · intro h14
    have hr : newOk n = true := by simp at h14; simp [newOk]; omega
    have hn : 2 ≤ n ∧ n ≤ 8 := by simp at h14; omega
    refine W_skip ?_
    rintro -
    refine W_seq ?_
    have e1 : 0 ≤ n := by omega
    have e2 : 32 * n ≤ 140737488355328 := by omega
    have e3 : n ≤ 140737488355328 := by omega
    refine W_reg rfl ?_
    refine run_op rfl rfl rfl (by simp; exact .mk) ?_
    refine run_op rfl rfl rfl (by simp [makeSliceA, elemD, maxLen, kinds, kDs, kD, Value.oneCell', makeSliceA, elemD, maxLen, kinds, kDs, kD, Value.oneCell', e1, e2, e3]; exact .mk) ?_
    refine run_op rfl rfl rfl (by simp; exact .mk) ?_
    refine run_op rfl rfl rfl (by simp; exact .mk) ?_
    refine run_end [2, 3] (by simp) (by simp; exact .mk) ?_
    rintro -
    refine W_ret ?_
    refine end_ret (by simp [Try.f68]; exact .mk) (by simp [cl, cls]; exact .mk) ?_ (by simp [D.noSn])
    simp [nrmR, nrmRs, nrmK, kindsOf, kinds, Try.f68, hr, ownR, eRoot, zRoot]

end Go.Proofs

set_option linter.unusedSimpArgs false
namespace Go.Proofs
open Go.Awp
theorem ct44 (g : Gl) (l : List Root) (hl : l.length ≤ 2^40) (hn : ∀ i, i < l.length → (nth l i).name.size ≤ 2^40) : CtAt Try.prog g 44 [rR l] (.v (.bool (rootsS l))) := by
  refine ctAt_of_W Try.func44 rfl rfl (Nat.le_of_ble_eq_true rfl) fun B S => ?_
  refine W_seq ?_
  refine W_reg rfl ?_
  refine run_op rfl rfl rfl (by simp; exact .mk) ?_
  refine run_end [0] (by simp) (by simp; exact .mk) ?_
  rintro -
  refine W_seq ?_
  refine W_seq ?_
  refine W_reg rfl ?_
  refine run_op rfl rfl rfl (by simp; exact .mk) ?_
  refine run_op rfl rfl rfl (by simp; exact .mk) ?_
  refine run_op rfl rfl rfl (by simp; exact .mk) ?_
  refine run_end [0, 7, 8, 9] (by simp) (by simp; exact .mk) ?_
  rintro -
  refine W_block ?_
  refine W_rounds (fun m σ o => ∃ i : Nat, m = l.length - i ∧ i ≤ l.length ∧ (∀ j, j < i → rootOk l j = true) ∧ σ = slots [(0, .d (rR l)), (7, .d (rR l)), (8, .d (vI l.length)), (9, .d (vI i))] ∧ o = []) l.length .refl ⟨0, by simp, by simp, by simp, rfl, rfl⟩ ?_
  rintro m σ o ⟨i, rfl, hi, hinv, rfl, rfl⟩ _
  refine W_seq ?_
  refine W_reg rfl ?_
  refine run_op rfl rfl rfl (by simp [eqA, eqFs, isStructTy, eqlNeq, strOp, isBoolTy, isPtrTy, isFnTy]; exact .mk) ?_
  refine run_end [0, 7, 8, 9, 10] (by simp) (by simp; exact .mk) ?_
  rintro -
  refine W_seq ?_
  refine W_cond rfl ?_ ?_
  · intro h10
    have hi2 : i < l.length := by simpa using h10
    refine W_skip ?_
    rintro -
    refine W_seq ?_
    refine W_block ?_
    refine W_seq ?_
    refine W_reg rfl ?_
    refine run_op rfl rfl rfl (by simp; exact .mk) ?_
    refine run_op rfl rfl rfl (by simp [eRoot, *]; exact .mk) ?_
    refine run_op rfl rfl rfl (by simp [eRoot]; exact .mk) ?_
    refine run_op rfl rfl rfl (by simp [allocA, Value.oneCell']; exact .mk) ?_
    refine run_op rfl rfl rfl (by simp; exact .mk) ?_
    refine run_op rfl rfl rfl (by simp [storeA, AV.cells, AV.isCell, splice]; exact .mk) ?_
    refine run_end [0, 3, 4, 7, 8, 9] (by simp) (by simp; exact .mk) ?_
    rintro -
    refine W_block ?_
    refine W_seq ?_
    refine W_reg rfl ?_
    refine run_op rfl rfl rfl (by simp [eRoot]; exact .mk) ?_
    refine run_op rfl rfl rfl (by simp [buildA, fillA, placesOf, splice, Value.oneCell', AV.cells, AV.isCell]; exact .mk) ?_
    refine run_op rfl rfl rfl (by simp [eqA, eqFs, isStructTy, eqlNeq, strOp, isBoolTy, isPtrTy, isFnTy]; exact .mk) ?_
    refine run_op rfl rfl rfl (by simp; exact .mk) ?_
    refine run_end [0, 3, 4, 7, 8, 9, 14] (by simp) (by simp; exact .mk) ?_
    rintro -
    refine W_cond rfl ?_ ?_
    · intro h14
      refine W_skip ?_
      rintro -
      refine W_reg rfl ?_
      refine run_op rfl rfl rfl (by simp [eqA, eqFs, isStructTy, eqlNeq, strOp, isBoolTy, isPtrTy, isFnTy]; exact .mk) ?_
      refine run_op rfl rfl rfl (by simp; exact .mk) ?_
      refine run_end [0, 7, 8, 9] (by simp) (by simp; exact .mk) ?_
      refine rounds_drop 0 [0, 7, 8, 9] (by simp) (by simp) (by simp) ?_
      refine rounds_next (m' := l.length - (i+1)) (by omega) ⟨i+1, rfl, by omega, ?_, ?_, rfl⟩
      · intro j hj
        rcases Nat.lt_succ_iff_lt_or_eq.1 hj with hj | rfl
        · exact hinv j hj
        · simp [rootOk, isZero] at *; simp_all
      · rw [wrap64 (by omega) (by omega)]; rfl
    · intro h14
      refine W_seq ?_
      refine W_seq ?_
      refine W_reg rfl ?_
      refine run_op rfl rfl rfl (by simp; exact .mk) ?_
      refine run_op rfl rfl rfl (by simp [eRoot]; exact .mk) ?_
      refine run_call0 rfl rfl rfl rfl (by simp [calleeA]; exact .mk) (by simp [kindsOf, kinds, expAs, expA]; exact .mk) (ct77 g _ (hn i hi2)) (by simp [D.noRo]) (by simp [impA, impAs]; exact .mk) ?_
      refine run_op rfl rfl rfl (by simp [unA]; exact .mk) ?_
      refine run_op rfl rfl rfl (by simp; exact .mk) ?_
      refine run_end [0, 3, 4, 7, 8, 9, 18] (by simp) (by simp; exact .mk) ?_
      rintro -
      refine W_cond rfl ?_ ?_
      · intro h18
        refine W_skip ?_
        rintro -
        refine W_cond rfl ?_ ?_
        · intro h18'
          refine W_seq ?_
          have hr : rootsS l = false := roots_bad hi2 (by simp [rootOk, isZero] at *; simp_all)
          refine W_reg rfl ?_
          refine run_op rfl rfl rfl (by simp; exact .mk) ?_
          refine run_end [2] (by simp) (by simp; exact .mk) ?_
          rintro -
          refine W_ret ?_
          refine end_ret (by simp [Try.f44]; exact .mk) (by simp [cl, cls]; exact .mk) ?_ (by simp [D.noSn])
          simp [nrmR, nrmRs, nrmK, kindsOf, kinds, Try.f44, hr]
          try (cases newOk l.length <;> rfl)
        · intro h18'
          refine W_skip ?_
          rintro -
          refine W_reg rfl ?_
          refine run_op rfl rfl rfl (by simp [eqA, eqFs, isStructTy, eqlNeq, strOp, isBoolTy, isPtrTy, isFnTy]; exact .mk) ?_
          refine run_op rfl rfl rfl (by simp; exact .mk) ?_
          refine run_end [0, 7, 8, 9] (by simp) (by simp; exact .mk) ?_
          refine rounds_drop 0 [0, 7, 8, 9] (by simp) (by simp) (by simp) ?_
          refine rounds_next (m' := l.length - (i+1)) (by omega) ⟨i+1, rfl, by omega, ?_, ?_, rfl⟩
          · intro j hj
            rcases Nat.lt_succ_iff_lt_or_eq.1 hj with hj | rfl
            · exact hinv j hj
            · simp [rootOk, isZero] at *; simp_all
          · rw [wrap64 (by omega) (by omega)]; rfl
      · intro h18
        refine W_seq ?_
        refine W_reg rfl ?_
        refine run_op rfl rfl rfl (by simp; exact .mk) ?_
        refine run_op rfl rfl rfl (by simp [eRoot]; exact .mk) ?_
        refine run_call0 rfl rfl rfl rfl (by simp [calleeA]; exact .mk) (by simp [kindsOf, kinds, expAs, expA]; exact .mk) (ct78 g _ _) (by simp [D.noRo]) (by simp [impA, impAs]; exact .mk) ?_
        refine run_op rfl rfl rfl (by simp [unA]; exact .mk) ?_
        refine run_op rfl rfl rfl (by simp; exact .mk) ?_
        refine run_end [0, 3, 4, 7, 8, 9, 18] (by simp) (by simp; exact .mk) ?_
        rintro -
        refine W_cond rfl ?_ ?_
        · intro h18'
          refine W_skip ?_
          rintro -
          refine W_cond rfl ?_ ?_
          · intro h18''
            refine W_seq ?_
            have hr : rootsS l = false := roots_bad hi2 (by simp [rootOk, isZero] at *; simp_all)
            refine W_reg rfl ?_
            refine run_op rfl rfl rfl (by simp; exact .mk) ?_
            refine run_end [2] (by simp) (by simp; exact .mk) ?_
            rintro -
            refine W_ret ?_
            refine end_ret (by simp [Try.f44]; exact .mk) (by simp [cl, cls]; exact .mk) ?_ (by simp [D.noSn])
            simp [nrmR, nrmRs, nrmK, kindsOf, kinds, Try.f44, hr]
            try (cases newOk l.length <;> rfl)
          · intro h18''
            refine W_skip ?_
            rintro -
            refine W_reg rfl ?_
            refine run_op rfl rfl rfl (by simp [eqA, eqFs, isStructTy, eqlNeq, strOp, isBoolTy, isPtrTy, isFnTy]; exact .mk) ?_
            refine run_op rfl rfl rfl (by simp; exact .mk) ?_
            refine run_end [0, 7, 8, 9] (by simp) (by simp; exact .mk) ?_
            refine rounds_drop 0 [0, 7, 8, 9] (by simp) (by simp) (by simp) ?_
            refine rounds_next (m' := l.length - (i+1)) (by omega) ⟨i+1, rfl, by omega, ?_, ?_, rfl⟩
            · intro j hj
              rcases Nat.lt_succ_iff_lt_or_eq.1 hj with hj | rfl
              · exact hinv j hj
              · simp [rootOk, isZero] at *; simp_all
            · rw [wrap64 (by omega) (by omega)]; rfl
        · intro h18'
          refine W_regD (by kernel_rfl) [] 4 [0, 1, 2, 3, 4, 5, 6, 7] (by decide +kernel) ?_
          refine run_op rfl rfl rfl (by simp; exact .mk) ?_
          refine run_op rfl rfl rfl (by simp; exact .mk) ?_
          refine run_op rfl rfl rfl (by simp [optA, *]; exact .mk) ?_
          refine run_op rfl rfl rfl (by simp; exact .mk) ?_
          refine run_op rfl rfl rfl (by simp [eRoot]; exact .mk) ?_
          refine run_call0 rfl rfl rfl rfl (by simp [calleeA]; exact .mk) (by simp [kindsOf, kinds, expAs, expA]; exact .mk) (by have := ct79 g (l.take i) (nth l i).name (by simp; omega); exact this) (by simp [D.noRo]) (by simp [impA, impAs]; exact .mk) ?_
          refine run_op rfl rfl rfl (by simp [eqA, eqFs, isStructTy, eqlNeq, strOp, isBoolTy, isPtrTy, isFnTy]; exact .mk) ?_
          refine run_op rfl rfl rfl (by simp; exact .mk) ?_
          refine run_end [0, 7, 8, 9, 18] (by simp) (by simp; exact .mk) ?_
          rintro -
          refine W_cond rfl ?_ ?_
          · intro h18''
            refine W_seq ?_
            have hr : rootsS l = false := roots_bad hi2 (by simp [rootOk, isZero] at *; simp_all)
            refine W_reg rfl ?_
            refine run_op rfl rfl rfl (by simp; exact .mk) ?_
            refine run_end [2] (by simp) (by simp; exact .mk) ?_
            rintro -
            refine W_ret ?_
            refine end_ret (by simp [Try.f44]; exact .mk) (by simp [cl, cls]; exact .mk) ?_ (by simp [D.noSn])
            simp [nrmR, nrmRs, nrmK, kindsOf, kinds, Try.f44, hr]
            try (cases newOk l.length <;> rfl)
          · intro h18''
            refine W_skip ?_
            rintro -
            refine W_reg rfl ?_
            refine run_op rfl rfl rfl (by simp [eqA, eqFs, isStructTy, eqlNeq, strOp, isBoolTy, isPtrTy, isFnTy]; exact .mk) ?_
            refine run_op rfl rfl rfl (by simp; exact .mk) ?_
            refine run_end [0, 7, 8, 9] (by simp) (by simp; exact .mk) ?_
            refine rounds_drop 0 [0, 7, 8, 9] (by simp) (by simp) (by simp) ?_
            refine rounds_next (m' := l.length - (i+1)) (by omega) ⟨i+1, rfl, by omega, ?_, ?_, rfl⟩
            · intro j hj
              rcases Nat.lt_succ_iff_lt_or_eq.1 hj with hj | rfl
              · exact hinv j hj
              · simp [rootOk, isZero] at *; simp_all
            · rw [wrap64 (by omega) (by omega)]; rfl
  · intro h10
    refine W_exit ?_
    rintro -
    refine W_seq ?_
    have hr : rootsS l = newOk l.length := roots_good (fun j hj => hinv j (by simp at h10; omega))
    refine W_reg rfl ?_
    refine run_op rfl rfl rfl (by simp; exact .mk) ?_
    refine run_op rfl rfl rfl (by simp; exact .mk) ?_
    refine run_call0 rfl rfl rfl rfl (by simp [calleeA]; exact .mk) (by simp [kindsOf, kinds, expAs, expA]; exact .mk) (ct68 g _) (by simp [D.noRo]) (by simp [impA, impAs]; exact .mk) ?_
    refine run_op rfl rfl rfl (by simp; exact .mk) ?_
    refine run_op rfl rfl rfl (by simp; exact .mk) ?_
    refine run_op rfl rfl rfl (by simp; exact .mk) ?_
    refine run_op rfl rfl rfl (by simp; exact .mk) ?_
    refine run_op rfl rfl rfl (by simp; exact .mk) ?_
    refine run_end [6] (by simp) (by simp; exact .mk) ?_
    rintro -
    refine W_seq ?_
    refine W_reg rfl ?_
    refine run_op rfl rfl rfl (by simp; exact .mk) ?_
    refine run_op rfl rfl rfl (by simp [eqA, eqFs, isStructTy, eqlNeq, strOp, isBoolTy, isPtrTy, isFnTy]; exact .mk) ?_
    refine run_op rfl rfl rfl (by simp; exact .mk) ?_
    refine run_end [2] (by simp) (by simp; exact .mk) ?_
    rintro -
    refine W_ret ?_
    refine end_ret (by simp [Try.f44]; exact .mk) (by simp [cl, cls]; exact .mk) ?_ (by simp [D.noSn])
    simp [nrmR, nrmRs, nrmK, kindsOf, kinds, Try.f44, hr]
    try (cases newOk l.length <;> rfl)

end Go.Proofs
