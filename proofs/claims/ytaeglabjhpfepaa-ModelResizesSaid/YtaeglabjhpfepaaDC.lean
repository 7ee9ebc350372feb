/- Contracts of the functions of the package model that work in place: each leaves what its plain function answers. -/
import Derived.Test.YtaeglabjhpfepaaBase
import Derived.Test.YtaeglabjhpfepaaK
set_option linter.all false
set_option linter.unusedSimpArgs false
set_option linter.unusedVariables false
set_option maxHeartbeats 4000000
namespace Go.Proofs
open Go.Awp
theorem in74 (g : Gl) (o0 o1 o2 : Awp.Obj) (l : List (List UInt8)) (hl : l.length ≤ 2^40) : ∀ B S, CallsA Try.prog g B S ⟨3, true⟩ 74 [.d (rBB l)] [o0, o1, o2]
    (fun x r => x = .hdr 4 0 l.length ∧ r = [o0, o1, o2, .dead, .row 1 (l.map rB)]) := by
  refine callsA_at Try.func74 rfl (Nat.le_of_ble_eq_true rfl) fun B S => ?_
  refine W_seq ?_
  refine W_reg rfl ?_
  refine run_op rfl rfl rfl (by simp; exact .mk) ?_
  refine run_end [0] (by simp) (by simp; exact .mk) ?_
  rintro -
  refine W_seq ?_
  refine W_seq ?_
  refine W_region rfl (WR_cut (hard := []) [0] [1] ?_)
  refine run_op rfl rfl rfl (by simp; exact .mk) ?_
  refine run_end [0, 3] (by simp) (by simp; exact .mk) ?_
  refine WR_nilcmp rfl rfl rfl (.inl rfl) rfl ⟨_, Try.underlying23⟩ (by simp; rfl) ?_
  intro nb hnb
  refine WR_run (hard := []) ?_
  refine run_end [0, 4] (by simp) (by simp; exact .mk) ?_
  rintro -
  refine W_cond rfl ?_ ?_
  · intro h4
    have hl0 : l = [] := List.eq_nil_of_length_eq_zero (hnb (by simpa using h4))
    subst hl0
    refine W_seq ?_
    refine W_reg rfl ?_
    refine run_op rfl rfl rfl (by simp; exact .mk) ?_
    refine run_end [2] (by simp) (by simp; exact .mk) ?_
    refine then_weak Weak.pad ?_
    refine then_weak (s2 := slots [(2, .hdr 4 0 0), (2, .d (.v (.slice none 0 0)))]) (objs2 := [o0, o1, o2, .dead, .row 1 []]) (Weak.nilRow 2 1 rfl) ?_
    rintro -
    refine W_ret ?_
    refine endAt_ret (by simp [Try.f74]; exact .mk) ?_ ?_
    · simp
    · simp
  · intro h4
    refine W_skip ?_
    rintro -
    refine W_seq ?_
    have e1 : l.length * 24 ≤ 140737488355328 := by omega
    have e2 : l.length ≤ 140737488355328 := by omega
    refine W_reg rfl ?_
    refine run_op rfl rfl rfl (by simp [buildSliceA, inOrder, cls, cl, elemsD, kinds, Value.oneCell']; exact .mk) ?_
    refine run_op rfl rfl rfl (by simp; exact .mk) ?_
    refine run_op rfl rfl rfl (by simp [appendA, srcA, dstA, isNilA, rows, e1, e2]; exact .mk) ?_
    refine run_op rfl rfl rfl (by simp; exact .mk) ?_
    refine run_end [2] (by simp) (by simp; exact .mk) ?_
    rintro -
    refine W_ret ?_
    refine endAt_ret (by simp [Try.f74]; exact .mk) ?_ ?_
    · simp
    · simp

end Go.Proofs

set_option linter.unusedSimpArgs false
set_option linter.unusedVariables false
set_option maxHeartbeats 4000000
namespace Go.Proofs
open Go.Awp
theorem ct45 (g : Gl) (a : Abs) (ha : a.Ok) : CtAt Try.prog g 45 [eAbs a] (oAbs a) := by
  refine ctAt_of_W Try.func45 rfl rfl (Nat.le_of_ble_eq_true rfl) fun B S => ?_
  simp only [eAbs, List.map, argD_agg]
  refine W_seq ?_
  refine W_reg rfl ?_
  refine run_op rfl rfl rfl (by simp [boxA, AV.cells, AV.isCell]; exact .mk) ?_
  refine run_op rfl rfl rfl (by simp [allocA, Value.oneCell']; exact .mk) ?_
  refine run_end [1, 2] (by simp) (by simp; exact .mk) ?_
  rintro -
  refine W_seq ?_
  refine W_regD (by kernel_rfl) [] 4 [0, 1, 3, 4, 6, 7, 2, 9, 5, 8, 10, 11, 12, 13, 14] (by decide +kernel) ?_
  refine run_op rfl rfl rfl (by simp; exact .mk) ?_
  refine run_op rfl rfl rfl (by simp; exact .mk) ?_
  refine run_op rfl rfl rfl (by simp; exact .mk) ?_
  refine run_op rfl rfl rfl (by simp; exact .mk) ?_
  refine run_op rfl rfl rfl (by simp; exact .mk) ?_
  refine run_op rfl rfl rfl (by simp; exact .mk) ?_
  refine run_call0 rfl rfl rfl rfl (by simp [calleeA]; exact .mk) (by simp [kindsOf, kinds, expAs, expA]; exact .mk) (ct80 g _ ha.h1) (by simp [D.noRo]) (by simp [impA, impAs]; exact .mk) ?_
  refine run_op rfl rfl rfl (by simp; exact .mk) ?_
  refine run_inl0 rfl rfl rfl rfl (by simp [calleeA]; exact .mk) ⟨_, Try.func74, rfl, rfl⟩ (in74 g _ _ _ a.data ha.h2) (.inr ⟨_, rfl⟩) ?_
  refine run_call0 rfl rfl rfl rfl (by simp [calleeA]; exact .mk) (by simp [kindsOf, kinds, expAs, expA]; exact .mk) (ct73 g _ ha.h3) (by simp [D.noRo]) (by simp [impA, impAs]; exact .mk) ?_
  refine run_op rfl rfl rfl (by simp [storeA, AV.cells, AV.isCell, splice]; exact .mk) ?_
  refine run_op rfl rfl rfl (by simp; exact .mk) ?_
  refine run_op rfl rfl rfl (by simp [storeA, AV.cells, AV.isCell, splice]; exact .mk) ?_
  refine run_op rfl rfl rfl (by simp; exact .mk) ?_
  refine run_op rfl rfl rfl (by simp [storeA, AV.cells, AV.isCell, splice]; exact .mk) ?_
  refine run_end [1, 2] (by simp) (by simp; exact .mk) ?_
  rintro -
  refine W_seq ?_
  refine W_seq ?_
  refine W_reg rfl ?_
  refine run_op rfl rfl rfl (by simp; exact .mk) ?_
  refine run_op rfl rfl rfl (by simp; exact .mk) ?_
  refine run_op rfl rfl rfl (by simp; exact .mk) ?_
  refine run_op rfl rfl rfl (by simp; exact .mk) ?_
  refine run_end [1, 2, 18, 19] (by simp) (by simp; exact .mk) ?_
  rintro -
  refine W_block ?_
  refine W_rounds (fun m σ r => ∃ i : Nat, m = a.data.length - i ∧ i ≤ a.data.length ∧ σ = slots [(1, .ptr 0 0 0), (2, .ptr 1 0 0), (18, .d (vI a.data.length)), (19, .d (vI i))] ∧ r = [.var 26 [.hdr 2 0 a.gens.length, .hdr 4 0 a.data.length, .hdr 5 0 a.roots.length], .var 26 [.d (.v (.slice none 0 0)), .d (.v (.slice none 0 0)), .d (.v (.slice none 0 0))], .row 1 (a.gens.map vI), .dead, .row 1 (mixB i a.data), .row 3 (a.roots.map eRoot)]) a.data.length .refl ⟨0, by simp, by simp, rfl, by rw [mixB_zero]⟩ ?_
  have q2 := ha.h2
  rintro m σ r ⟨i, rfl, hi, rfl, rfl⟩ _
  refine W_seq ?_
  refine W_reg rfl ?_
  refine run_op rfl rfl rfl (by simp [eqA, eqFs, isStructTy, eqlNeq, strOp, isBoolTy, isPtrTy, isFnTy]; exact .mk) ?_
  refine run_end [1, 2, 18, 19, 20] (by simp) (by simp; exact .mk) ?_
  rintro -
  refine W_seq ?_
  refine W_cond rfl ?_ ?_
  · intro h20
    have hi2 : i < a.data.length := by simpa using h20
    refine W_skip ?_
    rintro -
    refine W_seq ?_
    refine W_block ?_
    refine W_seq ?_
    refine W_reg rfl ?_
    refine run_op rfl rfl rfl (by simp; exact .mk) ?_
    refine run_op rfl rfl rfl (by simp; exact .mk) ?_
    refine run_end [1, 2, 3, 18, 19] (by simp) (by simp; exact .mk) ?_
    rintro -
    refine W_regD (by kernel_rfl) [] 4 [0, 1, 2, 3, 4, 5, 6, 7, 8, 9, 10] (by decide +kernel) ?_
    refine run_op rfl rfl rfl (by simp; exact .mk) ?_
    refine run_op rfl rfl rfl (by simp; exact .mk) ?_
    refine run_op rfl rfl rfl (by simp; exact .mk) ?_
    refine run_op rfl rfl rfl (by simp; exact .mk) ?_
    refine run_op rfl rfl rfl (by simp; exact .mk) ?_
    refine run_op rfl rfl rfl (by simp; exact .mk) ?_
    refine run_op rfl rfl rfl (by simp [hi2]; exact .mk) ?_
    refine run_op rfl rfl rfl (by simp [-List.getElem?_map, mixB_get hi2]; exact .mk) ?_
    refine run_call0 rfl rfl rfl rfl (by simp [calleeA]; exact .mk) (by simp [kindsOf, kinds, expAs, expA]; exact .mk) (ct75 g _ (ha.h4 i hi2)) (by simp [D.noRo]) (by simp [impA, impAs]; exact .mk) ?_
    refine run_op rfl rfl rfl (by simp [hi2]; exact .mk) ?_
    refine run_op rfl rfl rfl (by simp [storeA, AV.cells, AV.isCell, splice, -List.getElem?_map, mixB_get hi2, cls, cl, nrmL, nrm, putC]; exact .mk) ?_
    refine run_end [1, 2, 18, 19] (by simp) (by simp; exact .mk) ?_
    rintro -
    refine W_reg rfl ?_
    refine run_op rfl rfl rfl (by simp [eqA, eqFs, isStructTy, eqlNeq, strOp, isBoolTy, isPtrTy, isFnTy]; exact .mk) ?_
    refine run_op rfl rfl rfl (by simp; exact .mk) ?_
    refine run_end [1, 2, 18, 19] (by simp) (by simp; exact .mk) ?_
    refine rounds_drop 6 [1, 2, 18, 19] (by simp) (by simp) (by simp) ?_
    refine rounds_next (m' := a.data.length - (i+1)) (by omega) ⟨i+1, rfl, by omega, ?_, ?_⟩
    · rw [wrap64 (by omega) (by omega)]; rfl
    · rw [← mixB_set hi2]; simp; rfl
  · intro h20
    obtain rfl : i = a.data.length := by simp at h20; omega
    rw [mixB_all]
    refine W_exit ?_
    rintro -
    refine W_seq ?_
    refine W_reg rfl ?_
    refine run_op rfl rfl rfl (by simp; exact .mk) ?_
    refine run_op rfl rfl rfl (by simp [storeA, AV.cells, AV.isCell, splice]; exact .mk) ?_
    refine run_end [2] (by simp) (by simp; exact .mk) ?_
    rintro -
    refine W_ret ?_
    refine end_ret (by simp [Try.f45]; exact .mk) (by simp [cl, cls]; exact .mk) ?_ (by simp [D.noSn])
    simp [nrmR, nrmRs, nrmK, kindsOf, kinds, Try.f45, oAbs, ownR]

end Go.Proofs
