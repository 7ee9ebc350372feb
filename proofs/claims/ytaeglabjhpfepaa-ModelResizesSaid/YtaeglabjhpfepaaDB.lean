/- Contracts of the functions of the package model that choose and work on roots: each leaves what its plain function answers. -/
import Derived.Test.YtaeglabjhpfepaaBase
import Derived.Test.YtaeglabjhpfepaaK
set_option linter.all false
set_option linter.unusedSimpArgs false
set_option linter.unusedVariables false
set_option maxHeartbeats 4000000
namespace Go.Proofs
open Go.Awp
theorem in84s (g : Gl) (o0 o1 o2 o3 o8 : Awp.Obj) (a : Abs) (o : Op) (ho : ∀ m, objsLt m [o0, o1, o2, o3, o8] = true) (ha : a.Ok) (hact : o.act = 6) (hr : RootsOk a.roots) (hn : o.name.size ≤ 2^40) : ∀ B S, CallsA Try.prog g B S ⟨9, true⟩ 84 [.ptr 7 0 0, .agg [.d (vI o.act), .d (vI o.ix), .d (vI o.gen), .d (vI o.n), .d (vI o.off), .d (rB o.b), .d (vS o.name)]] [o0, o1, o2, o3, .row 1 (a.gens.map vI), .row 1 (a.data.map oB), .row 3 (a.roots.map eRoot), .var 86 [.hdr 4 0 a.gens.length, .hdr 5 0 a.data.length, (.hdr 6 0 a.roots.length), .d (vI 0), .d (vI 0), .d (.v (.slice none 0 0))], o8]
    (fun x r => x = .d (vI (setS a.roots o.name o.ix o.gen).2) ∧ r = [o0, o1, o2, o3, .row 1 (a.gens.map vI), .row 1 (a.data.map oB), .row 3 (a.roots.map eRoot), .var 86 [.hdr 4 0 a.gens.length, .hdr 5 0 a.data.length, .hdr 10 0 (setS a.roots o.name o.ix o.gen).1.length, .d (vI 0), .d (vI 0), .d (.v (.slice none 0 0))], o8, .var 31 [.d (vI o.act), .d (vI o.ix), .d (vI o.gen), .d (vI o.n), .d (vI o.off), .d (rB o.b), .d (vS o.name)], .row 3 ((setS a.roots o.name o.ix o.gen).1.map eRoot)]) := by
  refine callsA_at Try.func84 rfl (Nat.le_of_ble_eq_true rfl) fun B S => ?_
  obtain ⟨z0, z1, z2, z3, z8⟩ : o0.lt 9 = true ∧ o1.lt 9 = true ∧ o2.lt 9 = true ∧ o3.lt 9 = true ∧ o8.lt 9 = true := by simpa using ho 9
  refine W_seq ?_
  refine W_reg rfl ?_
  refine run_op rfl rfl rfl (by simp [boxA, AV.cells, AV.isCell, z0, z1, z2, z3, z8, boxA, AV.cells, AV.isCell]; exact .mk) ?_
  refine run_op rfl rfl rfl (by simp [boxA, AV.cells, AV.isCell, z0, z1, z2, z3, z8]; exact .mk) ?_
  refine run_end [0, 3, 4] (by simp) (by simp; exact .mk) ?_
  rintro -
  refine W_seq ?_
  refine W_reg rfl ?_
  refine run_op rfl rfl rfl (by simp [boxA, AV.cells, AV.isCell, z0, z1, z2, z3, z8]; exact .mk) ?_
  refine run_op rfl rfl rfl (by simp [boxA, AV.cells, AV.isCell, z0, z1, z2, z3, z8]; exact .mk) ?_
  refine run_op rfl rfl rfl (by simp [boxA, AV.cells, AV.isCell, z0, z1, z2, z3, z8]; exact .mk) ?_
  refine run_op rfl rfl rfl (by simp [boxA, AV.cells, AV.isCell, z0, z1, z2, z3, z8]; exact .mk) ?_
  refine run_op rfl rfl rfl (by simp [boxA, AV.cells, AV.isCell, z0, z1, z2, z3, z8]; exact .mk) ?_
  refine run_op rfl rfl rfl (by simp [boxA, AV.cells, AV.isCell, z0, z1, z2, z3, z8]; exact .mk) ?_
  refine run_end [0, 3, 4, 5] (by simp) (by simp; exact .mk) ?_
  rintro -
  refine W_seq ?_
  refine W_seq ?_
  refine W_reg rfl ?_
  refine run_op rfl rfl rfl (by simp [boxA, AV.cells, AV.isCell, z0, z1, z2, z3, z8]; exact .mk) ?_
  refine run_op rfl rfl rfl (by simp [boxA, AV.cells, AV.isCell, z0, z1, z2, z3, z8]; exact .mk) ?_
  refine run_end [0, 3, 4, 5, 12] (by simp) (by simp; exact .mk) ?_
  rintro -
  refine W_block ?_
  refine W_seq ?_
  refine W_reg rfl ?_
  refine run_op rfl rfl rfl (by simp [boxA, AV.cells, AV.isCell, z0, z1, z2, z3, z8, eqA, eqFs, isStructTy, eqlNeq, strOp, isBoolTy, isPtrTy, isFnTy]; exact .mk) ?_
  refine run_op rfl rfl rfl (by simp [boxA, AV.cells, AV.isCell, z0, z1, z2, z3, z8]; exact .mk) ?_
  refine run_end [0, 3, 4, 5, 12, 13] (by simp) (by simp; exact .mk) ?_
  rintro -
  refine W_cond rfl ?_ ?_
  · intro h13
    refine W_reg rfl ?_
    refine run_op rfl rfl rfl (by simp [boxA, AV.cells, AV.isCell, z0, z1, z2, z3, z8]; exact .mk) ?_
    refine run_op rfl rfl rfl (by simp [boxA, AV.cells, AV.isCell, z0, z1, z2, z3, z8]; exact .mk) ?_
    refine run_op rfl rfl rfl (by simp [boxA, AV.cells, AV.isCell, z0, z1, z2, z3, z8]; exact .mk) ?_
    refine run_op rfl rfl rfl (by simp [boxA, AV.cells, AV.isCell, z0, z1, z2, z3, z8]; exact .mk) ?_
    refine run_op rfl rfl rfl (by simp [boxA, AV.cells, AV.isCell, z0, z1, z2, z3, z8]; exact .mk) ?_
    refine run_call0 rfl rfl rfl rfl (by simp [boxA, AV.cells, AV.isCell, z0, z1, z2, z3, z8, calleeA]; exact .mk) (by simp [boxA, AV.cells, AV.isCell, z0, z1, z2, z3, z8, kindsOf, kinds, expAs, expA, row_rows, Function.comp_def]; exact .mk) (ct109 g a.roots _ _ _ hr hn) (by simp [boxA, AV.cells, AV.isCell, z0, z1, z2, z3, z8, D.noRo]) (by simp [boxA, AV.cells, AV.isCell, z0, z1, z2, z3, z8, impA, impAs]; exact .mk) ?_
    refine run_op rfl rfl rfl (by simp [boxA, AV.cells, AV.isCell, z0, z1, z2, z3, z8]; exact .mk) ?_
    refine run_op rfl rfl rfl (by simp [boxA, AV.cells, AV.isCell, z0, z1, z2, z3, z8]; exact .mk) ?_
    refine run_op rfl rfl rfl (by simp [boxA, AV.cells, AV.isCell, z0, z1, z2, z3, z8]; exact .mk) ?_
    refine run_op rfl rfl rfl (by simp [boxA, AV.cells, AV.isCell, z0, z1, z2, z3, z8]; exact .mk) ?_
    refine run_op rfl rfl rfl (by simp [boxA, AV.cells, AV.isCell, z0, z1, z2, z3, z8]; exact .mk) ?_
    refine run_end [0, 4, 5] (by simp) (by simp; exact .mk) ?_
    rintro -
    refine W_seq ?_
    refine W_reg rfl ?_
    refine run_op rfl rfl rfl (by simp [boxA, AV.cells, AV.isCell, z0, z1, z2, z3, z8]; exact .mk) ?_
    refine run_op rfl rfl rfl (by simp [boxA, AV.cells, AV.isCell, z0, z1, z2, z3, z8]; exact .mk) ?_
    refine run_op rfl rfl rfl (by simp [boxA, AV.cells, AV.isCell, z0, z1, z2, z3, z8]; exact .mk) ?_
    refine run_op rfl rfl rfl (by simp [boxA, AV.cells, AV.isCell, z0, z1, z2, z3, z8]; exact .mk) ?_
    refine run_op rfl rfl rfl (by simp [boxA, AV.cells, AV.isCell, z0, z1, z2, z3, z8]; exact .mk) ?_
    refine run_op rfl rfl rfl (by simp [boxA, AV.cells, AV.isCell, z0, z1, z2, z3, z8, storeA, AV.cells, AV.isCell, splice]; exact .mk) ?_
    refine run_end [4] (by simp) (by simp; exact .mk) ?_
    rintro -
    refine W_seq ?_
    refine W_reg rfl ?_
    refine run_op rfl rfl rfl (by simp [boxA, AV.cells, AV.isCell, z0, z1, z2, z3, z8]; exact .mk) ?_
    refine run_op rfl rfl rfl (by simp [boxA, AV.cells, AV.isCell, z0, z1, z2, z3, z8]; exact .mk) ?_
    refine run_end [4] (by simp) (by simp; exact .mk) ?_
    rintro -
    refine W_ret ?_
    refine endAt_ret (by simp [boxA, AV.cells, AV.isCell, z0, z1, z2, z3, z8, Try.f84]; exact .mk) ?_ ?_
    · simp
    · simp
  · intro h13
    simp [hact] at h13

theorem in84g (g : Gl) (o0 o1 o2 o3 o8 : Awp.Obj) (a : Abs) (o : Op) (ho : ∀ m, objsLt m [o0, o1, o2, o3, o8] = true) (ha : a.Ok) (hact : o.act = 7) (hr : RootsOk a.roots) (hn : o.name.size ≤ 2^40) : ∀ B S, CallsA Try.prog g B S ⟨9, true⟩ 84 [.ptr 7 0 0, .agg [.d (vI o.act), .d (vI o.ix), .d (vI o.gen), .d (vI o.n), .d (vI o.off), .d (rB o.b), .d (vS o.name)]] [o0, o1, o2, o3, .row 1 (a.gens.map vI), .row 1 (a.data.map oB), .row 3 (a.roots.map eRoot), .var 86 [.hdr 4 0 a.gens.length, .hdr 5 0 a.data.length, (.hdr 6 0 a.roots.length), .d (vI 0), .d (vI 0), .d (.v (.slice none 0 0))], o8]
    (fun x r => x = .d (vI (getS a.roots o.name).2.2) ∧ r = [o0, o1, o2, o3, .row 1 (a.gens.map vI), .row 1 (a.data.map oB), .row 3 (a.roots.map eRoot), .var 86 [.hdr 4 0 a.gens.length, .hdr 5 0 a.data.length, (.hdr 6 0 a.roots.length), .d (vI (getS a.roots o.name).1), .d (vI (getS a.roots o.name).2.1), .d (.v (.slice none 0 0))], o8]) := by
  refine callsA_at Try.func84 rfl (Nat.le_of_ble_eq_true rfl) fun B S => ?_
  obtain ⟨z0, z1, z2, z3, z8⟩ : o0.lt 9 = true ∧ o1.lt 9 = true ∧ o2.lt 9 = true ∧ o3.lt 9 = true ∧ o8.lt 9 = true := by simpa using ho 9
  refine W_seq ?_
  refine W_reg rfl ?_
  refine run_op rfl rfl rfl (by simp [boxA, AV.cells, AV.isCell, z0, z1, z2, z3, z8, boxA, AV.cells, AV.isCell]; exact .mk) ?_
  refine run_op rfl rfl rfl (by simp [boxA, AV.cells, AV.isCell, z0, z1, z2, z3, z8]; exact .mk) ?_
  refine run_end [0, 3, 4] (by simp) (by simp; exact .mk) ?_
  rintro -
  refine W_seq ?_
  refine W_reg rfl ?_
  refine run_op rfl rfl rfl (by simp [boxA, AV.cells, AV.isCell, z0, z1, z2, z3, z8]; exact .mk) ?_
  refine run_op rfl rfl rfl (by simp [boxA, AV.cells, AV.isCell, z0, z1, z2, z3, z8]; exact .mk) ?_
  refine run_op rfl rfl rfl (by simp [boxA, AV.cells, AV.isCell, z0, z1, z2, z3, z8]; exact .mk) ?_
  refine run_op rfl rfl rfl (by simp [boxA, AV.cells, AV.isCell, z0, z1, z2, z3, z8]; exact .mk) ?_
  refine run_op rfl rfl rfl (by simp [boxA, AV.cells, AV.isCell, z0, z1, z2, z3, z8]; exact .mk) ?_
  refine run_op rfl rfl rfl (by simp [boxA, AV.cells, AV.isCell, z0, z1, z2, z3, z8]; exact .mk) ?_
  refine run_end [0, 3, 4, 5] (by simp) (by simp; exact .mk) ?_
  rintro -
  refine W_seq ?_
  refine W_seq ?_
  refine W_reg rfl ?_
  refine run_op rfl rfl rfl (by simp [boxA, AV.cells, AV.isCell, z0, z1, z2, z3, z8]; exact .mk) ?_
  refine run_op rfl rfl rfl (by simp [boxA, AV.cells, AV.isCell, z0, z1, z2, z3, z8]; exact .mk) ?_
  refine run_end [0, 3, 4, 5, 12] (by simp) (by simp; exact .mk) ?_
  rintro -
  refine W_block ?_
  refine W_seq ?_
  refine W_reg rfl ?_
  refine run_op rfl rfl rfl (by simp [boxA, AV.cells, AV.isCell, z0, z1, z2, z3, z8, eqA, eqFs, isStructTy, eqlNeq, strOp, isBoolTy, isPtrTy, isFnTy]; exact .mk) ?_
  refine run_op rfl rfl rfl (by simp [boxA, AV.cells, AV.isCell, z0, z1, z2, z3, z8]; exact .mk) ?_
  refine run_end [0, 3, 4, 5, 12, 13] (by simp) (by simp; exact .mk) ?_
  rintro -
  refine W_cond rfl ?_ ?_
  · intro h13
    simp [hact] at h13
  · intro h13
    refine W_seq ?_
    refine W_reg rfl ?_
    refine run_op rfl rfl rfl (by simp [boxA, AV.cells, AV.isCell, z0, z1, z2, z3, z8, eqA, eqFs, isStructTy, eqlNeq, strOp, isBoolTy, isPtrTy, isFnTy]; exact .mk) ?_
    refine run_op rfl rfl rfl (by simp [boxA, AV.cells, AV.isCell, z0, z1, z2, z3, z8]; exact .mk) ?_
    refine run_end [0, 3, 4, 5, 12, 24] (by simp) (by simp; exact .mk) ?_
    rintro -
    refine W_cond rfl ?_ ?_
    · intro h24
      refine W_reg rfl ?_
      refine run_op rfl rfl rfl (by simp [boxA, AV.cells, AV.isCell, z0, z1, z2, z3, z8]; exact .mk) ?_
      refine run_op rfl rfl rfl (by simp [boxA, AV.cells, AV.isCell, z0, z1, z2, z3, z8]; exact .mk) ?_
      refine run_op rfl rfl rfl (by simp [boxA, AV.cells, AV.isCell, z0, z1, z2, z3, z8]; exact .mk) ?_
      refine run_op rfl rfl rfl (by simp [boxA, AV.cells, AV.isCell, z0, z1, z2, z3, z8]; exact .mk) ?_
      refine run_call0 rfl rfl rfl rfl (by simp [boxA, AV.cells, AV.isCell, z0, z1, z2, z3, z8, calleeA]; exact .mk) (by simp [boxA, AV.cells, AV.isCell, z0, z1, z2, z3, z8, kindsOf, kinds, expAs, expA, row_rows, Function.comp_def]; exact .mk) (ct110 g a.roots _ hr hn) (by simp [boxA, AV.cells, AV.isCell, z0, z1, z2, z3, z8, D.noRo]) (by simp [boxA, AV.cells, AV.isCell, z0, z1, z2, z3, z8, impA, impAs]; exact .mk) ?_
      refine run_op rfl rfl rfl (by simp [boxA, AV.cells, AV.isCell, z0, z1, z2, z3, z8]; exact .mk) ?_
      refine run_op rfl rfl rfl (by simp [boxA, AV.cells, AV.isCell, z0, z1, z2, z3, z8]; exact .mk) ?_
      refine run_op rfl rfl rfl (by simp [boxA, AV.cells, AV.isCell, z0, z1, z2, z3, z8]; exact .mk) ?_
      refine run_op rfl rfl rfl (by simp [boxA, AV.cells, AV.isCell, z0, z1, z2, z3, z8]; exact .mk) ?_
      refine run_op rfl rfl rfl (by simp [boxA, AV.cells, AV.isCell, z0, z1, z2, z3, z8]; exact .mk) ?_
      refine run_op rfl rfl rfl (by simp [boxA, AV.cells, AV.isCell, z0, z1, z2, z3, z8]; exact .mk) ?_
      refine run_op rfl rfl rfl (by simp [boxA, AV.cells, AV.isCell, z0, z1, z2, z3, z8, storeA, AV.cells, AV.isCell, splice]; exact .mk) ?_
      refine run_op rfl rfl rfl (by simp [boxA, AV.cells, AV.isCell, z0, z1, z2, z3, z8]; exact .mk) ?_
      refine run_end [0, 4, 5] (by simp) (by simp; exact .mk) ?_
      rintro -
      refine W_seq ?_
      refine W_reg rfl ?_
      refine run_op rfl rfl rfl (by simp [boxA, AV.cells, AV.isCell, z0, z1, z2, z3, z8]; exact .mk) ?_
      refine run_op rfl rfl rfl (by simp [boxA, AV.cells, AV.isCell, z0, z1, z2, z3, z8]; exact .mk) ?_
      refine run_op rfl rfl rfl (by simp [boxA, AV.cells, AV.isCell, z0, z1, z2, z3, z8]; exact .mk) ?_
      refine run_op rfl rfl rfl (by simp [boxA, AV.cells, AV.isCell, z0, z1, z2, z3, z8]; exact .mk) ?_
      refine run_op rfl rfl rfl (by simp [boxA, AV.cells, AV.isCell, z0, z1, z2, z3, z8]; exact .mk) ?_
      refine run_op rfl rfl rfl (by simp [boxA, AV.cells, AV.isCell, z0, z1, z2, z3, z8, storeA, AV.cells, AV.isCell, splice]; exact .mk) ?_
      refine run_end [4] (by simp) (by simp; exact .mk) ?_
      rintro -
      refine W_seq ?_
      refine W_reg rfl ?_
      refine run_op rfl rfl rfl (by simp [boxA, AV.cells, AV.isCell, z0, z1, z2, z3, z8]; exact .mk) ?_
      refine run_op rfl rfl rfl (by simp [boxA, AV.cells, AV.isCell, z0, z1, z2, z3, z8]; exact .mk) ?_
      refine run_end [4] (by simp) (by simp; exact .mk) ?_
      rintro -
      refine W_ret ?_
      refine endAt_drop 9 (by simp [boxA, AV.cells, AV.isCell, z0, z1, z2, z3, z8, Try.f84]; exact .mk) ?_ ?_ (by simp) (by simp [boxA, AV.cells, AV.isCell, z0, z1, z2, z3, z8]) (by simp [boxA, AV.cells, AV.isCell, z0, z1, z2, z3, z8])
      · simp
      · simp
    · intro h24
      simp [hact] at h24

theorem in84d (g : Gl) (o0 o1 o2 o3 o8 : Awp.Obj) (a : Abs) (o : Op) (ho : ∀ m, objsLt m [o0, o1, o2, o3, o8] = true) (ha : a.Ok) (hact : o.act = 8) (hr : RootsOk a.roots) (hn : o.name.size ≤ 2^40) : ∀ B S, CallsA Try.prog g B S ⟨9, true⟩ 84 [.ptr 7 0 0, .agg [.d (vI o.act), .d (vI o.ix), .d (vI o.gen), .d (vI o.n), .d (vI o.off), .d (rB o.b), .d (vS o.name)]] [o0, o1, o2, o3, .row 1 (a.gens.map vI), .row 1 (a.data.map oB), .row 3 (a.roots.map eRoot), .var 86 [.hdr 4 0 a.gens.length, .hdr 5 0 a.data.length, (.hdr 6 0 a.roots.length), .d (vI 0), .d (vI 0), .d (.v (.slice none 0 0))], o8]
    (fun x r => x = .d (vI (dropS a.roots o.name).2) ∧ r = [o0, o1, o2, o3, .row 1 (a.gens.map vI), .row 1 (a.data.map oB), .row 3 (a.roots.map eRoot), .var 86 [.hdr 4 0 a.gens.length, .hdr 5 0 a.data.length, .hdr 10 0 (dropS a.roots o.name).1.length, .d (vI 0), .d (vI 0), .d (.v (.slice none 0 0))], o8, .var 31 [.d (vI o.act), .d (vI o.ix), .d (vI o.gen), .d (vI o.n), .d (vI o.off), .d (rB o.b), .d (vS o.name)], .row 3 ((dropS a.roots o.name).1.map eRoot)]) := by
  refine callsA_at Try.func84 rfl (Nat.le_of_ble_eq_true rfl) fun B S => ?_
  obtain ⟨z0, z1, z2, z3, z8⟩ : o0.lt 9 = true ∧ o1.lt 9 = true ∧ o2.lt 9 = true ∧ o3.lt 9 = true ∧ o8.lt 9 = true := by simpa using ho 9
  refine W_seq ?_
  refine W_reg rfl ?_
  refine run_op rfl rfl rfl (by simp [boxA, AV.cells, AV.isCell, z0, z1, z2, z3, z8, boxA, AV.cells, AV.isCell]; exact .mk) ?_
  refine run_op rfl rfl rfl (by simp [boxA, AV.cells, AV.isCell, z0, z1, z2, z3, z8]; exact .mk) ?_
  refine run_end [0, 3, 4] (by simp) (by simp; exact .mk) ?_
  rintro -
  refine W_seq ?_
  refine W_reg rfl ?_
  refine run_op rfl rfl rfl (by simp [boxA, AV.cells, AV.isCell, z0, z1, z2, z3, z8]; exact .mk) ?_
  refine run_op rfl rfl rfl (by simp [boxA, AV.cells, AV.isCell, z0, z1, z2, z3, z8]; exact .mk) ?_
  refine run_op rfl rfl rfl (by simp [boxA, AV.cells, AV.isCell, z0, z1, z2, z3, z8]; exact .mk) ?_
  refine run_op rfl rfl rfl (by simp [boxA, AV.cells, AV.isCell, z0, z1, z2, z3, z8]; exact .mk) ?_
  refine run_op rfl rfl rfl (by simp [boxA, AV.cells, AV.isCell, z0, z1, z2, z3, z8]; exact .mk) ?_
  refine run_op rfl rfl rfl (by simp [boxA, AV.cells, AV.isCell, z0, z1, z2, z3, z8]; exact .mk) ?_
  refine run_end [0, 3, 4, 5] (by simp) (by simp; exact .mk) ?_
  rintro -
  refine W_seq ?_
  refine W_seq ?_
  refine W_reg rfl ?_
  refine run_op rfl rfl rfl (by simp [boxA, AV.cells, AV.isCell, z0, z1, z2, z3, z8]; exact .mk) ?_
  refine run_op rfl rfl rfl (by simp [boxA, AV.cells, AV.isCell, z0, z1, z2, z3, z8]; exact .mk) ?_
  refine run_end [0, 3, 4, 5, 12] (by simp) (by simp; exact .mk) ?_
  rintro -
  refine W_block ?_
  refine W_seq ?_
  refine W_reg rfl ?_
  refine run_op rfl rfl rfl (by simp [boxA, AV.cells, AV.isCell, z0, z1, z2, z3, z8, eqA, eqFs, isStructTy, eqlNeq, strOp, isBoolTy, isPtrTy, isFnTy]; exact .mk) ?_
  refine run_op rfl rfl rfl (by simp [boxA, AV.cells, AV.isCell, z0, z1, z2, z3, z8]; exact .mk) ?_
  refine run_end [0, 3, 4, 5, 12, 13] (by simp) (by simp; exact .mk) ?_
  rintro -
  refine W_cond rfl ?_ ?_
  · intro h13
    simp [hact] at h13
  · intro h13
    refine W_seq ?_
    refine W_reg rfl ?_
    refine run_op rfl rfl rfl (by simp [boxA, AV.cells, AV.isCell, z0, z1, z2, z3, z8, eqA, eqFs, isStructTy, eqlNeq, strOp, isBoolTy, isPtrTy, isFnTy]; exact .mk) ?_
    refine run_op rfl rfl rfl (by simp [boxA, AV.cells, AV.isCell, z0, z1, z2, z3, z8]; exact .mk) ?_
    refine run_end [0, 3, 4, 5, 12, 24] (by simp) (by simp; exact .mk) ?_
    rintro -
    refine W_cond rfl ?_ ?_
    · intro h24
      simp [hact] at h24
    · intro h24
      refine W_seq ?_
      refine W_reg rfl ?_
      refine run_op rfl rfl rfl (by simp [boxA, AV.cells, AV.isCell, z0, z1, z2, z3, z8, eqA, eqFs, isStructTy, eqlNeq, strOp, isBoolTy, isPtrTy, isFnTy]; exact .mk) ?_
      refine run_op rfl rfl rfl (by simp [boxA, AV.cells, AV.isCell, z0, z1, z2, z3, z8]; exact .mk) ?_
      refine run_end [0, 3, 4, 5, 37] (by simp) (by simp; exact .mk) ?_
      rintro -
      refine W_cond rfl ?_ ?_
      · intro h37
        refine W_reg rfl ?_
        refine run_op rfl rfl rfl (by simp [boxA, AV.cells, AV.isCell, z0, z1, z2, z3, z8]; exact .mk) ?_
        refine run_op rfl rfl rfl (by simp [boxA, AV.cells, AV.isCell, z0, z1, z2, z3, z8]; exact .mk) ?_
        refine run_op rfl rfl rfl (by simp [boxA, AV.cells, AV.isCell, z0, z1, z2, z3, z8]; exact .mk) ?_
        refine run_call0 rfl rfl rfl rfl (by simp [boxA, AV.cells, AV.isCell, z0, z1, z2, z3, z8, calleeA]; exact .mk) (by simp [boxA, AV.cells, AV.isCell, z0, z1, z2, z3, z8, kindsOf, kinds, expAs, expA, row_rows, Function.comp_def]; exact .mk) (ct111 g a.roots _ hr hn) (by simp [boxA, AV.cells, AV.isCell, z0, z1, z2, z3, z8, D.noRo]) (by simp [boxA, AV.cells, AV.isCell, z0, z1, z2, z3, z8, impA, impAs]; exact .mk) ?_
        refine run_op rfl rfl rfl (by simp [boxA, AV.cells, AV.isCell, z0, z1, z2, z3, z8]; exact .mk) ?_
        refine run_op rfl rfl rfl (by simp [boxA, AV.cells, AV.isCell, z0, z1, z2, z3, z8]; exact .mk) ?_
        refine run_op rfl rfl rfl (by simp [boxA, AV.cells, AV.isCell, z0, z1, z2, z3, z8]; exact .mk) ?_
        refine run_op rfl rfl rfl (by simp [boxA, AV.cells, AV.isCell, z0, z1, z2, z3, z8]; exact .mk) ?_
        refine run_op rfl rfl rfl (by simp [boxA, AV.cells, AV.isCell, z0, z1, z2, z3, z8]; exact .mk) ?_
        refine run_end [0, 4, 5] (by simp) (by simp; exact .mk) ?_
        rintro -
        refine W_seq ?_
        refine W_reg rfl ?_
        refine run_op rfl rfl rfl (by simp [boxA, AV.cells, AV.isCell, z0, z1, z2, z3, z8]; exact .mk) ?_
        refine run_op rfl rfl rfl (by simp [boxA, AV.cells, AV.isCell, z0, z1, z2, z3, z8]; exact .mk) ?_
        refine run_op rfl rfl rfl (by simp [boxA, AV.cells, AV.isCell, z0, z1, z2, z3, z8]; exact .mk) ?_
        refine run_op rfl rfl rfl (by simp [boxA, AV.cells, AV.isCell, z0, z1, z2, z3, z8]; exact .mk) ?_
        refine run_op rfl rfl rfl (by simp [boxA, AV.cells, AV.isCell, z0, z1, z2, z3, z8]; exact .mk) ?_
        refine run_op rfl rfl rfl (by simp [boxA, AV.cells, AV.isCell, z0, z1, z2, z3, z8, storeA, AV.cells, AV.isCell, splice]; exact .mk) ?_
        refine run_end [4] (by simp) (by simp; exact .mk) ?_
        rintro -
        refine W_seq ?_
        refine W_reg rfl ?_
        refine run_op rfl rfl rfl (by simp [boxA, AV.cells, AV.isCell, z0, z1, z2, z3, z8]; exact .mk) ?_
        refine run_op rfl rfl rfl (by simp [boxA, AV.cells, AV.isCell, z0, z1, z2, z3, z8]; exact .mk) ?_
        refine run_end [4] (by simp) (by simp; exact .mk) ?_
        rintro -
        refine W_ret ?_
        refine endAt_ret (by simp [boxA, AV.cells, AV.isCell, z0, z1, z2, z3, z8, Try.f84]; exact .mk) ?_ ?_
        · simp
        · simp
      · intro h37
        simp [hact] at h37

theorem in82 (g : Gl) (o0 o1 o2 o3 o8 : Awp.Obj) (a : Abs) (o : Op) (e : Nat) (ho : ∀ m, objsLt m [o0, o1, o2, o3, o8] = true) : ∀ B S, CallsA Try.prog g B S ⟨10, true⟩ 82 [.agg [.d (vI o.act), .d (vI o.ix), .d (vI o.gen), .d (vI o.n), .d (vI o.off), .d (rB o.b), .d (vS o.name)], .ptr 9 0 0] [o0, o1, o2, o3, .row 1 (a.gens.map vI), .row 1 (a.data.map oB), .row 3 (a.roots.map eRoot), .var 86 [.hdr 4 0 a.gens.length, .hdr 5 0 a.data.length, (.hdr 6 0 a.roots.length), .d (vI 0), .d (vI 0), .d (.v (.slice none 0 0))], o8, .var 37 [.d (vI e)]]
    (fun x r => x = .d (vI e) ∧ r = [o0, o1, o2, o3, .row 1 (a.gens.map vI), .row 1 (a.data.map oB), .row 3 (a.roots.map eRoot), .var 86 [.hdr 4 0 a.gens.length, .hdr 5 0 a.data.length, (.hdr 6 0 a.roots.length), .d (vI 0), .d (vI 0), .d (.v (.slice none 0 0))], o8, .var 37 [.d (vI e)]]) := by
  refine callsA_at Try.func82 rfl (Nat.le_of_ble_eq_true rfl) fun B S => ?_
  obtain ⟨z0, z1, z2, z3, z8⟩ : o0.lt 10 = true ∧ o1.lt 10 = true ∧ o2.lt 10 = true ∧ o3.lt 10 = true ∧ o8.lt 10 = true := by simpa using ho 10
  refine W_seq ?_
  refine W_reg rfl ?_
  refine run_op rfl rfl rfl (by simp [boxA, AV.cells, AV.isCell, z0, z1, z2, z3, z8, boxA, AV.cells, AV.isCell]; exact .mk) ?_
  refine run_op rfl rfl rfl (by simp [boxA, AV.cells, AV.isCell, z0, z1, z2, z3, z8]; exact .mk) ?_
  refine run_end [1] (by simp) (by simp; exact .mk) ?_
  rintro -
  refine W_seq ?_
  refine W_reg rfl ?_
  refine run_op rfl rfl rfl (by simp [boxA, AV.cells, AV.isCell, z0, z1, z2, z3, z8]; exact .mk) ?_
  refine run_op rfl rfl rfl (by simp [boxA, AV.cells, AV.isCell, z0, z1, z2, z3, z8]; exact .mk) ?_
  refine run_end [3] (by simp) (by simp; exact .mk) ?_
  rintro -
  refine W_ret ?_
  refine endAt_drop 10 (by simp [boxA, AV.cells, AV.isCell, z0, z1, z2, z3, z8, Try.f82]; exact .mk) ?_ ?_ (by simp) (by simp [boxA, AV.cells, AV.isCell, z0, z1, z2, z3, z8]) (by simp [boxA, AV.cells, AV.isCell, z0, z1, z2, z3, z8])
  · simp
  · simp

theorem in81 (g : Gl) (o0 o1 o2 o3 o8 : Awp.Obj) (a : Abs) (e : Nat) : ∀ B S, CallsA Try.prog g B S ⟨9, true⟩ 81 [.d (vI e)] [o0, o1, o2, o3, .row 1 (a.gens.map vI), .row 1 (a.data.map oB), .row 3 (a.roots.map eRoot), .var 86 [.hdr 4 0 a.gens.length, .hdr 5 0 a.data.length, (.hdr 6 0 a.roots.length), .d (vI 0), .d (vI 0), .d (.v (.slice none 0 0))], o8]
    (fun x r => x = .fn (.func 82) [] [.ptr 9 0 0] ∧ r = [o0, o1, o2, o3, .row 1 (a.gens.map vI), .row 1 (a.data.map oB), .row 3 (a.roots.map eRoot), .var 86 [.hdr 4 0 a.gens.length, .hdr 5 0 a.data.length, (.hdr 6 0 a.roots.length), .d (vI 0), .d (vI 0), .d (.v (.slice none 0 0))], o8, .var 37 [.d (vI e)]]) := by
  refine callsA_at Try.func81 rfl (Nat.le_of_ble_eq_true rfl) fun B S => ?_
  refine W_seq ?_
  refine W_reg rfl ?_
  refine run_op rfl rfl rfl (by simp [boxA, AV.cells, AV.isCell, boxA, AV.cells, AV.isCell]; exact .mk) ?_
  refine run_op rfl rfl rfl (by simp [boxA, AV.cells, AV.isCell]; exact .mk) ?_
  refine run_end [1] (by simp) (by simp; exact .mk) ?_
  rintro -
  refine W_seq ?_
  refine W_reg rfl ?_
  refine run_op rfl rfl rfl (by simp [boxA, AV.cells, AV.isCell]; exact .mk) ?_
  refine run_op rfl rfl rfl (by simp [boxA, AV.cells, AV.isCell]; exact .mk) ?_
  refine run_end [2] (by simp) (by simp; exact .mk) ?_
  rintro -
  refine W_ret ?_
  refine endAt_ret (by simp [boxA, AV.cells, AV.isCell, Try.f81]; exact .mk) ?_ ?_
  · simp
  · simp

end Go.Proofs

set_option linter.unusedSimpArgs false
set_option linter.unusedVariables false
set_option maxHeartbeats 4000000
namespace Go.Proofs
open Go.Awp
theorem in46g (g : Gl) (o0 o1 o2 o3 : Awp.Obj) (a : Abs) (o : Op) (hgd : a.data.length = a.gens.length) (hn : o.name.size ≤ 2^40) (f : Nat) (hf : kindS a o = (f : Int)) : ∀ B S, CallsA Try.prog g B S ⟨8, true⟩ 46 [.ptr 7 0 0, .agg [.d (vI o.act), .d (vI o.ix), .d (vI o.gen), .d (vI o.n), .d (vI o.off), .d (rB o.b), .d (vS o.name)]] [o0, o1, o2, o3, .row 1 (a.gens.map vI), .row 1 (a.data.map oB), .row 3 (a.roots.map eRoot), .var 86 [.hdr 4 0 a.gens.length, .hdr 5 0 a.data.length, (.hdr 6 0 a.roots.length), .d (vI 0), .d (vI 0), .d (.v (.slice none 0 0))]]
    (fun x r => x = .fn (.func f) [.ptr 7 0 0] [] ∧ r = [o0, o1, o2, o3, .row 1 (a.gens.map vI), .row 1 (a.data.map oB), .row 3 (a.roots.map eRoot), .var 86 [.hdr 4 0 a.gens.length, .hdr 5 0 a.data.length, (.hdr 6 0 a.roots.length), .d (vI 0), .d (vI 0), .d (.v (.slice none 0 0))], .var 31 [.d (vI o.act), .d (vI o.ix), .d (vI o.gen), .d (vI o.n), .d (vI o.off), .d (rB o.b), .d (vS o.name)]]) := by
  refine callsA_at Try.func46 rfl (Nat.le_of_ble_eq_true rfl) fun B S => ?_
  refine W_seq ?_
  refine W_reg rfl ?_
  refine run_op rfl rfl rfl (by simp [boxA, AV.cells, AV.isCell, boxA, AV.cells, AV.isCell]; exact .mk) ?_
  refine run_op rfl rfl rfl (by simp [boxA, AV.cells, AV.isCell]; exact .mk) ?_
  refine run_end [0, 3] (by simp) (by simp; exact .mk) ?_
  rintro -
  refine W_seq ?_
  refine W_reg rfl ?_
  refine run_op rfl rfl rfl (by simp [boxA, AV.cells, AV.isCell]; exact .mk) ?_
  refine run_end [0, 3, 5] (by simp) (by simp; exact .mk) ?_
  rintro -
  refine W_seq ?_
  refine W_block ?_
  refine W_seq ?_
  refine W_reg rfl ?_
  refine run_op rfl rfl rfl (by simp [boxA, AV.cells, AV.isCell]; exact .mk) ?_
  refine run_op rfl rfl rfl (by simp [boxA, AV.cells, AV.isCell]; exact .mk) ?_
  refine run_op rfl rfl rfl (by simp [boxA, AV.cells, AV.isCell, eqA, eqFs, isStructTy, eqlNeq, strOp, isBoolTy, isPtrTy, isFnTy]; exact .mk) ?_
  refine run_op rfl rfl rfl (by simp [boxA, AV.cells, AV.isCell]; exact .mk) ?_
  refine run_end [0, 3, 5, 6] (by simp) (by simp; exact .mk) ?_
  rintro -
  refine W_cond rfl ?_ ?_
  · intro h6
    have k1 : o.act = 1 := by simpa using h6
    refine W_seq ?_
    refine W_reg rfl ?_
    refine run_op rfl rfl rfl (by simp [boxA, AV.cells, AV.isCell]; exact .mk) ?_
    refine run_op rfl rfl rfl (by simp [boxA, AV.cells, AV.isCell]; exact .mk) ?_
    refine run_op rfl rfl rfl (by simp [boxA, AV.cells, AV.isCell]; exact .mk) ?_
    refine run_end [4] (by simp) (by simp; exact .mk) ?_
    rintro -
    refine W_ret ?_
    refine endAt_ret (by simp [boxA, AV.cells, AV.isCell, Try.f46]; exact .mk) ?_ ?_
    · simp
      unfold kindS at hf <;> (repeat' split at hf) <;> first | (show (_ : Nat) = _; omega) | (exfalso; omega) | (exfalso; simp_all; done)
    · first | rfl | (exfalso; unfold kindS at hf <;> (repeat' split at hf) <;> first | (show (_ : Nat) = _; omega) | (exfalso; omega) | (exfalso; simp_all; done))
  · intro h6
    have k1 : o.act ≠ 1 := by simpa using h6
    refine W_seq ?_
    refine W_seq ?_
    refine W_reg rfl ?_
    refine run_op rfl rfl rfl (by simp [boxA, AV.cells, AV.isCell]; exact .mk) ?_
    refine run_op rfl rfl rfl (by simp [boxA, AV.cells, AV.isCell]; exact .mk) ?_
    refine run_op rfl rfl rfl (by simp [boxA, AV.cells, AV.isCell, eqA, eqFs, isStructTy, eqlNeq, strOp, isBoolTy, isPtrTy, isFnTy]; exact .mk) ?_
    refine run_op rfl rfl rfl (by simp [boxA, AV.cells, AV.isCell]; exact .mk) ?_
    refine run_end [0, 3, 5, 12] (by simp) (by simp; exact .mk) ?_
    rintro -
    refine W_cond rfl ?_ ?_
    · intro h12
      have k2 : o.act = 7 := by simpa using h12
      refine W_skip ?_
      rintro -
      refine W_cond rfl ?_ ?_
      · intro h12'
        have k3 : o.act = 7 ∨ o.act = 8 := by simp at h12'; omega
        refine W_seq ?_
        refine W_reg rfl ?_
        refine run_op rfl rfl rfl (by simp [boxA, AV.cells, AV.isCell]; exact .mk) ?_
        refine run_op rfl rfl rfl (by simp [boxA, AV.cells, AV.isCell]; exact .mk) ?_
        refine run_op rfl rfl rfl (by simp [boxA, AV.cells, AV.isCell]; exact .mk) ?_
        refine run_end [4] (by simp) (by simp; exact .mk) ?_
        rintro -
        refine W_ret ?_
        refine endAt_ret (by simp [boxA, AV.cells, AV.isCell, Try.f46]; exact .mk) ?_ ?_
        · simp
          unfold kindS at hf <;> (repeat' split at hf) <;> first | (show (_ : Nat) = _; omega) | (exfalso; omega) | (exfalso; simp_all; done)
        · first | rfl | (exfalso; unfold kindS at hf <;> (repeat' split at hf) <;> first | (show (_ : Nat) = _; omega) | (exfalso; omega) | (exfalso; simp_all; done))
      · intro h12'
        have k3 : ¬ (o.act = 7 ∨ o.act = 8) := by simp at h12'; omega
        refine W_seq ?_
        refine W_seq ?_
        refine W_reg rfl ?_
        refine run_op rfl rfl rfl (by simp [boxA, AV.cells, AV.isCell]; exact .mk) ?_
        refine run_op rfl rfl rfl (by simp [boxA, AV.cells, AV.isCell]; exact .mk) ?_
        refine run_op rfl rfl rfl (by simp [boxA, AV.cells, AV.isCell, eqA, eqFs, isStructTy, eqlNeq, strOp, isBoolTy, isPtrTy, isFnTy]; exact .mk) ?_
        refine run_op rfl rfl rfl (by simp [boxA, AV.cells, AV.isCell]; exact .mk) ?_
        refine run_end [0, 3, 5, 21] (by simp) (by simp; exact .mk) ?_
        rintro -
        refine W_cond rfl ?_ ?_
        · intro h21
          have k4 : o.act < 1 := by simpa using h21
          refine W_skip ?_
          rintro -
          refine W_cond rfl ?_ ?_
          · intro h21'
            have k4' : o.act < 1 ∨ 8 < o.act := by simp at h21'; omega
            refine W_seq ?_
            refine W_reg rfl ?_
            refine run_op rfl rfl rfl (by simp [boxA, AV.cells, AV.isCell]; exact .mk) ?_
            refine run_inl0 rfl rfl rfl rfl (by simp [boxA, AV.cells, AV.isCell, calleeA]; exact .mk) ⟨_, Try.func81, rfl, rfl⟩ (in81 g o0 o1 o2 o3 _ a 1) (.inr ⟨_, rfl⟩) ?_
            refine run_op rfl rfl rfl (by simp [boxA, AV.cells, AV.isCell]; exact .mk) ?_
            refine run_end [4] (by simp) (by simp; exact .mk) ?_
            rintro -
            refine W_ret ?_
            refine endAt_ret (by simp [boxA, AV.cells, AV.isCell, Try.f46]; exact .mk) ?_ ?_
            · simp
              unfold kindS at hf <;> (repeat' split at hf) <;> first | (show (_ : Nat) = _; omega) | (exfalso; omega) | (exfalso; simp_all; done)
            · first | rfl | (exfalso; unfold kindS at hf <;> (repeat' split at hf) <;> first | (show (_ : Nat) = _; omega) | (exfalso; omega) | (exfalso; simp_all; done))
          · intro h21'
            have k4' : ¬ (o.act < 1 ∨ 8 < o.act) := by simp at h21'; omega
            refine W_seq ?_
            refine W_reg rfl ?_
            refine run_op rfl rfl rfl (by simp [boxA, AV.cells, AV.isCell]; exact .mk) ?_
            refine run_op rfl rfl rfl (by simp [boxA, AV.cells, AV.isCell]; exact .mk) ?_
            refine run_op rfl rfl rfl (by simp [boxA, AV.cells, AV.isCell, eqA, eqFs, isStructTy, eqlNeq, strOp, isBoolTy, isPtrTy, isFnTy]; exact .mk) ?_
            refine run_op rfl rfl rfl (by simp [boxA, AV.cells, AV.isCell]; exact .mk) ?_
            refine run_if rfl (by simp [boxA, AV.cells, AV.isCell]; exact .mk) rfl (by simp <;> omega) (fun hb => by simp [boxA, AV.cells, AV.isCell]; exact .mk) ?_
            refine run_if rfl (by simp [boxA, AV.cells, AV.isCell]; exact .mk) rfl (by simp <;> omega) (fun hb => by simp [boxA, AV.cells, AV.isCell]; exact .mk) ?_
            refine run_call rfl (by simp [boxA, AV.cells, AV.isCell]; exact .mk) rfl rfl (by simp) (by simp [boxA, AV.cells, AV.isCell, calleeA]; exact .mk) (by simp [boxA, AV.cells, AV.isCell, kindsOf, kinds, expAs, expA, row_rows, Function.comp_def]; exact .mk) (fun hb => ct77 g _ hn) (by simp [boxA, AV.cells, AV.isCell, D.noRo]) (by simp [boxA, AV.cells, AV.isCell, impA, impAs]; exact .mk) (by simp) ?_
            refine run_if rfl (by simp [boxA, AV.cells, AV.isCell]; exact .mk) rfl (by simp <;> omega) (fun hb => by simp [boxA, AV.cells, AV.isCell, unA]; exact .mk) ?_
            refine run_pick rfl (by simp [boxA, AV.cells, AV.isCell]; exact .mk) rfl rfl (by simp) (by simp [boxA, AV.cells, AV.isCell]; exact .mk) (by simp [boxA, AV.cells, AV.isCell]; exact .mk) (by simp; exact .mk) ?_
            refine run_op1 rfl rfl rfl (by simp <;> omega) (by simp [boxA, AV.cells, AV.isCell]; exact .mk) ?_
            refine run_end [0, 3, 5, 30] (by simp <;> omega) (by simp; exact .mk) ?_
            rintro -
            refine W_cond rfl ?_ ?_
            · intro h30
              have k5 : o.act = 6 ∧ nameS o.name = false := by simpa using h30
              refine W_seq ?_
              refine W_reg rfl ?_
              refine run_op rfl rfl rfl (by simp [boxA, AV.cells, AV.isCell]; exact .mk) ?_
              refine run_inl0 rfl rfl rfl rfl (by simp [boxA, AV.cells, AV.isCell, calleeA]; exact .mk) ⟨_, Try.func81, rfl, rfl⟩ (in81 g o0 o1 o2 o3 _ a 3) (.inr ⟨_, rfl⟩) ?_
              refine run_op rfl rfl rfl (by simp [boxA, AV.cells, AV.isCell]; exact .mk) ?_
              refine run_end [4] (by simp) (by simp; exact .mk) ?_
              rintro -
              refine W_ret ?_
              refine endAt_ret (by simp [boxA, AV.cells, AV.isCell, Try.f46]; exact .mk) ?_ ?_
              · simp
                unfold kindS at hf <;> (repeat' split at hf) <;> first | (show (_ : Nat) = _; omega) | (exfalso; omega) | (exfalso; simp_all; done)
              · first | rfl | (exfalso; unfold kindS at hf <;> (repeat' split at hf) <;> first | (show (_ : Nat) = _; omega) | (exfalso; omega) | (exfalso; simp_all; done))
            · intro h30
              have k5 : ¬ (o.act = 6 ∧ nameS o.name = false) := by simpa using h30
              refine W_seq ?_
              refine W_regD (by kernel_rfl) [] 4 [0, 1, 2, 3, 4, 5, 6, 7, 8] (by decide +kernel) ?_
              refine run_op rfl rfl rfl (by simp [boxA, AV.cells, AV.isCell]; exact .mk) ?_
              refine run_op rfl rfl rfl (by simp [boxA, AV.cells, AV.isCell]; exact .mk) ?_
              refine run_op rfl rfl rfl (by simp [boxA, AV.cells, AV.isCell]; exact .mk) ?_
              refine run_op rfl rfl rfl (by simp [boxA, AV.cells, AV.isCell]; exact .mk) ?_
              refine run_op rfl rfl rfl (by simp [boxA, AV.cells, AV.isCell]; exact .mk) ?_
              refine run_op rfl rfl rfl (by simp [boxA, AV.cells, AV.isCell]; exact .mk) ?_
              refine run_call0 rfl rfl rfl rfl (by simp [boxA, AV.cells, AV.isCell, calleeA]; exact .mk) (by simp [boxA, AV.cells, AV.isCell, kindsOf, kinds, expAs, expA, row_rows, Function.comp_def]; exact .mk) (ct85 g a _ _ hgd) (by simp [boxA, AV.cells, AV.isCell, D.noRo]) (by simp [boxA, AV.cells, AV.isCell, impA, impAs]; exact .mk) ?_
              refine run_op rfl rfl rfl (by simp [boxA, AV.cells, AV.isCell, unA]; exact .mk) ?_
              refine run_op rfl rfl rfl (by simp [boxA, AV.cells, AV.isCell]; exact .mk) ?_
              refine run_end [0, 3, 5, 42] (by simp) (by simp; exact .mk) ?_
              rintro -
              refine W_cond rfl ?_ ?_
              · intro h42
                have k6 : goodS a o.ix o.gen = false := by simpa using h42
                refine W_seq ?_
                refine W_reg rfl ?_
                refine run_op rfl rfl rfl (by simp [boxA, AV.cells, AV.isCell]; exact .mk) ?_
                refine run_inl0 rfl rfl rfl rfl (by simp [boxA, AV.cells, AV.isCell, calleeA]; exact .mk) ⟨_, Try.func81, rfl, rfl⟩ (in81 g o0 o1 o2 o3 _ a 8) (.inr ⟨_, rfl⟩) ?_
                refine run_op rfl rfl rfl (by simp [boxA, AV.cells, AV.isCell]; exact .mk) ?_
                refine run_end [4] (by simp) (by simp; exact .mk) ?_
                rintro -
                refine W_ret ?_
                refine endAt_ret (by simp [boxA, AV.cells, AV.isCell, Try.f46]; exact .mk) ?_ ?_
                · simp
                  unfold kindS at hf <;> (repeat' split at hf) <;> first | (show (_ : Nat) = _; omega) | (exfalso; omega) | (exfalso; simp_all; done)
                · first | rfl | (exfalso; unfold kindS at hf <;> (repeat' split at hf) <;> first | (show (_ : Nat) = _; omega) | (exfalso; omega) | (exfalso; simp_all; done))
              · intro h42
                have k6 : ¬ goodS a o.ix o.gen = false := by simpa using h42
                refine W_seq ?_
                refine W_reg rfl ?_
                refine run_op rfl rfl rfl (by simp [boxA, AV.cells, AV.isCell]; exact .mk) ?_
                refine run_op rfl rfl rfl (by simp [boxA, AV.cells, AV.isCell]; exact .mk) ?_
                refine run_op rfl rfl rfl (by simp [boxA, AV.cells, AV.isCell, eqA, eqFs, isStructTy, eqlNeq, strOp, isBoolTy, isPtrTy, isFnTy]; exact .mk) ?_
                refine run_op rfl rfl rfl (by simp [boxA, AV.cells, AV.isCell]; exact .mk) ?_
                refine run_end [0, 3, 53] (by simp) (by simp; exact .mk) ?_
                rintro -
                refine W_cond rfl ?_ ?_
                · intro h53
                  have k7 : o.act = 2 := by simpa using h53
                  refine W_seq ?_
                  refine W_reg rfl ?_
                  refine run_op rfl rfl rfl (by simp [boxA, AV.cells, AV.isCell]; exact .mk) ?_
                  refine run_op rfl rfl rfl (by simp [boxA, AV.cells, AV.isCell]; exact .mk) ?_
                  refine run_op rfl rfl rfl (by simp [boxA, AV.cells, AV.isCell]; exact .mk) ?_
                  refine run_end [4] (by simp) (by simp; exact .mk) ?_
                  rintro -
                  refine W_ret ?_
                  refine endAt_ret (by simp [boxA, AV.cells, AV.isCell, Try.f46]; exact .mk) ?_ ?_
                  · simp
                    unfold kindS at hf <;> (repeat' split at hf) <;> first | (show (_ : Nat) = _; omega) | (exfalso; omega) | (exfalso; simp_all; done)
                  · first | rfl | (exfalso; unfold kindS at hf <;> (repeat' split at hf) <;> first | (show (_ : Nat) = _; omega) | (exfalso; omega) | (exfalso; simp_all; done))
                · intro h53
                  have k7 : o.act ≠ 2 := by simpa using h53
                  refine W_seq ?_
                  refine W_reg rfl ?_
                  refine run_op rfl rfl rfl (by simp [boxA, AV.cells, AV.isCell]; exact .mk) ?_
                  refine run_op rfl rfl rfl (by simp [boxA, AV.cells, AV.isCell]; exact .mk) ?_
                  refine run_op rfl rfl rfl (by simp [boxA, AV.cells, AV.isCell, eqA, eqFs, isStructTy, eqlNeq, strOp, isBoolTy, isPtrTy, isFnTy]; exact .mk) ?_
                  refine run_op rfl rfl rfl (by simp [boxA, AV.cells, AV.isCell]; exact .mk) ?_
                  refine run_end [0, 3, 59] (by simp) (by simp; exact .mk) ?_
                  rintro -
                  refine W_cond rfl ?_ ?_
                  · intro h59
                    have k8 : o.act = 3 := by simpa using h59
                    refine W_seq ?_
                    refine W_reg rfl ?_
                    refine run_op rfl rfl rfl (by simp [boxA, AV.cells, AV.isCell]; exact .mk) ?_
                    refine run_op rfl rfl rfl (by simp [boxA, AV.cells, AV.isCell]; exact .mk) ?_
                    refine run_op rfl rfl rfl (by simp [boxA, AV.cells, AV.isCell]; exact .mk) ?_
                    refine run_end [4] (by simp) (by simp; exact .mk) ?_
                    rintro -
                    refine W_ret ?_
                    refine endAt_ret (by simp [boxA, AV.cells, AV.isCell, Try.f46]; exact .mk) ?_ ?_
                    · simp
                      unfold kindS at hf <;> (repeat' split at hf) <;> first | (show (_ : Nat) = _; omega) | (exfalso; omega) | (exfalso; simp_all; done)
                    · first | rfl | (exfalso; unfold kindS at hf <;> (repeat' split at hf) <;> first | (show (_ : Nat) = _; omega) | (exfalso; omega) | (exfalso; simp_all; done))
                  · intro h59
                    have k8 : o.act ≠ 3 := by simpa using h59
                    refine W_seq ?_
                    refine W_reg rfl ?_
                    refine run_op rfl rfl rfl (by simp [boxA, AV.cells, AV.isCell]; exact .mk) ?_
                    refine run_op rfl rfl rfl (by simp [boxA, AV.cells, AV.isCell]; exact .mk) ?_
                    refine run_op rfl rfl rfl (by simp [boxA, AV.cells, AV.isCell, eqA, eqFs, isStructTy, eqlNeq, strOp, isBoolTy, isPtrTy, isFnTy]; exact .mk) ?_
                    refine run_op rfl rfl rfl (by simp [boxA, AV.cells, AV.isCell]; exact .mk) ?_
                    refine run_end [0, 3, 65] (by simp) (by simp; exact .mk) ?_
                    rintro -
                    refine W_cond rfl ?_ ?_
                    · intro h65
                      have k9 : o.act = 4 := by simpa using h65
                      refine W_seq ?_
                      refine W_reg rfl ?_
                      refine run_op rfl rfl rfl (by simp [boxA, AV.cells, AV.isCell]; exact .mk) ?_
                      refine run_op rfl rfl rfl (by simp [boxA, AV.cells, AV.isCell]; exact .mk) ?_
                      refine run_op rfl rfl rfl (by simp [boxA, AV.cells, AV.isCell]; exact .mk) ?_
                      refine run_end [4] (by simp) (by simp; exact .mk) ?_
                      rintro -
                      refine W_ret ?_
                      refine endAt_ret (by simp [boxA, AV.cells, AV.isCell, Try.f46]; exact .mk) ?_ ?_
                      · simp
                        unfold kindS at hf <;> (repeat' split at hf) <;> first | (show (_ : Nat) = _; omega) | (exfalso; omega) | (exfalso; simp_all; done)
                      · first | rfl | (exfalso; unfold kindS at hf <;> (repeat' split at hf) <;> first | (show (_ : Nat) = _; omega) | (exfalso; omega) | (exfalso; simp_all; done))
                    · intro h65
                      have k9 : o.act ≠ 4 := by simpa using h65
                      refine W_seq ?_
                      refine W_reg rfl ?_
                      refine run_op rfl rfl rfl (by simp [boxA, AV.cells, AV.isCell]; exact .mk) ?_
                      refine run_op rfl rfl rfl (by simp [boxA, AV.cells, AV.isCell]; exact .mk) ?_
                      refine run_op rfl rfl rfl (by simp [boxA, AV.cells, AV.isCell, eqA, eqFs, isStructTy, eqlNeq, strOp, isBoolTy, isPtrTy, isFnTy]; exact .mk) ?_
                      refine run_op rfl rfl rfl (by simp [boxA, AV.cells, AV.isCell]; exact .mk) ?_
                      refine run_end [0, 71] (by simp) (by simp; exact .mk) ?_
                      rintro -
                      refine W_cond rfl ?_ ?_
                      · intro h71
                        have k10 : o.act = 5 := by simpa using h71
                        refine W_seq ?_
                        refine W_reg rfl ?_
                        refine run_op rfl rfl rfl (by simp [boxA, AV.cells, AV.isCell]; exact .mk) ?_
                        refine run_op rfl rfl rfl (by simp [boxA, AV.cells, AV.isCell]; exact .mk) ?_
                        refine run_op rfl rfl rfl (by simp [boxA, AV.cells, AV.isCell]; exact .mk) ?_
                        refine run_end [4] (by simp) (by simp; exact .mk) ?_
                        rintro -
                        refine W_ret ?_
                        refine endAt_ret (by simp [boxA, AV.cells, AV.isCell, Try.f46]; exact .mk) ?_ ?_
                        · simp
                          unfold kindS at hf <;> (repeat' split at hf) <;> first | (show (_ : Nat) = _; omega) | (exfalso; omega) | (exfalso; simp_all; done)
                        · first | rfl | (exfalso; unfold kindS at hf <;> (repeat' split at hf) <;> first | (show (_ : Nat) = _; omega) | (exfalso; omega) | (exfalso; simp_all; done))
                      · intro h71
                        have k10 : o.act ≠ 5 := by simpa using h71
                        refine W_skip ?_
                        rintro -
                        refine W_seq ?_
                        refine W_reg rfl ?_
                        refine run_op rfl rfl rfl (by simp [boxA, AV.cells, AV.isCell]; exact .mk) ?_
                        refine run_op rfl rfl rfl (by simp [boxA, AV.cells, AV.isCell]; exact .mk) ?_
                        refine run_op rfl rfl rfl (by simp [boxA, AV.cells, AV.isCell]; exact .mk) ?_
                        refine run_end [4] (by simp) (by simp; exact .mk) ?_
                        rintro -
                        refine W_ret ?_
                        refine endAt_ret (by simp [boxA, AV.cells, AV.isCell, Try.f46]; exact .mk) ?_ ?_
                        · simp
                          unfold kindS at hf <;> (repeat' split at hf) <;> first | (show (_ : Nat) = _; omega) | (exfalso; omega) | (exfalso; simp_all; done)
                        · first | rfl | (exfalso; unfold kindS at hf <;> (repeat' split at hf) <;> first | (show (_ : Nat) = _; omega) | (exfalso; omega) | (exfalso; simp_all; done))
        · intro h21
          have k4 : ¬ o.act < 1 := by simpa using h21
          refine W_reg rfl ?_
          refine run_op rfl rfl rfl (by simp [boxA, AV.cells, AV.isCell]; exact .mk) ?_
          refine run_op rfl rfl rfl (by simp [boxA, AV.cells, AV.isCell]; exact .mk) ?_
          refine run_op rfl rfl rfl (by simp [boxA, AV.cells, AV.isCell, eqA, eqFs, isStructTy, eqlNeq, strOp, isBoolTy, isPtrTy, isFnTy]; exact .mk) ?_
          refine run_op rfl rfl rfl (by simp [boxA, AV.cells, AV.isCell]; exact .mk) ?_
          refine run_end [0, 3, 5, 21] (by simp) (by simp; exact .mk) ?_
          rintro -
          refine W_cond rfl ?_ ?_
          · intro h21'
            have k4' : o.act < 1 ∨ 8 < o.act := by simp at h21'; omega
            refine W_seq ?_
            refine W_reg rfl ?_
            refine run_op rfl rfl rfl (by simp [boxA, AV.cells, AV.isCell]; exact .mk) ?_
            refine run_inl0 rfl rfl rfl rfl (by simp [boxA, AV.cells, AV.isCell, calleeA]; exact .mk) ⟨_, Try.func81, rfl, rfl⟩ (in81 g o0 o1 o2 o3 _ a 1) (.inr ⟨_, rfl⟩) ?_
            refine run_op rfl rfl rfl (by simp [boxA, AV.cells, AV.isCell]; exact .mk) ?_
            refine run_end [4] (by simp) (by simp; exact .mk) ?_
            rintro -
            refine W_ret ?_
            refine endAt_ret (by simp [boxA, AV.cells, AV.isCell, Try.f46]; exact .mk) ?_ ?_
            · simp
              unfold kindS at hf <;> (repeat' split at hf) <;> first | (show (_ : Nat) = _; omega) | (exfalso; omega) | (exfalso; simp_all; done)
            · first | rfl | (exfalso; unfold kindS at hf <;> (repeat' split at hf) <;> first | (show (_ : Nat) = _; omega) | (exfalso; omega) | (exfalso; simp_all; done))
          · intro h21'
            have k4' : ¬ (o.act < 1 ∨ 8 < o.act) := by simp at h21'; omega
            refine W_seq ?_
            refine W_reg rfl ?_
            refine run_op rfl rfl rfl (by simp [boxA, AV.cells, AV.isCell]; exact .mk) ?_
            refine run_op rfl rfl rfl (by simp [boxA, AV.cells, AV.isCell]; exact .mk) ?_
            refine run_op rfl rfl rfl (by simp [boxA, AV.cells, AV.isCell, eqA, eqFs, isStructTy, eqlNeq, strOp, isBoolTy, isPtrTy, isFnTy]; exact .mk) ?_
            refine run_op rfl rfl rfl (by simp [boxA, AV.cells, AV.isCell]; exact .mk) ?_
            refine run_if rfl (by simp [boxA, AV.cells, AV.isCell]; exact .mk) rfl (by simp <;> omega) (fun hb => by simp [boxA, AV.cells, AV.isCell]; exact .mk) ?_
            refine run_if rfl (by simp [boxA, AV.cells, AV.isCell]; exact .mk) rfl (by simp <;> omega) (fun hb => by simp [boxA, AV.cells, AV.isCell]; exact .mk) ?_
            refine run_call rfl (by simp [boxA, AV.cells, AV.isCell]; exact .mk) rfl rfl (by simp) (by simp [boxA, AV.cells, AV.isCell, calleeA]; exact .mk) (by simp [boxA, AV.cells, AV.isCell, kindsOf, kinds, expAs, expA, row_rows, Function.comp_def]; exact .mk) (fun hb => ct77 g _ hn) (by simp [boxA, AV.cells, AV.isCell, D.noRo]) (by simp [boxA, AV.cells, AV.isCell, impA, impAs]; exact .mk) (by simp) ?_
            refine run_if rfl (by simp [boxA, AV.cells, AV.isCell]; exact .mk) rfl (by simp <;> omega) (fun hb => by simp [boxA, AV.cells, AV.isCell, unA]; exact .mk) ?_
            refine run_pick rfl (by simp [boxA, AV.cells, AV.isCell]; exact .mk) rfl rfl (by simp) (by simp [boxA, AV.cells, AV.isCell]; exact .mk) (by simp [boxA, AV.cells, AV.isCell]; exact .mk) (by simp; exact .mk) ?_
            refine run_op1 rfl rfl rfl (by simp <;> omega) (by simp [boxA, AV.cells, AV.isCell]; exact .mk) ?_
            refine run_end [0, 3, 5, 30] (by simp <;> omega) (by simp; exact .mk) ?_
            rintro -
            refine W_cond rfl ?_ ?_
            · intro h30
              have k5 : o.act = 6 ∧ nameS o.name = false := by simpa using h30
              refine W_seq ?_
              refine W_reg rfl ?_
              refine run_op rfl rfl rfl (by simp [boxA, AV.cells, AV.isCell]; exact .mk) ?_
              refine run_inl0 rfl rfl rfl rfl (by simp [boxA, AV.cells, AV.isCell, calleeA]; exact .mk) ⟨_, Try.func81, rfl, rfl⟩ (in81 g o0 o1 o2 o3 _ a 3) (.inr ⟨_, rfl⟩) ?_
              refine run_op rfl rfl rfl (by simp [boxA, AV.cells, AV.isCell]; exact .mk) ?_
              refine run_end [4] (by simp) (by simp; exact .mk) ?_
              rintro -
              refine W_ret ?_
              refine endAt_ret (by simp [boxA, AV.cells, AV.isCell, Try.f46]; exact .mk) ?_ ?_
              · simp
                unfold kindS at hf <;> (repeat' split at hf) <;> first | (show (_ : Nat) = _; omega) | (exfalso; omega) | (exfalso; simp_all; done)
              · first | rfl | (exfalso; unfold kindS at hf <;> (repeat' split at hf) <;> first | (show (_ : Nat) = _; omega) | (exfalso; omega) | (exfalso; simp_all; done))
            · intro h30
              have k5 : ¬ (o.act = 6 ∧ nameS o.name = false) := by simpa using h30
              refine W_seq ?_
              refine W_regD (by kernel_rfl) [] 4 [0, 1, 2, 3, 4, 5, 6, 7, 8] (by decide +kernel) ?_
              refine run_op rfl rfl rfl (by simp [boxA, AV.cells, AV.isCell]; exact .mk) ?_
              refine run_op rfl rfl rfl (by simp [boxA, AV.cells, AV.isCell]; exact .mk) ?_
              refine run_op rfl rfl rfl (by simp [boxA, AV.cells, AV.isCell]; exact .mk) ?_
              refine run_op rfl rfl rfl (by simp [boxA, AV.cells, AV.isCell]; exact .mk) ?_
              refine run_op rfl rfl rfl (by simp [boxA, AV.cells, AV.isCell]; exact .mk) ?_
              refine run_op rfl rfl rfl (by simp [boxA, AV.cells, AV.isCell]; exact .mk) ?_
              refine run_call0 rfl rfl rfl rfl (by simp [boxA, AV.cells, AV.isCell, calleeA]; exact .mk) (by simp [boxA, AV.cells, AV.isCell, kindsOf, kinds, expAs, expA, row_rows, Function.comp_def]; exact .mk) (ct85 g a _ _ hgd) (by simp [boxA, AV.cells, AV.isCell, D.noRo]) (by simp [boxA, AV.cells, AV.isCell, impA, impAs]; exact .mk) ?_
              refine run_op rfl rfl rfl (by simp [boxA, AV.cells, AV.isCell, unA]; exact .mk) ?_
              refine run_op rfl rfl rfl (by simp [boxA, AV.cells, AV.isCell]; exact .mk) ?_
              refine run_end [0, 3, 5, 42] (by simp) (by simp; exact .mk) ?_
              rintro -
              refine W_cond rfl ?_ ?_
              · intro h42
                have k6 : goodS a o.ix o.gen = false := by simpa using h42
                refine W_seq ?_
                refine W_reg rfl ?_
                refine run_op rfl rfl rfl (by simp [boxA, AV.cells, AV.isCell]; exact .mk) ?_
                refine run_inl0 rfl rfl rfl rfl (by simp [boxA, AV.cells, AV.isCell, calleeA]; exact .mk) ⟨_, Try.func81, rfl, rfl⟩ (in81 g o0 o1 o2 o3 _ a 8) (.inr ⟨_, rfl⟩) ?_
                refine run_op rfl rfl rfl (by simp [boxA, AV.cells, AV.isCell]; exact .mk) ?_
                refine run_end [4] (by simp) (by simp; exact .mk) ?_
                rintro -
                refine W_ret ?_
                refine endAt_ret (by simp [boxA, AV.cells, AV.isCell, Try.f46]; exact .mk) ?_ ?_
                · simp
                  unfold kindS at hf <;> (repeat' split at hf) <;> first | (show (_ : Nat) = _; omega) | (exfalso; omega) | (exfalso; simp_all; done)
                · first | rfl | (exfalso; unfold kindS at hf <;> (repeat' split at hf) <;> first | (show (_ : Nat) = _; omega) | (exfalso; omega) | (exfalso; simp_all; done))
              · intro h42
                have k6 : ¬ goodS a o.ix o.gen = false := by simpa using h42
                refine W_seq ?_
                refine W_reg rfl ?_
                refine run_op rfl rfl rfl (by simp [boxA, AV.cells, AV.isCell]; exact .mk) ?_
                refine run_op rfl rfl rfl (by simp [boxA, AV.cells, AV.isCell]; exact .mk) ?_
                refine run_op rfl rfl rfl (by simp [boxA, AV.cells, AV.isCell, eqA, eqFs, isStructTy, eqlNeq, strOp, isBoolTy, isPtrTy, isFnTy]; exact .mk) ?_
                refine run_op rfl rfl rfl (by simp [boxA, AV.cells, AV.isCell]; exact .mk) ?_
                refine run_end [0, 3, 53] (by simp) (by simp; exact .mk) ?_
                rintro -
                refine W_cond rfl ?_ ?_
                · intro h53
                  have k7 : o.act = 2 := by simpa using h53
                  refine W_seq ?_
                  refine W_reg rfl ?_
                  refine run_op rfl rfl rfl (by simp [boxA, AV.cells, AV.isCell]; exact .mk) ?_
                  refine run_op rfl rfl rfl (by simp [boxA, AV.cells, AV.isCell]; exact .mk) ?_
                  refine run_op rfl rfl rfl (by simp [boxA, AV.cells, AV.isCell]; exact .mk) ?_
                  refine run_end [4] (by simp) (by simp; exact .mk) ?_
                  rintro -
                  refine W_ret ?_
                  refine endAt_ret (by simp [boxA, AV.cells, AV.isCell, Try.f46]; exact .mk) ?_ ?_
                  · simp
                    unfold kindS at hf <;> (repeat' split at hf) <;> first | (show (_ : Nat) = _; omega) | (exfalso; omega) | (exfalso; simp_all; done)
                  · first | rfl | (exfalso; unfold kindS at hf <;> (repeat' split at hf) <;> first | (show (_ : Nat) = _; omega) | (exfalso; omega) | (exfalso; simp_all; done))
                · intro h53
                  have k7 : o.act ≠ 2 := by simpa using h53
                  refine W_seq ?_
                  refine W_reg rfl ?_
                  refine run_op rfl rfl rfl (by simp [boxA, AV.cells, AV.isCell]; exact .mk) ?_
                  refine run_op rfl rfl rfl (by simp [boxA, AV.cells, AV.isCell]; exact .mk) ?_
                  refine run_op rfl rfl rfl (by simp [boxA, AV.cells, AV.isCell, eqA, eqFs, isStructTy, eqlNeq, strOp, isBoolTy, isPtrTy, isFnTy]; exact .mk) ?_
                  refine run_op rfl rfl rfl (by simp [boxA, AV.cells, AV.isCell]; exact .mk) ?_
                  refine run_end [0, 3, 59] (by simp) (by simp; exact .mk) ?_
                  rintro -
                  refine W_cond rfl ?_ ?_
                  · intro h59
                    have k8 : o.act = 3 := by simpa using h59
                    refine W_seq ?_
                    refine W_reg rfl ?_
                    refine run_op rfl rfl rfl (by simp [boxA, AV.cells, AV.isCell]; exact .mk) ?_
                    refine run_op rfl rfl rfl (by simp [boxA, AV.cells, AV.isCell]; exact .mk) ?_
                    refine run_op rfl rfl rfl (by simp [boxA, AV.cells, AV.isCell]; exact .mk) ?_
                    refine run_end [4] (by simp) (by simp; exact .mk) ?_
                    rintro -
                    refine W_ret ?_
                    refine endAt_ret (by simp [boxA, AV.cells, AV.isCell, Try.f46]; exact .mk) ?_ ?_
                    · simp
                      unfold kindS at hf <;> (repeat' split at hf) <;> first | (show (_ : Nat) = _; omega) | (exfalso; omega) | (exfalso; simp_all; done)
                    · first | rfl | (exfalso; unfold kindS at hf <;> (repeat' split at hf) <;> first | (show (_ : Nat) = _; omega) | (exfalso; omega) | (exfalso; simp_all; done))
                  · intro h59
                    have k8 : o.act ≠ 3 := by simpa using h59
                    refine W_seq ?_
                    refine W_reg rfl ?_
                    refine run_op rfl rfl rfl (by simp [boxA, AV.cells, AV.isCell]; exact .mk) ?_
                    refine run_op rfl rfl rfl (by simp [boxA, AV.cells, AV.isCell]; exact .mk) ?_
                    refine run_op rfl rfl rfl (by simp [boxA, AV.cells, AV.isCell, eqA, eqFs, isStructTy, eqlNeq, strOp, isBoolTy, isPtrTy, isFnTy]; exact .mk) ?_
                    refine run_op rfl rfl rfl (by simp [boxA, AV.cells, AV.isCell]; exact .mk) ?_
                    refine run_end [0, 3, 65] (by simp) (by simp; exact .mk) ?_
                    rintro -
                    refine W_cond rfl ?_ ?_
                    · intro h65
                      have k9 : o.act = 4 := by simpa using h65
                      refine W_seq ?_
                      refine W_reg rfl ?_
                      refine run_op rfl rfl rfl (by simp [boxA, AV.cells, AV.isCell]; exact .mk) ?_
                      refine run_op rfl rfl rfl (by simp [boxA, AV.cells, AV.isCell]; exact .mk) ?_
                      refine run_op rfl rfl rfl (by simp [boxA, AV.cells, AV.isCell]; exact .mk) ?_
                      refine run_end [4] (by simp) (by simp; exact .mk) ?_
                      rintro -
                      refine W_ret ?_
                      refine endAt_ret (by simp [boxA, AV.cells, AV.isCell, Try.f46]; exact .mk) ?_ ?_
                      · simp
                        unfold kindS at hf <;> (repeat' split at hf) <;> first | (show (_ : Nat) = _; omega) | (exfalso; omega) | (exfalso; simp_all; done)
                      · first | rfl | (exfalso; unfold kindS at hf <;> (repeat' split at hf) <;> first | (show (_ : Nat) = _; omega) | (exfalso; omega) | (exfalso; simp_all; done))
                    · intro h65
                      have k9 : o.act ≠ 4 := by simpa using h65
                      refine W_seq ?_
                      refine W_reg rfl ?_
                      refine run_op rfl rfl rfl (by simp [boxA, AV.cells, AV.isCell]; exact .mk) ?_
                      refine run_op rfl rfl rfl (by simp [boxA, AV.cells, AV.isCell]; exact .mk) ?_
                      refine run_op rfl rfl rfl (by simp [boxA, AV.cells, AV.isCell, eqA, eqFs, isStructTy, eqlNeq, strOp, isBoolTy, isPtrTy, isFnTy]; exact .mk) ?_
                      refine run_op rfl rfl rfl (by simp [boxA, AV.cells, AV.isCell]; exact .mk) ?_
                      refine run_end [0, 71] (by simp) (by simp; exact .mk) ?_
                      rintro -
                      refine W_cond rfl ?_ ?_
                      · intro h71
                        have k10 : o.act = 5 := by simpa using h71
                        refine W_seq ?_
                        refine W_reg rfl ?_
                        refine run_op rfl rfl rfl (by simp [boxA, AV.cells, AV.isCell]; exact .mk) ?_
                        refine run_op rfl rfl rfl (by simp [boxA, AV.cells, AV.isCell]; exact .mk) ?_
                        refine run_op rfl rfl rfl (by simp [boxA, AV.cells, AV.isCell]; exact .mk) ?_
                        refine run_end [4] (by simp) (by simp; exact .mk) ?_
                        rintro -
                        refine W_ret ?_
                        refine endAt_ret (by simp [boxA, AV.cells, AV.isCell, Try.f46]; exact .mk) ?_ ?_
                        · simp
                          unfold kindS at hf <;> (repeat' split at hf) <;> first | (show (_ : Nat) = _; omega) | (exfalso; omega) | (exfalso; simp_all; done)
                        · first | rfl | (exfalso; unfold kindS at hf <;> (repeat' split at hf) <;> first | (show (_ : Nat) = _; omega) | (exfalso; omega) | (exfalso; simp_all; done))
                      · intro h71
                        have k10 : o.act ≠ 5 := by simpa using h71
                        refine W_skip ?_
                        rintro -
                        refine W_seq ?_
                        refine W_reg rfl ?_
                        refine run_op rfl rfl rfl (by simp [boxA, AV.cells, AV.isCell]; exact .mk) ?_
                        refine run_op rfl rfl rfl (by simp [boxA, AV.cells, AV.isCell]; exact .mk) ?_
                        refine run_op rfl rfl rfl (by simp [boxA, AV.cells, AV.isCell]; exact .mk) ?_
                        refine run_end [4] (by simp) (by simp; exact .mk) ?_
                        rintro -
                        refine W_ret ?_
                        refine endAt_ret (by simp [boxA, AV.cells, AV.isCell, Try.f46]; exact .mk) ?_ ?_
                        · simp
                          unfold kindS at hf <;> (repeat' split at hf) <;> first | (show (_ : Nat) = _; omega) | (exfalso; omega) | (exfalso; simp_all; done)
                        · first | rfl | (exfalso; unfold kindS at hf <;> (repeat' split at hf) <;> first | (show (_ : Nat) = _; omega) | (exfalso; omega) | (exfalso; simp_all; done))
    · intro h12
      have k2 : o.act ≠ 7 := by simpa using h12
      refine W_reg rfl ?_
      refine run_op rfl rfl rfl (by simp [boxA, AV.cells, AV.isCell]; exact .mk) ?_
      refine run_op rfl rfl rfl (by simp [boxA, AV.cells, AV.isCell]; exact .mk) ?_
      refine run_op rfl rfl rfl (by simp [boxA, AV.cells, AV.isCell, eqA, eqFs, isStructTy, eqlNeq, strOp, isBoolTy, isPtrTy, isFnTy]; exact .mk) ?_
      refine run_op rfl rfl rfl (by simp [boxA, AV.cells, AV.isCell]; exact .mk) ?_
      refine run_end [0, 3, 5, 12] (by simp) (by simp; exact .mk) ?_
      rintro -
      refine W_cond rfl ?_ ?_
      · intro h12'
        have k3 : o.act = 7 ∨ o.act = 8 := by simp at h12'; omega
        refine W_seq ?_
        refine W_reg rfl ?_
        refine run_op rfl rfl rfl (by simp [boxA, AV.cells, AV.isCell]; exact .mk) ?_
        refine run_op rfl rfl rfl (by simp [boxA, AV.cells, AV.isCell]; exact .mk) ?_
        refine run_op rfl rfl rfl (by simp [boxA, AV.cells, AV.isCell]; exact .mk) ?_
        refine run_end [4] (by simp) (by simp; exact .mk) ?_
        rintro -
        refine W_ret ?_
        refine endAt_ret (by simp [boxA, AV.cells, AV.isCell, Try.f46]; exact .mk) ?_ ?_
        · simp
          unfold kindS at hf <;> (repeat' split at hf) <;> first | (show (_ : Nat) = _; omega) | (exfalso; omega) | (exfalso; simp_all; done)
        · first | rfl | (exfalso; unfold kindS at hf <;> (repeat' split at hf) <;> first | (show (_ : Nat) = _; omega) | (exfalso; omega) | (exfalso; simp_all; done))
      · intro h12'
        have k3 : ¬ (o.act = 7 ∨ o.act = 8) := by simp at h12'; omega
        refine W_seq ?_
        refine W_seq ?_
        refine W_reg rfl ?_
        refine run_op rfl rfl rfl (by simp [boxA, AV.cells, AV.isCell]; exact .mk) ?_
        refine run_op rfl rfl rfl (by simp [boxA, AV.cells, AV.isCell]; exact .mk) ?_
        refine run_op rfl rfl rfl (by simp [boxA, AV.cells, AV.isCell, eqA, eqFs, isStructTy, eqlNeq, strOp, isBoolTy, isPtrTy, isFnTy]; exact .mk) ?_
        refine run_op rfl rfl rfl (by simp [boxA, AV.cells, AV.isCell]; exact .mk) ?_
        refine run_end [0, 3, 5, 21] (by simp) (by simp; exact .mk) ?_
        rintro -
        refine W_cond rfl ?_ ?_
        · intro h21
          have k4 : o.act < 1 := by simpa using h21
          refine W_skip ?_
          rintro -
          refine W_cond rfl ?_ ?_
          · intro h21'
            have k4' : o.act < 1 ∨ 8 < o.act := by simp at h21'; omega
            refine W_seq ?_
            refine W_reg rfl ?_
            refine run_op rfl rfl rfl (by simp [boxA, AV.cells, AV.isCell]; exact .mk) ?_
            refine run_inl0 rfl rfl rfl rfl (by simp [boxA, AV.cells, AV.isCell, calleeA]; exact .mk) ⟨_, Try.func81, rfl, rfl⟩ (in81 g o0 o1 o2 o3 _ a 1) (.inr ⟨_, rfl⟩) ?_
            refine run_op rfl rfl rfl (by simp [boxA, AV.cells, AV.isCell]; exact .mk) ?_
            refine run_end [4] (by simp) (by simp; exact .mk) ?_
            rintro -
            refine W_ret ?_
            refine endAt_ret (by simp [boxA, AV.cells, AV.isCell, Try.f46]; exact .mk) ?_ ?_
            · simp
              unfold kindS at hf <;> (repeat' split at hf) <;> first | (show (_ : Nat) = _; omega) | (exfalso; omega) | (exfalso; simp_all; done)
            · first | rfl | (exfalso; unfold kindS at hf <;> (repeat' split at hf) <;> first | (show (_ : Nat) = _; omega) | (exfalso; omega) | (exfalso; simp_all; done))
          · intro h21'
            have k4' : ¬ (o.act < 1 ∨ 8 < o.act) := by simp at h21'; omega
            refine W_seq ?_
            refine W_reg rfl ?_
            refine run_op rfl rfl rfl (by simp [boxA, AV.cells, AV.isCell]; exact .mk) ?_
            refine run_op rfl rfl rfl (by simp [boxA, AV.cells, AV.isCell]; exact .mk) ?_
            refine run_op rfl rfl rfl (by simp [boxA, AV.cells, AV.isCell, eqA, eqFs, isStructTy, eqlNeq, strOp, isBoolTy, isPtrTy, isFnTy]; exact .mk) ?_
            refine run_op rfl rfl rfl (by simp [boxA, AV.cells, AV.isCell]; exact .mk) ?_
            refine run_if rfl (by simp [boxA, AV.cells, AV.isCell]; exact .mk) rfl (by simp <;> omega) (fun hb => by simp [boxA, AV.cells, AV.isCell]; exact .mk) ?_
            refine run_if rfl (by simp [boxA, AV.cells, AV.isCell]; exact .mk) rfl (by simp <;> omega) (fun hb => by simp [boxA, AV.cells, AV.isCell]; exact .mk) ?_
            refine run_call rfl (by simp [boxA, AV.cells, AV.isCell]; exact .mk) rfl rfl (by simp) (by simp [boxA, AV.cells, AV.isCell, calleeA]; exact .mk) (by simp [boxA, AV.cells, AV.isCell, kindsOf, kinds, expAs, expA, row_rows, Function.comp_def]; exact .mk) (fun hb => ct77 g _ hn) (by simp [boxA, AV.cells, AV.isCell, D.noRo]) (by simp [boxA, AV.cells, AV.isCell, impA, impAs]; exact .mk) (by simp) ?_
            refine run_if rfl (by simp [boxA, AV.cells, AV.isCell]; exact .mk) rfl (by simp <;> omega) (fun hb => by simp [boxA, AV.cells, AV.isCell, unA]; exact .mk) ?_
            refine run_pick rfl (by simp [boxA, AV.cells, AV.isCell]; exact .mk) rfl rfl (by simp) (by simp [boxA, AV.cells, AV.isCell]; exact .mk) (by simp [boxA, AV.cells, AV.isCell]; exact .mk) (by simp; exact .mk) ?_
            refine run_op1 rfl rfl rfl (by simp <;> omega) (by simp [boxA, AV.cells, AV.isCell]; exact .mk) ?_
            refine run_end [0, 3, 5, 30] (by simp <;> omega) (by simp; exact .mk) ?_
            rintro -
            refine W_cond rfl ?_ ?_
            · intro h30
              have k5 : o.act = 6 ∧ nameS o.name = false := by simpa using h30
              refine W_seq ?_
              refine W_reg rfl ?_
              refine run_op rfl rfl rfl (by simp [boxA, AV.cells, AV.isCell]; exact .mk) ?_
              refine run_inl0 rfl rfl rfl rfl (by simp [boxA, AV.cells, AV.isCell, calleeA]; exact .mk) ⟨_, Try.func81, rfl, rfl⟩ (in81 g o0 o1 o2 o3 _ a 3) (.inr ⟨_, rfl⟩) ?_
              refine run_op rfl rfl rfl (by simp [boxA, AV.cells, AV.isCell]; exact .mk) ?_
              refine run_end [4] (by simp) (by simp; exact .mk) ?_
              rintro -
              refine W_ret ?_
              refine endAt_ret (by simp [boxA, AV.cells, AV.isCell, Try.f46]; exact .mk) ?_ ?_
              · simp
                unfold kindS at hf <;> (repeat' split at hf) <;> first | (show (_ : Nat) = _; omega) | (exfalso; omega) | (exfalso; simp_all; done)
              · first | rfl | (exfalso; unfold kindS at hf <;> (repeat' split at hf) <;> first | (show (_ : Nat) = _; omega) | (exfalso; omega) | (exfalso; simp_all; done))
            · intro h30
              have k5 : ¬ (o.act = 6 ∧ nameS o.name = false) := by simpa using h30
              refine W_seq ?_
              refine W_regD (by kernel_rfl) [] 4 [0, 1, 2, 3, 4, 5, 6, 7, 8] (by decide +kernel) ?_
              refine run_op rfl rfl rfl (by simp [boxA, AV.cells, AV.isCell]; exact .mk) ?_
              refine run_op rfl rfl rfl (by simp [boxA, AV.cells, AV.isCell]; exact .mk) ?_
              refine run_op rfl rfl rfl (by simp [boxA, AV.cells, AV.isCell]; exact .mk) ?_
              refine run_op rfl rfl rfl (by simp [boxA, AV.cells, AV.isCell]; exact .mk) ?_
              refine run_op rfl rfl rfl (by simp [boxA, AV.cells, AV.isCell]; exact .mk) ?_
              refine run_op rfl rfl rfl (by simp [boxA, AV.cells, AV.isCell]; exact .mk) ?_
              refine run_call0 rfl rfl rfl rfl (by simp [boxA, AV.cells, AV.isCell, calleeA]; exact .mk) (by simp [boxA, AV.cells, AV.isCell, kindsOf, kinds, expAs, expA, row_rows, Function.comp_def]; exact .mk) (ct85 g a _ _ hgd) (by simp [boxA, AV.cells, AV.isCell, D.noRo]) (by simp [boxA, AV.cells, AV.isCell, impA, impAs]; exact .mk) ?_
              refine run_op rfl rfl rfl (by simp [boxA, AV.cells, AV.isCell, unA]; exact .mk) ?_
              refine run_op rfl rfl rfl (by simp [boxA, AV.cells, AV.isCell]; exact .mk) ?_
              refine run_end [0, 3, 5, 42] (by simp) (by simp; exact .mk) ?_
              rintro -
              refine W_cond rfl ?_ ?_
              · intro h42
                have k6 : goodS a o.ix o.gen = false := by simpa using h42
                refine W_seq ?_
                refine W_reg rfl ?_
                refine run_op rfl rfl rfl (by simp [boxA, AV.cells, AV.isCell]; exact .mk) ?_
                refine run_inl0 rfl rfl rfl rfl (by simp [boxA, AV.cells, AV.isCell, calleeA]; exact .mk) ⟨_, Try.func81, rfl, rfl⟩ (in81 g o0 o1 o2 o3 _ a 8) (.inr ⟨_, rfl⟩) ?_
                refine run_op rfl rfl rfl (by simp [boxA, AV.cells, AV.isCell]; exact .mk) ?_
                refine run_end [4] (by simp) (by simp; exact .mk) ?_
                rintro -
                refine W_ret ?_
                refine endAt_ret (by simp [boxA, AV.cells, AV.isCell, Try.f46]; exact .mk) ?_ ?_
                · simp
                  unfold kindS at hf <;> (repeat' split at hf) <;> first | (show (_ : Nat) = _; omega) | (exfalso; omega) | (exfalso; simp_all; done)
                · first | rfl | (exfalso; unfold kindS at hf <;> (repeat' split at hf) <;> first | (show (_ : Nat) = _; omega) | (exfalso; omega) | (exfalso; simp_all; done))
              · intro h42
                have k6 : ¬ goodS a o.ix o.gen = false := by simpa using h42
                refine W_seq ?_
                refine W_reg rfl ?_
                refine run_op rfl rfl rfl (by simp [boxA, AV.cells, AV.isCell]; exact .mk) ?_
                refine run_op rfl rfl rfl (by simp [boxA, AV.cells, AV.isCell]; exact .mk) ?_
                refine run_op rfl rfl rfl (by simp [boxA, AV.cells, AV.isCell, eqA, eqFs, isStructTy, eqlNeq, strOp, isBoolTy, isPtrTy, isFnTy]; exact .mk) ?_
                refine run_op rfl rfl rfl (by simp [boxA, AV.cells, AV.isCell]; exact .mk) ?_
                refine run_end [0, 3, 53] (by simp) (by simp; exact .mk) ?_
                rintro -
                refine W_cond rfl ?_ ?_
                · intro h53
                  have k7 : o.act = 2 := by simpa using h53
                  refine W_seq ?_
                  refine W_reg rfl ?_
                  refine run_op rfl rfl rfl (by simp [boxA, AV.cells, AV.isCell]; exact .mk) ?_
                  refine run_op rfl rfl rfl (by simp [boxA, AV.cells, AV.isCell]; exact .mk) ?_
                  refine run_op rfl rfl rfl (by simp [boxA, AV.cells, AV.isCell]; exact .mk) ?_
                  refine run_end [4] (by simp) (by simp; exact .mk) ?_
                  rintro -
                  refine W_ret ?_
                  refine endAt_ret (by simp [boxA, AV.cells, AV.isCell, Try.f46]; exact .mk) ?_ ?_
                  · simp
                    unfold kindS at hf <;> (repeat' split at hf) <;> first | (show (_ : Nat) = _; omega) | (exfalso; omega) | (exfalso; simp_all; done)
                  · first | rfl | (exfalso; unfold kindS at hf <;> (repeat' split at hf) <;> first | (show (_ : Nat) = _; omega) | (exfalso; omega) | (exfalso; simp_all; done))
                · intro h53
                  have k7 : o.act ≠ 2 := by simpa using h53
                  refine W_seq ?_
                  refine W_reg rfl ?_
                  refine run_op rfl rfl rfl (by simp [boxA, AV.cells, AV.isCell]; exact .mk) ?_
                  refine run_op rfl rfl rfl (by simp [boxA, AV.cells, AV.isCell]; exact .mk) ?_
                  refine run_op rfl rfl rfl (by simp [boxA, AV.cells, AV.isCell, eqA, eqFs, isStructTy, eqlNeq, strOp, isBoolTy, isPtrTy, isFnTy]; exact .mk) ?_
                  refine run_op rfl rfl rfl (by simp [boxA, AV.cells, AV.isCell]; exact .mk) ?_
                  refine run_end [0, 3, 59] (by simp) (by simp; exact .mk) ?_
                  rintro -
                  refine W_cond rfl ?_ ?_
                  · intro h59
                    have k8 : o.act = 3 := by simpa using h59
                    refine W_seq ?_
                    refine W_reg rfl ?_
                    refine run_op rfl rfl rfl (by simp [boxA, AV.cells, AV.isCell]; exact .mk) ?_
                    refine run_op rfl rfl rfl (by simp [boxA, AV.cells, AV.isCell]; exact .mk) ?_
                    refine run_op rfl rfl rfl (by simp [boxA, AV.cells, AV.isCell]; exact .mk) ?_
                    refine run_end [4] (by simp) (by simp; exact .mk) ?_
                    rintro -
                    refine W_ret ?_
                    refine endAt_ret (by simp [boxA, AV.cells, AV.isCell, Try.f46]; exact .mk) ?_ ?_
                    · simp
                      unfold kindS at hf <;> (repeat' split at hf) <;> first | (show (_ : Nat) = _; omega) | (exfalso; omega) | (exfalso; simp_all; done)
                    · first | rfl | (exfalso; unfold kindS at hf <;> (repeat' split at hf) <;> first | (show (_ : Nat) = _; omega) | (exfalso; omega) | (exfalso; simp_all; done))
                  · intro h59
                    have k8 : o.act ≠ 3 := by simpa using h59
                    refine W_seq ?_
                    refine W_reg rfl ?_
                    refine run_op rfl rfl rfl (by simp [boxA, AV.cells, AV.isCell]; exact .mk) ?_
                    refine run_op rfl rfl rfl (by simp [boxA, AV.cells, AV.isCell]; exact .mk) ?_
                    refine run_op rfl rfl rfl (by simp [boxA, AV.cells, AV.isCell, eqA, eqFs, isStructTy, eqlNeq, strOp, isBoolTy, isPtrTy, isFnTy]; exact .mk) ?_
                    refine run_op rfl rfl rfl (by simp [boxA, AV.cells, AV.isCell]; exact .mk) ?_
                    refine run_end [0, 3, 65] (by simp) (by simp; exact .mk) ?_
                    rintro -
                    refine W_cond rfl ?_ ?_
                    · intro h65
                      have k9 : o.act = 4 := by simpa using h65
                      refine W_seq ?_
                      refine W_reg rfl ?_
                      refine run_op rfl rfl rfl (by simp [boxA, AV.cells, AV.isCell]; exact .mk) ?_
                      refine run_op rfl rfl rfl (by simp [boxA, AV.cells, AV.isCell]; exact .mk) ?_
                      refine run_op rfl rfl rfl (by simp [boxA, AV.cells, AV.isCell]; exact .mk) ?_
                      refine run_end [4] (by simp) (by simp; exact .mk) ?_
                      rintro -
                      refine W_ret ?_
                      refine endAt_ret (by simp [boxA, AV.cells, AV.isCell, Try.f46]; exact .mk) ?_ ?_
                      · simp
                        unfold kindS at hf <;> (repeat' split at hf) <;> first | (show (_ : Nat) = _; omega) | (exfalso; omega) | (exfalso; simp_all; done)
                      · first | rfl | (exfalso; unfold kindS at hf <;> (repeat' split at hf) <;> first | (show (_ : Nat) = _; omega) | (exfalso; omega) | (exfalso; simp_all; done))
                    · intro h65
                      have k9 : o.act ≠ 4 := by simpa using h65
                      refine W_seq ?_
                      refine W_reg rfl ?_
                      refine run_op rfl rfl rfl (by simp [boxA, AV.cells, AV.isCell]; exact .mk) ?_
                      refine run_op rfl rfl rfl (by simp [boxA, AV.cells, AV.isCell]; exact .mk) ?_
                      refine run_op rfl rfl rfl (by simp [boxA, AV.cells, AV.isCell, eqA, eqFs, isStructTy, eqlNeq, strOp, isBoolTy, isPtrTy, isFnTy]; exact .mk) ?_
                      refine run_op rfl rfl rfl (by simp [boxA, AV.cells, AV.isCell]; exact .mk) ?_
                      refine run_end [0, 71] (by simp) (by simp; exact .mk) ?_
                      rintro -
                      refine W_cond rfl ?_ ?_
                      · intro h71
                        have k10 : o.act = 5 := by simpa using h71
                        refine W_seq ?_
                        refine W_reg rfl ?_
                        refine run_op rfl rfl rfl (by simp [boxA, AV.cells, AV.isCell]; exact .mk) ?_
                        refine run_op rfl rfl rfl (by simp [boxA, AV.cells, AV.isCell]; exact .mk) ?_
                        refine run_op rfl rfl rfl (by simp [boxA, AV.cells, AV.isCell]; exact .mk) ?_
                        refine run_end [4] (by simp) (by simp; exact .mk) ?_
                        rintro -
                        refine W_ret ?_
                        refine endAt_ret (by simp [boxA, AV.cells, AV.isCell, Try.f46]; exact .mk) ?_ ?_
                        · simp
                          unfold kindS at hf <;> (repeat' split at hf) <;> first | (show (_ : Nat) = _; omega) | (exfalso; omega) | (exfalso; simp_all; done)
                        · first | rfl | (exfalso; unfold kindS at hf <;> (repeat' split at hf) <;> first | (show (_ : Nat) = _; omega) | (exfalso; omega) | (exfalso; simp_all; done))
                      · intro h71
                        have k10 : o.act ≠ 5 := by simpa using h71
                        refine W_skip ?_
                        rintro -
                        refine W_seq ?_
                        refine W_reg rfl ?_
                        refine run_op rfl rfl rfl (by simp [boxA, AV.cells, AV.isCell]; exact .mk) ?_
                        refine run_op rfl rfl rfl (by simp [boxA, AV.cells, AV.isCell]; exact .mk) ?_
                        refine run_op rfl rfl rfl (by simp [boxA, AV.cells, AV.isCell]; exact .mk) ?_
                        refine run_end [4] (by simp) (by simp; exact .mk) ?_
                        rintro -
                        refine W_ret ?_
                        refine endAt_ret (by simp [boxA, AV.cells, AV.isCell, Try.f46]; exact .mk) ?_ ?_
                        · simp
                          unfold kindS at hf <;> (repeat' split at hf) <;> first | (show (_ : Nat) = _; omega) | (exfalso; omega) | (exfalso; simp_all; done)
                        · first | rfl | (exfalso; unfold kindS at hf <;> (repeat' split at hf) <;> first | (show (_ : Nat) = _; omega) | (exfalso; omega) | (exfalso; simp_all; done))
        · intro h21
          have k4 : ¬ o.act < 1 := by simpa using h21
          refine W_reg rfl ?_
          refine run_op rfl rfl rfl (by simp [boxA, AV.cells, AV.isCell]; exact .mk) ?_
          refine run_op rfl rfl rfl (by simp [boxA, AV.cells, AV.isCell]; exact .mk) ?_
          refine run_op rfl rfl rfl (by simp [boxA, AV.cells, AV.isCell, eqA, eqFs, isStructTy, eqlNeq, strOp, isBoolTy, isPtrTy, isFnTy]; exact .mk) ?_
          refine run_op rfl rfl rfl (by simp [boxA, AV.cells, AV.isCell]; exact .mk) ?_
          refine run_end [0, 3, 5, 21] (by simp) (by simp; exact .mk) ?_
          rintro -
          refine W_cond rfl ?_ ?_
          · intro h21'
            have k4' : o.act < 1 ∨ 8 < o.act := by simp at h21'; omega
            refine W_seq ?_
            refine W_reg rfl ?_
            refine run_op rfl rfl rfl (by simp [boxA, AV.cells, AV.isCell]; exact .mk) ?_
            refine run_inl0 rfl rfl rfl rfl (by simp [boxA, AV.cells, AV.isCell, calleeA]; exact .mk) ⟨_, Try.func81, rfl, rfl⟩ (in81 g o0 o1 o2 o3 _ a 1) (.inr ⟨_, rfl⟩) ?_
            refine run_op rfl rfl rfl (by simp [boxA, AV.cells, AV.isCell]; exact .mk) ?_
            refine run_end [4] (by simp) (by simp; exact .mk) ?_
            rintro -
            refine W_ret ?_
            refine endAt_ret (by simp [boxA, AV.cells, AV.isCell, Try.f46]; exact .mk) ?_ ?_
            · simp
              unfold kindS at hf <;> (repeat' split at hf) <;> first | (show (_ : Nat) = _; omega) | (exfalso; omega) | (exfalso; simp_all; done)
            · first | rfl | (exfalso; unfold kindS at hf <;> (repeat' split at hf) <;> first | (show (_ : Nat) = _; omega) | (exfalso; omega) | (exfalso; simp_all; done))
          · intro h21'
            have k4' : ¬ (o.act < 1 ∨ 8 < o.act) := by simp at h21'; omega
            refine W_seq ?_
            refine W_reg rfl ?_
            refine run_op rfl rfl rfl (by simp [boxA, AV.cells, AV.isCell]; exact .mk) ?_
            refine run_op rfl rfl rfl (by simp [boxA, AV.cells, AV.isCell]; exact .mk) ?_
            refine run_op rfl rfl rfl (by simp [boxA, AV.cells, AV.isCell, eqA, eqFs, isStructTy, eqlNeq, strOp, isBoolTy, isPtrTy, isFnTy]; exact .mk) ?_
            refine run_op rfl rfl rfl (by simp [boxA, AV.cells, AV.isCell]; exact .mk) ?_
            refine run_if rfl (by simp [boxA, AV.cells, AV.isCell]; exact .mk) rfl (by simp <;> omega) (fun hb => by simp [boxA, AV.cells, AV.isCell]; exact .mk) ?_
            refine run_if rfl (by simp [boxA, AV.cells, AV.isCell]; exact .mk) rfl (by simp <;> omega) (fun hb => by simp [boxA, AV.cells, AV.isCell]; exact .mk) ?_
            refine run_call rfl (by simp [boxA, AV.cells, AV.isCell]; exact .mk) rfl rfl (by simp) (by simp [boxA, AV.cells, AV.isCell, calleeA]; exact .mk) (by simp [boxA, AV.cells, AV.isCell, kindsOf, kinds, expAs, expA, row_rows, Function.comp_def]; exact .mk) (fun hb => ct77 g _ hn) (by simp [boxA, AV.cells, AV.isCell, D.noRo]) (by simp [boxA, AV.cells, AV.isCell, impA, impAs]; exact .mk) (by simp) ?_
            refine run_if rfl (by simp [boxA, AV.cells, AV.isCell]; exact .mk) rfl (by simp <;> omega) (fun hb => by simp [boxA, AV.cells, AV.isCell, unA]; exact .mk) ?_
            refine run_pick rfl (by simp [boxA, AV.cells, AV.isCell]; exact .mk) rfl rfl (by simp) (by simp [boxA, AV.cells, AV.isCell]; exact .mk) (by simp [boxA, AV.cells, AV.isCell]; exact .mk) (by simp; exact .mk) ?_
            refine run_op1 rfl rfl rfl (by simp <;> omega) (by simp [boxA, AV.cells, AV.isCell]; exact .mk) ?_
            refine run_end [0, 3, 5, 30] (by simp <;> omega) (by simp; exact .mk) ?_
            rintro -
            refine W_cond rfl ?_ ?_
            · intro h30
              have k5 : o.act = 6 ∧ nameS o.name = false := by simpa using h30
              refine W_seq ?_
              refine W_reg rfl ?_
              refine run_op rfl rfl rfl (by simp [boxA, AV.cells, AV.isCell]; exact .mk) ?_
              refine run_inl0 rfl rfl rfl rfl (by simp [boxA, AV.cells, AV.isCell, calleeA]; exact .mk) ⟨_, Try.func81, rfl, rfl⟩ (in81 g o0 o1 o2 o3 _ a 3) (.inr ⟨_, rfl⟩) ?_
              refine run_op rfl rfl rfl (by simp [boxA, AV.cells, AV.isCell]; exact .mk) ?_
              refine run_end [4] (by simp) (by simp; exact .mk) ?_
              rintro -
              refine W_ret ?_
              refine endAt_ret (by simp [boxA, AV.cells, AV.isCell, Try.f46]; exact .mk) ?_ ?_
              · simp
                unfold kindS at hf <;> (repeat' split at hf) <;> first | (show (_ : Nat) = _; omega) | (exfalso; omega) | (exfalso; simp_all; done)
              · first | rfl | (exfalso; unfold kindS at hf <;> (repeat' split at hf) <;> first | (show (_ : Nat) = _; omega) | (exfalso; omega) | (exfalso; simp_all; done))
            · intro h30
              have k5 : ¬ (o.act = 6 ∧ nameS o.name = false) := by simpa using h30
              refine W_seq ?_
              refine W_regD (by kernel_rfl) [] 4 [0, 1, 2, 3, 4, 5, 6, 7, 8] (by decide +kernel) ?_
              refine run_op rfl rfl rfl (by simp [boxA, AV.cells, AV.isCell]; exact .mk) ?_
              refine run_op rfl rfl rfl (by simp [boxA, AV.cells, AV.isCell]; exact .mk) ?_
              refine run_op rfl rfl rfl (by simp [boxA, AV.cells, AV.isCell]; exact .mk) ?_
              refine run_op rfl rfl rfl (by simp [boxA, AV.cells, AV.isCell]; exact .mk) ?_
              refine run_op rfl rfl rfl (by simp [boxA, AV.cells, AV.isCell]; exact .mk) ?_
              refine run_op rfl rfl rfl (by simp [boxA, AV.cells, AV.isCell]; exact .mk) ?_
              refine run_call0 rfl rfl rfl rfl (by simp [boxA, AV.cells, AV.isCell, calleeA]; exact .mk) (by simp [boxA, AV.cells, AV.isCell, kindsOf, kinds, expAs, expA, row_rows, Function.comp_def]; exact .mk) (ct85 g a _ _ hgd) (by simp [boxA, AV.cells, AV.isCell, D.noRo]) (by simp [boxA, AV.cells, AV.isCell, impA, impAs]; exact .mk) ?_
              refine run_op rfl rfl rfl (by simp [boxA, AV.cells, AV.isCell, unA]; exact .mk) ?_
              refine run_op rfl rfl rfl (by simp [boxA, AV.cells, AV.isCell]; exact .mk) ?_
              refine run_end [0, 3, 5, 42] (by simp) (by simp; exact .mk) ?_
              rintro -
              refine W_cond rfl ?_ ?_
              · intro h42
                have k6 : goodS a o.ix o.gen = false := by simpa using h42
                refine W_seq ?_
                refine W_reg rfl ?_
                refine run_op rfl rfl rfl (by simp [boxA, AV.cells, AV.isCell]; exact .mk) ?_
                refine run_inl0 rfl rfl rfl rfl (by simp [boxA, AV.cells, AV.isCell, calleeA]; exact .mk) ⟨_, Try.func81, rfl, rfl⟩ (in81 g o0 o1 o2 o3 _ a 8) (.inr ⟨_, rfl⟩) ?_
                refine run_op rfl rfl rfl (by simp [boxA, AV.cells, AV.isCell]; exact .mk) ?_
                refine run_end [4] (by simp) (by simp; exact .mk) ?_
                rintro -
                refine W_ret ?_
                refine endAt_ret (by simp [boxA, AV.cells, AV.isCell, Try.f46]; exact .mk) ?_ ?_
                · simp
                  unfold kindS at hf <;> (repeat' split at hf) <;> first | (show (_ : Nat) = _; omega) | (exfalso; omega) | (exfalso; simp_all; done)
                · first | rfl | (exfalso; unfold kindS at hf <;> (repeat' split at hf) <;> first | (show (_ : Nat) = _; omega) | (exfalso; omega) | (exfalso; simp_all; done))
              · intro h42
                have k6 : ¬ goodS a o.ix o.gen = false := by simpa using h42
                refine W_seq ?_
                refine W_reg rfl ?_
                refine run_op rfl rfl rfl (by simp [boxA, AV.cells, AV.isCell]; exact .mk) ?_
                refine run_op rfl rfl rfl (by simp [boxA, AV.cells, AV.isCell]; exact .mk) ?_
                refine run_op rfl rfl rfl (by simp [boxA, AV.cells, AV.isCell, eqA, eqFs, isStructTy, eqlNeq, strOp, isBoolTy, isPtrTy, isFnTy]; exact .mk) ?_
                refine run_op rfl rfl rfl (by simp [boxA, AV.cells, AV.isCell]; exact .mk) ?_
                refine run_end [0, 3, 53] (by simp) (by simp; exact .mk) ?_
                rintro -
                refine W_cond rfl ?_ ?_
                · intro h53
                  have k7 : o.act = 2 := by simpa using h53
                  refine W_seq ?_
                  refine W_reg rfl ?_
                  refine run_op rfl rfl rfl (by simp [boxA, AV.cells, AV.isCell]; exact .mk) ?_
                  refine run_op rfl rfl rfl (by simp [boxA, AV.cells, AV.isCell]; exact .mk) ?_
                  refine run_op rfl rfl rfl (by simp [boxA, AV.cells, AV.isCell]; exact .mk) ?_
                  refine run_end [4] (by simp) (by simp; exact .mk) ?_
                  rintro -
                  refine W_ret ?_
                  refine endAt_ret (by simp [boxA, AV.cells, AV.isCell, Try.f46]; exact .mk) ?_ ?_
                  · simp
                    unfold kindS at hf <;> (repeat' split at hf) <;> first | (show (_ : Nat) = _; omega) | (exfalso; omega) | (exfalso; simp_all; done)
                  · first | rfl | (exfalso; unfold kindS at hf <;> (repeat' split at hf) <;> first | (show (_ : Nat) = _; omega) | (exfalso; omega) | (exfalso; simp_all; done))
                · intro h53
                  have k7 : o.act ≠ 2 := by simpa using h53
                  refine W_seq ?_
                  refine W_reg rfl ?_
                  refine run_op rfl rfl rfl (by simp [boxA, AV.cells, AV.isCell]; exact .mk) ?_
                  refine run_op rfl rfl rfl (by simp [boxA, AV.cells, AV.isCell]; exact .mk) ?_
                  refine run_op rfl rfl rfl (by simp [boxA, AV.cells, AV.isCell, eqA, eqFs, isStructTy, eqlNeq, strOp, isBoolTy, isPtrTy, isFnTy]; exact .mk) ?_
                  refine run_op rfl rfl rfl (by simp [boxA, AV.cells, AV.isCell]; exact .mk) ?_
                  refine run_end [0, 3, 59] (by simp) (by simp; exact .mk) ?_
                  rintro -
                  refine W_cond rfl ?_ ?_
                  · intro h59
                    have k8 : o.act = 3 := by simpa using h59
                    refine W_seq ?_
                    refine W_reg rfl ?_
                    refine run_op rfl rfl rfl (by simp [boxA, AV.cells, AV.isCell]; exact .mk) ?_
                    refine run_op rfl rfl rfl (by simp [boxA, AV.cells, AV.isCell]; exact .mk) ?_
                    refine run_op rfl rfl rfl (by simp [boxA, AV.cells, AV.isCell]; exact .mk) ?_
                    refine run_end [4] (by simp) (by simp; exact .mk) ?_
                    rintro -
                    refine W_ret ?_
                    refine endAt_ret (by simp [boxA, AV.cells, AV.isCell, Try.f46]; exact .mk) ?_ ?_
                    · simp
                      unfold kindS at hf <;> (repeat' split at hf) <;> first | (show (_ : Nat) = _; omega) | (exfalso; omega) | (exfalso; simp_all; done)
                    · first | rfl | (exfalso; unfold kindS at hf <;> (repeat' split at hf) <;> first | (show (_ : Nat) = _; omega) | (exfalso; omega) | (exfalso; simp_all; done))
                  · intro h59
                    have k8 : o.act ≠ 3 := by simpa using h59
                    refine W_seq ?_
                    refine W_reg rfl ?_
                    refine run_op rfl rfl rfl (by simp [boxA, AV.cells, AV.isCell]; exact .mk) ?_
                    refine run_op rfl rfl rfl (by simp [boxA, AV.cells, AV.isCell]; exact .mk) ?_
                    refine run_op rfl rfl rfl (by simp [boxA, AV.cells, AV.isCell, eqA, eqFs, isStructTy, eqlNeq, strOp, isBoolTy, isPtrTy, isFnTy]; exact .mk) ?_
                    refine run_op rfl rfl rfl (by simp [boxA, AV.cells, AV.isCell]; exact .mk) ?_
                    refine run_end [0, 3, 65] (by simp) (by simp; exact .mk) ?_
                    rintro -
                    refine W_cond rfl ?_ ?_
                    · intro h65
                      have k9 : o.act = 4 := by simpa using h65
                      refine W_seq ?_
                      refine W_reg rfl ?_
                      refine run_op rfl rfl rfl (by simp [boxA, AV.cells, AV.isCell]; exact .mk) ?_
                      refine run_op rfl rfl rfl (by simp [boxA, AV.cells, AV.isCell]; exact .mk) ?_
                      refine run_op rfl rfl rfl (by simp [boxA, AV.cells, AV.isCell]; exact .mk) ?_
                      refine run_end [4] (by simp) (by simp; exact .mk) ?_
                      rintro -
                      refine W_ret ?_
                      refine endAt_ret (by simp [boxA, AV.cells, AV.isCell, Try.f46]; exact .mk) ?_ ?_
                      · simp
                        unfold kindS at hf <;> (repeat' split at hf) <;> first | (show (_ : Nat) = _; omega) | (exfalso; omega) | (exfalso; simp_all; done)
                      · first | rfl | (exfalso; unfold kindS at hf <;> (repeat' split at hf) <;> first | (show (_ : Nat) = _; omega) | (exfalso; omega) | (exfalso; simp_all; done))
                    · intro h65
                      have k9 : o.act ≠ 4 := by simpa using h65
                      refine W_seq ?_
                      refine W_reg rfl ?_
                      refine run_op rfl rfl rfl (by simp [boxA, AV.cells, AV.isCell]; exact .mk) ?_
                      refine run_op rfl rfl rfl (by simp [boxA, AV.cells, AV.isCell]; exact .mk) ?_
                      refine run_op rfl rfl rfl (by simp [boxA, AV.cells, AV.isCell, eqA, eqFs, isStructTy, eqlNeq, strOp, isBoolTy, isPtrTy, isFnTy]; exact .mk) ?_
                      refine run_op rfl rfl rfl (by simp [boxA, AV.cells, AV.isCell]; exact .mk) ?_
                      refine run_end [0, 71] (by simp) (by simp; exact .mk) ?_
                      rintro -
                      refine W_cond rfl ?_ ?_
                      · intro h71
                        have k10 : o.act = 5 := by simpa using h71
                        refine W_seq ?_
                        refine W_reg rfl ?_
                        refine run_op rfl rfl rfl (by simp [boxA, AV.cells, AV.isCell]; exact .mk) ?_
                        refine run_op rfl rfl rfl (by simp [boxA, AV.cells, AV.isCell]; exact .mk) ?_
                        refine run_op rfl rfl rfl (by simp [boxA, AV.cells, AV.isCell]; exact .mk) ?_
                        refine run_end [4] (by simp) (by simp; exact .mk) ?_
                        rintro -
                        refine W_ret ?_
                        refine endAt_ret (by simp [boxA, AV.cells, AV.isCell, Try.f46]; exact .mk) ?_ ?_
                        · simp
                          unfold kindS at hf <;> (repeat' split at hf) <;> first | (show (_ : Nat) = _; omega) | (exfalso; omega) | (exfalso; simp_all; done)
                        · first | rfl | (exfalso; unfold kindS at hf <;> (repeat' split at hf) <;> first | (show (_ : Nat) = _; omega) | (exfalso; omega) | (exfalso; simp_all; done))
                      · intro h71
                        have k10 : o.act ≠ 5 := by simpa using h71
                        refine W_skip ?_
                        rintro -
                        refine W_seq ?_
                        refine W_reg rfl ?_
                        refine run_op rfl rfl rfl (by simp [boxA, AV.cells, AV.isCell]; exact .mk) ?_
                        refine run_op rfl rfl rfl (by simp [boxA, AV.cells, AV.isCell]; exact .mk) ?_
                        refine run_op rfl rfl rfl (by simp [boxA, AV.cells, AV.isCell]; exact .mk) ?_
                        refine run_end [4] (by simp) (by simp; exact .mk) ?_
                        rintro -
                        refine W_ret ?_
                        refine endAt_ret (by simp [boxA, AV.cells, AV.isCell, Try.f46]; exact .mk) ?_ ?_
                        · simp
                          unfold kindS at hf <;> (repeat' split at hf) <;> first | (show (_ : Nat) = _; omega) | (exfalso; omega) | (exfalso; simp_all; done)
                        · first | rfl | (exfalso; unfold kindS at hf <;> (repeat' split at hf) <;> first | (show (_ : Nat) = _; omega) | (exfalso; omega) | (exfalso; simp_all; done))

end Go.Proofs

set_option linter.unusedSimpArgs false
set_option linter.unusedVariables false
set_option maxHeartbeats 4000000
namespace Go.Proofs
open Go.Awp
theorem in46b (g : Gl) (o0 o1 o2 o3 : Awp.Obj) (a : Abs) (o : Op) (hgd : a.data.length = a.gens.length) (hn : o.name.size ≤ 2^40) (e : Nat) (he : 0 < e) (hf : kindS a o = -(e : Int)) : ∀ B S, CallsA Try.prog g B S ⟨8, true⟩ 46 [.ptr 7 0 0, .agg [.d (vI o.act), .d (vI o.ix), .d (vI o.gen), .d (vI o.n), .d (vI o.off), .d (rB o.b), .d (vS o.name)]] [o0, o1, o2, o3, .row 1 (a.gens.map vI), .row 1 (a.data.map oB), .row 3 (a.roots.map eRoot), .var 86 [.hdr 4 0 a.gens.length, .hdr 5 0 a.data.length, (.hdr 6 0 a.roots.length), .d (vI 0), .d (vI 0), .d (.v (.slice none 0 0))]]
    (fun x r => x = .fn (.func 82) [] [.ptr 9 0 0] ∧ r = [o0, o1, o2, o3, .row 1 (a.gens.map vI), .row 1 (a.data.map oB), .row 3 (a.roots.map eRoot), .var 86 [.hdr 4 0 a.gens.length, .hdr 5 0 a.data.length, (.hdr 6 0 a.roots.length), .d (vI 0), .d (vI 0), .d (.v (.slice none 0 0))], .var 31 [.d (vI o.act), .d (vI o.ix), .d (vI o.gen), .d (vI o.n), .d (vI o.off), .d (rB o.b), .d (vS o.name)], .var 37 [.d (vI e)]]) := by
  refine callsA_at Try.func46 rfl (Nat.le_of_ble_eq_true rfl) fun B S => ?_
  refine W_seq ?_
  refine W_reg rfl ?_
  refine run_op rfl rfl rfl (by simp [boxA, AV.cells, AV.isCell, boxA, AV.cells, AV.isCell]; exact .mk) ?_
  refine run_op rfl rfl rfl (by simp [boxA, AV.cells, AV.isCell]; exact .mk) ?_
  refine run_end [0, 3] (by simp) (by simp; exact .mk) ?_
  rintro -
  refine W_seq ?_
  refine W_reg rfl ?_
  refine run_op rfl rfl rfl (by simp [boxA, AV.cells, AV.isCell]; exact .mk) ?_
  refine run_end [0, 3, 5] (by simp) (by simp; exact .mk) ?_
  rintro -
  refine W_seq ?_
  refine W_block ?_
  refine W_seq ?_
  refine W_reg rfl ?_
  refine run_op rfl rfl rfl (by simp [boxA, AV.cells, AV.isCell]; exact .mk) ?_
  refine run_op rfl rfl rfl (by simp [boxA, AV.cells, AV.isCell]; exact .mk) ?_
  refine run_op rfl rfl rfl (by simp [boxA, AV.cells, AV.isCell, eqA, eqFs, isStructTy, eqlNeq, strOp, isBoolTy, isPtrTy, isFnTy]; exact .mk) ?_
  refine run_op rfl rfl rfl (by simp [boxA, AV.cells, AV.isCell]; exact .mk) ?_
  refine run_end [0, 3, 5, 6] (by simp) (by simp; exact .mk) ?_
  rintro -
  refine W_cond rfl ?_ ?_
  · intro h6
    have k1 : o.act = 1 := by simpa using h6
    refine W_seq ?_
    refine W_reg rfl ?_
    refine run_op rfl rfl rfl (by simp [boxA, AV.cells, AV.isCell]; exact .mk) ?_
    refine run_op rfl rfl rfl (by simp [boxA, AV.cells, AV.isCell]; exact .mk) ?_
    refine run_op rfl rfl rfl (by simp [boxA, AV.cells, AV.isCell]; exact .mk) ?_
    refine run_end [4] (by simp) (by simp; exact .mk) ?_
    rintro -
    refine W_ret ?_
    refine endAt_ret (by simp [boxA, AV.cells, AV.isCell, Try.f46]; exact .mk) ?_ ?_
    · first | rfl | (exfalso; unfold kindS at hf <;> (repeat' split at hf) <;> first | (show (_ : Nat) = _; omega) | (exfalso; omega) | (exfalso; simp_all; done))
    · first | (obtain rfl : e = 1 := by unfold kindS at hf <;> (repeat' split at hf) <;> first | (show (_ : Nat) = _; omega) | (exfalso; omega) | (exfalso; simp_all; done)
               rfl) | (obtain rfl : e = 3 := by unfold kindS at hf <;> (repeat' split at hf) <;> first | (show (_ : Nat) = _; omega) | (exfalso; omega) | (exfalso; simp_all; done)
                       rfl) | (obtain rfl : e = 8 := by unfold kindS at hf <;> (repeat' split at hf) <;> first | (show (_ : Nat) = _; omega) | (exfalso; omega) | (exfalso; simp_all; done)
                               rfl) | (exfalso; unfold kindS at hf <;> (repeat' split at hf) <;> first | (show (_ : Nat) = _; omega) | (exfalso; omega) | (exfalso; simp_all; done))
  · intro h6
    have k1 : o.act ≠ 1 := by simpa using h6
    refine W_seq ?_
    refine W_seq ?_
    refine W_reg rfl ?_
    refine run_op rfl rfl rfl (by simp [boxA, AV.cells, AV.isCell]; exact .mk) ?_
    refine run_op rfl rfl rfl (by simp [boxA, AV.cells, AV.isCell]; exact .mk) ?_
    refine run_op rfl rfl rfl (by simp [boxA, AV.cells, AV.isCell, eqA, eqFs, isStructTy, eqlNeq, strOp, isBoolTy, isPtrTy, isFnTy]; exact .mk) ?_
    refine run_op rfl rfl rfl (by simp [boxA, AV.cells, AV.isCell]; exact .mk) ?_
    refine run_end [0, 3, 5, 12] (by simp) (by simp; exact .mk) ?_
    rintro -
    refine W_cond rfl ?_ ?_
    · intro h12
      have k2 : o.act = 7 := by simpa using h12
      refine W_skip ?_
      rintro -
      refine W_cond rfl ?_ ?_
      · intro h12'
        have k3 : o.act = 7 ∨ o.act = 8 := by simp at h12'; omega
        refine W_seq ?_
        refine W_reg rfl ?_
        refine run_op rfl rfl rfl (by simp [boxA, AV.cells, AV.isCell]; exact .mk) ?_
        refine run_op rfl rfl rfl (by simp [boxA, AV.cells, AV.isCell]; exact .mk) ?_
        refine run_op rfl rfl rfl (by simp [boxA, AV.cells, AV.isCell]; exact .mk) ?_
        refine run_end [4] (by simp) (by simp; exact .mk) ?_
        rintro -
        refine W_ret ?_
        refine endAt_ret (by simp [boxA, AV.cells, AV.isCell, Try.f46]; exact .mk) ?_ ?_
        · first | rfl | (exfalso; unfold kindS at hf <;> (repeat' split at hf) <;> first | (show (_ : Nat) = _; omega) | (exfalso; omega) | (exfalso; simp_all; done))
        · first | (obtain rfl : e = 1 := by unfold kindS at hf <;> (repeat' split at hf) <;> first | (show (_ : Nat) = _; omega) | (exfalso; omega) | (exfalso; simp_all; done)
                   rfl) | (obtain rfl : e = 3 := by unfold kindS at hf <;> (repeat' split at hf) <;> first | (show (_ : Nat) = _; omega) | (exfalso; omega) | (exfalso; simp_all; done)
                           rfl) | (obtain rfl : e = 8 := by unfold kindS at hf <;> (repeat' split at hf) <;> first | (show (_ : Nat) = _; omega) | (exfalso; omega) | (exfalso; simp_all; done)
                                   rfl) | (exfalso; unfold kindS at hf <;> (repeat' split at hf) <;> first | (show (_ : Nat) = _; omega) | (exfalso; omega) | (exfalso; simp_all; done))
      · intro h12'
        have k3 : ¬ (o.act = 7 ∨ o.act = 8) := by simp at h12'; omega
        refine W_seq ?_
        refine W_seq ?_
        refine W_reg rfl ?_
        refine run_op rfl rfl rfl (by simp [boxA, AV.cells, AV.isCell]; exact .mk) ?_
        refine run_op rfl rfl rfl (by simp [boxA, AV.cells, AV.isCell]; exact .mk) ?_
        refine run_op rfl rfl rfl (by simp [boxA, AV.cells, AV.isCell, eqA, eqFs, isStructTy, eqlNeq, strOp, isBoolTy, isPtrTy, isFnTy]; exact .mk) ?_
        refine run_op rfl rfl rfl (by simp [boxA, AV.cells, AV.isCell]; exact .mk) ?_
        refine run_end [0, 3, 5, 21] (by simp) (by simp; exact .mk) ?_
        rintro -
        refine W_cond rfl ?_ ?_
        · intro h21
          have k4 : o.act < 1 := by simpa using h21
          refine W_skip ?_
          rintro -
          refine W_cond rfl ?_ ?_
          · intro h21'
            have k4' : o.act < 1 ∨ 8 < o.act := by simp at h21'; omega
            refine W_seq ?_
            refine W_reg rfl ?_
            refine run_op rfl rfl rfl (by simp [boxA, AV.cells, AV.isCell]; exact .mk) ?_
            refine run_inl0 rfl rfl rfl rfl (by simp [boxA, AV.cells, AV.isCell, calleeA]; exact .mk) ⟨_, Try.func81, rfl, rfl⟩ (in81 g o0 o1 o2 o3 _ a 1) (.inr ⟨_, rfl⟩) ?_
            refine run_op rfl rfl rfl (by simp [boxA, AV.cells, AV.isCell]; exact .mk) ?_
            refine run_end [4] (by simp) (by simp; exact .mk) ?_
            rintro -
            refine W_ret ?_
            refine endAt_ret (by simp [boxA, AV.cells, AV.isCell, Try.f46]; exact .mk) ?_ ?_
            · first | rfl | (exfalso; unfold kindS at hf <;> (repeat' split at hf) <;> first | (show (_ : Nat) = _; omega) | (exfalso; omega) | (exfalso; simp_all; done))
            · first | (obtain rfl : e = 1 := by unfold kindS at hf <;> (repeat' split at hf) <;> first | (show (_ : Nat) = _; omega) | (exfalso; omega) | (exfalso; simp_all; done)
                       rfl) | (obtain rfl : e = 3 := by unfold kindS at hf <;> (repeat' split at hf) <;> first | (show (_ : Nat) = _; omega) | (exfalso; omega) | (exfalso; simp_all; done)
                               rfl) | (obtain rfl : e = 8 := by unfold kindS at hf <;> (repeat' split at hf) <;> first | (show (_ : Nat) = _; omega) | (exfalso; omega) | (exfalso; simp_all; done)
                                       rfl) | (exfalso; unfold kindS at hf <;> (repeat' split at hf) <;> first | (show (_ : Nat) = _; omega) | (exfalso; omega) | (exfalso; simp_all; done))
          · intro h21'
            have k4' : ¬ (o.act < 1 ∨ 8 < o.act) := by simp at h21'; omega
            refine W_seq ?_
            refine W_reg rfl ?_
            refine run_op rfl rfl rfl (by simp [boxA, AV.cells, AV.isCell]; exact .mk) ?_
            refine run_op rfl rfl rfl (by simp [boxA, AV.cells, AV.isCell]; exact .mk) ?_
            refine run_op rfl rfl rfl (by simp [boxA, AV.cells, AV.isCell, eqA, eqFs, isStructTy, eqlNeq, strOp, isBoolTy, isPtrTy, isFnTy]; exact .mk) ?_
            refine run_op rfl rfl rfl (by simp [boxA, AV.cells, AV.isCell]; exact .mk) ?_
            refine run_if rfl (by simp [boxA, AV.cells, AV.isCell]; exact .mk) rfl (by simp <;> omega) (fun hb => by simp [boxA, AV.cells, AV.isCell]; exact .mk) ?_
            refine run_if rfl (by simp [boxA, AV.cells, AV.isCell]; exact .mk) rfl (by simp <;> omega) (fun hb => by simp [boxA, AV.cells, AV.isCell]; exact .mk) ?_
            refine run_call rfl (by simp [boxA, AV.cells, AV.isCell]; exact .mk) rfl rfl (by simp) (by simp [boxA, AV.cells, AV.isCell, calleeA]; exact .mk) (by simp [boxA, AV.cells, AV.isCell, kindsOf, kinds, expAs, expA, row_rows, Function.comp_def]; exact .mk) (fun hb => ct77 g _ hn) (by simp [boxA, AV.cells, AV.isCell, D.noRo]) (by simp [boxA, AV.cells, AV.isCell, impA, impAs]; exact .mk) (by simp) ?_
            refine run_if rfl (by simp [boxA, AV.cells, AV.isCell]; exact .mk) rfl (by simp <;> omega) (fun hb => by simp [boxA, AV.cells, AV.isCell, unA]; exact .mk) ?_
            refine run_pick rfl (by simp [boxA, AV.cells, AV.isCell]; exact .mk) rfl rfl (by simp) (by simp [boxA, AV.cells, AV.isCell]; exact .mk) (by simp [boxA, AV.cells, AV.isCell]; exact .mk) (by simp; exact .mk) ?_
            refine run_op1 rfl rfl rfl (by simp <;> omega) (by simp [boxA, AV.cells, AV.isCell]; exact .mk) ?_
            refine run_end [0, 3, 5, 30] (by simp <;> omega) (by simp; exact .mk) ?_
            rintro -
            refine W_cond rfl ?_ ?_
            · intro h30
              have k5 : o.act = 6 ∧ nameS o.name = false := by simpa using h30
              refine W_seq ?_
              refine W_reg rfl ?_
              refine run_op rfl rfl rfl (by simp [boxA, AV.cells, AV.isCell]; exact .mk) ?_
              refine run_inl0 rfl rfl rfl rfl (by simp [boxA, AV.cells, AV.isCell, calleeA]; exact .mk) ⟨_, Try.func81, rfl, rfl⟩ (in81 g o0 o1 o2 o3 _ a 3) (.inr ⟨_, rfl⟩) ?_
              refine run_op rfl rfl rfl (by simp [boxA, AV.cells, AV.isCell]; exact .mk) ?_
              refine run_end [4] (by simp) (by simp; exact .mk) ?_
              rintro -
              refine W_ret ?_
              refine endAt_ret (by simp [boxA, AV.cells, AV.isCell, Try.f46]; exact .mk) ?_ ?_
              · first | rfl | (exfalso; unfold kindS at hf <;> (repeat' split at hf) <;> first | (show (_ : Nat) = _; omega) | (exfalso; omega) | (exfalso; simp_all; done))
              · first | (obtain rfl : e = 1 := by unfold kindS at hf <;> (repeat' split at hf) <;> first | (show (_ : Nat) = _; omega) | (exfalso; omega) | (exfalso; simp_all; done)
                         rfl) | (obtain rfl : e = 3 := by unfold kindS at hf <;> (repeat' split at hf) <;> first | (show (_ : Nat) = _; omega) | (exfalso; omega) | (exfalso; simp_all; done)
                                 rfl) | (obtain rfl : e = 8 := by unfold kindS at hf <;> (repeat' split at hf) <;> first | (show (_ : Nat) = _; omega) | (exfalso; omega) | (exfalso; simp_all; done)
                                         rfl) | (exfalso; unfold kindS at hf <;> (repeat' split at hf) <;> first | (show (_ : Nat) = _; omega) | (exfalso; omega) | (exfalso; simp_all; done))
            · intro h30
              have k5 : ¬ (o.act = 6 ∧ nameS o.name = false) := by simpa using h30
              refine W_seq ?_
              refine W_regD (by kernel_rfl) [] 4 [0, 1, 2, 3, 4, 5, 6, 7, 8] (by decide +kernel) ?_
              refine run_op rfl rfl rfl (by simp [boxA, AV.cells, AV.isCell]; exact .mk) ?_
              refine run_op rfl rfl rfl (by simp [boxA, AV.cells, AV.isCell]; exact .mk) ?_
              refine run_op rfl rfl rfl (by simp [boxA, AV.cells, AV.isCell]; exact .mk) ?_
              refine run_op rfl rfl rfl (by simp [boxA, AV.cells, AV.isCell]; exact .mk) ?_
              refine run_op rfl rfl rfl (by simp [boxA, AV.cells, AV.isCell]; exact .mk) ?_
              refine run_op rfl rfl rfl (by simp [boxA, AV.cells, AV.isCell]; exact .mk) ?_
              refine run_call0 rfl rfl rfl rfl (by simp [boxA, AV.cells, AV.isCell, calleeA]; exact .mk) (by simp [boxA, AV.cells, AV.isCell, kindsOf, kinds, expAs, expA, row_rows, Function.comp_def]; exact .mk) (ct85 g a _ _ hgd) (by simp [boxA, AV.cells, AV.isCell, D.noRo]) (by simp [boxA, AV.cells, AV.isCell, impA, impAs]; exact .mk) ?_
              refine run_op rfl rfl rfl (by simp [boxA, AV.cells, AV.isCell, unA]; exact .mk) ?_
              refine run_op rfl rfl rfl (by simp [boxA, AV.cells, AV.isCell]; exact .mk) ?_
              refine run_end [0, 3, 5, 42] (by simp) (by simp; exact .mk) ?_
              rintro -
              refine W_cond rfl ?_ ?_
              · intro h42
                have k6 : goodS a o.ix o.gen = false := by simpa using h42
                refine W_seq ?_
                refine W_reg rfl ?_
                refine run_op rfl rfl rfl (by simp [boxA, AV.cells, AV.isCell]; exact .mk) ?_
                refine run_inl0 rfl rfl rfl rfl (by simp [boxA, AV.cells, AV.isCell, calleeA]; exact .mk) ⟨_, Try.func81, rfl, rfl⟩ (in81 g o0 o1 o2 o3 _ a 8) (.inr ⟨_, rfl⟩) ?_
                refine run_op rfl rfl rfl (by simp [boxA, AV.cells, AV.isCell]; exact .mk) ?_
                refine run_end [4] (by simp) (by simp; exact .mk) ?_
                rintro -
                refine W_ret ?_
                refine endAt_ret (by simp [boxA, AV.cells, AV.isCell, Try.f46]; exact .mk) ?_ ?_
                · first | rfl | (exfalso; unfold kindS at hf <;> (repeat' split at hf) <;> first | (show (_ : Nat) = _; omega) | (exfalso; omega) | (exfalso; simp_all; done))
                · first | (obtain rfl : e = 1 := by unfold kindS at hf <;> (repeat' split at hf) <;> first | (show (_ : Nat) = _; omega) | (exfalso; omega) | (exfalso; simp_all; done)
                           rfl) | (obtain rfl : e = 3 := by unfold kindS at hf <;> (repeat' split at hf) <;> first | (show (_ : Nat) = _; omega) | (exfalso; omega) | (exfalso; simp_all; done)
                                   rfl) | (obtain rfl : e = 8 := by unfold kindS at hf <;> (repeat' split at hf) <;> first | (show (_ : Nat) = _; omega) | (exfalso; omega) | (exfalso; simp_all; done)
                                           rfl) | (exfalso; unfold kindS at hf <;> (repeat' split at hf) <;> first | (show (_ : Nat) = _; omega) | (exfalso; omega) | (exfalso; simp_all; done))
              · intro h42
                have k6 : ¬ goodS a o.ix o.gen = false := by simpa using h42
                refine W_seq ?_
                refine W_reg rfl ?_
                refine run_op rfl rfl rfl (by simp [boxA, AV.cells, AV.isCell]; exact .mk) ?_
                refine run_op rfl rfl rfl (by simp [boxA, AV.cells, AV.isCell]; exact .mk) ?_
                refine run_op rfl rfl rfl (by simp [boxA, AV.cells, AV.isCell, eqA, eqFs, isStructTy, eqlNeq, strOp, isBoolTy, isPtrTy, isFnTy]; exact .mk) ?_
                refine run_op rfl rfl rfl (by simp [boxA, AV.cells, AV.isCell]; exact .mk) ?_
                refine run_end [0, 3, 53] (by simp) (by simp; exact .mk) ?_
                rintro -
                refine W_cond rfl ?_ ?_
                · intro h53
                  have k7 : o.act = 2 := by simpa using h53
                  refine W_seq ?_
                  refine W_reg rfl ?_
                  refine run_op rfl rfl rfl (by simp [boxA, AV.cells, AV.isCell]; exact .mk) ?_
                  refine run_op rfl rfl rfl (by simp [boxA, AV.cells, AV.isCell]; exact .mk) ?_
                  refine run_op rfl rfl rfl (by simp [boxA, AV.cells, AV.isCell]; exact .mk) ?_
                  refine run_end [4] (by simp) (by simp; exact .mk) ?_
                  rintro -
                  refine W_ret ?_
                  refine endAt_ret (by simp [boxA, AV.cells, AV.isCell, Try.f46]; exact .mk) ?_ ?_
                  · first | rfl | (exfalso; unfold kindS at hf <;> (repeat' split at hf) <;> first | (show (_ : Nat) = _; omega) | (exfalso; omega) | (exfalso; simp_all; done))
                  · first | (obtain rfl : e = 1 := by unfold kindS at hf <;> (repeat' split at hf) <;> first | (show (_ : Nat) = _; omega) | (exfalso; omega) | (exfalso; simp_all; done)
                             rfl) | (obtain rfl : e = 3 := by unfold kindS at hf <;> (repeat' split at hf) <;> first | (show (_ : Nat) = _; omega) | (exfalso; omega) | (exfalso; simp_all; done)
                                     rfl) | (obtain rfl : e = 8 := by unfold kindS at hf <;> (repeat' split at hf) <;> first | (show (_ : Nat) = _; omega) | (exfalso; omega) | (exfalso; simp_all; done)
                                             rfl) | (exfalso; unfold kindS at hf <;> (repeat' split at hf) <;> first | (show (_ : Nat) = _; omega) | (exfalso; omega) | (exfalso; simp_all; done))
                · intro h53
                  have k7 : o.act ≠ 2 := by simpa using h53
                  refine W_seq ?_
                  refine W_reg rfl ?_
                  refine run_op rfl rfl rfl (by simp [boxA, AV.cells, AV.isCell]; exact .mk) ?_
                  refine run_op rfl rfl rfl (by simp [boxA, AV.cells, AV.isCell]; exact .mk) ?_
                  refine run_op rfl rfl rfl (by simp [boxA, AV.cells, AV.isCell, eqA, eqFs, isStructTy, eqlNeq, strOp, isBoolTy, isPtrTy, isFnTy]; exact .mk) ?_
                  refine run_op rfl rfl rfl (by simp [boxA, AV.cells, AV.isCell]; exact .mk) ?_
                  refine run_end [0, 3, 59] (by simp) (by simp; exact .mk) ?_
                  rintro -
                  refine W_cond rfl ?_ ?_
                  · intro h59
                    have k8 : o.act = 3 := by simpa using h59
                    refine W_seq ?_
                    refine W_reg rfl ?_
                    refine run_op rfl rfl rfl (by simp [boxA, AV.cells, AV.isCell]; exact .mk) ?_
                    refine run_op rfl rfl rfl (by simp [boxA, AV.cells, AV.isCell]; exact .mk) ?_
                    refine run_op rfl rfl rfl (by simp [boxA, AV.cells, AV.isCell]; exact .mk) ?_
                    refine run_end [4] (by simp) (by simp; exact .mk) ?_
                    rintro -
                    refine W_ret ?_
                    refine endAt_ret (by simp [boxA, AV.cells, AV.isCell, Try.f46]; exact .mk) ?_ ?_
                    · first | rfl | (exfalso; unfold kindS at hf <;> (repeat' split at hf) <;> first | (show (_ : Nat) = _; omega) | (exfalso; omega) | (exfalso; simp_all; done))
                    · first | (obtain rfl : e = 1 := by unfold kindS at hf <;> (repeat' split at hf) <;> first | (show (_ : Nat) = _; omega) | (exfalso; omega) | (exfalso; simp_all; done)
                               rfl) | (obtain rfl : e = 3 := by unfold kindS at hf <;> (repeat' split at hf) <;> first | (show (_ : Nat) = _; omega) | (exfalso; omega) | (exfalso; simp_all; done)
                                       rfl) | (obtain rfl : e = 8 := by unfold kindS at hf <;> (repeat' split at hf) <;> first | (show (_ : Nat) = _; omega) | (exfalso; omega) | (exfalso; simp_all; done)
                                               rfl) | (exfalso; unfold kindS at hf <;> (repeat' split at hf) <;> first | (show (_ : Nat) = _; omega) | (exfalso; omega) | (exfalso; simp_all; done))
                  · intro h59
                    have k8 : o.act ≠ 3 := by simpa using h59
                    refine W_seq ?_
                    refine W_reg rfl ?_
                    refine run_op rfl rfl rfl (by simp [boxA, AV.cells, AV.isCell]; exact .mk) ?_
                    refine run_op rfl rfl rfl (by simp [boxA, AV.cells, AV.isCell]; exact .mk) ?_
                    refine run_op rfl rfl rfl (by simp [boxA, AV.cells, AV.isCell, eqA, eqFs, isStructTy, eqlNeq, strOp, isBoolTy, isPtrTy, isFnTy]; exact .mk) ?_
                    refine run_op rfl rfl rfl (by simp [boxA, AV.cells, AV.isCell]; exact .mk) ?_
                    refine run_end [0, 3, 65] (by simp) (by simp; exact .mk) ?_
                    rintro -
                    refine W_cond rfl ?_ ?_
                    · intro h65
                      have k9 : o.act = 4 := by simpa using h65
                      refine W_seq ?_
                      refine W_reg rfl ?_
                      refine run_op rfl rfl rfl (by simp [boxA, AV.cells, AV.isCell]; exact .mk) ?_
                      refine run_op rfl rfl rfl (by simp [boxA, AV.cells, AV.isCell]; exact .mk) ?_
                      refine run_op rfl rfl rfl (by simp [boxA, AV.cells, AV.isCell]; exact .mk) ?_
                      refine run_end [4] (by simp) (by simp; exact .mk) ?_
                      rintro -
                      refine W_ret ?_
                      refine endAt_ret (by simp [boxA, AV.cells, AV.isCell, Try.f46]; exact .mk) ?_ ?_
                      · first | rfl | (exfalso; unfold kindS at hf <;> (repeat' split at hf) <;> first | (show (_ : Nat) = _; omega) | (exfalso; omega) | (exfalso; simp_all; done))
                      · first | (obtain rfl : e = 1 := by unfold kindS at hf <;> (repeat' split at hf) <;> first | (show (_ : Nat) = _; omega) | (exfalso; omega) | (exfalso; simp_all; done)
                                 rfl) | (obtain rfl : e = 3 := by unfold kindS at hf <;> (repeat' split at hf) <;> first | (show (_ : Nat) = _; omega) | (exfalso; omega) | (exfalso; simp_all; done)
                                         rfl) | (obtain rfl : e = 8 := by unfold kindS at hf <;> (repeat' split at hf) <;> first | (show (_ : Nat) = _; omega) | (exfalso; omega) | (exfalso; simp_all; done)
                                                 rfl) | (exfalso; unfold kindS at hf <;> (repeat' split at hf) <;> first | (show (_ : Nat) = _; omega) | (exfalso; omega) | (exfalso; simp_all; done))
                    · intro h65
                      have k9 : o.act ≠ 4 := by simpa using h65
                      refine W_seq ?_
                      refine W_reg rfl ?_
                      refine run_op rfl rfl rfl (by simp [boxA, AV.cells, AV.isCell]; exact .mk) ?_
                      refine run_op rfl rfl rfl (by simp [boxA, AV.cells, AV.isCell]; exact .mk) ?_
                      refine run_op rfl rfl rfl (by simp [boxA, AV.cells, AV.isCell, eqA, eqFs, isStructTy, eqlNeq, strOp, isBoolTy, isPtrTy, isFnTy]; exact .mk) ?_
                      refine run_op rfl rfl rfl (by simp [boxA, AV.cells, AV.isCell]; exact .mk) ?_
                      refine run_end [0, 71] (by simp) (by simp; exact .mk) ?_
                      rintro -
                      refine W_cond rfl ?_ ?_
                      · intro h71
                        have k10 : o.act = 5 := by simpa using h71
                        refine W_seq ?_
                        refine W_reg rfl ?_
                        refine run_op rfl rfl rfl (by simp [boxA, AV.cells, AV.isCell]; exact .mk) ?_
                        refine run_op rfl rfl rfl (by simp [boxA, AV.cells, AV.isCell]; exact .mk) ?_
                        refine run_op rfl rfl rfl (by simp [boxA, AV.cells, AV.isCell]; exact .mk) ?_
                        refine run_end [4] (by simp) (by simp; exact .mk) ?_
                        rintro -
                        refine W_ret ?_
                        refine endAt_ret (by simp [boxA, AV.cells, AV.isCell, Try.f46]; exact .mk) ?_ ?_
                        · first | rfl | (exfalso; unfold kindS at hf <;> (repeat' split at hf) <;> first | (show (_ : Nat) = _; omega) | (exfalso; omega) | (exfalso; simp_all; done))
                        · first | (obtain rfl : e = 1 := by unfold kindS at hf <;> (repeat' split at hf) <;> first | (show (_ : Nat) = _; omega) | (exfalso; omega) | (exfalso; simp_all; done)
                                   rfl) | (obtain rfl : e = 3 := by unfold kindS at hf <;> (repeat' split at hf) <;> first | (show (_ : Nat) = _; omega) | (exfalso; omega) | (exfalso; simp_all; done)
                                           rfl) | (obtain rfl : e = 8 := by unfold kindS at hf <;> (repeat' split at hf) <;> first | (show (_ : Nat) = _; omega) | (exfalso; omega) | (exfalso; simp_all; done)
                                                   rfl) | (exfalso; unfold kindS at hf <;> (repeat' split at hf) <;> first | (show (_ : Nat) = _; omega) | (exfalso; omega) | (exfalso; simp_all; done))
                      · intro h71
                        have k10 : o.act ≠ 5 := by simpa using h71
                        refine W_skip ?_
                        rintro -
                        refine W_seq ?_
                        refine W_reg rfl ?_
                        refine run_op rfl rfl rfl (by simp [boxA, AV.cells, AV.isCell]; exact .mk) ?_
                        refine run_op rfl rfl rfl (by simp [boxA, AV.cells, AV.isCell]; exact .mk) ?_
                        refine run_op rfl rfl rfl (by simp [boxA, AV.cells, AV.isCell]; exact .mk) ?_
                        refine run_end [4] (by simp) (by simp; exact .mk) ?_
                        rintro -
                        refine W_ret ?_
                        refine endAt_ret (by simp [boxA, AV.cells, AV.isCell, Try.f46]; exact .mk) ?_ ?_
                        · first | rfl | (exfalso; unfold kindS at hf <;> (repeat' split at hf) <;> first | (show (_ : Nat) = _; omega) | (exfalso; omega) | (exfalso; simp_all; done))
                        · first | (obtain rfl : e = 1 := by unfold kindS at hf <;> (repeat' split at hf) <;> first | (show (_ : Nat) = _; omega) | (exfalso; omega) | (exfalso; simp_all; done)
                                   rfl) | (obtain rfl : e = 3 := by unfold kindS at hf <;> (repeat' split at hf) <;> first | (show (_ : Nat) = _; omega) | (exfalso; omega) | (exfalso; simp_all; done)
                                           rfl) | (obtain rfl : e = 8 := by unfold kindS at hf <;> (repeat' split at hf) <;> first | (show (_ : Nat) = _; omega) | (exfalso; omega) | (exfalso; simp_all; done)
                                                   rfl) | (exfalso; unfold kindS at hf <;> (repeat' split at hf) <;> first | (show (_ : Nat) = _; omega) | (exfalso; omega) | (exfalso; simp_all; done))
        · intro h21
          have k4 : ¬ o.act < 1 := by simpa using h21
          refine W_reg rfl ?_
          refine run_op rfl rfl rfl (by simp [boxA, AV.cells, AV.isCell]; exact .mk) ?_
          refine run_op rfl rfl rfl (by simp [boxA, AV.cells, AV.isCell]; exact .mk) ?_
          refine run_op rfl rfl rfl (by simp [boxA, AV.cells, AV.isCell, eqA, eqFs, isStructTy, eqlNeq, strOp, isBoolTy, isPtrTy, isFnTy]; exact .mk) ?_
          refine run_op rfl rfl rfl (by simp [boxA, AV.cells, AV.isCell]; exact .mk) ?_
          refine run_end [0, 3, 5, 21] (by simp) (by simp; exact .mk) ?_
          rintro -
          refine W_cond rfl ?_ ?_
          · intro h21'
            have k4' : o.act < 1 ∨ 8 < o.act := by simp at h21'; omega
            refine W_seq ?_
            refine W_reg rfl ?_
            refine run_op rfl rfl rfl (by simp [boxA, AV.cells, AV.isCell]; exact .mk) ?_
            refine run_inl0 rfl rfl rfl rfl (by simp [boxA, AV.cells, AV.isCell, calleeA]; exact .mk) ⟨_, Try.func81, rfl, rfl⟩ (in81 g o0 o1 o2 o3 _ a 1) (.inr ⟨_, rfl⟩) ?_
            refine run_op rfl rfl rfl (by simp [boxA, AV.cells, AV.isCell]; exact .mk) ?_
            refine run_end [4] (by simp) (by simp; exact .mk) ?_
            rintro -
            refine W_ret ?_
            refine endAt_ret (by simp [boxA, AV.cells, AV.isCell, Try.f46]; exact .mk) ?_ ?_
            · first | rfl | (exfalso; unfold kindS at hf <;> (repeat' split at hf) <;> first | (show (_ : Nat) = _; omega) | (exfalso; omega) | (exfalso; simp_all; done))
            · first | (obtain rfl : e = 1 := by unfold kindS at hf <;> (repeat' split at hf) <;> first | (show (_ : Nat) = _; omega) | (exfalso; omega) | (exfalso; simp_all; done)
                       rfl) | (obtain rfl : e = 3 := by unfold kindS at hf <;> (repeat' split at hf) <;> first | (show (_ : Nat) = _; omega) | (exfalso; omega) | (exfalso; simp_all; done)
                               rfl) | (obtain rfl : e = 8 := by unfold kindS at hf <;> (repeat' split at hf) <;> first | (show (_ : Nat) = _; omega) | (exfalso; omega) | (exfalso; simp_all; done)
                                       rfl) | (exfalso; unfold kindS at hf <;> (repeat' split at hf) <;> first | (show (_ : Nat) = _; omega) | (exfalso; omega) | (exfalso; simp_all; done))
          · intro h21'
            have k4' : ¬ (o.act < 1 ∨ 8 < o.act) := by simp at h21'; omega
            refine W_seq ?_
            refine W_reg rfl ?_
            refine run_op rfl rfl rfl (by simp [boxA, AV.cells, AV.isCell]; exact .mk) ?_
            refine run_op rfl rfl rfl (by simp [boxA, AV.cells, AV.isCell]; exact .mk) ?_
            refine run_op rfl rfl rfl (by simp [boxA, AV.cells, AV.isCell, eqA, eqFs, isStructTy, eqlNeq, strOp, isBoolTy, isPtrTy, isFnTy]; exact .mk) ?_
            refine run_op rfl rfl rfl (by simp [boxA, AV.cells, AV.isCell]; exact .mk) ?_
            refine run_if rfl (by simp [boxA, AV.cells, AV.isCell]; exact .mk) rfl (by simp <;> omega) (fun hb => by simp [boxA, AV.cells, AV.isCell]; exact .mk) ?_
            refine run_if rfl (by simp [boxA, AV.cells, AV.isCell]; exact .mk) rfl (by simp <;> omega) (fun hb => by simp [boxA, AV.cells, AV.isCell]; exact .mk) ?_
            refine run_call rfl (by simp [boxA, AV.cells, AV.isCell]; exact .mk) rfl rfl (by simp) (by simp [boxA, AV.cells, AV.isCell, calleeA]; exact .mk) (by simp [boxA, AV.cells, AV.isCell, kindsOf, kinds, expAs, expA, row_rows, Function.comp_def]; exact .mk) (fun hb => ct77 g _ hn) (by simp [boxA, AV.cells, AV.isCell, D.noRo]) (by simp [boxA, AV.cells, AV.isCell, impA, impAs]; exact .mk) (by simp) ?_
            refine run_if rfl (by simp [boxA, AV.cells, AV.isCell]; exact .mk) rfl (by simp <;> omega) (fun hb => by simp [boxA, AV.cells, AV.isCell, unA]; exact .mk) ?_
            refine run_pick rfl (by simp [boxA, AV.cells, AV.isCell]; exact .mk) rfl rfl (by simp) (by simp [boxA, AV.cells, AV.isCell]; exact .mk) (by simp [boxA, AV.cells, AV.isCell]; exact .mk) (by simp; exact .mk) ?_
            refine run_op1 rfl rfl rfl (by simp <;> omega) (by simp [boxA, AV.cells, AV.isCell]; exact .mk) ?_
            refine run_end [0, 3, 5, 30] (by simp <;> omega) (by simp; exact .mk) ?_
            rintro -
            refine W_cond rfl ?_ ?_
            · intro h30
              have k5 : o.act = 6 ∧ nameS o.name = false := by simpa using h30
              refine W_seq ?_
              refine W_reg rfl ?_
              refine run_op rfl rfl rfl (by simp [boxA, AV.cells, AV.isCell]; exact .mk) ?_
              refine run_inl0 rfl rfl rfl rfl (by simp [boxA, AV.cells, AV.isCell, calleeA]; exact .mk) ⟨_, Try.func81, rfl, rfl⟩ (in81 g o0 o1 o2 o3 _ a 3) (.inr ⟨_, rfl⟩) ?_
              refine run_op rfl rfl rfl (by simp [boxA, AV.cells, AV.isCell]; exact .mk) ?_
              refine run_end [4] (by simp) (by simp; exact .mk) ?_
              rintro -
              refine W_ret ?_
              refine endAt_ret (by simp [boxA, AV.cells, AV.isCell, Try.f46]; exact .mk) ?_ ?_
              · first | rfl | (exfalso; unfold kindS at hf <;> (repeat' split at hf) <;> first | (show (_ : Nat) = _; omega) | (exfalso; omega) | (exfalso; simp_all; done))
              · first | (obtain rfl : e = 1 := by unfold kindS at hf <;> (repeat' split at hf) <;> first | (show (_ : Nat) = _; omega) | (exfalso; omega) | (exfalso; simp_all; done)
                         rfl) | (obtain rfl : e = 3 := by unfold kindS at hf <;> (repeat' split at hf) <;> first | (show (_ : Nat) = _; omega) | (exfalso; omega) | (exfalso; simp_all; done)
                                 rfl) | (obtain rfl : e = 8 := by unfold kindS at hf <;> (repeat' split at hf) <;> first | (show (_ : Nat) = _; omega) | (exfalso; omega) | (exfalso; simp_all; done)
                                         rfl) | (exfalso; unfold kindS at hf <;> (repeat' split at hf) <;> first | (show (_ : Nat) = _; omega) | (exfalso; omega) | (exfalso; simp_all; done))
            · intro h30
              have k5 : ¬ (o.act = 6 ∧ nameS o.name = false) := by simpa using h30
              refine W_seq ?_
              refine W_regD (by kernel_rfl) [] 4 [0, 1, 2, 3, 4, 5, 6, 7, 8] (by decide +kernel) ?_
              refine run_op rfl rfl rfl (by simp [boxA, AV.cells, AV.isCell]; exact .mk) ?_
              refine run_op rfl rfl rfl (by simp [boxA, AV.cells, AV.isCell]; exact .mk) ?_
              refine run_op rfl rfl rfl (by simp [boxA, AV.cells, AV.isCell]; exact .mk) ?_
              refine run_op rfl rfl rfl (by simp [boxA, AV.cells, AV.isCell]; exact .mk) ?_
              refine run_op rfl rfl rfl (by simp [boxA, AV.cells, AV.isCell]; exact .mk) ?_
              refine run_op rfl rfl rfl (by simp [boxA, AV.cells, AV.isCell]; exact .mk) ?_
              refine run_call0 rfl rfl rfl rfl (by simp [boxA, AV.cells, AV.isCell, calleeA]; exact .mk) (by simp [boxA, AV.cells, AV.isCell, kindsOf, kinds, expAs, expA, row_rows, Function.comp_def]; exact .mk) (ct85 g a _ _ hgd) (by simp [boxA, AV.cells, AV.isCell, D.noRo]) (by simp [boxA, AV.cells, AV.isCell, impA, impAs]; exact .mk) ?_
              refine run_op rfl rfl rfl (by simp [boxA, AV.cells, AV.isCell, unA]; exact .mk) ?_
              refine run_op rfl rfl rfl (by simp [boxA, AV.cells, AV.isCell]; exact .mk) ?_
              refine run_end [0, 3, 5, 42] (by simp) (by simp; exact .mk) ?_
              rintro -
              refine W_cond rfl ?_ ?_
              · intro h42
                have k6 : goodS a o.ix o.gen = false := by simpa using h42
                refine W_seq ?_
                refine W_reg rfl ?_
                refine run_op rfl rfl rfl (by simp [boxA, AV.cells, AV.isCell]; exact .mk) ?_
                refine run_inl0 rfl rfl rfl rfl (by simp [boxA, AV.cells, AV.isCell, calleeA]; exact .mk) ⟨_, Try.func81, rfl, rfl⟩ (in81 g o0 o1 o2 o3 _ a 8) (.inr ⟨_, rfl⟩) ?_
                refine run_op rfl rfl rfl (by simp [boxA, AV.cells, AV.isCell]; exact .mk) ?_
                refine run_end [4] (by simp) (by simp; exact .mk) ?_
                rintro -
                refine W_ret ?_
                refine endAt_ret (by simp [boxA, AV.cells, AV.isCell, Try.f46]; exact .mk) ?_ ?_
                · first | rfl | (exfalso; unfold kindS at hf <;> (repeat' split at hf) <;> first | (show (_ : Nat) = _; omega) | (exfalso; omega) | (exfalso; simp_all; done))
                · first | (obtain rfl : e = 1 := by unfold kindS at hf <;> (repeat' split at hf) <;> first | (show (_ : Nat) = _; omega) | (exfalso; omega) | (exfalso; simp_all; done)
                           rfl) | (obtain rfl : e = 3 := by unfold kindS at hf <;> (repeat' split at hf) <;> first | (show (_ : Nat) = _; omega) | (exfalso; omega) | (exfalso; simp_all; done)
                                   rfl) | (obtain rfl : e = 8 := by unfold kindS at hf <;> (repeat' split at hf) <;> first | (show (_ : Nat) = _; omega) | (exfalso; omega) | (exfalso; simp_all; done)
                                           rfl) | (exfalso; unfold kindS at hf <;> (repeat' split at hf) <;> first | (show (_ : Nat) = _; omega) | (exfalso; omega) | (exfalso; simp_all; done))
              · intro h42
                have k6 : ¬ goodS a o.ix o.gen = false := by simpa using h42
                refine W_seq ?_
                refine W_reg rfl ?_
                refine run_op rfl rfl rfl (by simp [boxA, AV.cells, AV.isCell]; exact .mk) ?_
                refine run_op rfl rfl rfl (by simp [boxA, AV.cells, AV.isCell]; exact .mk) ?_
                refine run_op rfl rfl rfl (by simp [boxA, AV.cells, AV.isCell, eqA, eqFs, isStructTy, eqlNeq, strOp, isBoolTy, isPtrTy, isFnTy]; exact .mk) ?_
                refine run_op rfl rfl rfl (by simp [boxA, AV.cells, AV.isCell]; exact .mk) ?_
                refine run_end [0, 3, 53] (by simp) (by simp; exact .mk) ?_
                rintro -
                refine W_cond rfl ?_ ?_
                · intro h53
                  have k7 : o.act = 2 := by simpa using h53
                  refine W_seq ?_
                  refine W_reg rfl ?_
                  refine run_op rfl rfl rfl (by simp [boxA, AV.cells, AV.isCell]; exact .mk) ?_
                  refine run_op rfl rfl rfl (by simp [boxA, AV.cells, AV.isCell]; exact .mk) ?_
                  refine run_op rfl rfl rfl (by simp [boxA, AV.cells, AV.isCell]; exact .mk) ?_
                  refine run_end [4] (by simp) (by simp; exact .mk) ?_
                  rintro -
                  refine W_ret ?_
                  refine endAt_ret (by simp [boxA, AV.cells, AV.isCell, Try.f46]; exact .mk) ?_ ?_
                  · first | rfl | (exfalso; unfold kindS at hf <;> (repeat' split at hf) <;> first | (show (_ : Nat) = _; omega) | (exfalso; omega) | (exfalso; simp_all; done))
                  · first | (obtain rfl : e = 1 := by unfold kindS at hf <;> (repeat' split at hf) <;> first | (show (_ : Nat) = _; omega) | (exfalso; omega) | (exfalso; simp_all; done)
                             rfl) | (obtain rfl : e = 3 := by unfold kindS at hf <;> (repeat' split at hf) <;> first | (show (_ : Nat) = _; omega) | (exfalso; omega) | (exfalso; simp_all; done)
                                     rfl) | (obtain rfl : e = 8 := by unfold kindS at hf <;> (repeat' split at hf) <;> first | (show (_ : Nat) = _; omega) | (exfalso; omega) | (exfalso; simp_all; done)
                                             rfl) | (exfalso; unfold kindS at hf <;> (repeat' split at hf) <;> first | (show (_ : Nat) = _; omega) | (exfalso; omega) | (exfalso; simp_all; done))
                · intro h53
                  have k7 : o.act ≠ 2 := by simpa using h53
                  refine W_seq ?_
                  refine W_reg rfl ?_
                  refine run_op rfl rfl rfl (by simp [boxA, AV.cells, AV.isCell]; exact .mk) ?_
                  refine run_op rfl rfl rfl (by simp [boxA, AV.cells, AV.isCell]; exact .mk) ?_
                  refine run_op rfl rfl rfl (by simp [boxA, AV.cells, AV.isCell, eqA, eqFs, isStructTy, eqlNeq, strOp, isBoolTy, isPtrTy, isFnTy]; exact .mk) ?_
                  refine run_op rfl rfl rfl (by simp [boxA, AV.cells, AV.isCell]; exact .mk) ?_
                  refine run_end [0, 3, 59] (by simp) (by simp; exact .mk) ?_
                  rintro -
                  refine W_cond rfl ?_ ?_
                  · intro h59
                    have k8 : o.act = 3 := by simpa using h59
                    refine W_seq ?_
                    refine W_reg rfl ?_
                    refine run_op rfl rfl rfl (by simp [boxA, AV.cells, AV.isCell]; exact .mk) ?_
                    refine run_op rfl rfl rfl (by simp [boxA, AV.cells, AV.isCell]; exact .mk) ?_
                    refine run_op rfl rfl rfl (by simp [boxA, AV.cells, AV.isCell]; exact .mk) ?_
                    refine run_end [4] (by simp) (by simp; exact .mk) ?_
                    rintro -
                    refine W_ret ?_
                    refine endAt_ret (by simp [boxA, AV.cells, AV.isCell, Try.f46]; exact .mk) ?_ ?_
                    · first | rfl | (exfalso; unfold kindS at hf <;> (repeat' split at hf) <;> first | (show (_ : Nat) = _; omega) | (exfalso; omega) | (exfalso; simp_all; done))
                    · first | (obtain rfl : e = 1 := by unfold kindS at hf <;> (repeat' split at hf) <;> first | (show (_ : Nat) = _; omega) | (exfalso; omega) | (exfalso; simp_all; done)
                               rfl) | (obtain rfl : e = 3 := by unfold kindS at hf <;> (repeat' split at hf) <;> first | (show (_ : Nat) = _; omega) | (exfalso; omega) | (exfalso; simp_all; done)
                                       rfl) | (obtain rfl : e = 8 := by unfold kindS at hf <;> (repeat' split at hf) <;> first | (show (_ : Nat) = _; omega) | (exfalso; omega) | (exfalso; simp_all; done)
                                               rfl) | (exfalso; unfold kindS at hf <;> (repeat' split at hf) <;> first | (show (_ : Nat) = _; omega) | (exfalso; omega) | (exfalso; simp_all; done))
                  · intro h59
                    have k8 : o.act ≠ 3 := by simpa using h59
                    refine W_seq ?_
                    refine W_reg rfl ?_
                    refine run_op rfl rfl rfl (by simp [boxA, AV.cells, AV.isCell]; exact .mk) ?_
                    refine run_op rfl rfl rfl (by simp [boxA, AV.cells, AV.isCell]; exact .mk) ?_
                    refine run_op rfl rfl rfl (by simp [boxA, AV.cells, AV.isCell, eqA, eqFs, isStructTy, eqlNeq, strOp, isBoolTy, isPtrTy, isFnTy]; exact .mk) ?_
                    refine run_op rfl rfl rfl (by simp [boxA, AV.cells, AV.isCell]; exact .mk) ?_
                    refine run_end [0, 3, 65] (by simp) (by simp; exact .mk) ?_
                    rintro -
                    refine W_cond rfl ?_ ?_
                    · intro h65
                      have k9 : o.act = 4 := by simpa using h65
                      refine W_seq ?_
                      refine W_reg rfl ?_
                      refine run_op rfl rfl rfl (by simp [boxA, AV.cells, AV.isCell]; exact .mk) ?_
                      refine run_op rfl rfl rfl (by simp [boxA, AV.cells, AV.isCell]; exact .mk) ?_
                      refine run_op rfl rfl rfl (by simp [boxA, AV.cells, AV.isCell]; exact .mk) ?_
                      refine run_end [4] (by simp) (by simp; exact .mk) ?_
                      rintro -
                      refine W_ret ?_
                      refine endAt_ret (by simp [boxA, AV.cells, AV.isCell, Try.f46]; exact .mk) ?_ ?_
                      · first | rfl | (exfalso; unfold kindS at hf <;> (repeat' split at hf) <;> first | (show (_ : Nat) = _; omega) | (exfalso; omega) | (exfalso; simp_all; done))
                      · first | (obtain rfl : e = 1 := by unfold kindS at hf <;> (repeat' split at hf) <;> first | (show (_ : Nat) = _; omega) | (exfalso; omega) | (exfalso; simp_all; done)
                                 rfl) | (obtain rfl : e = 3 := by unfold kindS at hf <;> (repeat' split at hf) <;> first | (show (_ : Nat) = _; omega) | (exfalso; omega) | (exfalso; simp_all; done)
                                         rfl) | (obtain rfl : e = 8 := by unfold kindS at hf <;> (repeat' split at hf) <;> first | (show (_ : Nat) = _; omega) | (exfalso; omega) | (exfalso; simp_all; done)
                                                 rfl) | (exfalso; unfold kindS at hf <;> (repeat' split at hf) <;> first | (show (_ : Nat) = _; omega) | (exfalso; omega) | (exfalso; simp_all; done))
                    · intro h65
                      have k9 : o.act ≠ 4 := by simpa using h65
                      refine W_seq ?_
                      refine W_reg rfl ?_
                      refine run_op rfl rfl rfl (by simp [boxA, AV.cells, AV.isCell]; exact .mk) ?_
                      refine run_op rfl rfl rfl (by simp [boxA, AV.cells, AV.isCell]; exact .mk) ?_
                      refine run_op rfl rfl rfl (by simp [boxA, AV.cells, AV.isCell, eqA, eqFs, isStructTy, eqlNeq, strOp, isBoolTy, isPtrTy, isFnTy]; exact .mk) ?_
                      refine run_op rfl rfl rfl (by simp [boxA, AV.cells, AV.isCell]; exact .mk) ?_
                      refine run_end [0, 71] (by simp) (by simp; exact .mk) ?_
                      rintro -
                      refine W_cond rfl ?_ ?_
                      · intro h71
                        have k10 : o.act = 5 := by simpa using h71
                        refine W_seq ?_
                        refine W_reg rfl ?_
                        refine run_op rfl rfl rfl (by simp [boxA, AV.cells, AV.isCell]; exact .mk) ?_
                        refine run_op rfl rfl rfl (by simp [boxA, AV.cells, AV.isCell]; exact .mk) ?_
                        refine run_op rfl rfl rfl (by simp [boxA, AV.cells, AV.isCell]; exact .mk) ?_
                        refine run_end [4] (by simp) (by simp; exact .mk) ?_
                        rintro -
                        refine W_ret ?_
                        refine endAt_ret (by simp [boxA, AV.cells, AV.isCell, Try.f46]; exact .mk) ?_ ?_
                        · first | rfl | (exfalso; unfold kindS at hf <;> (repeat' split at hf) <;> first | (show (_ : Nat) = _; omega) | (exfalso; omega) | (exfalso; simp_all; done))
                        · first | (obtain rfl : e = 1 := by unfold kindS at hf <;> (repeat' split at hf) <;> first | (show (_ : Nat) = _; omega) | (exfalso; omega) | (exfalso; simp_all; done)
                                   rfl) | (obtain rfl : e = 3 := by unfold kindS at hf <;> (repeat' split at hf) <;> first | (show (_ : Nat) = _; omega) | (exfalso; omega) | (exfalso; simp_all; done)
                                           rfl) | (obtain rfl : e = 8 := by unfold kindS at hf <;> (repeat' split at hf) <;> first | (show (_ : Nat) = _; omega) | (exfalso; omega) | (exfalso; simp_all; done)
                                                   rfl) | (exfalso; unfold kindS at hf <;> (repeat' split at hf) <;> first | (show (_ : Nat) = _; omega) | (exfalso; omega) | (exfalso; simp_all; done))
                      · intro h71
                        have k10 : o.act ≠ 5 := by simpa using h71
                        refine W_skip ?_
                        rintro -
                        refine W_seq ?_
                        refine W_reg rfl ?_
                        refine run_op rfl rfl rfl (by simp [boxA, AV.cells, AV.isCell]; exact .mk) ?_
                        refine run_op rfl rfl rfl (by simp [boxA, AV.cells, AV.isCell]; exact .mk) ?_
                        refine run_op rfl rfl rfl (by simp [boxA, AV.cells, AV.isCell]; exact .mk) ?_
                        refine run_end [4] (by simp) (by simp; exact .mk) ?_
                        rintro -
                        refine W_ret ?_
                        refine endAt_ret (by simp [boxA, AV.cells, AV.isCell, Try.f46]; exact .mk) ?_ ?_
                        · first | rfl | (exfalso; unfold kindS at hf <;> (repeat' split at hf) <;> first | (show (_ : Nat) = _; omega) | (exfalso; omega) | (exfalso; simp_all; done))
                        · first | (obtain rfl : e = 1 := by unfold kindS at hf <;> (repeat' split at hf) <;> first | (show (_ : Nat) = _; omega) | (exfalso; omega) | (exfalso; simp_all; done)
                                   rfl) | (obtain rfl : e = 3 := by unfold kindS at hf <;> (repeat' split at hf) <;> first | (show (_ : Nat) = _; omega) | (exfalso; omega) | (exfalso; simp_all; done)
                                           rfl) | (obtain rfl : e = 8 := by unfold kindS at hf <;> (repeat' split at hf) <;> first | (show (_ : Nat) = _; omega) | (exfalso; omega) | (exfalso; simp_all; done)
                                                   rfl) | (exfalso; unfold kindS at hf <;> (repeat' split at hf) <;> first | (show (_ : Nat) = _; omega) | (exfalso; omega) | (exfalso; simp_all; done))
    · intro h12
      have k2 : o.act ≠ 7 := by simpa using h12
      refine W_reg rfl ?_
      refine run_op rfl rfl rfl (by simp [boxA, AV.cells, AV.isCell]; exact .mk) ?_
      refine run_op rfl rfl rfl (by simp [boxA, AV.cells, AV.isCell]; exact .mk) ?_
      refine run_op rfl rfl rfl (by simp [boxA, AV.cells, AV.isCell, eqA, eqFs, isStructTy, eqlNeq, strOp, isBoolTy, isPtrTy, isFnTy]; exact .mk) ?_
      refine run_op rfl rfl rfl (by simp [boxA, AV.cells, AV.isCell]; exact .mk) ?_
      refine run_end [0, 3, 5, 12] (by simp) (by simp; exact .mk) ?_
      rintro -
      refine W_cond rfl ?_ ?_
      · intro h12'
        have k3 : o.act = 7 ∨ o.act = 8 := by simp at h12'; omega
        refine W_seq ?_
        refine W_reg rfl ?_
        refine run_op rfl rfl rfl (by simp [boxA, AV.cells, AV.isCell]; exact .mk) ?_
        refine run_op rfl rfl rfl (by simp [boxA, AV.cells, AV.isCell]; exact .mk) ?_
        refine run_op rfl rfl rfl (by simp [boxA, AV.cells, AV.isCell]; exact .mk) ?_
        refine run_end [4] (by simp) (by simp; exact .mk) ?_
        rintro -
        refine W_ret ?_
        refine endAt_ret (by simp [boxA, AV.cells, AV.isCell, Try.f46]; exact .mk) ?_ ?_
        · first | rfl | (exfalso; unfold kindS at hf <;> (repeat' split at hf) <;> first | (show (_ : Nat) = _; omega) | (exfalso; omega) | (exfalso; simp_all; done))
        · first | (obtain rfl : e = 1 := by unfold kindS at hf <;> (repeat' split at hf) <;> first | (show (_ : Nat) = _; omega) | (exfalso; omega) | (exfalso; simp_all; done)
                   rfl) | (obtain rfl : e = 3 := by unfold kindS at hf <;> (repeat' split at hf) <;> first | (show (_ : Nat) = _; omega) | (exfalso; omega) | (exfalso; simp_all; done)
                           rfl) | (obtain rfl : e = 8 := by unfold kindS at hf <;> (repeat' split at hf) <;> first | (show (_ : Nat) = _; omega) | (exfalso; omega) | (exfalso; simp_all; done)
                                   rfl) | (exfalso; unfold kindS at hf <;> (repeat' split at hf) <;> first | (show (_ : Nat) = _; omega) | (exfalso; omega) | (exfalso; simp_all; done))
      · intro h12'
        have k3 : ¬ (o.act = 7 ∨ o.act = 8) := by simp at h12'; omega
        refine W_seq ?_
        refine W_seq ?_
        refine W_reg rfl ?_
        refine run_op rfl rfl rfl (by simp [boxA, AV.cells, AV.isCell]; exact .mk) ?_
        refine run_op rfl rfl rfl (by simp [boxA, AV.cells, AV.isCell]; exact .mk) ?_
        refine run_op rfl rfl rfl (by simp [boxA, AV.cells, AV.isCell, eqA, eqFs, isStructTy, eqlNeq, strOp, isBoolTy, isPtrTy, isFnTy]; exact .mk) ?_
        refine run_op rfl rfl rfl (by simp [boxA, AV.cells, AV.isCell]; exact .mk) ?_
        refine run_end [0, 3, 5, 21] (by simp) (by simp; exact .mk) ?_
        rintro -
        refine W_cond rfl ?_ ?_
        · intro h21
          have k4 : o.act < 1 := by simpa using h21
          refine W_skip ?_
          rintro -
          refine W_cond rfl ?_ ?_
          · intro h21'
            have k4' : o.act < 1 ∨ 8 < o.act := by simp at h21'; omega
            refine W_seq ?_
            refine W_reg rfl ?_
            refine run_op rfl rfl rfl (by simp [boxA, AV.cells, AV.isCell]; exact .mk) ?_
            refine run_inl0 rfl rfl rfl rfl (by simp [boxA, AV.cells, AV.isCell, calleeA]; exact .mk) ⟨_, Try.func81, rfl, rfl⟩ (in81 g o0 o1 o2 o3 _ a 1) (.inr ⟨_, rfl⟩) ?_
            refine run_op rfl rfl rfl (by simp [boxA, AV.cells, AV.isCell]; exact .mk) ?_
            refine run_end [4] (by simp) (by simp; exact .mk) ?_
            rintro -
            refine W_ret ?_
            refine endAt_ret (by simp [boxA, AV.cells, AV.isCell, Try.f46]; exact .mk) ?_ ?_
            · first | rfl | (exfalso; unfold kindS at hf <;> (repeat' split at hf) <;> first | (show (_ : Nat) = _; omega) | (exfalso; omega) | (exfalso; simp_all; done))
            · first | (obtain rfl : e = 1 := by unfold kindS at hf <;> (repeat' split at hf) <;> first | (show (_ : Nat) = _; omega) | (exfalso; omega) | (exfalso; simp_all; done)
                       rfl) | (obtain rfl : e = 3 := by unfold kindS at hf <;> (repeat' split at hf) <;> first | (show (_ : Nat) = _; omega) | (exfalso; omega) | (exfalso; simp_all; done)
                               rfl) | (obtain rfl : e = 8 := by unfold kindS at hf <;> (repeat' split at hf) <;> first | (show (_ : Nat) = _; omega) | (exfalso; omega) | (exfalso; simp_all; done)
                                       rfl) | (exfalso; unfold kindS at hf <;> (repeat' split at hf) <;> first | (show (_ : Nat) = _; omega) | (exfalso; omega) | (exfalso; simp_all; done))
          · intro h21'
            have k4' : ¬ (o.act < 1 ∨ 8 < o.act) := by simp at h21'; omega
            refine W_seq ?_
            refine W_reg rfl ?_
            refine run_op rfl rfl rfl (by simp [boxA, AV.cells, AV.isCell]; exact .mk) ?_
            refine run_op rfl rfl rfl (by simp [boxA, AV.cells, AV.isCell]; exact .mk) ?_
            refine run_op rfl rfl rfl (by simp [boxA, AV.cells, AV.isCell, eqA, eqFs, isStructTy, eqlNeq, strOp, isBoolTy, isPtrTy, isFnTy]; exact .mk) ?_
            refine run_op rfl rfl rfl (by simp [boxA, AV.cells, AV.isCell]; exact .mk) ?_
            refine run_if rfl (by simp [boxA, AV.cells, AV.isCell]; exact .mk) rfl (by simp <;> omega) (fun hb => by simp [boxA, AV.cells, AV.isCell]; exact .mk) ?_
            refine run_if rfl (by simp [boxA, AV.cells, AV.isCell]; exact .mk) rfl (by simp <;> omega) (fun hb => by simp [boxA, AV.cells, AV.isCell]; exact .mk) ?_
            refine run_call rfl (by simp [boxA, AV.cells, AV.isCell]; exact .mk) rfl rfl (by simp) (by simp [boxA, AV.cells, AV.isCell, calleeA]; exact .mk) (by simp [boxA, AV.cells, AV.isCell, kindsOf, kinds, expAs, expA, row_rows, Function.comp_def]; exact .mk) (fun hb => ct77 g _ hn) (by simp [boxA, AV.cells, AV.isCell, D.noRo]) (by simp [boxA, AV.cells, AV.isCell, impA, impAs]; exact .mk) (by simp) ?_
            refine run_if rfl (by simp [boxA, AV.cells, AV.isCell]; exact .mk) rfl (by simp <;> omega) (fun hb => by simp [boxA, AV.cells, AV.isCell, unA]; exact .mk) ?_
            refine run_pick rfl (by simp [boxA, AV.cells, AV.isCell]; exact .mk) rfl rfl (by simp) (by simp [boxA, AV.cells, AV.isCell]; exact .mk) (by simp [boxA, AV.cells, AV.isCell]; exact .mk) (by simp; exact .mk) ?_
            refine run_op1 rfl rfl rfl (by simp <;> omega) (by simp [boxA, AV.cells, AV.isCell]; exact .mk) ?_
            refine run_end [0, 3, 5, 30] (by simp <;> omega) (by simp; exact .mk) ?_
            rintro -
            refine W_cond rfl ?_ ?_
            · intro h30
              have k5 : o.act = 6 ∧ nameS o.name = false := by simpa using h30
              refine W_seq ?_
              refine W_reg rfl ?_
              refine run_op rfl rfl rfl (by simp [boxA, AV.cells, AV.isCell]; exact .mk) ?_
              refine run_inl0 rfl rfl rfl rfl (by simp [boxA, AV.cells, AV.isCell, calleeA]; exact .mk) ⟨_, Try.func81, rfl, rfl⟩ (in81 g o0 o1 o2 o3 _ a 3) (.inr ⟨_, rfl⟩) ?_
              refine run_op rfl rfl rfl (by simp [boxA, AV.cells, AV.isCell]; exact .mk) ?_
              refine run_end [4] (by simp) (by simp; exact .mk) ?_
              rintro -
              refine W_ret ?_
              refine endAt_ret (by simp [boxA, AV.cells, AV.isCell, Try.f46]; exact .mk) ?_ ?_
              · first | rfl | (exfalso; unfold kindS at hf <;> (repeat' split at hf) <;> first | (show (_ : Nat) = _; omega) | (exfalso; omega) | (exfalso; simp_all; done))
              · first | (obtain rfl : e = 1 := by unfold kindS at hf <;> (repeat' split at hf) <;> first | (show (_ : Nat) = _; omega) | (exfalso; omega) | (exfalso; simp_all; done)
                         rfl) | (obtain rfl : e = 3 := by unfold kindS at hf <;> (repeat' split at hf) <;> first | (show (_ : Nat) = _; omega) | (exfalso; omega) | (exfalso; simp_all; done)
                                 rfl) | (obtain rfl : e = 8 := by unfold kindS at hf <;> (repeat' split at hf) <;> first | (show (_ : Nat) = _; omega) | (exfalso; omega) | (exfalso; simp_all; done)
                                         rfl) | (exfalso; unfold kindS at hf <;> (repeat' split at hf) <;> first | (show (_ : Nat) = _; omega) | (exfalso; omega) | (exfalso; simp_all; done))
            · intro h30
              have k5 : ¬ (o.act = 6 ∧ nameS o.name = false) := by simpa using h30
              refine W_seq ?_
              refine W_regD (by kernel_rfl) [] 4 [0, 1, 2, 3, 4, 5, 6, 7, 8] (by decide +kernel) ?_
              refine run_op rfl rfl rfl (by simp [boxA, AV.cells, AV.isCell]; exact .mk) ?_
              refine run_op rfl rfl rfl (by simp [boxA, AV.cells, AV.isCell]; exact .mk) ?_
              refine run_op rfl rfl rfl (by simp [boxA, AV.cells, AV.isCell]; exact .mk) ?_
              refine run_op rfl rfl rfl (by simp [boxA, AV.cells, AV.isCell]; exact .mk) ?_
              refine run_op rfl rfl rfl (by simp [boxA, AV.cells, AV.isCell]; exact .mk) ?_
              refine run_op rfl rfl rfl (by simp [boxA, AV.cells, AV.isCell]; exact .mk) ?_
              refine run_call0 rfl rfl rfl rfl (by simp [boxA, AV.cells, AV.isCell, calleeA]; exact .mk) (by simp [boxA, AV.cells, AV.isCell, kindsOf, kinds, expAs, expA, row_rows, Function.comp_def]; exact .mk) (ct85 g a _ _ hgd) (by simp [boxA, AV.cells, AV.isCell, D.noRo]) (by simp [boxA, AV.cells, AV.isCell, impA, impAs]; exact .mk) ?_
              refine run_op rfl rfl rfl (by simp [boxA, AV.cells, AV.isCell, unA]; exact .mk) ?_
              refine run_op rfl rfl rfl (by simp [boxA, AV.cells, AV.isCell]; exact .mk) ?_
              refine run_end [0, 3, 5, 42] (by simp) (by simp; exact .mk) ?_
              rintro -
              refine W_cond rfl ?_ ?_
              · intro h42
                have k6 : goodS a o.ix o.gen = false := by simpa using h42
                refine W_seq ?_
                refine W_reg rfl ?_
                refine run_op rfl rfl rfl (by simp [boxA, AV.cells, AV.isCell]; exact .mk) ?_
                refine run_inl0 rfl rfl rfl rfl (by simp [boxA, AV.cells, AV.isCell, calleeA]; exact .mk) ⟨_, Try.func81, rfl, rfl⟩ (in81 g o0 o1 o2 o3 _ a 8) (.inr ⟨_, rfl⟩) ?_
                refine run_op rfl rfl rfl (by simp [boxA, AV.cells, AV.isCell]; exact .mk) ?_
                refine run_end [4] (by simp) (by simp; exact .mk) ?_
                rintro -
                refine W_ret ?_
                refine endAt_ret (by simp [boxA, AV.cells, AV.isCell, Try.f46]; exact .mk) ?_ ?_
                · first | rfl | (exfalso; unfold kindS at hf <;> (repeat' split at hf) <;> first | (show (_ : Nat) = _; omega) | (exfalso; omega) | (exfalso; simp_all; done))
                · first | (obtain rfl : e = 1 := by unfold kindS at hf <;> (repeat' split at hf) <;> first | (show (_ : Nat) = _; omega) | (exfalso; omega) | (exfalso; simp_all; done)
                           rfl) | (obtain rfl : e = 3 := by unfold kindS at hf <;> (repeat' split at hf) <;> first | (show (_ : Nat) = _; omega) | (exfalso; omega) | (exfalso; simp_all; done)
                                   rfl) | (obtain rfl : e = 8 := by unfold kindS at hf <;> (repeat' split at hf) <;> first | (show (_ : Nat) = _; omega) | (exfalso; omega) | (exfalso; simp_all; done)
                                           rfl) | (exfalso; unfold kindS at hf <;> (repeat' split at hf) <;> first | (show (_ : Nat) = _; omega) | (exfalso; omega) | (exfalso; simp_all; done))
              · intro h42
                have k6 : ¬ goodS a o.ix o.gen = false := by simpa using h42
                refine W_seq ?_
                refine W_reg rfl ?_
                refine run_op rfl rfl rfl (by simp [boxA, AV.cells, AV.isCell]; exact .mk) ?_
                refine run_op rfl rfl rfl (by simp [boxA, AV.cells, AV.isCell]; exact .mk) ?_
                refine run_op rfl rfl rfl (by simp [boxA, AV.cells, AV.isCell, eqA, eqFs, isStructTy, eqlNeq, strOp, isBoolTy, isPtrTy, isFnTy]; exact .mk) ?_
                refine run_op rfl rfl rfl (by simp [boxA, AV.cells, AV.isCell]; exact .mk) ?_
                refine run_end [0, 3, 53] (by simp) (by simp; exact .mk) ?_
                rintro -
                refine W_cond rfl ?_ ?_
                · intro h53
                  have k7 : o.act = 2 := by simpa using h53
                  refine W_seq ?_
                  refine W_reg rfl ?_
                  refine run_op rfl rfl rfl (by simp [boxA, AV.cells, AV.isCell]; exact .mk) ?_
                  refine run_op rfl rfl rfl (by simp [boxA, AV.cells, AV.isCell]; exact .mk) ?_
                  refine run_op rfl rfl rfl (by simp [boxA, AV.cells, AV.isCell]; exact .mk) ?_
                  refine run_end [4] (by simp) (by simp; exact .mk) ?_
                  rintro -
                  refine W_ret ?_
                  refine endAt_ret (by simp [boxA, AV.cells, AV.isCell, Try.f46]; exact .mk) ?_ ?_
                  · first | rfl | (exfalso; unfold kindS at hf <;> (repeat' split at hf) <;> first | (show (_ : Nat) = _; omega) | (exfalso; omega) | (exfalso; simp_all; done))
                  · first | (obtain rfl : e = 1 := by unfold kindS at hf <;> (repeat' split at hf) <;> first | (show (_ : Nat) = _; omega) | (exfalso; omega) | (exfalso; simp_all; done)
                             rfl) | (obtain rfl : e = 3 := by unfold kindS at hf <;> (repeat' split at hf) <;> first | (show (_ : Nat) = _; omega) | (exfalso; omega) | (exfalso; simp_all; done)
                                     rfl) | (obtain rfl : e = 8 := by unfold kindS at hf <;> (repeat' split at hf) <;> first | (show (_ : Nat) = _; omega) | (exfalso; omega) | (exfalso; simp_all; done)
                                             rfl) | (exfalso; unfold kindS at hf <;> (repeat' split at hf) <;> first | (show (_ : Nat) = _; omega) | (exfalso; omega) | (exfalso; simp_all; done))
                · intro h53
                  have k7 : o.act ≠ 2 := by simpa using h53
                  refine W_seq ?_
                  refine W_reg rfl ?_
                  refine run_op rfl rfl rfl (by simp [boxA, AV.cells, AV.isCell]; exact .mk) ?_
                  refine run_op rfl rfl rfl (by simp [boxA, AV.cells, AV.isCell]; exact .mk) ?_
                  refine run_op rfl rfl rfl (by simp [boxA, AV.cells, AV.isCell, eqA, eqFs, isStructTy, eqlNeq, strOp, isBoolTy, isPtrTy, isFnTy]; exact .mk) ?_
                  refine run_op rfl rfl rfl (by simp [boxA, AV.cells, AV.isCell]; exact .mk) ?_
                  refine run_end [0, 3, 59] (by simp) (by simp; exact .mk) ?_
                  rintro -
                  refine W_cond rfl ?_ ?_
                  · intro h59
                    have k8 : o.act = 3 := by simpa using h59
                    refine W_seq ?_
                    refine W_reg rfl ?_
                    refine run_op rfl rfl rfl (by simp [boxA, AV.cells, AV.isCell]; exact .mk) ?_
                    refine run_op rfl rfl rfl (by simp [boxA, AV.cells, AV.isCell]; exact .mk) ?_
                    refine run_op rfl rfl rfl (by simp [boxA, AV.cells, AV.isCell]; exact .mk) ?_
                    refine run_end [4] (by simp) (by simp; exact .mk) ?_
                    rintro -
                    refine W_ret ?_
                    refine endAt_ret (by simp [boxA, AV.cells, AV.isCell, Try.f46]; exact .mk) ?_ ?_
                    · first | rfl | (exfalso; unfold kindS at hf <;> (repeat' split at hf) <;> first | (show (_ : Nat) = _; omega) | (exfalso; omega) | (exfalso; simp_all; done))
                    · first | (obtain rfl : e = 1 := by unfold kindS at hf <;> (repeat' split at hf) <;> first | (show (_ : Nat) = _; omega) | (exfalso; omega) | (exfalso; simp_all; done)
                               rfl) | (obtain rfl : e = 3 := by unfold kindS at hf <;> (repeat' split at hf) <;> first | (show (_ : Nat) = _; omega) | (exfalso; omega) | (exfalso; simp_all; done)
                                       rfl) | (obtain rfl : e = 8 := by unfold kindS at hf <;> (repeat' split at hf) <;> first | (show (_ : Nat) = _; omega) | (exfalso; omega) | (exfalso; simp_all; done)
                                               rfl) | (exfalso; unfold kindS at hf <;> (repeat' split at hf) <;> first | (show (_ : Nat) = _; omega) | (exfalso; omega) | (exfalso; simp_all; done))
                  · intro h59
                    have k8 : o.act ≠ 3 := by simpa using h59
                    refine W_seq ?_
                    refine W_reg rfl ?_
                    refine run_op rfl rfl rfl (by simp [boxA, AV.cells, AV.isCell]; exact .mk) ?_
                    refine run_op rfl rfl rfl (by simp [boxA, AV.cells, AV.isCell]; exact .mk) ?_
                    refine run_op rfl rfl rfl (by simp [boxA, AV.cells, AV.isCell, eqA, eqFs, isStructTy, eqlNeq, strOp, isBoolTy, isPtrTy, isFnTy]; exact .mk) ?_
                    refine run_op rfl rfl rfl (by simp [boxA, AV.cells, AV.isCell]; exact .mk) ?_
                    refine run_end [0, 3, 65] (by simp) (by simp; exact .mk) ?_
                    rintro -
                    refine W_cond rfl ?_ ?_
                    · intro h65
                      have k9 : o.act = 4 := by simpa using h65
                      refine W_seq ?_
                      refine W_reg rfl ?_
                      refine run_op rfl rfl rfl (by simp [boxA, AV.cells, AV.isCell]; exact .mk) ?_
                      refine run_op rfl rfl rfl (by simp [boxA, AV.cells, AV.isCell]; exact .mk) ?_
                      refine run_op rfl rfl rfl (by simp [boxA, AV.cells, AV.isCell]; exact .mk) ?_
                      refine run_end [4] (by simp) (by simp; exact .mk) ?_
                      rintro -
                      refine W_ret ?_
                      refine endAt_ret (by simp [boxA, AV.cells, AV.isCell, Try.f46]; exact .mk) ?_ ?_
                      · first | rfl | (exfalso; unfold kindS at hf <;> (repeat' split at hf) <;> first | (show (_ : Nat) = _; omega) | (exfalso; omega) | (exfalso; simp_all; done))
                      · first | (obtain rfl : e = 1 := by unfold kindS at hf <;> (repeat' split at hf) <;> first | (show (_ : Nat) = _; omega) | (exfalso; omega) | (exfalso; simp_all; done)
                                 rfl) | (obtain rfl : e = 3 := by unfold kindS at hf <;> (repeat' split at hf) <;> first | (show (_ : Nat) = _; omega) | (exfalso; omega) | (exfalso; simp_all; done)
                                         rfl) | (obtain rfl : e = 8 := by unfold kindS at hf <;> (repeat' split at hf) <;> first | (show (_ : Nat) = _; omega) | (exfalso; omega) | (exfalso; simp_all; done)
                                                 rfl) | (exfalso; unfold kindS at hf <;> (repeat' split at hf) <;> first | (show (_ : Nat) = _; omega) | (exfalso; omega) | (exfalso; simp_all; done))
                    · intro h65
                      have k9 : o.act ≠ 4 := by simpa using h65
                      refine W_seq ?_
                      refine W_reg rfl ?_
                      refine run_op rfl rfl rfl (by simp [boxA, AV.cells, AV.isCell]; exact .mk) ?_
                      refine run_op rfl rfl rfl (by simp [boxA, AV.cells, AV.isCell]; exact .mk) ?_
                      refine run_op rfl rfl rfl (by simp [boxA, AV.cells, AV.isCell, eqA, eqFs, isStructTy, eqlNeq, strOp, isBoolTy, isPtrTy, isFnTy]; exact .mk) ?_
                      refine run_op rfl rfl rfl (by simp [boxA, AV.cells, AV.isCell]; exact .mk) ?_
                      refine run_end [0, 71] (by simp) (by simp; exact .mk) ?_
                      rintro -
                      refine W_cond rfl ?_ ?_
                      · intro h71
                        have k10 : o.act = 5 := by simpa using h71
                        refine W_seq ?_
                        refine W_reg rfl ?_
                        refine run_op rfl rfl rfl (by simp [boxA, AV.cells, AV.isCell]; exact .mk) ?_
                        refine run_op rfl rfl rfl (by simp [boxA, AV.cells, AV.isCell]; exact .mk) ?_
                        refine run_op rfl rfl rfl (by simp [boxA, AV.cells, AV.isCell]; exact .mk) ?_
                        refine run_end [4] (by simp) (by simp; exact .mk) ?_
                        rintro -
                        refine W_ret ?_
                        refine endAt_ret (by simp [boxA, AV.cells, AV.isCell, Try.f46]; exact .mk) ?_ ?_
                        · first | rfl | (exfalso; unfold kindS at hf <;> (repeat' split at hf) <;> first | (show (_ : Nat) = _; omega) | (exfalso; omega) | (exfalso; simp_all; done))
                        · first | (obtain rfl : e = 1 := by unfold kindS at hf <;> (repeat' split at hf) <;> first | (show (_ : Nat) = _; omega) | (exfalso; omega) | (exfalso; simp_all; done)
                                   rfl) | (obtain rfl : e = 3 := by unfold kindS at hf <;> (repeat' split at hf) <;> first | (show (_ : Nat) = _; omega) | (exfalso; omega) | (exfalso; simp_all; done)
                                           rfl) | (obtain rfl : e = 8 := by unfold kindS at hf <;> (repeat' split at hf) <;> first | (show (_ : Nat) = _; omega) | (exfalso; omega) | (exfalso; simp_all; done)
                                                   rfl) | (exfalso; unfold kindS at hf <;> (repeat' split at hf) <;> first | (show (_ : Nat) = _; omega) | (exfalso; omega) | (exfalso; simp_all; done))
                      · intro h71
                        have k10 : o.act ≠ 5 := by simpa using h71
                        refine W_skip ?_
                        rintro -
                        refine W_seq ?_
                        refine W_reg rfl ?_
                        refine run_op rfl rfl rfl (by simp [boxA, AV.cells, AV.isCell]; exact .mk) ?_
                        refine run_op rfl rfl rfl (by simp [boxA, AV.cells, AV.isCell]; exact .mk) ?_
                        refine run_op rfl rfl rfl (by simp [boxA, AV.cells, AV.isCell]; exact .mk) ?_
                        refine run_end [4] (by simp) (by simp; exact .mk) ?_
                        rintro -
                        refine W_ret ?_
                        refine endAt_ret (by simp [boxA, AV.cells, AV.isCell, Try.f46]; exact .mk) ?_ ?_
                        · first | rfl | (exfalso; unfold kindS at hf <;> (repeat' split at hf) <;> first | (show (_ : Nat) = _; omega) | (exfalso; omega) | (exfalso; simp_all; done))
                        · first | (obtain rfl : e = 1 := by unfold kindS at hf <;> (repeat' split at hf) <;> first | (show (_ : Nat) = _; omega) | (exfalso; omega) | (exfalso; simp_all; done)
                                   rfl) | (obtain rfl : e = 3 := by unfold kindS at hf <;> (repeat' split at hf) <;> first | (show (_ : Nat) = _; omega) | (exfalso; omega) | (exfalso; simp_all; done)
                                           rfl) | (obtain rfl : e = 8 := by unfold kindS at hf <;> (repeat' split at hf) <;> first | (show (_ : Nat) = _; omega) | (exfalso; omega) | (exfalso; simp_all; done)
                                                   rfl) | (exfalso; unfold kindS at hf <;> (repeat' split at hf) <;> first | (show (_ : Nat) = _; omega) | (exfalso; omega) | (exfalso; simp_all; done))
        · intro h21
          have k4 : ¬ o.act < 1 := by simpa using h21
          refine W_reg rfl ?_
          refine run_op rfl rfl rfl (by simp [boxA, AV.cells, AV.isCell]; exact .mk) ?_
          refine run_op rfl rfl rfl (by simp [boxA, AV.cells, AV.isCell]; exact .mk) ?_
          refine run_op rfl rfl rfl (by simp [boxA, AV.cells, AV.isCell, eqA, eqFs, isStructTy, eqlNeq, strOp, isBoolTy, isPtrTy, isFnTy]; exact .mk) ?_
          refine run_op rfl rfl rfl (by simp [boxA, AV.cells, AV.isCell]; exact .mk) ?_
          refine run_end [0, 3, 5, 21] (by simp) (by simp; exact .mk) ?_
          rintro -
          refine W_cond rfl ?_ ?_
          · intro h21'
            have k4' : o.act < 1 ∨ 8 < o.act := by simp at h21'; omega
            refine W_seq ?_
            refine W_reg rfl ?_
            refine run_op rfl rfl rfl (by simp [boxA, AV.cells, AV.isCell]; exact .mk) ?_
            refine run_inl0 rfl rfl rfl rfl (by simp [boxA, AV.cells, AV.isCell, calleeA]; exact .mk) ⟨_, Try.func81, rfl, rfl⟩ (in81 g o0 o1 o2 o3 _ a 1) (.inr ⟨_, rfl⟩) ?_
            refine run_op rfl rfl rfl (by simp [boxA, AV.cells, AV.isCell]; exact .mk) ?_
            refine run_end [4] (by simp) (by simp; exact .mk) ?_
            rintro -
            refine W_ret ?_
            refine endAt_ret (by simp [boxA, AV.cells, AV.isCell, Try.f46]; exact .mk) ?_ ?_
            · first | rfl | (exfalso; unfold kindS at hf <;> (repeat' split at hf) <;> first | (show (_ : Nat) = _; omega) | (exfalso; omega) | (exfalso; simp_all; done))
            · first | (obtain rfl : e = 1 := by unfold kindS at hf <;> (repeat' split at hf) <;> first | (show (_ : Nat) = _; omega) | (exfalso; omega) | (exfalso; simp_all; done)
                       rfl) | (obtain rfl : e = 3 := by unfold kindS at hf <;> (repeat' split at hf) <;> first | (show (_ : Nat) = _; omega) | (exfalso; omega) | (exfalso; simp_all; done)
                               rfl) | (obtain rfl : e = 8 := by unfold kindS at hf <;> (repeat' split at hf) <;> first | (show (_ : Nat) = _; omega) | (exfalso; omega) | (exfalso; simp_all; done)
                                       rfl) | (exfalso; unfold kindS at hf <;> (repeat' split at hf) <;> first | (show (_ : Nat) = _; omega) | (exfalso; omega) | (exfalso; simp_all; done))
          · intro h21'
            have k4' : ¬ (o.act < 1 ∨ 8 < o.act) := by simp at h21'; omega
            refine W_seq ?_
            refine W_reg rfl ?_
            refine run_op rfl rfl rfl (by simp [boxA, AV.cells, AV.isCell]; exact .mk) ?_
            refine run_op rfl rfl rfl (by simp [boxA, AV.cells, AV.isCell]; exact .mk) ?_
            refine run_op rfl rfl rfl (by simp [boxA, AV.cells, AV.isCell, eqA, eqFs, isStructTy, eqlNeq, strOp, isBoolTy, isPtrTy, isFnTy]; exact .mk) ?_
            refine run_op rfl rfl rfl (by simp [boxA, AV.cells, AV.isCell]; exact .mk) ?_
            refine run_if rfl (by simp [boxA, AV.cells, AV.isCell]; exact .mk) rfl (by simp <;> omega) (fun hb => by simp [boxA, AV.cells, AV.isCell]; exact .mk) ?_
            refine run_if rfl (by simp [boxA, AV.cells, AV.isCell]; exact .mk) rfl (by simp <;> omega) (fun hb => by simp [boxA, AV.cells, AV.isCell]; exact .mk) ?_
            refine run_call rfl (by simp [boxA, AV.cells, AV.isCell]; exact .mk) rfl rfl (by simp) (by simp [boxA, AV.cells, AV.isCell, calleeA]; exact .mk) (by simp [boxA, AV.cells, AV.isCell, kindsOf, kinds, expAs, expA, row_rows, Function.comp_def]; exact .mk) (fun hb => ct77 g _ hn) (by simp [boxA, AV.cells, AV.isCell, D.noRo]) (by simp [boxA, AV.cells, AV.isCell, impA, impAs]; exact .mk) (by simp) ?_
            refine run_if rfl (by simp [boxA, AV.cells, AV.isCell]; exact .mk) rfl (by simp <;> omega) (fun hb => by simp [boxA, AV.cells, AV.isCell, unA]; exact .mk) ?_
            refine run_pick rfl (by simp [boxA, AV.cells, AV.isCell]; exact .mk) rfl rfl (by simp) (by simp [boxA, AV.cells, AV.isCell]; exact .mk) (by simp [boxA, AV.cells, AV.isCell]; exact .mk) (by simp; exact .mk) ?_
            refine run_op1 rfl rfl rfl (by simp <;> omega) (by simp [boxA, AV.cells, AV.isCell]; exact .mk) ?_
            refine run_end [0, 3, 5, 30] (by simp <;> omega) (by simp; exact .mk) ?_
            rintro -
            refine W_cond rfl ?_ ?_
            · intro h30
              have k5 : o.act = 6 ∧ nameS o.name = false := by simpa using h30
              refine W_seq ?_
              refine W_reg rfl ?_
              refine run_op rfl rfl rfl (by simp [boxA, AV.cells, AV.isCell]; exact .mk) ?_
              refine run_inl0 rfl rfl rfl rfl (by simp [boxA, AV.cells, AV.isCell, calleeA]; exact .mk) ⟨_, Try.func81, rfl, rfl⟩ (in81 g o0 o1 o2 o3 _ a 3) (.inr ⟨_, rfl⟩) ?_
              refine run_op rfl rfl rfl (by simp [boxA, AV.cells, AV.isCell]; exact .mk) ?_
              refine run_end [4] (by simp) (by simp; exact .mk) ?_
              rintro -
              refine W_ret ?_
              refine endAt_ret (by simp [boxA, AV.cells, AV.isCell, Try.f46]; exact .mk) ?_ ?_
              · first | rfl | (exfalso; unfold kindS at hf <;> (repeat' split at hf) <;> first | (show (_ : Nat) = _; omega) | (exfalso; omega) | (exfalso; simp_all; done))
              · first | (obtain rfl : e = 1 := by unfold kindS at hf <;> (repeat' split at hf) <;> first | (show (_ : Nat) = _; omega) | (exfalso; omega) | (exfalso; simp_all; done)
                         rfl) | (obtain rfl : e = 3 := by unfold kindS at hf <;> (repeat' split at hf) <;> first | (show (_ : Nat) = _; omega) | (exfalso; omega) | (exfalso; simp_all; done)
                                 rfl) | (obtain rfl : e = 8 := by unfold kindS at hf <;> (repeat' split at hf) <;> first | (show (_ : Nat) = _; omega) | (exfalso; omega) | (exfalso; simp_all; done)
                                         rfl) | (exfalso; unfold kindS at hf <;> (repeat' split at hf) <;> first | (show (_ : Nat) = _; omega) | (exfalso; omega) | (exfalso; simp_all; done))
            · intro h30
              have k5 : ¬ (o.act = 6 ∧ nameS o.name = false) := by simpa using h30
              refine W_seq ?_
              refine W_regD (by kernel_rfl) [] 4 [0, 1, 2, 3, 4, 5, 6, 7, 8] (by decide +kernel) ?_
              refine run_op rfl rfl rfl (by simp [boxA, AV.cells, AV.isCell]; exact .mk) ?_
              refine run_op rfl rfl rfl (by simp [boxA, AV.cells, AV.isCell]; exact .mk) ?_
              refine run_op rfl rfl rfl (by simp [boxA, AV.cells, AV.isCell]; exact .mk) ?_
              refine run_op rfl rfl rfl (by simp [boxA, AV.cells, AV.isCell]; exact .mk) ?_
              refine run_op rfl rfl rfl (by simp [boxA, AV.cells, AV.isCell]; exact .mk) ?_
              refine run_op rfl rfl rfl (by simp [boxA, AV.cells, AV.isCell]; exact .mk) ?_
              refine run_call0 rfl rfl rfl rfl (by simp [boxA, AV.cells, AV.isCell, calleeA]; exact .mk) (by simp [boxA, AV.cells, AV.isCell, kindsOf, kinds, expAs, expA, row_rows, Function.comp_def]; exact .mk) (ct85 g a _ _ hgd) (by simp [boxA, AV.cells, AV.isCell, D.noRo]) (by simp [boxA, AV.cells, AV.isCell, impA, impAs]; exact .mk) ?_
              refine run_op rfl rfl rfl (by simp [boxA, AV.cells, AV.isCell, unA]; exact .mk) ?_
              refine run_op rfl rfl rfl (by simp [boxA, AV.cells, AV.isCell]; exact .mk) ?_
              refine run_end [0, 3, 5, 42] (by simp) (by simp; exact .mk) ?_
              rintro -
              refine W_cond rfl ?_ ?_
              · intro h42
                have k6 : goodS a o.ix o.gen = false := by simpa using h42
                refine W_seq ?_
                refine W_reg rfl ?_
                refine run_op rfl rfl rfl (by simp [boxA, AV.cells, AV.isCell]; exact .mk) ?_
                refine run_inl0 rfl rfl rfl rfl (by simp [boxA, AV.cells, AV.isCell, calleeA]; exact .mk) ⟨_, Try.func81, rfl, rfl⟩ (in81 g o0 o1 o2 o3 _ a 8) (.inr ⟨_, rfl⟩) ?_
                refine run_op rfl rfl rfl (by simp [boxA, AV.cells, AV.isCell]; exact .mk) ?_
                refine run_end [4] (by simp) (by simp; exact .mk) ?_
                rintro -
                refine W_ret ?_
                refine endAt_ret (by simp [boxA, AV.cells, AV.isCell, Try.f46]; exact .mk) ?_ ?_
                · first | rfl | (exfalso; unfold kindS at hf <;> (repeat' split at hf) <;> first | (show (_ : Nat) = _; omega) | (exfalso; omega) | (exfalso; simp_all; done))
                · first | (obtain rfl : e = 1 := by unfold kindS at hf <;> (repeat' split at hf) <;> first | (show (_ : Nat) = _; omega) | (exfalso; omega) | (exfalso; simp_all; done)
                           rfl) | (obtain rfl : e = 3 := by unfold kindS at hf <;> (repeat' split at hf) <;> first | (show (_ : Nat) = _; omega) | (exfalso; omega) | (exfalso; simp_all; done)
                                   rfl) | (obtain rfl : e = 8 := by unfold kindS at hf <;> (repeat' split at hf) <;> first | (show (_ : Nat) = _; omega) | (exfalso; omega) | (exfalso; simp_all; done)
                                           rfl) | (exfalso; unfold kindS at hf <;> (repeat' split at hf) <;> first | (show (_ : Nat) = _; omega) | (exfalso; omega) | (exfalso; simp_all; done))
              · intro h42
                have k6 : ¬ goodS a o.ix o.gen = false := by simpa using h42
                refine W_seq ?_
                refine W_reg rfl ?_
                refine run_op rfl rfl rfl (by simp [boxA, AV.cells, AV.isCell]; exact .mk) ?_
                refine run_op rfl rfl rfl (by simp [boxA, AV.cells, AV.isCell]; exact .mk) ?_
                refine run_op rfl rfl rfl (by simp [boxA, AV.cells, AV.isCell, eqA, eqFs, isStructTy, eqlNeq, strOp, isBoolTy, isPtrTy, isFnTy]; exact .mk) ?_
                refine run_op rfl rfl rfl (by simp [boxA, AV.cells, AV.isCell]; exact .mk) ?_
                refine run_end [0, 3, 53] (by simp) (by simp; exact .mk) ?_
                rintro -
                refine W_cond rfl ?_ ?_
                · intro h53
                  have k7 : o.act = 2 := by simpa using h53
                  refine W_seq ?_
                  refine W_reg rfl ?_
                  refine run_op rfl rfl rfl (by simp [boxA, AV.cells, AV.isCell]; exact .mk) ?_
                  refine run_op rfl rfl rfl (by simp [boxA, AV.cells, AV.isCell]; exact .mk) ?_
                  refine run_op rfl rfl rfl (by simp [boxA, AV.cells, AV.isCell]; exact .mk) ?_
                  refine run_end [4] (by simp) (by simp; exact .mk) ?_
                  rintro -
                  refine W_ret ?_
                  refine endAt_ret (by simp [boxA, AV.cells, AV.isCell, Try.f46]; exact .mk) ?_ ?_
                  · first | rfl | (exfalso; unfold kindS at hf <;> (repeat' split at hf) <;> first | (show (_ : Nat) = _; omega) | (exfalso; omega) | (exfalso; simp_all; done))
                  · first | (obtain rfl : e = 1 := by unfold kindS at hf <;> (repeat' split at hf) <;> first | (show (_ : Nat) = _; omega) | (exfalso; omega) | (exfalso; simp_all; done)
                             rfl) | (obtain rfl : e = 3 := by unfold kindS at hf <;> (repeat' split at hf) <;> first | (show (_ : Nat) = _; omega) | (exfalso; omega) | (exfalso; simp_all; done)
                                     rfl) | (obtain rfl : e = 8 := by unfold kindS at hf <;> (repeat' split at hf) <;> first | (show (_ : Nat) = _; omega) | (exfalso; omega) | (exfalso; simp_all; done)
                                             rfl) | (exfalso; unfold kindS at hf <;> (repeat' split at hf) <;> first | (show (_ : Nat) = _; omega) | (exfalso; omega) | (exfalso; simp_all; done))
                · intro h53
                  have k7 : o.act ≠ 2 := by simpa using h53
                  refine W_seq ?_
                  refine W_reg rfl ?_
                  refine run_op rfl rfl rfl (by simp [boxA, AV.cells, AV.isCell]; exact .mk) ?_
                  refine run_op rfl rfl rfl (by simp [boxA, AV.cells, AV.isCell]; exact .mk) ?_
                  refine run_op rfl rfl rfl (by simp [boxA, AV.cells, AV.isCell, eqA, eqFs, isStructTy, eqlNeq, strOp, isBoolTy, isPtrTy, isFnTy]; exact .mk) ?_
                  refine run_op rfl rfl rfl (by simp [boxA, AV.cells, AV.isCell]; exact .mk) ?_
                  refine run_end [0, 3, 59] (by simp) (by simp; exact .mk) ?_
                  rintro -
                  refine W_cond rfl ?_ ?_
                  · intro h59
                    have k8 : o.act = 3 := by simpa using h59
                    refine W_seq ?_
                    refine W_reg rfl ?_
                    refine run_op rfl rfl rfl (by simp [boxA, AV.cells, AV.isCell]; exact .mk) ?_
                    refine run_op rfl rfl rfl (by simp [boxA, AV.cells, AV.isCell]; exact .mk) ?_
                    refine run_op rfl rfl rfl (by simp [boxA, AV.cells, AV.isCell]; exact .mk) ?_
                    refine run_end [4] (by simp) (by simp; exact .mk) ?_
                    rintro -
                    refine W_ret ?_
                    refine endAt_ret (by simp [boxA, AV.cells, AV.isCell, Try.f46]; exact .mk) ?_ ?_
                    · first | rfl | (exfalso; unfold kindS at hf <;> (repeat' split at hf) <;> first | (show (_ : Nat) = _; omega) | (exfalso; omega) | (exfalso; simp_all; done))
                    · first | (obtain rfl : e = 1 := by unfold kindS at hf <;> (repeat' split at hf) <;> first | (show (_ : Nat) = _; omega) | (exfalso; omega) | (exfalso; simp_all; done)
                               rfl) | (obtain rfl : e = 3 := by unfold kindS at hf <;> (repeat' split at hf) <;> first | (show (_ : Nat) = _; omega) | (exfalso; omega) | (exfalso; simp_all; done)
                                       rfl) | (obtain rfl : e = 8 := by unfold kindS at hf <;> (repeat' split at hf) <;> first | (show (_ : Nat) = _; omega) | (exfalso; omega) | (exfalso; simp_all; done)
                                               rfl) | (exfalso; unfold kindS at hf <;> (repeat' split at hf) <;> first | (show (_ : Nat) = _; omega) | (exfalso; omega) | (exfalso; simp_all; done))
                  · intro h59
                    have k8 : o.act ≠ 3 := by simpa using h59
                    refine W_seq ?_
                    refine W_reg rfl ?_
                    refine run_op rfl rfl rfl (by simp [boxA, AV.cells, AV.isCell]; exact .mk) ?_
                    refine run_op rfl rfl rfl (by simp [boxA, AV.cells, AV.isCell]; exact .mk) ?_
                    refine run_op rfl rfl rfl (by simp [boxA, AV.cells, AV.isCell, eqA, eqFs, isStructTy, eqlNeq, strOp, isBoolTy, isPtrTy, isFnTy]; exact .mk) ?_
                    refine run_op rfl rfl rfl (by simp [boxA, AV.cells, AV.isCell]; exact .mk) ?_
                    refine run_end [0, 3, 65] (by simp) (by simp; exact .mk) ?_
                    rintro -
                    refine W_cond rfl ?_ ?_
                    · intro h65
                      have k9 : o.act = 4 := by simpa using h65
                      refine W_seq ?_
                      refine W_reg rfl ?_
                      refine run_op rfl rfl rfl (by simp [boxA, AV.cells, AV.isCell]; exact .mk) ?_
                      refine run_op rfl rfl rfl (by simp [boxA, AV.cells, AV.isCell]; exact .mk) ?_
                      refine run_op rfl rfl rfl (by simp [boxA, AV.cells, AV.isCell]; exact .mk) ?_
                      refine run_end [4] (by simp) (by simp; exact .mk) ?_
                      rintro -
                      refine W_ret ?_
                      refine endAt_ret (by simp [boxA, AV.cells, AV.isCell, Try.f46]; exact .mk) ?_ ?_
                      · first | rfl | (exfalso; unfold kindS at hf <;> (repeat' split at hf) <;> first | (show (_ : Nat) = _; omega) | (exfalso; omega) | (exfalso; simp_all; done))
                      · first | (obtain rfl : e = 1 := by unfold kindS at hf <;> (repeat' split at hf) <;> first | (show (_ : Nat) = _; omega) | (exfalso; omega) | (exfalso; simp_all; done)
                                 rfl) | (obtain rfl : e = 3 := by unfold kindS at hf <;> (repeat' split at hf) <;> first | (show (_ : Nat) = _; omega) | (exfalso; omega) | (exfalso; simp_all; done)
                                         rfl) | (obtain rfl : e = 8 := by unfold kindS at hf <;> (repeat' split at hf) <;> first | (show (_ : Nat) = _; omega) | (exfalso; omega) | (exfalso; simp_all; done)
                                                 rfl) | (exfalso; unfold kindS at hf <;> (repeat' split at hf) <;> first | (show (_ : Nat) = _; omega) | (exfalso; omega) | (exfalso; simp_all; done))
                    · intro h65
                      have k9 : o.act ≠ 4 := by simpa using h65
                      refine W_seq ?_
                      refine W_reg rfl ?_
                      refine run_op rfl rfl rfl (by simp [boxA, AV.cells, AV.isCell]; exact .mk) ?_
                      refine run_op rfl rfl rfl (by simp [boxA, AV.cells, AV.isCell]; exact .mk) ?_
                      refine run_op rfl rfl rfl (by simp [boxA, AV.cells, AV.isCell, eqA, eqFs, isStructTy, eqlNeq, strOp, isBoolTy, isPtrTy, isFnTy]; exact .mk) ?_
                      refine run_op rfl rfl rfl (by simp [boxA, AV.cells, AV.isCell]; exact .mk) ?_
                      refine run_end [0, 71] (by simp) (by simp; exact .mk) ?_
                      rintro -
                      refine W_cond rfl ?_ ?_
                      · intro h71
                        have k10 : o.act = 5 := by simpa using h71
                        refine W_seq ?_
                        refine W_reg rfl ?_
                        refine run_op rfl rfl rfl (by simp [boxA, AV.cells, AV.isCell]; exact .mk) ?_
                        refine run_op rfl rfl rfl (by simp [boxA, AV.cells, AV.isCell]; exact .mk) ?_
                        refine run_op rfl rfl rfl (by simp [boxA, AV.cells, AV.isCell]; exact .mk) ?_
                        refine run_end [4] (by simp) (by simp; exact .mk) ?_
                        rintro -
                        refine W_ret ?_
                        refine endAt_ret (by simp [boxA, AV.cells, AV.isCell, Try.f46]; exact .mk) ?_ ?_
                        · first | rfl | (exfalso; unfold kindS at hf <;> (repeat' split at hf) <;> first | (show (_ : Nat) = _; omega) | (exfalso; omega) | (exfalso; simp_all; done))
                        · first | (obtain rfl : e = 1 := by unfold kindS at hf <;> (repeat' split at hf) <;> first | (show (_ : Nat) = _; omega) | (exfalso; omega) | (exfalso; simp_all; done)
                                   rfl) | (obtain rfl : e = 3 := by unfold kindS at hf <;> (repeat' split at hf) <;> first | (show (_ : Nat) = _; omega) | (exfalso; omega) | (exfalso; simp_all; done)
                                           rfl) | (obtain rfl : e = 8 := by unfold kindS at hf <;> (repeat' split at hf) <;> first | (show (_ : Nat) = _; omega) | (exfalso; omega) | (exfalso; simp_all; done)
                                                   rfl) | (exfalso; unfold kindS at hf <;> (repeat' split at hf) <;> first | (show (_ : Nat) = _; omega) | (exfalso; omega) | (exfalso; simp_all; done))
                      · intro h71
                        have k10 : o.act ≠ 5 := by simpa using h71
                        refine W_skip ?_
                        rintro -
                        refine W_seq ?_
                        refine W_reg rfl ?_
                        refine run_op rfl rfl rfl (by simp [boxA, AV.cells, AV.isCell]; exact .mk) ?_
                        refine run_op rfl rfl rfl (by simp [boxA, AV.cells, AV.isCell]; exact .mk) ?_
                        refine run_op rfl rfl rfl (by simp [boxA, AV.cells, AV.isCell]; exact .mk) ?_
                        refine run_end [4] (by simp) (by simp; exact .mk) ?_
                        rintro -
                        refine W_ret ?_
                        refine endAt_ret (by simp [boxA, AV.cells, AV.isCell, Try.f46]; exact .mk) ?_ ?_
                        · first | rfl | (exfalso; unfold kindS at hf <;> (repeat' split at hf) <;> first | (show (_ : Nat) = _; omega) | (exfalso; omega) | (exfalso; simp_all; done))
                        · first | (obtain rfl : e = 1 := by unfold kindS at hf <;> (repeat' split at hf) <;> first | (show (_ : Nat) = _; omega) | (exfalso; omega) | (exfalso; simp_all; done)
                                   rfl) | (obtain rfl : e = 3 := by unfold kindS at hf <;> (repeat' split at hf) <;> first | (show (_ : Nat) = _; omega) | (exfalso; omega) | (exfalso; simp_all; done)
                                           rfl) | (obtain rfl : e = 8 := by unfold kindS at hf <;> (repeat' split at hf) <;> first | (show (_ : Nat) = _; omega) | (exfalso; omega) | (exfalso; simp_all; done)
                                                   rfl) | (exfalso; unfold kindS at hf <;> (repeat' split at hf) <;> first | (show (_ : Nat) = _; omega) | (exfalso; omega) | (exfalso; simp_all; done))

end Go.Proofs
