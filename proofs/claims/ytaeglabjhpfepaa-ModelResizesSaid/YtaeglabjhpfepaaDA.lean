/- Contracts of the functions of the package model that work in place on objects: each leaves what its plain function answers. -/
import Derived.Test.YtaeglabjhpfepaaBase
import Derived.Test.YtaeglabjhpfepaaK
set_option linter.all false
set_option linter.unusedSimpArgs false
set_option linter.unusedVariables false
set_option maxHeartbeats 4000000
namespace Go.Proofs
open Go.Awp
theorem in112 (g : Gl) (o0 o1 o2 o3 o8 o9 : Awp.Obj) (a : Abs) (k : Nat) (gn off n : Int) (q : Bool) (ho : ∀ m, objsLt m [o0, o1, o2, o3, o8, o9] = true) (hk : k < a.data.length) (hd : (nth a.data k).length ≤ 2^40) (hq : reachS (nth a.data k).length off n = q) : ∀ B S, CallsA Try.prog g B S ⟨10, true⟩ 112 [.ptr 7 0 0, .agg [.d (vI k), .d (vI gn)], .d (vI off), .d (vI n)] [o0, o1, o2, o3, .row 1 (a.gens.map vI), .row 1 (a.data.map oB), .row 3 (a.roots.map eRoot), .var 86 [.hdr 4 0 a.gens.length, .hdr 5 0 a.data.length, (.hdr 6 0 a.roots.length), .d (vI 0), .d (vI 0), .d (.v (.slice none 0 0))], o8, o9]
    (fun x o => x = .tup [bif q then .d (snR 1 vB (((nth a.data k).drop off.toNat).take n.toNat)) else .d (.v (.slice none 0 0)), .d (.v (.bool q))] ∧ o = [o0, o1, o2, o3, .row 1 (a.gens.map vI), .row 1 (a.data.map oB), .row 3 (a.roots.map eRoot), .var 86 [.hdr 4 0 a.gens.length, .hdr 5 0 a.data.length, (.hdr 6 0 a.roots.length), .d (vI 0), .d (vI 0), .d (.v (.slice none 0 0))], o8, o9]) := by
  refine callsA_at Try.func112 rfl (Nat.le_of_ble_eq_true rfl) fun B S => ?_
  obtain ⟨z0, z1, z2, z3, z8, z9⟩ : o0.lt 10 = true ∧ o1.lt 10 = true ∧ o2.lt 10 = true ∧ o3.lt 10 = true ∧ o8.lt 10 = true ∧ o9.lt 10 = true := by simpa using ho 10
  refine W_seq ?_
  refine W_reg rfl ?_
  refine run_op rfl rfl rfl (by simp [boxA, AV.cells, AV.isCell, z0, z1, z2, z3, z8, z9, boxA, AV.cells, AV.isCell]; exact .mk) ?_
  refine run_op rfl rfl rfl (by simp [boxA, AV.cells, AV.isCell, z0, z1, z2, z3, z8, z9]; exact .mk) ?_
  refine run_op rfl rfl rfl (by simp [boxA, AV.cells, AV.isCell, z0, z1, z2, z3, z8, z9]; exact .mk) ?_
  refine run_end [0, 2, 3, 5] (by simp) (by simp; exact .mk) ?_
  rintro -
  refine W_seq ?_
  refine W_regD (by kernel_rfl) [] 4 [0, 1, 2, 3, 4, 5, 6, 7, 8, 9] (by decide +kernel) ?_
  refine run_op rfl rfl rfl (by simp [boxA, AV.cells, AV.isCell, z0, z1, z2, z3, z8, z9]; exact .mk) ?_
  refine run_op rfl rfl rfl (by simp [boxA, AV.cells, AV.isCell, z0, z1, z2, z3, z8, z9]; exact .mk) ?_
  refine run_op rfl rfl rfl (by simp [boxA, AV.cells, AV.isCell, z0, z1, z2, z3, z8, z9]; exact .mk) ?_
  refine run_op rfl rfl rfl (by simp [boxA, AV.cells, AV.isCell, z0, z1, z2, z3, z8, z9]; exact .mk) ?_
  refine run_op rfl rfl rfl (by simp [boxA, AV.cells, AV.isCell, z0, z1, z2, z3, z8, z9]; exact .mk) ?_
  refine run_op rfl rfl rfl (by simp [boxA, AV.cells, AV.isCell, z0, z1, z2, z3, z8, z9]; exact .mk) ?_
  refine run_op rfl rfl rfl (by simp [boxA, AV.cells, AV.isCell, z0, z1, z2, z3, z8, z9]; exact .mk) ?_
  refine run_op rfl rfl rfl (by simp [boxA, AV.cells, AV.isCell, z0, z1, z2, z3, z8, z9, hk]; exact .mk) ?_
  refine run_op rfl rfl rfl (by simp [boxA, AV.cells, AV.isCell, z0, z1, z2, z3, z8, z9, -List.getElem?_map, map_get hk]; exact .mk) ?_
  refine run_op rfl rfl rfl (by simp [boxA, AV.cells, AV.isCell, z0, z1, z2, z3, z8, z9]; exact .mk) ?_
  refine run_end [2, 3, 10] (by simp) (by simp; exact .mk) ?_
  rintro -
  refine W_seq ?_
  refine W_seq ?_
  refine W_reg rfl ?_
  refine run_op rfl rfl rfl (by simp [boxA, AV.cells, AV.isCell, z0, z1, z2, z3, z8, z9]; exact .mk) ?_
  refine run_op rfl rfl rfl (by simp [boxA, AV.cells, AV.isCell, z0, z1, z2, z3, z8, z9, eqA, eqFs, isStructTy, eqlNeq, strOp, isBoolTy, isPtrTy, isFnTy]; exact .mk) ?_
  refine run_op rfl rfl rfl (by simp [boxA, AV.cells, AV.isCell, z0, z1, z2, z3, z8, z9]; exact .mk) ?_
  refine run_if rfl (by simp [boxA, AV.cells, AV.isCell, z0, z1, z2, z3, z8, z9]; exact .mk) rfl (by simp <;> omega) (fun hb => by simp [boxA, AV.cells, AV.isCell, z0, z1, z2, z3, z8, z9]; exact .mk) ?_
  refine run_if rfl (by simp [boxA, AV.cells, AV.isCell, z0, z1, z2, z3, z8, z9]; exact .mk) rfl (by simp <;> omega) (fun hb => by simp [boxA, AV.cells, AV.isCell, z0, z1, z2, z3, z8, z9]; exact .mk) ?_
  refine run_if rfl (by simp [boxA, AV.cells, AV.isCell, z0, z1, z2, z3, z8, z9]; exact .mk) rfl (by simp <;> omega) (fun hb => by simp [boxA, AV.cells, AV.isCell, z0, z1, z2, z3, z8, z9]; exact .mk) ?_
  refine run_if rfl (by simp [boxA, AV.cells, AV.isCell, z0, z1, z2, z3, z8, z9]; exact .mk) rfl (by simp <;> omega) (fun hb => by simp [boxA, AV.cells, AV.isCell, z0, z1, z2, z3, z8, z9, eqA, eqFs, isStructTy, eqlNeq, strOp, isBoolTy, isPtrTy, isFnTy]; exact .mk) ?_
  refine run_pick rfl (by simp [boxA, AV.cells, AV.isCell, z0, z1, z2, z3, z8, z9]; exact .mk) rfl rfl (by simp) (by simp [boxA, AV.cells, AV.isCell, z0, z1, z2, z3, z8, z9]; exact .mk) (by simp [boxA, AV.cells, AV.isCell, z0, z1, z2, z3, z8, z9]; exact .mk) (by simp; exact .mk) ?_
  refine run_op1 rfl rfl rfl (by simp <;> omega) (by simp [boxA, AV.cells, AV.isCell, z0, z1, z2, z3, z8, z9]; exact .mk) ?_
  refine run_if rfl (by simp [boxA, AV.cells, AV.isCell, z0, z1, z2, z3, z8, z9]; exact .mk) rfl (by simp <;> omega) (fun hb => by simp [boxA, AV.cells, AV.isCell, z0, z1, z2, z3, z8, z9]; exact .mk) ?_
  refine run_if rfl (by simp [boxA, AV.cells, AV.isCell, z0, z1, z2, z3, z8, z9]; exact .mk) rfl (by simp <;> omega) (fun hb => by simp [boxA, AV.cells, AV.isCell, z0, z1, z2, z3, z8, z9, eqA, eqFs, isStructTy, eqlNeq, strOp, isBoolTy, isPtrTy, isFnTy]; exact .mk) ?_
  refine run_pick rfl (by simp [boxA, AV.cells, AV.isCell, z0, z1, z2, z3, z8, z9]; exact .mk) rfl rfl (by simp) (by simp [boxA, AV.cells, AV.isCell, z0, z1, z2, z3, z8, z9]; exact .mk) (by simp [boxA, AV.cells, AV.isCell, z0, z1, z2, z3, z8, z9]; exact .mk) (by simp; exact .mk) ?_
  refine run_op1 rfl rfl rfl (by simp <;> omega) (by simp [boxA, AV.cells, AV.isCell, z0, z1, z2, z3, z8, z9]; exact .mk) ?_
  refine run_if rfl (by simp [boxA, AV.cells, AV.isCell, z0, z1, z2, z3, z8, z9]; exact .mk) rfl (by simp <;> omega) (fun hb => by simp [boxA, AV.cells, AV.isCell, z0, z1, z2, z3, z8, z9]; exact .mk) ?_
  refine run_if rfl (by simp [boxA, AV.cells, AV.isCell, z0, z1, z2, z3, z8, z9]; exact .mk) rfl (by simp <;> omega) (fun hb => by simp [boxA, AV.cells, AV.isCell, z0, z1, z2, z3, z8, z9]; exact .mk) ?_
  refine run_if rfl (by simp [boxA, AV.cells, AV.isCell, z0, z1, z2, z3, z8, z9]; exact .mk) rfl (by simp <;> omega) (fun hb => by simp [boxA, AV.cells, AV.isCell, z0, z1, z2, z3, z8, z9]; exact .mk) ?_
  refine run_if rfl (by simp [boxA, AV.cells, AV.isCell, z0, z1, z2, z3, z8, z9]; exact .mk) rfl (by simp <;> omega) (fun hb => by simp [boxA, AV.cells, AV.isCell, z0, z1, z2, z3, z8, z9]; exact .mk) ?_
  refine run_if rfl (by simp [boxA, AV.cells, AV.isCell, z0, z1, z2, z3, z8, z9]; exact .mk) rfl (by simp <;> omega) (fun hb => by simp [boxA, AV.cells, AV.isCell, z0, z1, z2, z3, z8, z9, eqA, eqFs, isStructTy, eqlNeq, strOp, isBoolTy, isPtrTy, isFnTy]; exact .mk) ?_
  refine run_if rfl (by simp [boxA, AV.cells, AV.isCell, z0, z1, z2, z3, z8, z9]; exact .mk) rfl (by simp <;> omega) (fun hb => by simp [boxA, AV.cells, AV.isCell, z0, z1, z2, z3, z8, z9, eqA, eqFs, isStructTy, eqlNeq, strOp, isBoolTy, isPtrTy, isFnTy]; exact .mk) ?_
  refine run_pick rfl (by simp [boxA, AV.cells, AV.isCell, z0, z1, z2, z3, z8, z9]; exact .mk) rfl rfl (by simp) (by simp [boxA, AV.cells, AV.isCell, z0, z1, z2, z3, z8, z9]; exact .mk) (by simp [boxA, AV.cells, AV.isCell, z0, z1, z2, z3, z8, z9]; exact .mk) (by simp; exact .mk) ?_
  refine run_end [2, 3, 10, 39] (by simp <;> omega) (by simp; exact .mk) ?_
  rintro -
  refine W_cond rfl ?_ ?_
  · intro h39
    rw [reach_eq hd, hq] at h39
    obtain rfl : q = false := by simpa using h39
    refine W_seq ?_
    refine W_reg rfl ?_
    refine run_op rfl rfl rfl (by simp [boxA, AV.cells, AV.isCell, z0, z1, z2, z3, z8, z9]; exact .mk) ?_
    refine run_op rfl rfl rfl (by simp [boxA, AV.cells, AV.isCell, z0, z1, z2, z3, z8, z9]; exact .mk) ?_
    refine run_end [8, 9] (by simp) (by simp; exact .mk) ?_
    rintro -
    refine W_ret ?_
    refine endAt_drop 10 (by simp [boxA, AV.cells, AV.isCell, z0, z1, z2, z3, z8, z9, Try.f112]; exact .mk) ?_ ?_ (by simp) (by simp [boxA, AV.cells, AV.isCell, z0, z1, z2, z3, z8, z9]) (by simp [boxA, AV.cells, AV.isCell, z0, z1, z2, z3, z8, z9])
    · simp <;> (try rw [show (off + n).toNat - off.toNat = n.toNat from by omega])
    · rfl
  · intro h39
    rw [reach_eq hd, hq] at h39
    obtain rfl : q = true := by simpa using h39
    have hx : 0 ≤ off ∧ off ≤ (nth a.data k).length ∧ 0 ≤ n ∧ n ≤ (nth a.data k).length - off := by rw [reachS] at hq; simp at hq; omega
    refine W_skip ?_
    rintro -
    refine W_seq ?_
    have e1 : IntKind.i64.wrap (off + n) = off + n := wrap64 (by omega) (by omega)
    refine W_reg rfl ?_
    refine run_op rfl rfl rfl (by simp [boxA, AV.cells, AV.isCell, z0, z1, z2, z3, z8, z9]; exact .mk) ?_
    refine run_op rfl rfl rfl (by simp [boxA, AV.cells, AV.isCell, z0, z1, z2, z3, z8, z9]; exact .mk) ?_
    refine run_op rfl rfl rfl (by simp [boxA, AV.cells, AV.isCell, z0, z1, z2, z3, z8, z9]; exact .mk) ?_
    refine run_op rfl rfl rfl (by simp [boxA, AV.cells, AV.isCell, z0, z1, z2, z3, z8, z9]; exact .mk) ?_
    refine run_op rfl rfl rfl (by simp [boxA, AV.cells, AV.isCell, z0, z1, z2, z3, z8, z9, eqA, eqFs, isStructTy, eqlNeq, strOp, isBoolTy, isPtrTy, isFnTy, e1]; exact .mk) ?_
    refine run_op rfl rfl rfl (by simp [boxA, AV.cells, AV.isCell, z0, z1, z2, z3, z8, z9, optA, hx.1, show off ≤ off + n from by omega, show off + n ≤ ↑(nth a.data k).length from by omega]; exact .mk) ?_
    refine run_op rfl rfl rfl (by simp [boxA, AV.cells, AV.isCell, z0, z1, z2, z3, z8, z9]; exact .mk) ?_
    refine run_op rfl rfl rfl (by simp [boxA, AV.cells, AV.isCell, z0, z1, z2, z3, z8, z9]; exact .mk) ?_
    refine run_end [8, 9] (by simp) (by simp; exact .mk) ?_
    rintro -
    refine W_ret ?_
    refine endAt_drop 10 (by simp [boxA, AV.cells, AV.isCell, z0, z1, z2, z3, z8, z9, Try.f112]; exact .mk) ?_ ?_ (by simp) (by simp [boxA, AV.cells, AV.isCell, z0, z1, z2, z3, z8, z9]) (by simp [boxA, AV.cells, AV.isCell, z0, z1, z2, z3, z8, z9])
    · simp <;> (try rw [show (off + n).toNat - off.toNat = n.toNat from by omega])
    · rfl

theorem in112h (g : Gl) (o0 o1 o2 o3 o8 o9 : Awp.Obj) (a : Abs) (k : Nat) (gn off n : Int) (q : Bool) (ho : ∀ m, objsLt m [o0, o1, o2, o3, o8, o9] = true) (hk : k < a.data.length) (hd : (nth a.data k).length ≤ 2^40) (hq : reachS (nth a.data k).length off n = q) : ∀ B S, CallsA Try.prog g B S ⟨11, true⟩ 112 [.ptr 7 0 0, .agg [.d (vI k), .d (vI gn)], .d (vI off), .d (vI n)] [o0, o1, o2, o3, .row 1 (a.gens.map vI), .hole k 10 (nth a.data k).length (a.data.map oB), .row 3 (a.roots.map eRoot), .var 86 [.hdr 4 0 a.gens.length, .hdr 5 0 a.data.length, (.hdr 6 0 a.roots.length), .d (vI 0), .d (vI 0), .d (.v (.slice none 0 0))], o8, o9, .row 1 ((nth a.data k).map vB)]
    (fun x o => x = .tup [bif q then .hdr 10 off.toNat n.toNat else .d (.v (.slice none 0 0)), .d (.v (.bool q))] ∧ o = [o0, o1, o2, o3, .row 1 (a.gens.map vI), .hole k 10 (nth a.data k).length (a.data.map oB), .row 3 (a.roots.map eRoot), .var 86 [.hdr 4 0 a.gens.length, .hdr 5 0 a.data.length, (.hdr 6 0 a.roots.length), .d (vI 0), .d (vI 0), .d (.v (.slice none 0 0))], o8, o9, .row 1 ((nth a.data k).map vB)]) := by
  refine callsA_at Try.func112 rfl (Nat.le_of_ble_eq_true rfl) fun B S => ?_
  obtain ⟨z0, z1, z2, z3, z8, z9⟩ : o0.lt 11 = true ∧ o1.lt 11 = true ∧ o2.lt 11 = true ∧ o3.lt 11 = true ∧ o8.lt 11 = true ∧ o9.lt 11 = true := by simpa using ho 11
  refine W_seq ?_
  refine W_reg rfl ?_
  refine run_op rfl rfl rfl (by simp [boxA, AV.cells, AV.isCell, z0, z1, z2, z3, z8, z9, boxA, AV.cells, AV.isCell]; exact .mk) ?_
  refine run_op rfl rfl rfl (by simp [boxA, AV.cells, AV.isCell, z0, z1, z2, z3, z8, z9]; exact .mk) ?_
  refine run_op rfl rfl rfl (by simp [boxA, AV.cells, AV.isCell, z0, z1, z2, z3, z8, z9]; exact .mk) ?_
  refine run_end [0, 2, 3, 5] (by simp) (by simp; exact .mk) ?_
  rintro -
  refine W_seq ?_
  refine W_regD (by kernel_rfl) [] 4 [0, 1, 2, 3, 4, 5, 6, 7, 8, 9] (by decide +kernel) ?_
  refine run_op rfl rfl rfl (by simp [boxA, AV.cells, AV.isCell, z0, z1, z2, z3, z8, z9]; exact .mk) ?_
  refine run_op rfl rfl rfl (by simp [boxA, AV.cells, AV.isCell, z0, z1, z2, z3, z8, z9]; exact .mk) ?_
  refine run_op rfl rfl rfl (by simp [boxA, AV.cells, AV.isCell, z0, z1, z2, z3, z8, z9]; exact .mk) ?_
  refine run_op rfl rfl rfl (by simp [boxA, AV.cells, AV.isCell, z0, z1, z2, z3, z8, z9]; exact .mk) ?_
  refine run_op rfl rfl rfl (by simp [boxA, AV.cells, AV.isCell, z0, z1, z2, z3, z8, z9]; exact .mk) ?_
  refine run_op rfl rfl rfl (by simp [boxA, AV.cells, AV.isCell, z0, z1, z2, z3, z8, z9]; exact .mk) ?_
  refine run_op rfl rfl rfl (by simp [boxA, AV.cells, AV.isCell, z0, z1, z2, z3, z8, z9]; exact .mk) ?_
  refine run_op rfl rfl rfl (by simp [boxA, AV.cells, AV.isCell, z0, z1, z2, z3, z8, z9, hk]; exact .mk) ?_
  refine run_op rfl rfl rfl (by simp [boxA, AV.cells, AV.isCell, z0, z1, z2, z3, z8, z9, -List.getElem?_map, map_get hk]; exact .mk) ?_
  refine run_op rfl rfl rfl (by simp [boxA, AV.cells, AV.isCell, z0, z1, z2, z3, z8, z9]; exact .mk) ?_
  refine run_end [2, 3, 10] (by simp) (by simp; exact .mk) ?_
  rintro -
  refine W_seq ?_
  refine W_seq ?_
  refine W_reg rfl ?_
  refine run_op rfl rfl rfl (by simp [boxA, AV.cells, AV.isCell, z0, z1, z2, z3, z8, z9]; exact .mk) ?_
  refine run_op rfl rfl rfl (by simp [boxA, AV.cells, AV.isCell, z0, z1, z2, z3, z8, z9, eqA, eqFs, isStructTy, eqlNeq, strOp, isBoolTy, isPtrTy, isFnTy]; exact .mk) ?_
  refine run_op rfl rfl rfl (by simp [boxA, AV.cells, AV.isCell, z0, z1, z2, z3, z8, z9]; exact .mk) ?_
  refine run_if rfl (by simp [boxA, AV.cells, AV.isCell, z0, z1, z2, z3, z8, z9]; exact .mk) rfl (by simp <;> omega) (fun hb => by simp [boxA, AV.cells, AV.isCell, z0, z1, z2, z3, z8, z9]; exact .mk) ?_
  refine run_if rfl (by simp [boxA, AV.cells, AV.isCell, z0, z1, z2, z3, z8, z9]; exact .mk) rfl (by simp <;> omega) (fun hb => by simp [boxA, AV.cells, AV.isCell, z0, z1, z2, z3, z8, z9]; exact .mk) ?_
  refine run_if rfl (by simp [boxA, AV.cells, AV.isCell, z0, z1, z2, z3, z8, z9]; exact .mk) rfl (by simp <;> omega) (fun hb => by simp [boxA, AV.cells, AV.isCell, z0, z1, z2, z3, z8, z9]; exact .mk) ?_
  refine run_if rfl (by simp [boxA, AV.cells, AV.isCell, z0, z1, z2, z3, z8, z9]; exact .mk) rfl (by simp <;> omega) (fun hb => by simp [boxA, AV.cells, AV.isCell, z0, z1, z2, z3, z8, z9, eqA, eqFs, isStructTy, eqlNeq, strOp, isBoolTy, isPtrTy, isFnTy]; exact .mk) ?_
  refine run_pick rfl (by simp [boxA, AV.cells, AV.isCell, z0, z1, z2, z3, z8, z9]; exact .mk) rfl rfl (by simp) (by simp [boxA, AV.cells, AV.isCell, z0, z1, z2, z3, z8, z9]; exact .mk) (by simp [boxA, AV.cells, AV.isCell, z0, z1, z2, z3, z8, z9]; exact .mk) (by simp; exact .mk) ?_
  refine run_op1 rfl rfl rfl (by simp <;> omega) (by simp [boxA, AV.cells, AV.isCell, z0, z1, z2, z3, z8, z9]; exact .mk) ?_
  refine run_if rfl (by simp [boxA, AV.cells, AV.isCell, z0, z1, z2, z3, z8, z9]; exact .mk) rfl (by simp <;> omega) (fun hb => by simp [boxA, AV.cells, AV.isCell, z0, z1, z2, z3, z8, z9]; exact .mk) ?_
  refine run_if rfl (by simp [boxA, AV.cells, AV.isCell, z0, z1, z2, z3, z8, z9]; exact .mk) rfl (by simp <;> omega) (fun hb => by simp [boxA, AV.cells, AV.isCell, z0, z1, z2, z3, z8, z9, eqA, eqFs, isStructTy, eqlNeq, strOp, isBoolTy, isPtrTy, isFnTy]; exact .mk) ?_
  refine run_pick rfl (by simp [boxA, AV.cells, AV.isCell, z0, z1, z2, z3, z8, z9]; exact .mk) rfl rfl (by simp) (by simp [boxA, AV.cells, AV.isCell, z0, z1, z2, z3, z8, z9]; exact .mk) (by simp [boxA, AV.cells, AV.isCell, z0, z1, z2, z3, z8, z9]; exact .mk) (by simp; exact .mk) ?_
  refine run_op1 rfl rfl rfl (by simp <;> omega) (by simp [boxA, AV.cells, AV.isCell, z0, z1, z2, z3, z8, z9]; exact .mk) ?_
  refine run_if rfl (by simp [boxA, AV.cells, AV.isCell, z0, z1, z2, z3, z8, z9]; exact .mk) rfl (by simp <;> omega) (fun hb => by simp [boxA, AV.cells, AV.isCell, z0, z1, z2, z3, z8, z9]; exact .mk) ?_
  refine run_if rfl (by simp [boxA, AV.cells, AV.isCell, z0, z1, z2, z3, z8, z9]; exact .mk) rfl (by simp <;> omega) (fun hb => by simp [boxA, AV.cells, AV.isCell, z0, z1, z2, z3, z8, z9]; exact .mk) ?_
  refine run_if rfl (by simp [boxA, AV.cells, AV.isCell, z0, z1, z2, z3, z8, z9]; exact .mk) rfl (by simp <;> omega) (fun hb => by simp [boxA, AV.cells, AV.isCell, z0, z1, z2, z3, z8, z9]; exact .mk) ?_
  refine run_if rfl (by simp [boxA, AV.cells, AV.isCell, z0, z1, z2, z3, z8, z9]; exact .mk) rfl (by simp <;> omega) (fun hb => by simp [boxA, AV.cells, AV.isCell, z0, z1, z2, z3, z8, z9]; exact .mk) ?_
  refine run_if rfl (by simp [boxA, AV.cells, AV.isCell, z0, z1, z2, z3, z8, z9]; exact .mk) rfl (by simp <;> omega) (fun hb => by simp [boxA, AV.cells, AV.isCell, z0, z1, z2, z3, z8, z9, eqA, eqFs, isStructTy, eqlNeq, strOp, isBoolTy, isPtrTy, isFnTy]; exact .mk) ?_
  refine run_if rfl (by simp [boxA, AV.cells, AV.isCell, z0, z1, z2, z3, z8, z9]; exact .mk) rfl (by simp <;> omega) (fun hb => by simp [boxA, AV.cells, AV.isCell, z0, z1, z2, z3, z8, z9, eqA, eqFs, isStructTy, eqlNeq, strOp, isBoolTy, isPtrTy, isFnTy]; exact .mk) ?_
  refine run_pick rfl (by simp [boxA, AV.cells, AV.isCell, z0, z1, z2, z3, z8, z9]; exact .mk) rfl rfl (by simp) (by simp [boxA, AV.cells, AV.isCell, z0, z1, z2, z3, z8, z9]; exact .mk) (by simp [boxA, AV.cells, AV.isCell, z0, z1, z2, z3, z8, z9]; exact .mk) (by simp; exact .mk) ?_
  refine run_end [2, 3, 10, 39] (by simp <;> omega) (by simp; exact .mk) ?_
  rintro -
  refine W_cond rfl ?_ ?_
  · intro h39
    rw [reach_eq hd, hq] at h39
    obtain rfl : q = false := by simpa using h39
    refine W_seq ?_
    refine W_reg rfl ?_
    refine run_op rfl rfl rfl (by simp [boxA, AV.cells, AV.isCell, z0, z1, z2, z3, z8, z9]; exact .mk) ?_
    refine run_op rfl rfl rfl (by simp [boxA, AV.cells, AV.isCell, z0, z1, z2, z3, z8, z9]; exact .mk) ?_
    refine run_end [8, 9] (by simp) (by simp; exact .mk) ?_
    rintro -
    refine W_ret ?_
    refine endAt_drop 11 (by simp [boxA, AV.cells, AV.isCell, z0, z1, z2, z3, z8, z9, Try.f112]; exact .mk) ?_ ?_ (by simp) (by simp [boxA, AV.cells, AV.isCell, z0, z1, z2, z3, z8, z9]) (by simp [boxA, AV.cells, AV.isCell, z0, z1, z2, z3, z8, z9])
    · simp <;> (try rw [show (off + n).toNat - off.toNat = n.toNat from by omega])
    · rfl
  · intro h39
    rw [reach_eq hd, hq] at h39
    obtain rfl : q = true := by simpa using h39
    have hx : 0 ≤ off ∧ off ≤ (nth a.data k).length ∧ 0 ≤ n ∧ n ≤ (nth a.data k).length - off := by rw [reachS] at hq; simp at hq; omega
    refine W_skip ?_
    rintro -
    refine W_seq ?_
    have e1 : IntKind.i64.wrap (off + n) = off + n := wrap64 (by omega) (by omega)
    refine W_reg rfl ?_
    refine run_op rfl rfl rfl (by simp [boxA, AV.cells, AV.isCell, z0, z1, z2, z3, z8, z9]; exact .mk) ?_
    refine run_op rfl rfl rfl (by simp [boxA, AV.cells, AV.isCell, z0, z1, z2, z3, z8, z9]; exact .mk) ?_
    refine run_op rfl rfl rfl (by simp [boxA, AV.cells, AV.isCell, z0, z1, z2, z3, z8, z9]; exact .mk) ?_
    refine run_op rfl rfl rfl (by simp [boxA, AV.cells, AV.isCell, z0, z1, z2, z3, z8, z9]; exact .mk) ?_
    refine run_op rfl rfl rfl (by simp [boxA, AV.cells, AV.isCell, z0, z1, z2, z3, z8, z9, eqA, eqFs, isStructTy, eqlNeq, strOp, isBoolTy, isPtrTy, isFnTy, e1]; exact .mk) ?_
    refine run_op rfl rfl rfl (by simp [boxA, AV.cells, AV.isCell, z0, z1, z2, z3, z8, z9, optA, hx.1, show off ≤ off + n from by omega, show off + n ≤ ↑(nth a.data k).length from by omega]; exact .mk) ?_
    refine run_op rfl rfl rfl (by simp [boxA, AV.cells, AV.isCell, z0, z1, z2, z3, z8, z9]; exact .mk) ?_
    refine run_op rfl rfl rfl (by simp [boxA, AV.cells, AV.isCell, z0, z1, z2, z3, z8, z9]; exact .mk) ?_
    refine run_end [8, 9] (by simp) (by simp; exact .mk) ?_
    rintro -
    refine W_ret ?_
    refine endAt_drop 11 (by simp [boxA, AV.cells, AV.isCell, z0, z1, z2, z3, z8, z9, Try.f112]; exact .mk) ?_ ?_ (by simp) (by simp [boxA, AV.cells, AV.isCell, z0, z1, z2, z3, z8, z9]) (by simp [boxA, AV.cells, AV.isCell, z0, z1, z2, z3, z8, z9])
    · simp <;> (try rw [show (off + n).toNat - off.toNat = n.toNat from by omega])
    · rfl

end Go.Proofs

set_option linter.unusedSimpArgs false
set_option linter.unusedVariables false
set_option maxHeartbeats 4000000
namespace Go.Proofs
open Go.Awp
theorem in83 (g : Gl) (o0 o1 o2 o3 o8 : Awp.Obj) (a : Abs) (o : Op) (ho : ∀ m, objsLt m [o0, o1, o2, o3, o8] = true) (ha : a.Ok) (hgd : a.data.length = a.gens.length) : ∀ B S, CallsA Try.prog g B S ⟨9, true⟩ 83 [.ptr 7 0 0, .agg [.d (vI o.act), .d (vI o.ix), .d (vI o.gen), .d (vI o.n), .d (vI o.off), .d (rB o.b), .d (vS o.name)]] [o0, o1, o2, o3, .row 1 (a.gens.map vI), .row 1 (a.data.map oB), .row 3 (a.roots.map eRoot), .var 86 [.hdr 4 0 a.gens.length, .hdr 5 0 a.data.length, (.hdr 6 0 a.roots.length), .d (vI 0), .d (vI 0), .d (.v (.slice none 0 0))], o8]
    (fun x q => x = .d (vI (allocS a o.n).e) ∧ q = [o0, o1, o2, o3, .row 1 (a.gens.map vI), .row 1 ((allocS a o.n).a.data.map oB), .row 3 (a.roots.map eRoot), .var 86 [.hdr 4 0 a.gens.length, .hdr 5 0 a.data.length, (.hdr 6 0 a.roots.length), .d (vI (allocS a o.n).ix), .d (vI (allocS a o.n).gen), .d (.v (.slice none 0 0))], o8]) := by
  refine callsA_at Try.func83 rfl (Nat.le_of_ble_eq_true rfl) fun B S => ?_
  obtain ⟨z0, z1, z2, z3, z8⟩ : o0.lt 9 = true ∧ o1.lt 9 = true ∧ o2.lt 9 = true ∧ o3.lt 9 = true ∧ o8.lt 9 = true := by simpa using ho 9
  refine W_seq ?_
  refine W_reg rfl ?_
  refine run_op rfl rfl rfl (by simp [boxA, AV.cells, AV.isCell, z0, z1, z2, z3, z8, boxA, AV.cells, AV.isCell]; exact .mk) ?_
  refine run_op rfl rfl rfl (by simp [boxA, AV.cells, AV.isCell, z0, z1, z2, z3, z8]; exact .mk) ?_
  refine run_end [0, 3] (by simp) (by simp; exact .mk) ?_
  rintro -
  refine W_seq ?_
  refine W_seq ?_
  refine W_reg rfl ?_
  refine run_op rfl rfl rfl (by simp [boxA, AV.cells, AV.isCell, z0, z1, z2, z3, z8]; exact .mk) ?_
  refine run_op rfl rfl rfl (by simp [boxA, AV.cells, AV.isCell, z0, z1, z2, z3, z8]; exact .mk) ?_
  refine run_call0 rfl rfl rfl rfl (by simp [boxA, AV.cells, AV.isCell, z0, z1, z2, z3, z8, calleeA]; exact .mk) (by simp [boxA, AV.cells, AV.isCell, z0, z1, z2, z3, z8, kindsOf, kinds, expAs, expA]; exact .mk) (ct108 g _) (by simp [boxA, AV.cells, AV.isCell, z0, z1, z2, z3, z8, D.noRo]) (by simp [boxA, AV.cells, AV.isCell, z0, z1, z2, z3, z8, impA, impAs]; exact .mk) ?_
  refine run_op rfl rfl rfl (by simp [boxA, AV.cells, AV.isCell, z0, z1, z2, z3, z8, unA]; exact .mk) ?_
  refine run_end [0, 3, 10] (by simp) (by simp; exact .mk) ?_
  rintro -
  refine W_cond rfl ?_ ?_
  · intro h10
    have hs : sizedS o.n = false := by simp at h10; simp [sizedS]; omega
    have hr : allocS a o.n = ⟨a, 0, 0, [], 1⟩ := by simp [allocS, hs]
    refine W_seq ?_
    refine W_reg rfl ?_
    refine run_op rfl rfl rfl (by simp [boxA, AV.cells, AV.isCell, z0, z1, z2, z3, z8]; exact .mk) ?_
    refine run_end [4] (by simp) (by simp; exact .mk) ?_
    rintro -
    refine W_ret ?_
    refine endAt_drop 9 (by simp [boxA, AV.cells, AV.isCell, z0, z1, z2, z3, z8, Try.f83]; exact .mk) ?_ ?_ (by simp) (by simp [boxA, AV.cells, AV.isCell, z0, z1, z2, z3, z8]) (by simp [boxA, AV.cells, AV.isCell, z0, z1, z2, z3, z8])
    · simp [hr]
    · simp [hr, List.map_set, ownR, nrmL]; try rfl
  · intro h10
    have hs : sizedS o.n = true := by simp at h10; simp [sizedS]; omega
    have hn : 1 ≤ o.n ∧ o.n ≤ 2048 := by simpa [sizedS] using hs
    refine W_skip ?_
    rintro -
    refine W_seq ?_
    refine W_seq ?_
    refine W_reg rfl ?_
    refine run_op rfl rfl rfl (by simp [boxA, AV.cells, AV.isCell, z0, z1, z2, z3, z8]; exact .mk) ?_
    refine run_op rfl rfl rfl (by simp [boxA, AV.cells, AV.isCell, z0, z1, z2, z3, z8]; exact .mk) ?_
    refine run_op rfl rfl rfl (by simp [boxA, AV.cells, AV.isCell, z0, z1, z2, z3, z8]; exact .mk) ?_
    refine run_op rfl rfl rfl (by simp [boxA, AV.cells, AV.isCell, z0, z1, z2, z3, z8]; exact .mk) ?_
    refine run_op rfl rfl rfl (by simp [boxA, AV.cells, AV.isCell, z0, z1, z2, z3, z8]; exact .mk) ?_
    refine run_op rfl rfl rfl (by simp [boxA, AV.cells, AV.isCell, z0, z1, z2, z3, z8]; exact .mk) ?_
    refine run_op rfl rfl rfl (by simp [boxA, AV.cells, AV.isCell, z0, z1, z2, z3, z8]; exact .mk) ?_
    refine run_end [0, 3, 15, 16, 17] (by simp) (by simp; exact .mk) ?_
    rintro -
    refine W_block ?_
    refine W_rounds (fun m σ q => ∃ i : Nat, m = a.gens.length - i ∧ i ≤ a.gens.length ∧ (∀ j, j < i → openS a j = false) ∧ σ = slots [(0, .ptr 7 0 0), (3, .ptr 9 0 0), (15, .hdr 4 0 a.gens.length), (16, .d (vI a.gens.length)), (17, .d (vI i))] ∧ q = [o0, o1, o2, o3, .row 1 (a.gens.map vI), .row 1 (a.data.map oB), .row 3 (a.roots.map eRoot), .var 86 [.hdr 4 0 a.gens.length, .hdr 5 0 a.data.length, (.hdr 6 0 a.roots.length), .d (vI 0), .d (vI 0), .d (.v (.slice none 0 0))], o8, .var 31 [.d (vI o.act), .d (vI o.ix), .d (vI o.gen), .d (vI o.n), .d (vI o.off), .d (rB o.b), .d (vS o.name)]]) a.gens.length .refl ⟨0, by simp, by simp, by simp, rfl, rfl⟩ ?_
    have q1 := ha.h1
    rintro m σ q ⟨i, rfl, hi, hinv, rfl, rfl⟩ _
    refine W_seq ?_
    refine W_reg rfl ?_
    refine run_op rfl rfl rfl (by simp [boxA, AV.cells, AV.isCell, z0, z1, z2, z3, z8, eqA, eqFs, isStructTy, eqlNeq, strOp, isBoolTy, isPtrTy, isFnTy]; exact .mk) ?_
    refine run_end [0, 3, 15, 16, 17, 18] (by simp) (by simp; exact .mk) ?_
    rintro -
    refine W_seq ?_
    refine W_cond rfl ?_ ?_
    · intro h18
      have hi2 : i < a.gens.length := by simpa using h18
      have hi3 : i < a.data.length := by omega
      refine W_skip ?_
      rintro -
      refine W_seq ?_
      refine W_block ?_
      refine W_seq ?_
      refine W_reg rfl ?_
      refine run_op rfl rfl rfl (by simp [boxA, AV.cells, AV.isCell, z0, z1, z2, z3, z8]; exact .mk) ?_
      refine run_op rfl rfl rfl (by simp [boxA, AV.cells, AV.isCell, z0, z1, z2, z3, z8, hi2]; exact .mk) ?_
      refine run_op rfl rfl rfl (by simp [boxA, AV.cells, AV.isCell, z0, z1, z2, z3, z8, -List.getElem?_map, map_get hi2]; exact .mk) ?_
      refine run_op rfl rfl rfl (by simp [boxA, AV.cells, AV.isCell, z0, z1, z2, z3, z8]; exact .mk) ?_
      refine run_op rfl rfl rfl (by simp [boxA, AV.cells, AV.isCell, z0, z1, z2, z3, z8]; exact .mk) ?_
      refine run_end [0, 3, 5, 6, 15, 16, 17] (by simp) (by simp; exact .mk) ?_
      rintro -
      refine W_seq ?_
      refine W_reg rfl ?_
      refine run_op rfl rfl rfl (by simp [boxA, AV.cells, AV.isCell, z0, z1, z2, z3, z8]; exact .mk) ?_
      refine run_op rfl rfl rfl (by simp [boxA, AV.cells, AV.isCell, z0, z1, z2, z3, z8]; exact .mk) ?_
      refine run_op rfl rfl rfl (by simp [boxA, AV.cells, AV.isCell, z0, z1, z2, z3, z8]; exact .mk) ?_
      refine run_op rfl rfl rfl (by simp [boxA, AV.cells, AV.isCell, z0, z1, z2, z3, z8]; exact .mk) ?_
      refine run_op rfl rfl rfl (by simp [boxA, AV.cells, AV.isCell, z0, z1, z2, z3, z8]; exact .mk) ?_
      refine run_op rfl rfl rfl (by simp [boxA, AV.cells, AV.isCell, z0, z1, z2, z3, z8]; exact .mk) ?_
      refine run_op rfl rfl rfl (by simp [boxA, AV.cells, AV.isCell, z0, z1, z2, z3, z8, hi3]; exact .mk) ?_
      refine run_op rfl rfl rfl (by simp [boxA, AV.cells, AV.isCell, z0, z1, z2, z3, z8, -List.getElem?_map, map_get hi3]; exact .mk) ?_
      refine run_op rfl rfl rfl (by simp [boxA, AV.cells, AV.isCell, z0, z1, z2, z3, z8]; exact .mk) ?_
      refine run_op rfl rfl rfl (by simp [boxA, AV.cells, AV.isCell, z0, z1, z2, z3, z8, eqA, eqFs, isStructTy, eqlNeq, strOp, isBoolTy, isPtrTy, isFnTy]; exact .mk) ?_
      refine run_op rfl rfl rfl (by simp [boxA, AV.cells, AV.isCell, z0, z1, z2, z3, z8]; exact .mk) ?_
      refine run_if rfl (by simp [boxA, AV.cells, AV.isCell, z0, z1, z2, z3, z8]; exact .mk) rfl (by simp <;> omega) (fun hb => by simp [boxA, AV.cells, AV.isCell, z0, z1, z2, z3, z8]; exact .mk) ?_
      refine run_if rfl (by simp [boxA, AV.cells, AV.isCell, z0, z1, z2, z3, z8]; exact .mk) rfl (by simp <;> omega) (fun hb => by simp [boxA, AV.cells, AV.isCell, z0, z1, z2, z3, z8, eqA, eqFs, isStructTy, eqlNeq, strOp, isBoolTy, isPtrTy, isFnTy]; exact .mk) ?_
      refine run_pick rfl (by simp [boxA, AV.cells, AV.isCell, z0, z1, z2, z3, z8]; exact .mk) rfl rfl (by simp) (by simp [boxA, AV.cells, AV.isCell, z0, z1, z2, z3, z8]; exact .mk) (by simp [boxA, AV.cells, AV.isCell, z0, z1, z2, z3, z8]; exact .mk) (by simp; exact .mk) ?_
      refine run_end [0, 3, 5, 6, 15, 16, 17, 35] (by simp <;> omega) (by simp; exact .mk) ?_
      rintro -
      refine W_cond rfl ?_ ?_
      · intro h35
        have hr : allocS a o.n = ⟨{ a with data := a.data.set i (List.replicate o.n.toNat 0) }, i, nth a.gens i, [], 0⟩ := by
          have : openS a i = true := by simp [openS] at *; exact h35
          simp [allocS, hs, allocIx_at hi2 hinv this]
        refine W_seq ?_
        have e1 : 0 ≤ o.n := by omega
        have e2 : o.n ≤ 140737488355328 := by omega
        refine W_regD (by kernel_rfl) [] 4 [0, 1, 2, 3, 4, 5, 6, 7, 8, 9, 10] (by decide +kernel) ?_
        refine run_op rfl rfl rfl (by simp [boxA, AV.cells, AV.isCell, z0, z1, z2, z3, z8]; exact .mk) ?_
        refine run_op rfl rfl rfl (by simp [boxA, AV.cells, AV.isCell, z0, z1, z2, z3, z8]; exact .mk) ?_
        refine run_op rfl rfl rfl (by simp [boxA, AV.cells, AV.isCell, z0, z1, z2, z3, z8]; exact .mk) ?_
        refine run_op rfl rfl rfl (by simp [boxA, AV.cells, AV.isCell, z0, z1, z2, z3, z8]; exact .mk) ?_
        refine run_op rfl rfl rfl (by simp [boxA, AV.cells, AV.isCell, z0, z1, z2, z3, z8]; exact .mk) ?_
        refine run_op rfl rfl rfl (by simp [boxA, AV.cells, AV.isCell, z0, z1, z2, z3, z8]; exact .mk) ?_
        refine run_op rfl rfl rfl (by simp [boxA, AV.cells, AV.isCell, z0, z1, z2, z3, z8]; exact .mk) ?_
        refine run_op rfl rfl rfl (by simp [boxA, AV.cells, AV.isCell, z0, z1, z2, z3, z8]; exact .mk) ?_
        refine run_op rfl rfl rfl (by simp [boxA, AV.cells, AV.isCell, z0, z1, z2, z3, z8, makeSliceA, elemD, maxLen, kinds, kDs, kD, Value.oneCell', makeSliceA, elemD, maxLen, kinds, kDs, kD, Value.oneCell', e1, e2]; exact .mk) ?_
        refine run_op rfl rfl rfl (by simp [boxA, AV.cells, AV.isCell, z0, z1, z2, z3, z8, hi3]; exact .mk) ?_
        refine run_op rfl rfl rfl (by simp [boxA, AV.cells, AV.isCell, z0, z1, z2, z3, z8, storeA, AV.cells, AV.isCell, splice, -List.getElem?_map, map_get hi3, cls, cl, nrmL, nrm, putC]; exact .mk) ?_
        refine run_end [0, 5, 6] (by simp) (by simp; exact .mk) ?_
        rintro -
        refine W_seq ?_
        refine W_reg rfl ?_
        refine run_op rfl rfl rfl (by simp [boxA, AV.cells, AV.isCell, z0, z1, z2, z3, z8]; exact .mk) ?_
        refine run_op rfl rfl rfl (by simp [boxA, AV.cells, AV.isCell, z0, z1, z2, z3, z8]; exact .mk) ?_
        refine run_op rfl rfl rfl (by simp [boxA, AV.cells, AV.isCell, z0, z1, z2, z3, z8]; exact .mk) ?_
        refine run_op rfl rfl rfl (by simp [boxA, AV.cells, AV.isCell, z0, z1, z2, z3, z8, buildA, fillA, placesOf, splice, Value.oneCell', AV.cells, AV.isCell]; exact .mk) ?_
        refine run_op rfl rfl rfl (by simp [boxA, AV.cells, AV.isCell, z0, z1, z2, z3, z8]; exact .mk) ?_
        refine run_op rfl rfl rfl (by simp [boxA, AV.cells, AV.isCell, z0, z1, z2, z3, z8]; exact .mk) ?_
        refine run_op rfl rfl rfl (by simp [boxA, AV.cells, AV.isCell, z0, z1, z2, z3, z8]; exact .mk) ?_
        refine run_op rfl rfl rfl (by simp [boxA, AV.cells, AV.isCell, z0, z1, z2, z3, z8, storeA, AV.cells, AV.isCell, splice]; exact .mk) ?_
        refine run_end [] (by simp) (by simp; exact .mk) ?_
        rintro -
        refine W_seq ?_
        refine W_reg rfl ?_
        refine run_op rfl rfl rfl (by simp [boxA, AV.cells, AV.isCell, z0, z1, z2, z3, z8]; exact .mk) ?_
        refine run_end [4] (by simp) (by simp; exact .mk) ?_
        rintro -
        refine W_ret ?_
        refine endAt_drop 9 (by simp [boxA, AV.cells, AV.isCell, z0, z1, z2, z3, z8, Try.f83]; exact .mk) ?_ ?_ (by simp) (by simp [boxA, AV.cells, AV.isCell, z0, z1, z2, z3, z8]) (by simp [boxA, AV.cells, AV.isCell, z0, z1, z2, z3, z8])
        · simp [hr]
        · simp [hr, List.map_set, ownR, nrmL]; try rfl
      · intro h35
        refine W_skip ?_
        rintro -
        refine W_reg rfl ?_
        refine run_op rfl rfl rfl (by simp [boxA, AV.cells, AV.isCell, z0, z1, z2, z3, z8, eqA, eqFs, isStructTy, eqlNeq, strOp, isBoolTy, isPtrTy, isFnTy]; exact .mk) ?_
        refine run_op rfl rfl rfl (by simp [boxA, AV.cells, AV.isCell, z0, z1, z2, z3, z8]; exact .mk) ?_
        refine run_end [0, 3, 15, 16, 17] (by simp) (by simp; exact .mk) ?_
        refine rounds_kill [0, 3, 15, 16, 17] ?_
        refine rounds_next (m' := a.gens.length - (i+1)) (by omega) ⟨i+1, rfl, by omega, ?_, ?_, rfl⟩
        · intro j hj
          rcases Nat.lt_succ_iff_lt_or_eq.1 hj with hj | rfl
          · exact hinv j hj
          · simp [openS] at *; exact h35
        · rw [wrap64 (by omega) (by omega)]; rfl
    · intro h18
      have hr : allocS a o.n = ⟨a, 0, 0, [], 9⟩ := by simp [allocS, hs, allocIx_none (fun j hj => hinv j (by simp at h18; omega))]
      refine W_exit ?_
      rintro -
      refine W_seq ?_
      refine W_reg rfl ?_
      refine run_op rfl rfl rfl (by simp [boxA, AV.cells, AV.isCell, z0, z1, z2, z3, z8]; exact .mk) ?_
      refine run_end [4] (by simp) (by simp; exact .mk) ?_
      rintro -
      refine W_ret ?_
      refine endAt_drop 9 (by simp [boxA, AV.cells, AV.isCell, z0, z1, z2, z3, z8, Try.f83]; exact .mk) ?_ ?_ (by simp) (by simp [boxA, AV.cells, AV.isCell, z0, z1, z2, z3, z8]) (by simp [boxA, AV.cells, AV.isCell, z0, z1, z2, z3, z8])
      · simp [hr]
      · simp [hr, List.map_set, ownR, nrmL]; try rfl

theorem in86 (g : Gl) (o0 o1 o2 o3 o8 : Awp.Obj) (a : Abs) (o : Op) (ho : ∀ m, objsLt m [o0, o1, o2, o3, o8] = true) (ha : a.Ok) (k : Nat) (hix : o.ix = k) (hk : k < a.data.length) (hk2 : k < a.gens.length) (hgn : 0 ≤ nth a.gens k ∧ nth a.gens k ≤ 65535) : ∀ B S, CallsA Try.prog g B S ⟨9, true⟩ 86 [.ptr 7 0 0, .agg [.d (vI o.act), .d (vI o.ix), .d (vI o.gen), .d (vI o.n), .d (vI o.off), .d (rB o.b), .d (vS o.name)]] [o0, o1, o2, o3, .row 1 (a.gens.map vI), .row 1 (a.data.map oB), .row 3 (a.roots.map eRoot), .var 86 [.hdr 4 0 a.gens.length, .hdr 5 0 a.data.length, (.hdr 6 0 a.roots.length), .d (vI 0), .d (vI 0), .d (.v (.slice none 0 0))], o8]
    (fun x q => x = .d (vI (freeS a k).e) ∧ q = [o0, o1, o2, o3, .row 1 ((freeS a k).a.gens.map vI), .row 1 ((freeS a k).a.data.map oB), .row 3 (a.roots.map eRoot), .var 86 [.hdr 4 0 a.gens.length, .hdr 5 0 a.data.length, (.hdr 6 0 a.roots.length), .d (vI 0), .d (vI 0), .d (.v (.slice none 0 0))], o8]) := by
  refine callsA_at Try.func86 rfl (Nat.le_of_ble_eq_true rfl) fun B S => ?_
  obtain ⟨z0, z1, z2, z3, z8⟩ : o0.lt 9 = true ∧ o1.lt 9 = true ∧ o2.lt 9 = true ∧ o3.lt 9 = true ∧ o8.lt 9 = true := by simpa using ho 9
  simp only [hix]
  refine W_seq ?_
  refine W_reg rfl ?_
  refine run_op rfl rfl rfl (by simp [boxA, AV.cells, AV.isCell, z0, z1, z2, z3, z8, boxA, AV.cells, AV.isCell]; exact .mk) ?_
  refine run_op rfl rfl rfl (by simp [boxA, AV.cells, AV.isCell, z0, z1, z2, z3, z8]; exact .mk) ?_
  refine run_end [0, 3] (by simp) (by simp; exact .mk) ?_
  rintro -
  refine W_seq ?_
  refine W_reg rfl ?_
  refine run_op rfl rfl rfl (by simp [boxA, AV.cells, AV.isCell, z0, z1, z2, z3, z8]; exact .mk) ?_
  refine run_op rfl rfl rfl (by simp [boxA, AV.cells, AV.isCell, z0, z1, z2, z3, z8]; exact .mk) ?_
  refine run_op rfl rfl rfl (by simp [boxA, AV.cells, AV.isCell, z0, z1, z2, z3, z8]; exact .mk) ?_
  refine run_op rfl rfl rfl (by simp [boxA, AV.cells, AV.isCell, z0, z1, z2, z3, z8]; exact .mk) ?_
  refine run_end [0, 5] (by simp) (by simp; exact .mk) ?_
  rintro -
  refine W_seq ?_
  have e1 : IntKind.i64.wrap (nth a.gens k + 1) = nth a.gens k + 1 := wrap64 (by omega) (by omega)
  have em : (if 65535 < nth a.gens k + 1 then (65535 : Int) else nth a.gens k + 1) = min (nth a.gens k + 1) 65535 := by omega
  refine W_regD (by kernel_rfl) [] 4 [0, 1, 2, 3, 4, 5, 6, 7, 8, 9, 10, 11, 12, 13, 14, 15, 16, 17, 18, 19, 20, 22, 21, 23, 24, 25] (by decide +kernel) ?_
  refine run_op rfl rfl rfl (by simp [boxA, AV.cells, AV.isCell, z0, z1, z2, z3, z8]; exact .mk) ?_
  refine run_op rfl rfl rfl (by simp [boxA, AV.cells, AV.isCell, z0, z1, z2, z3, z8]; exact .mk) ?_
  refine run_op rfl rfl rfl (by simp [boxA, AV.cells, AV.isCell, z0, z1, z2, z3, z8]; exact .mk) ?_
  refine run_op rfl rfl rfl (by simp [boxA, AV.cells, AV.isCell, z0, z1, z2, z3, z8]; exact .mk) ?_
  refine run_op rfl rfl rfl (by simp [boxA, AV.cells, AV.isCell, z0, z1, z2, z3, z8]; exact .mk) ?_
  refine run_op rfl rfl rfl (by simp [boxA, AV.cells, AV.isCell, z0, z1, z2, z3, z8]; exact .mk) ?_
  refine run_op rfl rfl rfl (by simp [boxA, AV.cells, AV.isCell, z0, z1, z2, z3, z8]; exact .mk) ?_
  refine run_op rfl rfl rfl (by simp [boxA, AV.cells, AV.isCell, z0, z1, z2, z3, z8]; exact .mk) ?_
  refine run_op rfl rfl rfl (by simp [boxA, AV.cells, AV.isCell, z0, z1, z2, z3, z8]; exact .mk) ?_
  refine run_op rfl rfl rfl (by simp [boxA, AV.cells, AV.isCell, z0, z1, z2, z3, z8]; exact .mk) ?_
  refine run_op rfl rfl rfl (by simp [boxA, AV.cells, AV.isCell, z0, z1, z2, z3, z8]; exact .mk) ?_
  refine run_op rfl rfl rfl (by simp [boxA, AV.cells, AV.isCell, z0, z1, z2, z3, z8]; exact .mk) ?_
  refine run_op rfl rfl rfl (by simp [boxA, AV.cells, AV.isCell, z0, z1, z2, z3, z8]; exact .mk) ?_
  refine run_op rfl rfl rfl (by simp [boxA, AV.cells, AV.isCell, z0, z1, z2, z3, z8]; exact .mk) ?_
  refine run_op rfl rfl rfl (by simp [boxA, AV.cells, AV.isCell, z0, z1, z2, z3, z8]; exact .mk) ?_
  refine run_op rfl rfl rfl (by simp [boxA, AV.cells, AV.isCell, z0, z1, z2, z3, z8]; exact .mk) ?_
  refine run_op rfl rfl rfl (by simp [boxA, AV.cells, AV.isCell, z0, z1, z2, z3, z8]; exact .mk) ?_
  refine run_op rfl rfl rfl (by simp [boxA, AV.cells, AV.isCell, z0, z1, z2, z3, z8]; exact .mk) ?_
  refine run_op rfl rfl rfl (by simp [boxA, AV.cells, AV.isCell, z0, z1, z2, z3, z8, hk2]; exact .mk) ?_
  refine run_op rfl rfl rfl (by simp [boxA, AV.cells, AV.isCell, z0, z1, z2, z3, z8, -List.getElem?_map, map_get hk2]; exact .mk) ?_
  refine run_op rfl rfl rfl (by simp [boxA, AV.cells, AV.isCell, z0, z1, z2, z3, z8, eqA, eqFs, isStructTy, eqlNeq, strOp, isBoolTy, isPtrTy, isFnTy, e1]; exact .mk) ?_
  refine run_op rfl rfl rfl (by simp [boxA, AV.cells, AV.isCell, z0, z1, z2, z3, z8, hk]; exact .mk) ?_
  refine run_op rfl rfl rfl (by simp [boxA, AV.cells, AV.isCell, z0, z1, z2, z3, z8, minA]; exact .mk) ?_
  refine run_op rfl rfl rfl (by simp [boxA, AV.cells, AV.isCell, z0, z1, z2, z3, z8, storeA, AV.cells, AV.isCell, splice, -List.getElem?_map, map_get hk, cls, cl, nrmL, nrm, putC]; exact .mk) ?_
  refine run_op rfl rfl rfl (by simp [boxA, AV.cells, AV.isCell, z0, z1, z2, z3, z8, hk2]; exact .mk) ?_
  refine run_op rfl rfl rfl (by simp [boxA, AV.cells, AV.isCell, z0, z1, z2, z3, z8, storeA, AV.cells, AV.isCell, splice, -List.getElem?_map, map_get hk2, cls, cl, nrmL, nrm, putC]; exact .mk) ?_
  refine run_end [] (by simp) (by simp; exact .mk) ?_
  rintro -
  refine W_seq ?_
  refine W_reg rfl ?_
  refine run_op rfl rfl rfl (by simp [boxA, AV.cells, AV.isCell, z0, z1, z2, z3, z8]; exact .mk) ?_
  refine run_end [4] (by simp) (by simp; exact .mk) ?_
  rintro -
  refine W_ret ?_
  refine endAt_drop 9 (by simp [boxA, AV.cells, AV.isCell, z0, z1, z2, z3, z8, Try.f86]; exact .mk) ?_ ?_ (by simp) (by simp [boxA, AV.cells, AV.isCell, z0, z1, z2, z3, z8]) (by simp [boxA, AV.cells, AV.isCell, z0, z1, z2, z3, z8])
  · simp [freeS]
  · simp [freeS, em, List.map_set, ownR, nrmL]; try rfl

theorem in87 (g : Gl) (o0 o1 o2 o3 o8 : Awp.Obj) (a : Abs) (o : Op) (ho : ∀ m, objsLt m [o0, o1, o2, o3, o8] = true) (ha : a.Ok) (k : Nat) (hix : o.ix = k) (hk : k < a.data.length) (hd : (nth a.data k).length ≤ 2^40) : ∀ B S, CallsA Try.prog g B S ⟨9, true⟩ 87 [.ptr 7 0 0, .agg [.d (vI o.act), .d (vI o.ix), .d (vI o.gen), .d (vI o.n), .d (vI o.off), .d (rB o.b), .d (vS o.name)]] [o0, o1, o2, o3, .row 1 (a.gens.map vI), .row 1 (a.data.map oB), .row 3 (a.roots.map eRoot), .var 86 [.hdr 4 0 a.gens.length, .hdr 5 0 a.data.length, (.hdr 6 0 a.roots.length), .d (vI 0), .d (vI 0), .d (.v (.slice none 0 0))], o8]
    (fun x q => x = .d (vI (resizeS a k o.n).e) ∧ q = [o0, o1, o2, o3, .row 1 (a.gens.map vI), .row 1 ((resizeS a k o.n).a.data.map oB), .row 3 (a.roots.map eRoot), .var 86 [.hdr 4 0 a.gens.length, .hdr 5 0 a.data.length, (.hdr 6 0 a.roots.length), .d (vI 0), .d (vI 0), .d (.v (.slice none 0 0))], o8]) := by
  refine callsA_at Try.func87 rfl (Nat.le_of_ble_eq_true rfl) fun B S => ?_
  obtain ⟨z0, z1, z2, z3, z8⟩ : o0.lt 9 = true ∧ o1.lt 9 = true ∧ o2.lt 9 = true ∧ o3.lt 9 = true ∧ o8.lt 9 = true := by simpa using ho 9
  simp only [hix]
  refine W_seq ?_
  refine W_reg rfl ?_
  refine run_op rfl rfl rfl (by simp [boxA, AV.cells, AV.isCell, z0, z1, z2, z3, z8, boxA, AV.cells, AV.isCell]; exact .mk) ?_
  refine run_op rfl rfl rfl (by simp [boxA, AV.cells, AV.isCell, z0, z1, z2, z3, z8]; exact .mk) ?_
  refine run_end [0, 3] (by simp) (by simp; exact .mk) ?_
  rintro -
  refine W_seq ?_
  refine W_seq ?_
  refine W_reg rfl ?_
  refine run_op rfl rfl rfl (by simp [boxA, AV.cells, AV.isCell, z0, z1, z2, z3, z8]; exact .mk) ?_
  refine run_op rfl rfl rfl (by simp [boxA, AV.cells, AV.isCell, z0, z1, z2, z3, z8]; exact .mk) ?_
  refine run_call0 rfl rfl rfl rfl (by simp [boxA, AV.cells, AV.isCell, z0, z1, z2, z3, z8, calleeA]; exact .mk) (by simp [boxA, AV.cells, AV.isCell, z0, z1, z2, z3, z8, kindsOf, kinds, expAs, expA]; exact .mk) (ct108 g _) (by simp [boxA, AV.cells, AV.isCell, z0, z1, z2, z3, z8, D.noRo]) (by simp [boxA, AV.cells, AV.isCell, z0, z1, z2, z3, z8, impA, impAs]; exact .mk) ?_
  refine run_op rfl rfl rfl (by simp [boxA, AV.cells, AV.isCell, z0, z1, z2, z3, z8, unA]; exact .mk) ?_
  refine run_end [0, 3, 9] (by simp) (by simp; exact .mk) ?_
  rintro -
  refine W_cond rfl ?_ ?_
  · intro h9
    have hs : sizedS o.n = false := by simp at h9; simp [sizedS]; omega
    have hr : resizeS a k o.n = ⟨a, 0, 0, [], 1⟩ := by simp [resizeS, hs]
    refine W_seq ?_
    refine W_reg rfl ?_
    refine run_op rfl rfl rfl (by simp [boxA, AV.cells, AV.isCell, z0, z1, z2, z3, z8]; exact .mk) ?_
    refine run_end [4] (by simp) (by simp; exact .mk) ?_
    rintro -
    refine W_ret ?_
    refine endAt_drop 9 (by simp [boxA, AV.cells, AV.isCell, z0, z1, z2, z3, z8, Try.f87]; exact .mk) ?_ ?_ (by simp) (by simp [boxA, AV.cells, AV.isCell, z0, z1, z2, z3, z8]) (by simp [boxA, AV.cells, AV.isCell, z0, z1, z2, z3, z8])
    · simp [resizeS, hs]
    · simp [resizeS, hs, List.map_set, ownR, nrmL]
  · intro h9
    have hs : sizedS o.n = true := by simp at h9; simp [sizedS]; omega
    have hn : 1 ≤ o.n ∧ o.n ≤ 2048 := by simpa [sizedS] using hs
    have e1 : 0 ≤ o.n := by omega
    have e2 : o.n ≤ 140737488355328 := by omega
    refine W_skip ?_
    rintro -
    refine W_seq ?_
    refine W_reg rfl ?_
    refine run_op rfl rfl rfl (by simp [boxA, AV.cells, AV.isCell, z0, z1, z2, z3, z8]; exact .mk) ?_
    refine run_op rfl rfl rfl (by simp [boxA, AV.cells, AV.isCell, z0, z1, z2, z3, z8]; exact .mk) ?_
    refine run_op rfl rfl rfl (by simp [boxA, AV.cells, AV.isCell, z0, z1, z2, z3, z8, makeSliceA, elemD, maxLen, kinds, kDs, kD, Value.oneCell', e1, e2]; exact .mk) ?_
    refine run_op rfl rfl rfl (by simp [boxA, AV.cells, AV.isCell, z0, z1, z2, z3, z8]; exact .mk) ?_
    refine run_end [0, 3, 5] (by simp) (by simp; exact .mk) ?_
    rintro -
    refine W_seq ?_
    refine W_regD (by kernel_rfl) [] 4 [0, 1, 2, 3, 4, 5, 6, 7, 8, 9, 10, 11] (by decide +kernel) ?_
    refine run_op rfl rfl rfl (by simp [boxA, AV.cells, AV.isCell, z0, z1, z2, z3, z8]; exact .mk) ?_
    refine run_op rfl rfl rfl (by simp [boxA, AV.cells, AV.isCell, z0, z1, z2, z3, z8]; exact .mk) ?_
    refine run_op rfl rfl rfl (by simp [boxA, AV.cells, AV.isCell, z0, z1, z2, z3, z8]; exact .mk) ?_
    refine run_op rfl rfl rfl (by simp [boxA, AV.cells, AV.isCell, z0, z1, z2, z3, z8]; exact .mk) ?_
    refine run_op rfl rfl rfl (by simp [boxA, AV.cells, AV.isCell, z0, z1, z2, z3, z8]; exact .mk) ?_
    refine run_op rfl rfl rfl (by simp [boxA, AV.cells, AV.isCell, z0, z1, z2, z3, z8]; exact .mk) ?_
    refine run_op rfl rfl rfl (by simp [boxA, AV.cells, AV.isCell, z0, z1, z2, z3, z8]; exact .mk) ?_
    refine run_op rfl rfl rfl (by simp [boxA, AV.cells, AV.isCell, z0, z1, z2, z3, z8]; exact .mk) ?_
    refine run_op rfl rfl rfl (by simp [boxA, AV.cells, AV.isCell, z0, z1, z2, z3, z8]; exact .mk) ?_
    refine run_op rfl rfl rfl (by simp [boxA, AV.cells, AV.isCell, z0, z1, z2, z3, z8, hk]; exact .mk) ?_
    refine run_op rfl rfl rfl (by simp [boxA, AV.cells, AV.isCell, z0, z1, z2, z3, z8, -List.getElem?_map, map_get hk]; exact .mk) ?_
    refine run_op rfl rfl rfl (by simp [boxA, AV.cells, AV.isCell, z0, z1, z2, z3, z8, copyA]; exact .mk) ?_
    refine run_end [0, 3, 5] (by simp) (by simp; exact .mk) ?_
    rintro -
    refine W_seq ?_
    rw [resize_row]
    refine W_regD (by kernel_rfl) [] 4 [0, 1, 2, 3, 4, 5, 6, 7, 8, 9, 10] (by decide +kernel) ?_
    refine run_op rfl rfl rfl (by simp [boxA, AV.cells, AV.isCell, z0, z1, z2, z3, z8]; exact .mk) ?_
    refine run_op rfl rfl rfl (by simp [boxA, AV.cells, AV.isCell, z0, z1, z2, z3, z8]; exact .mk) ?_
    refine run_op rfl rfl rfl (by simp [boxA, AV.cells, AV.isCell, z0, z1, z2, z3, z8]; exact .mk) ?_
    refine run_op rfl rfl rfl (by simp [boxA, AV.cells, AV.isCell, z0, z1, z2, z3, z8]; exact .mk) ?_
    refine run_op rfl rfl rfl (by simp [boxA, AV.cells, AV.isCell, z0, z1, z2, z3, z8]; exact .mk) ?_
    refine run_op rfl rfl rfl (by simp [boxA, AV.cells, AV.isCell, z0, z1, z2, z3, z8]; exact .mk) ?_
    refine run_op rfl rfl rfl (by simp [boxA, AV.cells, AV.isCell, z0, z1, z2, z3, z8]; exact .mk) ?_
    refine run_op rfl rfl rfl (by simp [boxA, AV.cells, AV.isCell, z0, z1, z2, z3, z8]; exact .mk) ?_
    refine run_op rfl rfl rfl (by simp [boxA, AV.cells, AV.isCell, z0, z1, z2, z3, z8]; exact .mk) ?_
    refine run_op rfl rfl rfl (by simp [boxA, AV.cells, AV.isCell, z0, z1, z2, z3, z8, hk]; exact .mk) ?_
    refine run_op rfl rfl rfl (by simp [boxA, AV.cells, AV.isCell, z0, z1, z2, z3, z8, storeA, AV.cells, AV.isCell, splice, iff_true_intro (show o.n.toNat = min o.n.toNat (nth a.data k).length + (o.n.toNat - (nth a.data k).length) from by omega), -List.getElem?_map, map_get hk, cls, cl, nrmL, nrm, putC]; exact .mk) ?_
    refine run_end [] (by simp) (by simp; exact .mk) ?_
    rintro -
    refine W_seq ?_
    refine W_reg rfl ?_
    refine run_op rfl rfl rfl (by simp [boxA, AV.cells, AV.isCell, z0, z1, z2, z3, z8]; exact .mk) ?_
    refine run_end [4] (by simp) (by simp; exact .mk) ?_
    rintro -
    refine W_ret ?_
    refine endAt_drop 9 (by simp [boxA, AV.cells, AV.isCell, z0, z1, z2, z3, z8, Try.f87]; exact .mk) ?_ ?_ (by simp) (by simp [boxA, AV.cells, AV.isCell, z0, z1, z2, z3, z8]) (by simp [boxA, AV.cells, AV.isCell, z0, z1, z2, z3, z8])
    · simp [resizeS, hs]
    · simp [resizeS, hs, List.map_set, ownR, nrmL]

end Go.Proofs

set_option linter.unusedSimpArgs false
set_option linter.unusedVariables false
set_option maxHeartbeats 4000000
namespace Go.Proofs
open Go.Awp
theorem in88 (g : Gl) (o0 o1 o2 o3 o8 : Awp.Obj) (a : Abs) (o : Op) (ho : ∀ m, objsLt m [o0, o1, o2, o3, o8] = true) (ha : a.Ok) (k : Nat) (hix : o.ix = k) (hk : k < a.data.length) (hd : (nth a.data k).length ≤ 2^40) (hq : reachS (nth a.data k).length o.off o.n = true) : ∀ B S, CallsA Try.prog g B S ⟨9, true⟩ 88 [.ptr 7 0 0, .agg [.d (vI o.act), .d (vI o.ix), .d (vI o.gen), .d (vI o.n), .d (vI o.off), .d (rB o.b), .d (vS o.name)]] [o0, o1, o2, o3, .row 1 (a.gens.map vI), .row 1 (a.data.map oB), .row 3 (a.roots.map eRoot), .var 86 [.hdr 4 0 a.gens.length, .hdr 5 0 a.data.length, (.hdr 6 0 a.roots.length), .d (vI 0), .d (vI 0), .d (.v (.slice none 0 0))], o8]
    (fun x q => x = .d (vI 0) ∧ q = [o0, o1, o2, o3, .row 1 (a.gens.map vI), .row 1 (a.data.map oB), .row 3 (a.roots.map eRoot), .var 86 [.hdr 4 0 a.gens.length, .hdr 5 0 a.data.length, (.hdr 6 0 a.roots.length), .d (vI 0), .d (vI 0), .hdr 10 0 (readS a k o.off o.n).b.length], o8, .var 31 [.d (vI o.act), .d (vI k), .d (vI o.gen), .d (vI o.n), .d (vI o.off), .d (rB o.b), .d (vS o.name)], .row 1 ((readS a k o.off o.n).b.map vB)]) := by
  refine callsA_at Try.func88 rfl (Nat.le_of_ble_eq_true rfl) fun B S => ?_
  obtain ⟨z0, z1, z2, z3, z8⟩ : o0.lt 9 = true ∧ o1.lt 9 = true ∧ o2.lt 9 = true ∧ o3.lt 9 = true ∧ o8.lt 9 = true := by simpa using ho 9
  simp only [hix]
  refine W_seq ?_
  refine W_reg rfl ?_
  refine run_op rfl rfl rfl (by simp [boxA, AV.cells, AV.isCell, z0, z1, z2, z3, z8, boxA, AV.cells, AV.isCell]; exact .mk) ?_
  refine run_op rfl rfl rfl (by simp [boxA, AV.cells, AV.isCell, z0, z1, z2, z3, z8]; exact .mk) ?_
  refine run_end [0, 3] (by simp) (by simp; exact .mk) ?_
  rintro -
  refine W_seq ?_
  have hrr : readS a k o.off o.n = ⟨a, 0, 0, ((nth a.data k).drop o.off.toNat).take o.n.toNat, 0⟩ := by simp [readS, hq]
  refine W_reg rfl ?_
  refine run_op rfl rfl rfl (by simp [boxA, AV.cells, AV.isCell, z0, z1, z2, z3, z8]; exact .mk) ?_
  refine run_op rfl rfl rfl (by simp [boxA, AV.cells, AV.isCell, z0, z1, z2, z3, z8]; exact .mk) ?_
  refine run_op rfl rfl rfl (by simp [boxA, AV.cells, AV.isCell, z0, z1, z2, z3, z8]; exact .mk) ?_
  refine run_op rfl rfl rfl (by simp [boxA, AV.cells, AV.isCell, z0, z1, z2, z3, z8]; exact .mk) ?_
  refine run_op rfl rfl rfl (by simp [boxA, AV.cells, AV.isCell, z0, z1, z2, z3, z8]; exact .mk) ?_
  refine run_op rfl rfl rfl (by simp [boxA, AV.cells, AV.isCell, z0, z1, z2, z3, z8]; exact .mk) ?_
  refine run_op rfl rfl rfl (by simp [boxA, AV.cells, AV.isCell, z0, z1, z2, z3, z8]; exact .mk) ?_
  refine run_inl0 rfl rfl rfl rfl (by simp [boxA, AV.cells, AV.isCell, z0, z1, z2, z3, z8, calleeA]; exact .mk) ⟨_, Try.func112, rfl, rfl⟩ (in112 g _ _ _ _ _ _ a k o.gen o.off o.n true (fun m => by have := ho m; simp at this; simp [this]) hk hd hq) (.inr ⟨[], by simp⟩) ?_
  refine run_op rfl rfl rfl (by simp [boxA, AV.cells, AV.isCell, z0, z1, z2, z3, z8]; exact .mk) ?_
  refine run_op rfl rfl rfl (by simp [boxA, AV.cells, AV.isCell, z0, z1, z2, z3, z8]; exact .mk) ?_
  refine run_op rfl rfl rfl (by simp [boxA, AV.cells, AV.isCell, z0, z1, z2, z3, z8]; exact .mk) ?_
  refine run_op rfl rfl rfl (by simp [boxA, AV.cells, AV.isCell, z0, z1, z2, z3, z8]; exact .mk) ?_
  refine run_op rfl rfl rfl (by simp [boxA, AV.cells, AV.isCell, z0, z1, z2, z3, z8]; exact .mk) ?_
  refine run_end [0, 5, 6] (by simp) (by simp; exact .mk) ?_
  rintro -
  refine W_seq ?_
  refine W_seq ?_
  refine W_reg rfl ?_
  refine run_op rfl rfl rfl (by simp [boxA, AV.cells, AV.isCell, z0, z1, z2, z3, z8]; exact .mk) ?_
  refine run_op rfl rfl rfl (by simp [boxA, AV.cells, AV.isCell, z0, z1, z2, z3, z8, unA]; exact .mk) ?_
  refine run_end [0, 5, 19] (by simp) (by simp; exact .mk) ?_
  rintro -
  refine W_cond rfl ?_ ?_
  · intro h19
    simp at h19
  · intro h19
    refine W_skip ?_
    rintro -
    refine W_seq ?_
    refine W_reg rfl ?_
    refine run_op rfl rfl rfl (by simp [boxA, AV.cells, AV.isCell, z0, z1, z2, z3, z8]; exact .mk) ?_
    refine run_op rfl rfl rfl (by simp [boxA, AV.cells, AV.isCell, z0, z1, z2, z3, z8]; exact .mk) ?_
    refine run_call0 rfl rfl rfl rfl (by simp [boxA, AV.cells, AV.isCell, z0, z1, z2, z3, z8, calleeA]; exact .mk) (by simp [boxA, AV.cells, AV.isCell, z0, z1, z2, z3, z8, kindsOf, kinds, expAs, expA]; exact .mk) (ct75 g _ (by simp; omega)) (by simp [boxA, AV.cells, AV.isCell, z0, z1, z2, z3, z8, D.noRo]) (by simp [boxA, AV.cells, AV.isCell, z0, z1, z2, z3, z8, impA, impAs]; exact .mk) ?_
    refine run_op rfl rfl rfl (by simp [boxA, AV.cells, AV.isCell, z0, z1, z2, z3, z8]; exact .mk) ?_
    refine run_op rfl rfl rfl (by simp [boxA, AV.cells, AV.isCell, z0, z1, z2, z3, z8]; exact .mk) ?_
    refine run_op rfl rfl rfl (by simp [boxA, AV.cells, AV.isCell, z0, z1, z2, z3, z8]; exact .mk) ?_
    refine run_op rfl rfl rfl (by simp [boxA, AV.cells, AV.isCell, z0, z1, z2, z3, z8, storeA, AV.cells, AV.isCell, splice]; exact .mk) ?_
    refine run_end [] (by simp) (by simp; exact .mk) ?_
    rintro -
    refine W_seq ?_
    refine W_reg rfl ?_
    refine run_op rfl rfl rfl (by simp [boxA, AV.cells, AV.isCell, z0, z1, z2, z3, z8]; exact .mk) ?_
    refine run_end [4] (by simp) (by simp; exact .mk) ?_
    rintro -
    refine W_ret ?_
    refine endAt_ret (by simp [boxA, AV.cells, AV.isCell, z0, z1, z2, z3, z8, Try.f88]; exact .mk) ?_ ?_
    · simp
    · simp [hrr]

theorem in88f (g : Gl) (o0 o1 o2 o3 o8 : Awp.Obj) (a : Abs) (o : Op) (ho : ∀ m, objsLt m [o0, o1, o2, o3, o8] = true) (ha : a.Ok) (k : Nat) (hix : o.ix = k) (hk : k < a.data.length) (hd : (nth a.data k).length ≤ 2^40) (hq : reachS (nth a.data k).length o.off o.n = false) : ∀ B S, CallsA Try.prog g B S ⟨9, true⟩ 88 [.ptr 7 0 0, .agg [.d (vI o.act), .d (vI o.ix), .d (vI o.gen), .d (vI o.n), .d (vI o.off), .d (rB o.b), .d (vS o.name)]] [o0, o1, o2, o3, .row 1 (a.gens.map vI), .row 1 (a.data.map oB), .row 3 (a.roots.map eRoot), .var 86 [.hdr 4 0 a.gens.length, .hdr 5 0 a.data.length, (.hdr 6 0 a.roots.length), .d (vI 0), .d (vI 0), .d (.v (.slice none 0 0))], o8]
    (fun x q => x = .d (vI 1) ∧ q = [o0, o1, o2, o3, .row 1 (a.gens.map vI), .row 1 (a.data.map oB), .row 3 (a.roots.map eRoot), .var 86 [.hdr 4 0 a.gens.length, .hdr 5 0 a.data.length, (.hdr 6 0 a.roots.length), .d (vI 0), .d (vI 0), .d (.v (.slice none 0 0))], o8]) := by
  refine callsA_at Try.func88 rfl (Nat.le_of_ble_eq_true rfl) fun B S => ?_
  obtain ⟨z0, z1, z2, z3, z8⟩ : o0.lt 9 = true ∧ o1.lt 9 = true ∧ o2.lt 9 = true ∧ o3.lt 9 = true ∧ o8.lt 9 = true := by simpa using ho 9
  simp only [hix]
  refine W_seq ?_
  refine W_reg rfl ?_
  refine run_op rfl rfl rfl (by simp [boxA, AV.cells, AV.isCell, z0, z1, z2, z3, z8, boxA, AV.cells, AV.isCell]; exact .mk) ?_
  refine run_op rfl rfl rfl (by simp [boxA, AV.cells, AV.isCell, z0, z1, z2, z3, z8]; exact .mk) ?_
  refine run_end [0, 3] (by simp) (by simp; exact .mk) ?_
  rintro -
  refine W_seq ?_
  refine W_reg rfl ?_
  refine run_op rfl rfl rfl (by simp [boxA, AV.cells, AV.isCell, z0, z1, z2, z3, z8]; exact .mk) ?_
  refine run_op rfl rfl rfl (by simp [boxA, AV.cells, AV.isCell, z0, z1, z2, z3, z8]; exact .mk) ?_
  refine run_op rfl rfl rfl (by simp [boxA, AV.cells, AV.isCell, z0, z1, z2, z3, z8]; exact .mk) ?_
  refine run_op rfl rfl rfl (by simp [boxA, AV.cells, AV.isCell, z0, z1, z2, z3, z8]; exact .mk) ?_
  refine run_op rfl rfl rfl (by simp [boxA, AV.cells, AV.isCell, z0, z1, z2, z3, z8]; exact .mk) ?_
  refine run_op rfl rfl rfl (by simp [boxA, AV.cells, AV.isCell, z0, z1, z2, z3, z8]; exact .mk) ?_
  refine run_op rfl rfl rfl (by simp [boxA, AV.cells, AV.isCell, z0, z1, z2, z3, z8]; exact .mk) ?_
  refine run_inl0 rfl rfl rfl rfl (by simp [boxA, AV.cells, AV.isCell, z0, z1, z2, z3, z8, calleeA]; exact .mk) ⟨_, Try.func112, rfl, rfl⟩ (in112 g _ _ _ _ _ _ a k o.gen o.off o.n false (fun m => by have := ho m; simp at this; simp [this]) hk hd hq) (.inr ⟨[], by simp⟩) ?_
  refine run_op rfl rfl rfl (by simp [boxA, AV.cells, AV.isCell, z0, z1, z2, z3, z8]; exact .mk) ?_
  refine run_op rfl rfl rfl (by simp [boxA, AV.cells, AV.isCell, z0, z1, z2, z3, z8]; exact .mk) ?_
  refine run_op rfl rfl rfl (by simp [boxA, AV.cells, AV.isCell, z0, z1, z2, z3, z8]; exact .mk) ?_
  refine run_op rfl rfl rfl (by simp [boxA, AV.cells, AV.isCell, z0, z1, z2, z3, z8]; exact .mk) ?_
  refine run_op rfl rfl rfl (by simp [boxA, AV.cells, AV.isCell, z0, z1, z2, z3, z8]; exact .mk) ?_
  refine run_end [0, 5, 6] (by simp) (by simp; exact .mk) ?_
  rintro -
  refine W_seq ?_
  refine W_seq ?_
  refine W_reg rfl ?_
  refine run_op rfl rfl rfl (by simp [boxA, AV.cells, AV.isCell, z0, z1, z2, z3, z8]; exact .mk) ?_
  refine run_op rfl rfl rfl (by simp [boxA, AV.cells, AV.isCell, z0, z1, z2, z3, z8, unA]; exact .mk) ?_
  refine run_end [0, 5, 19] (by simp) (by simp; exact .mk) ?_
  rintro -
  refine W_cond rfl ?_ ?_
  · intro h19
    refine W_seq ?_
    refine W_reg rfl ?_
    refine run_op rfl rfl rfl (by simp [boxA, AV.cells, AV.isCell, z0, z1, z2, z3, z8]; exact .mk) ?_
    refine run_end [4] (by simp) (by simp; exact .mk) ?_
    rintro -
    refine W_ret ?_
    refine endAt_drop 9 (by simp [boxA, AV.cells, AV.isCell, z0, z1, z2, z3, z8, Try.f88]; exact .mk) ?_ ?_ (by simp) (by simp [boxA, AV.cells, AV.isCell, z0, z1, z2, z3, z8]) (by simp [boxA, AV.cells, AV.isCell, z0, z1, z2, z3, z8])
    · simp
    · simp
  · intro h19
    simp at h19

theorem in89 (g : Gl) (o0 o1 o2 o3 o8 : Awp.Obj) (a : Abs) (o : Op) (ho : ∀ m, objsLt m [o0, o1, o2, o3, o8] = true) (ha : a.Ok) (k : Nat) (hix : o.ix = k) (hk : k < a.data.length) (hd : (nth a.data k).length ≤ 2^40) (fx : objsFix [o0, o1, o2, o3, o8] = true) (hob : o.b.length ≤ 2^40) (q : Bool) (hq : reachS (nth a.data k).length o.off o.b.length = q) : ∀ B S, CallsA Try.prog g B S ⟨9, false⟩ 89 [.ptr 7 0 0, .agg [.d (vI o.act), .d (vI o.ix), .d (vI o.gen), .d (vI o.n), .d (vI o.off), .d (rB o.b), .d (vS o.name)]] [o0, o1, o2, o3, .row 1 (a.gens.map vI), .row 1 (a.data.map oB), .row 3 (a.roots.map eRoot), .var 86 [.hdr 4 0 a.gens.length, .hdr 5 0 a.data.length, (.hdr 6 0 a.roots.length), .d (vI 0), .d (vI 0), .d (.v (.slice none 0 0))], o8]
    (fun x r => x = .d (vI (writeS a k o.off o.b).e) ∧ r = [o0, o1, o2, o3, .row 1 (a.gens.map vI), .row 1 ((writeS a k o.off o.b).a.data.map oB), .row 3 (a.roots.map eRoot), .var 86 [.hdr 4 0 a.gens.length, .hdr 5 0 a.data.length, (.hdr 6 0 a.roots.length), .d (vI 0), .d (vI 0), .d (.v (.slice none 0 0))], o8]) := by
  refine callsA_at Try.func89 rfl (Nat.le_of_ble_eq_true rfl) fun B S => ?_
  obtain ⟨z0, z1, z2, z3, z8⟩ : o0.lt 9 = true ∧ o1.lt 9 = true ∧ o2.lt 9 = true ∧ o3.lt 9 = true ∧ o8.lt 9 = true := by simpa using ho 9
  simp only [hix]
  simp only [objsFix, Bool.and_eq_true, and_true] at fx
  refine W_seq ?_
  refine W_reg rfl ?_
  refine run_op rfl rfl rfl (by simp [boxA, AV.cells, AV.isCell, z0, z1, z2, z3, z8, boxA, AV.cells, AV.isCell]; exact .mk) ?_
  refine run_op rfl rfl rfl (by simp [boxA, AV.cells, AV.isCell, z0, z1, z2, z3, z8]; exact .mk) ?_
  refine run_end [0, 3] (by simp) (by simp; exact .mk) ?_
  rintro -
  refine W_seq ?_
  refine W_weak (s2 := slots [(0, .ptr 7 0 0), (3, .ptr 9 0 0)]) (objs2 := [o0, o1, o2, o3, .row 1 (a.gens.map vI), .hole k 10 (nth a.data k).length (a.data.map oB), .row 3 (a.roots.map eRoot), .var 86 [.hdr 4 0 a.gens.length, .hdr 5 0 a.data.length, (.hdr 6 0 a.roots.length), .d (vI 0), .d (vI 0), .d (.v (.slice none 0 0))], o8, .var 31 [.d (vI o.act), .d (vI k), .d (vI o.gen), .d (vI o.n), .d (vI o.off), .d (rB o.b), .d (vS o.name)], .row 1 ((nth a.data k).map vB)]) (Weak.open (xs := a.data.map oB) (ys := (nth a.data k).map vB) 5 k rfl rfl (map_get (f := oB) hk) ?_ ?_ (by simp)) ?_
  · simp
  · simp [fx]
  refine W_reg rfl ?_
  refine run_op rfl rfl rfl (by simp [boxA, AV.cells, AV.isCell, z0, z1, z2, z3, z8]; exact .mk) ?_
  refine run_op rfl rfl rfl (by simp [boxA, AV.cells, AV.isCell, z0, z1, z2, z3, z8]; exact .mk) ?_
  refine run_op rfl rfl rfl (by simp [boxA, AV.cells, AV.isCell, z0, z1, z2, z3, z8]; exact .mk) ?_
  refine run_op rfl rfl rfl (by simp [boxA, AV.cells, AV.isCell, z0, z1, z2, z3, z8]; exact .mk) ?_
  refine run_op rfl rfl rfl (by simp [boxA, AV.cells, AV.isCell, z0, z1, z2, z3, z8]; exact .mk) ?_
  refine run_op rfl rfl rfl (by simp [boxA, AV.cells, AV.isCell, z0, z1, z2, z3, z8]; exact .mk) ?_
  refine run_op rfl rfl rfl (by simp [boxA, AV.cells, AV.isCell, z0, z1, z2, z3, z8]; exact .mk) ?_
  refine run_op rfl rfl rfl (by simp [boxA, AV.cells, AV.isCell, z0, z1, z2, z3, z8]; exact .mk) ?_
  refine run_inl0 rfl rfl rfl rfl (by simp [boxA, AV.cells, AV.isCell, z0, z1, z2, z3, z8, calleeA]; exact .mk) ⟨_, Try.func112, rfl, rfl⟩ (in112h g o0 o1 o2 o3 o8 (.var 31 [.d (vI o.act), .d (vI k), .d (vI o.gen), .d (vI o.n), .d (vI o.off), .d (rB o.b), .d (vS o.name)]) a k o.gen o.off o.b.length q (fun m => by have := ho m; simp at this; simp [this]) hk hd hq) (.inr ⟨[], by simp⟩) ?_
  refine run_op rfl rfl rfl (by simp [boxA, AV.cells, AV.isCell, z0, z1, z2, z3, z8]; exact .mk) ?_
  refine run_op rfl rfl rfl (by simp [boxA, AV.cells, AV.isCell, z0, z1, z2, z3, z8]; exact .mk) ?_
  refine run_op rfl rfl rfl (by simp [boxA, AV.cells, AV.isCell, z0, z1, z2, z3, z8]; exact .mk) ?_
  refine run_op rfl rfl rfl (by simp [boxA, AV.cells, AV.isCell, z0, z1, z2, z3, z8]; exact .mk) ?_
  refine run_op rfl rfl rfl (by simp [boxA, AV.cells, AV.isCell, z0, z1, z2, z3, z8]; exact .mk) ?_
  refine run_end [3, 5, 6] (by simp) (by simp; exact .mk) ?_
  rintro -
  refine W_seq ?_
  refine W_seq ?_
  refine W_reg rfl ?_
  refine run_op rfl rfl rfl (by simp [boxA, AV.cells, AV.isCell, z0, z1, z2, z3, z8]; exact .mk) ?_
  refine run_op rfl rfl rfl (by simp [boxA, AV.cells, AV.isCell, z0, z1, z2, z3, z8, unA]; exact .mk) ?_
  refine run_end [3, 5, 20] (by simp) (by simp; exact .mk) ?_
  rintro -
  refine W_cond rfl ?_ ?_
  · intro h20
    obtain rfl : q = false := by simpa using h20
    have hr : writeS a k o.off o.b = ⟨a, 0, 0, [], 1⟩ := by simp [writeS, hq]
    refine W_seq ?_
    refine W_weak (objs2 := [o0, o1, o2, o3, .row 1 (a.gens.map vI), .row 1 ((a.data.map oB).set k (.row .own 1 ((nth a.data k).map vB))), .row 3 (a.roots.map eRoot), .var 86 [.hdr 4 0 a.gens.length, .hdr 5 0 a.data.length, (.hdr 6 0 a.roots.length), .d (vI 0), .d (vI 0), .d (.v (.slice none 0 0))], o8, .var 31 [.d (vI o.act), .d (vI k), .d (vI o.gen), .d (vI o.n), .d (vI o.off), .d (rB o.b), .d (vS o.name)], .dead]) (Weak.close (i := k) (r' := 10) (k := 1) (xs := a.data.map oB) (ys := (nth a.data k).map vB) (len := (nth a.data k).length) 5 rfl rfl ?_) ?_
    · simp
    refine W_reg rfl ?_
    refine run_op rfl rfl rfl (by simp [boxA, AV.cells, AV.isCell, z0, z1, z2, z3, z8]; exact .mk) ?_
    refine run_end [4] (by simp) (by simp; exact .mk) ?_
    rintro -
    refine W_ret ?_
    refine endAt_drop 9 (by simp [boxA, AV.cells, AV.isCell, z0, z1, z2, z3, z8, Try.f89]; exact .mk) ?_ ?_ (by simp) (by simp [boxA, AV.cells, AV.isCell, z0, z1, z2, z3, z8]) (by simp [boxA, AV.cells, AV.isCell, z0, z1, z2, z3, z8])
    · simp [hr]
    · simp only [hr]; first | rw [set_oB_self hk]; rfl | rw [set_oB_splice]; rfl
  · intro h20
    obtain rfl : q = true := by simpa using h20
    have hx : 0 ≤ o.off ∧ o.off ≤ (nth a.data k).length ∧ (o.b.length : Int) ≤ (nth a.data k).length - o.off := by rw [reachS] at hq; simp at hq; omega
    have hr : writeS a k o.off o.b = ⟨{ a with data := a.data.set k (Go.splice (nth a.data k) o.off.toNat o.b) }, 0, 0, [], 0⟩ := by simp [writeS, hq]
    refine W_skip ?_
    rintro -
    refine W_seq ?_
    refine W_reg rfl ?_
    refine run_op rfl rfl rfl (by simp [boxA, AV.cells, AV.isCell, z0, z1, z2, z3, z8]; exact .mk) ?_
    refine run_op rfl rfl rfl (by simp [boxA, AV.cells, AV.isCell, z0, z1, z2, z3, z8]; exact .mk) ?_
    refine run_op rfl rfl rfl (by simp [boxA, AV.cells, AV.isCell, z0, z1, z2, z3, z8]; exact .mk) ?_
    refine run_op rfl rfl rfl (by simp [boxA, AV.cells, AV.isCell, z0, z1, z2, z3, z8, copyA, show o.off.toNat + o.b.length ≤ (nth a.data k).length from by omega]; exact .mk) ?_
    refine run_end [] (by simp) (by simp; exact .mk) ?_
    rintro -
    refine W_seq ?_
    refine W_weak (objs2 := [o0, o1, o2, o3, .row 1 (a.gens.map vI), .row 1 ((a.data.map oB).set k (.row .own 1 (Go.splice ((nth a.data k).map vB) o.off.toNat (o.b.map vB)))), .row 3 (a.roots.map eRoot), .var 86 [.hdr 4 0 a.gens.length, .hdr 5 0 a.data.length, (.hdr 6 0 a.roots.length), .d (vI 0), .d (vI 0), .d (.v (.slice none 0 0))], o8, .var 31 [.d (vI o.act), .d (vI k), .d (vI o.gen), .d (vI o.n), .d (vI o.off), .d (rB o.b), .d (vS o.name)], .dead]) (Weak.close (i := k) (r' := 10) (k := 1) (xs := a.data.map oB) (ys := Go.splice ((nth a.data k).map vB) o.off.toNat (o.b.map vB)) (len := (nth a.data k).length) 5 rfl rfl ?_) ?_
    · rw [splice_map, List.length_map, Go.length_splice _ _ _ (by omega)]
    refine W_reg rfl ?_
    refine run_op rfl rfl rfl (by simp [boxA, AV.cells, AV.isCell, z0, z1, z2, z3, z8]; exact .mk) ?_
    refine run_end [4] (by simp) (by simp; exact .mk) ?_
    rintro -
    refine W_ret ?_
    refine endAt_drop 9 (by simp [boxA, AV.cells, AV.isCell, z0, z1, z2, z3, z8, Try.f89]; exact .mk) ?_ ?_ (by simp) (by simp [boxA, AV.cells, AV.isCell, z0, z1, z2, z3, z8]) (by simp [boxA, AV.cells, AV.isCell, z0, z1, z2, z3, z8])
    · simp [hr]
    · simp only [hr]; first | rw [set_oB_self hk]; rfl | rw [set_oB_splice]; rfl

end Go.Proofs
