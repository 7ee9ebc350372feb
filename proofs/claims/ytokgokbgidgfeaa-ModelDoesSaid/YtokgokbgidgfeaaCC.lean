/- Contracts of the program's functions and plain facts, for arguments as each lemma says. -/
import Derived.Test.YtokgokbgidgfeaaAwpD
import Derived.Test.YtokgokbgidgfeaaCB
import Derived.Test.YtokgokbgidgfeaaCA
set_option linter.all false
set_option maxHeartbeats 4000000
set_option maxRecDepth 4000
namespace Go.Proofs
open Go.Awp
theorem ct12 (g : Gl) (a : Abs) (ha : a.Ok) : CtAt Try.prog g 12 [eAbs a] (oAbs a) := by
 refine ctAt_of_W Try.func12 rfl rfl (Nat.le_of_ble_eq_true rfl) fun B S => ?_
 simp only [eAbs, List.map, argD_agg]
 have q1 := ha.h1
 have q2 := ha.h2
 have q3 := ha.h3
 have e1 : a.gens.length * 8 ≤ 140737488355328 := by omega
 have e2 : a.gens.length ≤ 140737488355328 := by omega
 have e3 : a.roots.length * 32 ≤ 140737488355328 := by omega
 have e4 : a.roots.length ≤ 140737488355328 := by omega
 refine xU ?_
 iterate 2 refine xO ?_
 refine xF [1,2] ?_
 refine W_seq ?_
 refine W_regDTK (hard := []) [0,3,4,6,9,7] (keepOk_lt (by decide)) (by kernel_rfl) 4 [1,2,5,0,3,4,6,9,7,8,10] [[1,2,5,0,3,4,6,7,8,9,10], [1,2,5,0,3,4,9,6,7,8,10], [1,2,5,0,3,6,4,9,7,8,10], [1,2,5,0,3,6,4,7,8,9,10], [1,2,5,0,3,6,9,4,7,8,10], [1,2,5,0,3,9,4,6,7,8,10], [1,2,5,0,3,9,6,4,7,8,10], [1,2,5,0,4,3,6,9,7,8,10], [1,2,5,0,4,3,6,7,8,9,10], [1,2,5,0,4,3,9,6,7,8,10], [1,2,5,0,4,6,3,9,7,8,10], [1,2,5,0,4,6,3,7,8,9,10], [1,2,5,0,4,6,9,3,7,8,10], [1,2,5,0,4,9,3,6,7,8,10], [1,2,5,0,4,9,6,3,7,8,10], [1,2,5,0,6,3,4,9,7,8,10], [1,2,5,0,6,3,4,7,8,9,10], [1,2,5,0,6,3,9,4,7,8,10], [1,2,5,0,6,4,3,9,7,8,10], [1,2,5,0,6,4,3,7,8,9,10], [1,2,5,0,6,4,9,3,7,8,10], [1,2,5,0,6,9,3,4,7,8,10], [1,2,5,0,6,9,4,3,7,8,10], [1,2,5,0,9,3,4,6,7,8,10], [1,2,5,0,9,3,6,4,7,8,10], [1,2,5,0,9,4,3,6,7,8,10], [1,2,5,0,9,4,6,3,7,8,10], [1,2,5,0,9,6,3,4,7,8,10], [1,2,5,0,9,6,4,3,7,8,10], [1,2,5,4,0,3,6,9,7,8,10], [1,2,5,4,0,3,6,7,8,9,10], [1,2,5,4,0,3,9,6,7,8,10], [1,2,5,4,0,6,3,9,7,8,10], [1,2,5,4,0,6,3,7,8,9,10], [1,2,5,4,0,6,9,3,7,8,10], [1,2,5,4,0,9,3,6,7,8,10], [1,2,5,4,0,9,6,3,7,8,10], [1,2,5,4,6,0,3,9,7,8,10], [1,2,5,4,6,0,3,7,8,9,10], [1,2,5,4,6,0,9,3,7,8,10], [1,2,5,4,6,9,0,3,7,8,10], [1,2,5,4,9,0,3,6,7,8,10], [1,2,5,4,9,0,6,3,7,8,10], [1,2,5,4,9,6,0,3,7,8,10], [1,2,5,6,0,3,4,9,7,8,10], [1,2,5,6,0,3,4,7,8,9,10], [1,2,5,6,0,3,9,4,7,8,10], [1,2,5,6,0,4,3,9,7,8,10], [1,2,5,6,0,4,3,7,8,9,10], [1,2,5,6,0,4,9,3,7,8,10], [1,2,5,6,0,9,3,4,7,8,10], [1,2,5,6,0,9,4,3,7,8,10], [1,2,5,6,4,0,3,9,7,8,10], [1,2,5,6,4,0,3,7,8,9,10], [1,2,5,6,4,0,9,3,7,8,10], [1,2,5,6,4,9,0,3,7,8,10], [1,2,5,6,9,0,3,4,7,8,10], [1,2,5,6,9,0,4,3,7,8,10], [1,2,5,6,9,4,0,3,7,8,10], [1,2,5,9,0,3,4,6,7,8,10], [1,2,5,9,0,3,6,4,7,8,10], [1,2,5,9,0,4,3,6,7,8,10], [1,2,5,9,0,4,6,3,7,8,10], [1,2,5,9,0,6,3,4,7,8,10], [1,2,5,9,0,6,4,3,7,8,10], [1,2,5,9,4,0,3,6,7,8,10], [1,2,5,9,4,0,6,3,7,8,10], [1,2,5,9,4,6,0,3,7,8,10], [1,2,5,9,6,0,3,4,7,8,10], [1,2,5,9,6,0,4,3,7,8,10], [1,2,5,9,6,4,0,3,7,8,10]] (by decide +kernel) ?_
 refine xO ?_
 refine xO ?_ (h := by simp [eRoot]; exact .mk)
 iterate 2 refine xO ?_
 refine xO ?_ (h := by simp [rows, e1, e2]; exact .mk)
 refine xO ?_
 refine xO ?_ (h := by simp [eRoot]; exact .mk)
 refine xO ?_
 refine xO ?_ (h := by simp [rows, e3, e4]; exact .mk)
 iterate 2 (refine xO ?_ (h := by simp [splice]; exact .mk))
 refine xE [1,2,3] ?_
 refine ⟨_, rfl, ⟨?_, ?_, ?_, ?_, ?_, ?_, ?_, ?_, ?_, ?_, ?_, ?_, ?_, ?_, ?_, ?_, ?_, ?_, ?_, ?_, ?_, ?_, ?_, ?_, ?_, ?_, ?_, ?_, ?_, ?_, ?_, ?_, ?_, ?_, ?_, ?_, ?_, ?_, ?_, ?_, ?_, ?_, ?_, ?_, ?_, ?_, ?_, ?_, ?_, ?_, ?_, ?_, ?_, ?_, ?_, ?_, ?_, ?_, ?_, ?_, ?_, ?_, ?_, ?_, ?_, ?_, ?_, ?_, ?_, ?_, ?_, trivial⟩, ?_⟩
 iterate 71
  · iterate 11 refine xO ?_ (h := by simp [rows, e1, e2, e3, e4, splice]; exact .mk)
    refine xE [1,2,3] ?_
    first | exact Weak.perm [0,1,2,3,4,6,5] [0,1,2,3,4,6,5] rfl rfl rfl
          | exact Weak.perm [0,1,2,3,4,5,6] [0,1,2,3,4,5,6] rfl rfl rfl
          | exact Weak.perm [0,1,2,3,5,4,6] [0,1,2,3,5,4,6] rfl rfl rfl
          | exact Weak.perm [0,1,2,4,3,5,6] [0,1,2,4,3,5,6] rfl rfl rfl
          | exact Weak.perm [0,1,2,4,3,6,5] [0,1,2,4,3,6,5] rfl rfl rfl
          | exact Weak.perm [0,1,2,4,5,3,6] [0,1,2,5,3,4,6] rfl rfl rfl
          | exact Weak.perm [0,1,2,5,3,4,6] [0,1,2,4,5,3,6] rfl rfl rfl
          | exact Weak.perm [0,1,2,5,4,3,6] [0,1,2,5,4,3,6] rfl rfl rfl
          | exact Weak.perm [0,1,4,2,3,5,6] [0,1,3,4,2,5,6] rfl rfl rfl
          | exact Weak.perm [0,1,4,2,3,6,5] [0,1,3,4,2,6,5] rfl rfl rfl
          | exact Weak.perm [0,1,4,2,5,3,6] [0,1,3,5,2,4,6] rfl rfl rfl
          | exact Weak.perm [0,1,4,5,2,3,6] [0,1,4,5,2,3,6] rfl rfl rfl
          | exact Weak.perm [0,1,5,2,3,4,6] [0,1,3,4,5,2,6] rfl rfl rfl
          | exact Weak.perm [0,1,5,2,4,3,6] [0,1,3,5,4,2,6] rfl rfl rfl
          | exact Weak.perm [0,1,5,4,2,3,6] [0,1,4,5,3,2,6] rfl rfl rfl
 rintro -
 refine W_seq (xU ?_)
 refine xO ?_
 refine xF [1,2,3,4] ?_
 refine W_block (W_rounds (fun m σ o => ∃ i : Nat, m = a.data.length - i ∧ i ≤ a.data.length ∧ σ = slots [(1, .ptr 0 0 0), (2, .ptr 1 0 0), (3, .ptr 5 0 0), (4, .d (vI i))] ∧ o = [.var 26 [.d (rI a.gens), .d (rBB a.data), .d (rR a.roots)], .var 26 [.d (.v (.slice none 0 0)), .d (.v (.slice none 0 0)), .d (.v (.slice none 0 0))], .dead, .row 1 (a.gens.map vI), .dead, .var 26 [.hdr 3 0 a.gens.length, .hdr 7 0 i, .hdr 6 0 a.roots.length], .row 3 (a.roots.map eRoot), .row 1 ((a.data.take i).map oB)]) a.data.length (Weak.nilCell 5 1 1 rfl rfl) ⟨0, by simp, by simp, rfl, rfl⟩ ?_)
 rintro m σ o ⟨i, rfl, hi, rfl, rfl⟩ _
 refine W_seq (xU ?_)
 iterate 2 refine xO ?_
 refine xO ?_ (h := by simp [eRoot]; exact .mk)
 iterate 2 refine xO ?_
 refine xF [1,2,3,4,18] ?_
 refine W_cond rfl ?_ ?_
 · intro h18
   have hi2 : i < a.data.length := by simpa using h18
   have hb := ha.h4 i hi2
   have f1 : (nth a.data i).length ≤ 140737488355328 := by omega
   have f2 : (i + 1) * 24 ≤ 140737488355328 := by omega
   have f3 : i ≤ 140737488355327 := by omega
   have f5 : (D.row M.own 1 ((nth a.data i).map vB)).noOwn = false := by first | rfl | simp [noOwn_row]
   have f4 : min i a.data.length = i := by omega
   refine W_skip ?_
   rintro -
   refine W_seq (W_block ?_)
   refine W_regDT (hard := []) [1,2,8,9] (keepOk_lt (by decide)) (by kernel_rfl) 4 [[0,1,3,4,5,6,7,2,8,9,10,11,12], [0,3,4,5,6,7,2,1,8,9,10,11,12], [0,3,4,5,6,7,2,8,1,9,10,11,12], [0,3,4,5,6,7,2,8,9,1,10,11,12]] (by decide +kernel) ⟨?_, ?_, ?_, ?_, trivial⟩
   · skip
     refine xO ?_
     refine xO ?_ (h := by simp [eRoot]; exact .mk)
     refine xO ?_
     refine xO ?_ (h := by simp [eRoot]; exact .mk)
     refine xO ?_
     refine xO ?_ (h := by simp [eRoot, hi2]; exact .mk)
     refine xO ?_ (h := by simp [-List.getElem?_map, map_get hi2]; exact .mk)
     refine xO ?_
     refine xO ?_ (h := by simp [rows, f1]; exact .mk)
     refine xO ?_
     refine xO ?_ (h := by simp [rows, f5, f2, f3, f4]; exact .mk)
     refine xO ?_
     refine xO ?_ (h := by simp [splice]; exact .mk)
     refine xF [1,2,3,4] ?_
     refine W_reg rfl ?_
     iterate 3 refine xO ?_
     refine xE [1,2,3,4] ?_
     refine rounds_kill [1,2,3,4] ?_
     refine rounds_kills [1,2,3,4] rfl ?_
     refine rounds_swap 7 11 1 (by decide) (by simp) (by decide) rfl rfl ?_
     refine rounds_drop 8 [1,2,3,4] (by decide) (by rfl) (by rfl) ?_
     refine rounds_next (m' := a.data.length - (i+1)) (by omega) ⟨i+1, rfl, by omega, ?_, ?_⟩
     · rw [wrap64 (by omega) (by omega)]; rfl
     rw [take_succ hi2]; simp; try rfl
   · skip
     iterate 2 refine xO ?_
     refine xO ?_ (h := by simp [eRoot]; exact .mk)
     refine xO ?_
     refine xO ?_ (h := by simp [eRoot, hi2]; exact .mk)
     refine xO ?_ (h := by simp [-List.getElem?_map, map_get hi2]; exact .mk)
     refine xO ?_
     refine xO ?_ (h := by simp [eRoot]; exact .mk)
     refine xO ?_ (h := by simp [rows, f1]; exact .mk)
     refine xO ?_
     refine xO ?_ (h := by simp [rows, f5, f2, f3, f4]; exact .mk)
     refine xO ?_
     refine xO ?_ (h := by simp [splice]; exact .mk)
     refine xF [1,2,3,4] ?_
     refine W_reg rfl ?_
     iterate 3 refine xO ?_
     refine xE [1,2,3,4] ?_
     refine rounds_kill [1,2,3,4] ?_
     refine rounds_kills [1,2,3,4] rfl ?_
     refine rounds_swap 7 11 1 (by decide) (by simp) (by decide) rfl rfl ?_
     refine rounds_drop 8 [1,2,3,4] (by decide) (by rfl) (by rfl) ?_
     refine rounds_next (m' := a.data.length - (i+1)) (by omega) ⟨i+1, rfl, by omega, ?_, ?_⟩
     · rw [wrap64 (by omega) (by omega)]; rfl
     rw [take_succ hi2]; simp; try rfl
   · skip
     iterate 2 refine xO ?_
     refine xO ?_ (h := by simp [eRoot]; exact .mk)
     refine xO ?_
     refine xO ?_ (h := by simp [eRoot, hi2]; exact .mk)
     refine xO ?_ (h := by simp [-List.getElem?_map, map_get hi2]; exact .mk)
     refine xO ?_
     refine xO ?_ (h := by simp [rows, f1]; exact .mk)
     refine xO ?_ (h := by simp [eRoot]; exact .mk)
     refine xO ?_
     refine xO ?_ (h := by simp [rows, f5, f2, f3, f4]; exact .mk)
     refine xO ?_
     refine xO ?_ (h := by simp [splice]; exact .mk)
     refine xF [1,2,3,4] ?_
     refine W_reg rfl ?_
     iterate 3 refine xO ?_
     refine xE [1,2,3,4] ?_
     refine rounds_kill [1,2,3,4] ?_
     refine rounds_kills [1,2,3,4] rfl ?_
     refine rounds_swap 7 11 1 (by decide) (by simp) (by decide) rfl rfl ?_
     refine rounds_drop 8 [1,2,3,4] (by decide) (by rfl) (by rfl) ?_
     refine rounds_next (m' := a.data.length - (i+1)) (by omega) ⟨i+1, rfl, by omega, ?_, ?_⟩
     · rw [wrap64 (by omega) (by omega)]; rfl
     rw [take_succ hi2]; simp; try rfl
   skip
   iterate 2 refine xO ?_
   refine xO ?_ (h := by simp [eRoot]; exact .mk)
   refine xO ?_
   refine xO ?_ (h := by simp [eRoot, hi2]; exact .mk)
   refine xO ?_ (h := by simp [-List.getElem?_map, map_get hi2]; exact .mk)
   refine xO ?_
   refine xO ?_ (h := by simp [rows, f1]; exact .mk)
   refine xO ?_
   refine xO ?_ (h := by simp [eRoot]; exact .mk)
   refine xO ?_ (h := by simp [rows, f5, f2, f3, f4]; exact .mk)
   refine xO ?_
   refine xO ?_ (h := by simp [splice]; exact .mk)
   refine xF [1,2,3,4] ?_
   refine W_reg rfl ?_
   iterate 3 refine xO ?_
   refine xE [1,2,3,4] ?_
   refine rounds_kill [1,2,3,4] ?_
   refine rounds_kills [1,2,3,4] rfl ?_
   refine rounds_swap 7 11 1 (by decide) (by simp) (by decide) rfl rfl ?_
   refine rounds_drop 8 [1,2,3,4] (by decide) (by rfl) (by rfl) ?_
   refine rounds_next (m' := a.data.length - (i+1)) (by omega) ⟨i+1, rfl, by omega, ?_, ?_⟩
   · rw [wrap64 (by omega) (by omega)]; rfl
   rw [take_succ hi2]; simp; try rfl
 intro h18
 obtain rfl : i = a.data.length := by simp at h18; omega
 rw [show List.take a.data.length (a.data.map oB) = a.data.map oB by rw [List.take_of_length_le (by simp)]]
 refine W_exit (xT ?_)
 refine xO ?_ (h := by simp [eRoot]; exact .mk)
 refine xO ?_ (h := by simp [splice]; exact .mk)
 refine xF [2] ?_
 refine W_ret (end_ret (by simp [Try.f12]; exact .mk) (by simp; exact .mk) ?_ (by simp [oAbs]))
 simp [Try.f12, oAbs, ownR]

open Go.Awp
theorem in46 (g : Gl) (o0 o1 o2 o3 o7 : Awp.Obj) (a : Abs) (ho : objsLt 8 [o0, o1, o2, o3, o7] = true) (ha : a.Ok) (hgd : a.data.length = a.gens.length) (n : Int) (k : Nat) (hx : allocIx a = some k) (hz : sizedS n = true) : ∀ B S, CallsA Try.prog g B S ⟨8, true⟩ 46 [.agg [.hdr 4 0 a.gens.length, .hdr 5 0 a.data.length, .hdr 6 0 a.roots.length], .d (vI n)] [o0, o1, o2, o3, .row 1 (a.gens.map vI), .row 1 (a.data.map oB), .row 3 (a.roots.map eRoot), o7]
    (fun x q => x = .tup [.agg [.hdr 4 0 a.gens.length, .hdr 5 0 a.data.length, .hdr 6 0 a.roots.length], .agg [.d (vI k), .d (vI (nth a.gens k)), .d (.v (.slice none 0 0))], .d (vI 0)] ∧ q = [o0, o1, o2, o3, .row 1 (a.gens.map vI), .row 1 ((a.data.set k (List.replicate n.toNat 0)).map oB), .row 3 (a.roots.map eRoot), o7]) := by
 refine callsA_at Try.func46 rfl (Nat.le_of_ble_eq_true rfl) fun B S => ?_
 obtain ⟨z0, z1, z2, z3, z7⟩ : o0.lt 8 = true ∧ o1.lt 8 = true ∧ o2.lt 8 = true ∧ o3.lt 8 = true ∧ o7.lt 8 = true := by simpa using ho
 have q1 := ha.h1
 refine xU ?_
 iterate 4 refine xO ?_
 refine xF [1,2,4,5] ?_
 refine W_seq (xU ?_)
 iterate 3 refine xO ?_
 iterate 2 refine xI ?_
 refine xP ?_
 refine xF [1,2,4,5,13] ?_
 refine W_cond rfl ?_ ?_
 · intro h13
   exfalso; simp [sizedS] at hz h13; omega
 intro h13
 have hs : sizedS n = true := by simp at h13; simp [sizedS]; omega
 have hn : 1 ≤ n ∧ n ≤ 2048 := by simpa [sizedS] using hs
 have e1 : 0 ≤ n := by omega
 have e2 : n ≤ 140737488355328 := by omega
 refine W_skip ?_
 rintro -
 refine W_seq (xU ?_)
 refine xO ?_
 refine xF [1,2,4,5,7] ?_
 refine W_block (W_rounds (fun m σ q => ∃ i : Nat, m = a.gens.length - i ∧ i ≤ a.gens.length ∧ (∀ j, j < i → openS a j = false) ∧ σ = slots [(1, .d (vI n)), (2, .ptr 8 0 0), (4, .ptr 9 0 0), (5, .ptr 10 0 0), (7, .d (vI i))] ∧ q = [o0, o1, o2, o3, .row 1 (a.gens.map vI), .row 1 (a.data.map oB), .row 3 (a.roots.map eRoot), o7, .var 26 [.hdr 4 0 a.gens.length, .hdr 5 0 a.data.length, .hdr 6 0 a.roots.length], .var 26 [.d (.v (.slice none 0 0)), .d (.v (.slice none 0 0)), .d (.v (.slice none 0 0))], .var 38 [.d (vI 0), .d (vI 0), .d (.v (.slice none 0 0))]]) a.gens.length .refl ⟨0, by simp, by simp, by simp, rfl, rfl⟩ ?_)
 rintro m σ q ⟨i, rfl, hi, hinv, rfl, rfl⟩ _
 refine W_seq (xU ?_)
 iterate 5 refine xO ?_
 refine xF [1,2,4,5,7,20] ?_
 refine W_cond rfl ?_ ?_
 · intro h20
   have hi2 : i < a.gens.length := by simpa using h20
   have hi3 : i < a.data.length := by omega
   refine W_skip ?_
   rintro -
   refine W_seq (W_block ?_)
   refine xU ?_
   iterate 3 refine xO ?_
   refine xO ?_ (h := by simp [hi3]; exact .mk)
   refine xO ?_ (h := by simp [-List.getElem?_map, map_get hi3]; exact .mk)
   iterate 3 refine xO ?_
   iterate 3 refine xI ?_
   refine run_if rfl (by simp; exact .mk) rfl (by simp <;> first | omega | grind) (fun hb => by simp [hi2]; exact .mk) ?_
   refine run_if rfl (by simp; exact .mk) rfl (by simp <;> first | omega | grind) (fun hb => by simp [-List.getElem?_map, map_get hi2]; exact .mk) ?_
   refine xI ?_
   refine xP ?_
   refine xF [1,2,4,5,7,37] ?_
   refine W_cond rfl ?_ ?_
   · intro h37
     obtain rfl : k = i := by have := allocIx_at hi2 hinv (by simp [openS] at *; exact h37); rw [hx] at this; cases this; rfl
     refine W_seq ?_
     refine W_regD (by kernel_rfl) [] 4 [0,1,2,3,4,5,6] (by decide +kernel) ?_
     iterate 4 refine xO ?_
     refine xO ?_ (h := by simp [e1, e2]; exact .mk)
     refine xO ?_ (h := by simp [hi3]; exact .mk)
     refine xO ?_ (h := by simp [-List.getElem?_map, map_get hi3, nrmL, nrm, putC, splice]; exact .mk)
     refine xF [2,4,5,7] ?_
     refine W_seq ?_
     refine W_regDT (hard := []) [3,5,6,9] (keepOk_lt (by decide)) (by kernel_rfl) 4 [[0,1,2,3,4,5,6,7,8,9,10,11], [0,1,2,3,4,5,9,6,7,8,10,11], [0,1,2,3,4,9,5,6,7,8,10,11], [0,1,2,4,9,3,5,6,7,8,10,11]] (by decide +kernel) ⟨?_, ?_, ?_, ?_, trivial⟩
     · skip
       iterate 5 refine xO ?_
       refine xO ?_ (h := by simp [hi2]; exact .mk)
       refine xO ?_ (h := by simp [-List.getElem?_map, map_get hi2]; exact .mk)
       iterate 4 (refine xO ?_ (h := by simp [splice]; exact .mk))
       refine xO ?_
       refine xF [4,5,6] ?_
       refine W_ret (endAt_drop 8 (by simp [Try.f46]; exact .mk) ?_ ?_ (by simp) (by first | rfl | simp) (by simp [z0, z1, z2, z3, z7]))
       · simp
       simp [List.map_set, ownR]; try rfl
     · skip
       iterate 5 refine xO ?_
       refine xO ?_ (h := by simp [hi2]; exact .mk)
       refine xO ?_ (h := by simp [splice]; exact .mk)
       refine xO ?_ (h := by simp [-List.getElem?_map, map_get hi2]; exact .mk)
       iterate 3 (refine xO ?_ (h := by simp [splice]; exact .mk))
       refine xO ?_
       refine xF [4,5,6] ?_
       refine W_ret (endAt_drop 8 (by simp [Try.f46]; exact .mk) ?_ ?_ (by simp) (by first | rfl | simp) (by simp [z0, z1, z2, z3, z7]))
       · simp
       simp [List.map_set, ownR]; try rfl
     · skip
       iterate 5 refine xO ?_
       refine xO ?_ (h := by simp [splice]; exact .mk)
       refine xO ?_ (h := by simp [hi2]; exact .mk)
       refine xO ?_ (h := by simp [-List.getElem?_map, map_get hi2]; exact .mk)
       iterate 3 (refine xO ?_ (h := by simp [splice]; exact .mk))
       refine xO ?_
       refine xF [4,5,6] ?_
       refine W_ret (endAt_drop 8 (by simp [Try.f46]; exact .mk) ?_ ?_ (by simp) (by first | rfl | simp) (by simp [z0, z1, z2, z3, z7]))
       · simp
       simp [List.map_set, ownR]; try rfl
     skip
     iterate 4 refine xO ?_
     refine xO ?_ (h := by simp [splice]; exact .mk)
     refine xO ?_
     refine xO ?_ (h := by simp [hi2]; exact .mk)
     refine xO ?_ (h := by simp [-List.getElem?_map, map_get hi2]; exact .mk)
     iterate 3 (refine xO ?_ (h := by simp [splice]; exact .mk))
     refine xO ?_
     refine xF [4,5,6] ?_
     refine W_ret (endAt_drop 8 (by simp [Try.f46]; exact .mk) ?_ ?_ (by simp) (by first | rfl | simp) (by simp [z0, z1, z2, z3, z7]))
     · simp
     simp [List.map_set, ownR]; try rfl
   intro h37
   refine W_skip ?_
   rintro -
   refine W_reg rfl ?_
   iterate 3 refine xO ?_
   refine xE [1,2,4,5,7] ?_
   refine rounds_kill [1,2,4,5,7] ?_
   refine rounds_next (m' := a.gens.length - (i+1)) (by omega) ⟨i+1, rfl, by omega, ?_, ?_, rfl⟩
   · intro j hj
     rcases Nat.lt_succ_iff_lt_or_eq.1 hj with hj | rfl
     · exact hinv j hj
     simp [openS] at *; exact h37
   rw [wrap64 (by omega) (by omega)]; rfl
 intro h20
 exfalso
 have := allocIx_none (a := a) (fun j hj => hinv j (by simp at h20; omega))
 rw [this] at hx; cases hx

theorem in46f (g : Gl) (o0 o1 o2 o3 o7 : Awp.Obj) (a : Abs) (ho : objsLt 8 [o0, o1, o2, o3, o7] = true) (ha : a.Ok) (hgd : a.data.length = a.gens.length) (n : Int) (he : (allocS a n).e ≠ 0) : ∀ B S, CallsA Try.prog g B S ⟨8, true⟩ 46 [.agg [.hdr 4 0 a.gens.length, .hdr 5 0 a.data.length, .hdr 6 0 a.roots.length], .d (vI n)] [o0, o1, o2, o3, .row 1 (a.gens.map vI), .row 1 (a.data.map oB), .row 3 (a.roots.map eRoot), o7]
    (fun x q => x = .tup [.agg [.d (.v (.slice none 0 0)), .d (.v (.slice none 0 0)), .d (.v (.slice none 0 0))], .agg [.d (vI 0), .d (vI 0), .d (.v (.slice none 0 0))], .d (vI (allocS a n).e)] ∧ q = [o0, o1, o2, o3, .row 1 (a.gens.map vI), .row 1 (a.data.map oB), .row 3 (a.roots.map eRoot), o7]) := by
 refine callsA_at Try.func46 rfl (Nat.le_of_ble_eq_true rfl) fun B S => ?_
 obtain ⟨z0, z1, z2, z3, z7⟩ : o0.lt 8 = true ∧ o1.lt 8 = true ∧ o2.lt 8 = true ∧ o3.lt 8 = true ∧ o7.lt 8 = true := by simpa using ho
 have q1 := ha.h1
 refine xU ?_
 iterate 4 refine xO ?_
 refine xF [1,2,4,5] ?_
 refine W_seq (xU ?_)
 iterate 3 refine xO ?_
 iterate 2 refine xI ?_
 refine xP ?_
 refine xF [1,2,4,5,13] ?_
 refine W_cond rfl ?_ ?_
 · intro h13
   have hz : sizedS n = false := by simp at h13; simp [sizedS]; omega
   have hr : (allocS a n).e = 1 := by simp [allocS, hz]
   refine xU ?_
   iterate 4 (refine xO ?_ (h := by simp [splice]; exact .mk))
   refine xO ?_
   refine xF [4,5,6] ?_
   refine W_ret (endAt_drop 8 (by simp [Try.f46]; exact .mk) ?_ ?_ (by simp) (by first | rfl | simp) (by simp [z0, z1, z2, z3, z7]))
   · simp [hr]
   simp
 intro h13
 have hs : sizedS n = true := by simp at h13; simp [sizedS]; omega
 have hn : 1 ≤ n ∧ n ≤ 2048 := by simpa [sizedS] using hs
 have e1 : 0 ≤ n := by omega
 have e2 : n ≤ 140737488355328 := by omega
 refine W_skip ?_
 rintro -
 refine W_seq (xU ?_)
 refine xO ?_
 refine xF [1,2,4,5,7] ?_
 refine W_block (W_rounds (fun m σ q => ∃ i : Nat, m = a.gens.length - i ∧ i ≤ a.gens.length ∧ (∀ j, j < i → openS a j = false) ∧ σ = slots [(1, .d (vI n)), (2, .ptr 8 0 0), (4, .ptr 9 0 0), (5, .ptr 10 0 0), (7, .d (vI i))] ∧ q = [o0, o1, o2, o3, .row 1 (a.gens.map vI), .row 1 (a.data.map oB), .row 3 (a.roots.map eRoot), o7, .var 26 [.hdr 4 0 a.gens.length, .hdr 5 0 a.data.length, .hdr 6 0 a.roots.length], .var 26 [.d (.v (.slice none 0 0)), .d (.v (.slice none 0 0)), .d (.v (.slice none 0 0))], .var 38 [.d (vI 0), .d (vI 0), .d (.v (.slice none 0 0))]]) a.gens.length .refl ⟨0, by simp, by simp, by simp, rfl, rfl⟩ ?_)
 rintro m σ q ⟨i, rfl, hi, hinv, rfl, rfl⟩ _
 refine W_seq (xU ?_)
 iterate 5 refine xO ?_
 refine xF [1,2,4,5,7,20] ?_
 refine W_cond rfl ?_ ?_
 · intro h20
   have hi2 : i < a.gens.length := by simpa using h20
   have hi3 : i < a.data.length := by omega
   refine W_skip ?_
   rintro -
   refine W_seq (W_block ?_)
   refine xU ?_
   iterate 3 refine xO ?_
   refine xO ?_ (h := by simp [hi3]; exact .mk)
   refine xO ?_ (h := by simp [-List.getElem?_map, map_get hi3]; exact .mk)
   iterate 3 refine xO ?_
   iterate 3 refine xI ?_
   refine run_if rfl (by simp; exact .mk) rfl (by simp <;> first | omega | grind) (fun hb => by simp [hi2]; exact .mk) ?_
   refine run_if rfl (by simp; exact .mk) rfl (by simp <;> first | omega | grind) (fun hb => by simp [-List.getElem?_map, map_get hi2]; exact .mk) ?_
   refine xI ?_
   refine xP ?_
   refine xF [1,2,4,5,7,37] ?_
   refine W_cond rfl ?_ ?_
   · intro h37
     exfalso
     have := allocIx_at hi2 hinv (by simp [openS] at *; exact h37)
     exact he (by simp [allocS, hs, this])
   intro h37
   refine W_skip ?_
   rintro -
   refine W_reg rfl ?_
   iterate 3 refine xO ?_
   refine xE [1,2,4,5,7] ?_
   refine rounds_kill [1,2,4,5,7] ?_
   refine rounds_next (m' := a.gens.length - (i+1)) (by omega) ⟨i+1, rfl, by omega, ?_, ?_, rfl⟩
   · intro j hj
     rcases Nat.lt_succ_iff_lt_or_eq.1 hj with hj | rfl
     · exact hinv j hj
     simp [openS] at *; exact h37
   rw [wrap64 (by omega) (by omega)]; rfl
 intro h20
 have := allocIx_none (a := a) (fun j hj => hinv j (by simp at h20; omega))
 have hr : (allocS a n).e = 9 := by simp [allocS, hs, this]
 refine W_exit (xT ?_)
 iterate 4 (refine xO ?_ (h := by simp [splice]; exact .mk))
 refine xO ?_
 refine xF [4,5,6] ?_
 refine W_ret (endAt_drop 8 (by simp [Try.f46]; exact .mk) ?_ ?_ (by simp) (by first | rfl | simp) (by simp [z0, z1, z2, z3, z7]))
 · simp [hr]
 simp

open Go.Awp
theorem in47s (g : Gl) (o0 o1 o2 o3 o7 : Awp.Obj) (a : Abs) (ho : objsLt 8 [o0, o1, o2, o3, o7] = true) (ha : a.Ok) (hgd : a.data.length = a.gens.length) (o : Op) (hact : o.act = 6) (hr : RootsOk a.roots) (he : (setS a.roots o.name o.ix o.gen).2 = 0) : ∀ B S, CallsA Try.prog g B S ⟨8, true⟩ 47 [.agg [.hdr 4 0 a.gens.length, .hdr 5 0 a.data.length, .hdr 6 0 a.roots.length], .agg [.d (vI o.act), .d (vI o.ix), .d (vI o.gen), .d (vI o.n), .d (vI o.off), .d (rB o.b), .d (vS o.name)]] [o0, o1, o2, o3, .row 1 (a.gens.map vI), .row 1 (a.data.map oB), .row 3 (a.roots.map eRoot), o7]
    (fun x q => x = .tup [.agg [.hdr 4 0 a.gens.length, .hdr 5 0 a.data.length, .hdr 13 0 (setS a.roots o.name o.ix o.gen).1.length], .agg [.d (vI 0), .d (vI 0), .d (.v (.slice none 0 0))], .d (vI 0)] ∧ q = [o0, o1, o2, o3, .row 1 (a.gens.map vI), .row 1 (a.data.map oB), .row 3 (a.roots.map eRoot), o7, .var 26 [.hdr 4 0 a.gens.length, .hdr 5 0 a.data.length, .hdr 13 0 (setS a.roots o.name o.ix o.gen).1.length], .var 31 [.d (vI o.act), .d (vI o.ix), .d (vI o.gen), .d (vI o.n), .d (vI o.off), .d (rB o.b), .d (vS o.name)], .var 26 [.hdr 4 0 a.gens.length, .hdr 5 0 a.data.length, .hdr 13 0 (setS a.roots o.name o.ix o.gen).1.length], .var 38 [.d (vI 0), .d (vI 0), .d (.v (.slice none 0 0))], .var 38 [.d (vI 0), .d (vI 0), .d (.v (.slice none 0 0))], .row 3 ((setS a.roots o.name o.ix o.gen).1.map eRoot)]) := by
 refine callsA_at Try.func47 rfl (Nat.le_of_ble_eq_true rfl) fun B S => ?_
 obtain ⟨z0, z1, z2, z3, z7⟩ : o0.lt 8 = true ∧ o1.lt 8 = true ∧ o2.lt 8 = true ∧ o3.lt 8 = true ∧ o7.lt 8 = true := by simpa using ho
 refine xU ?_
 iterate 5 refine xO ?_
 refine xG [2,3,4,5] ?_
 refine xO ?_
 refine xG [2,3,4,5,7] ?_
 refine xO ?_
 refine xO ?_ (h := by simp [eRoot]; exact .mk)
 refine xO ?_
 refine xG [2,3,4,5,7,8] ?_
 refine xO ?_
 refine xF [2,3,4,5,7,8,9] ?_
 refine W_seq (xU ?_)
 refine xO ?_
 refine xO ?_ (h := by simp [eRoot]; exact .mk)
 refine xF [2,3,4,5,7,8,9,13] ?_
 refine W_block (xU ?_)
 iterate 2 refine xO ?_
 refine xF [2,3,4,5,7,8,9,13,14] ?_
 refine W_cond rfl ?_ ?_
 · intro h14
   refine W_reg rfl ?_
   refine xO ?_
   refine xO ?_ (h := by simp [eRoot]; exact .mk)
   refine xO ?_
   refine xO ?_ (h := by simp [eRoot]; exact .mk)
   refine xO ?_
   refine xO ?_ (h := by simp [eRoot]; exact .mk)
   refine xC (ct89 g a.roots o.name o.ix o.gen hr) ?_ (he := by simp [row_rows, Function.comp_def]; exact .mk)
   iterate 5 refine xO ?_
   refine xF [2,4,5,7,8,9] ?_
   refine W_seq (xU ?_)
   iterate 2 refine xO ?_
   refine xF [2,4,5,7,8,9,48] ?_
   refine W_cond rfl ?_ ?_
   · intro h48
     exfalso; simp at h48; exact absurd he h48
   intro h48
   refine W_skip ?_
   refine xT ?_
   iterate 2 refine xO ?_
   refine xO ?_ (h := by simp [splice]; exact .mk)
   refine xF [2,4,5,7] ?_
   refine W_seq ?_
   refine W_regDS (hard := []) [1,2] (keepOk_lt (by decide)) (by kernel_rfl) 4 [[0,1,2,3,4], [0,2,1,3,4]] (by decide +kernel) ⟨?_, ?_, trivial⟩
   · skip
     iterate 2 (refine xO ?_ (h := by simp [eRoot]; exact .mk))
     iterate 2 (refine xO ?_ (h := by simp [splice]; exact .mk))
     refine xO ?_
     refine xF [4,5,6] ?_
     refine W_ret (endAt_ret (by simp [Try.f47]; exact .mk) ?_ ?_)
     · simp
     simp
   skip
   refine xO ?_ (h := by simp [eRoot]; exact .mk)
   refine xO ?_ (h := by simp [splice]; exact .mk)
   refine xO ?_ (h := by simp [eRoot]; exact .mk)
   refine xO ?_ (h := by simp [splice]; exact .mk)
   refine xO ?_
   refine xF [4,5,6] ?_
   refine W_ret (endAt_ret (by simp [Try.f47]; exact .mk) ?_ ?_)
   · simp
   simp
 intro h14
 simp [hact] at h14

theorem in47sf (g : Gl) (o0 o1 o2 o3 o7 : Awp.Obj) (a : Abs) (ho : objsLt 8 [o0, o1, o2, o3, o7] = true) (ha : a.Ok) (hgd : a.data.length = a.gens.length) (o : Op) (hact : o.act = 6) (hr : RootsOk a.roots) (he : (setS a.roots o.name o.ix o.gen).2 ≠ 0) : ∀ B S, CallsA Try.prog g B S ⟨8, true⟩ 47 [.agg [.hdr 4 0 a.gens.length, .hdr 5 0 a.data.length, .hdr 6 0 a.roots.length], .agg [.d (vI o.act), .d (vI o.ix), .d (vI o.gen), .d (vI o.n), .d (vI o.off), .d (rB o.b), .d (vS o.name)]] [o0, o1, o2, o3, .row 1 (a.gens.map vI), .row 1 (a.data.map oB), .row 3 (a.roots.map eRoot), o7]
    (fun x q => x = .tup [.agg [.d (.v (.slice none 0 0)), .d (.v (.slice none 0 0)), .d (.v (.slice none 0 0))], .agg [.d (vI 0), .d (vI 0), .d (.v (.slice none 0 0))], .d (vI (setS a.roots o.name o.ix o.gen).2)] ∧ q = [o0, o1, o2, o3, .row 1 (a.gens.map vI), .row 1 (a.data.map oB), .row 3 (a.roots.map eRoot), o7]) := by
 refine callsA_at Try.func47 rfl (Nat.le_of_ble_eq_true rfl) fun B S => ?_
 obtain ⟨z0, z1, z2, z3, z7⟩ : o0.lt 8 = true ∧ o1.lt 8 = true ∧ o2.lt 8 = true ∧ o3.lt 8 = true ∧ o7.lt 8 = true := by simpa using ho
 refine xU ?_
 iterate 5 refine xO ?_
 refine xG [2,3,4,5] ?_
 refine xO ?_
 refine xG [2,3,4,5,7] ?_
 refine xO ?_
 refine xO ?_ (h := by simp [eRoot]; exact .mk)
 refine xO ?_
 refine xG [2,3,4,5,7,8] ?_
 refine xO ?_
 refine xF [2,3,4,5,7,8,9] ?_
 refine W_seq (xU ?_)
 refine xO ?_
 refine xO ?_ (h := by simp [eRoot]; exact .mk)
 refine xF [2,3,4,5,7,8,9,13] ?_
 refine W_block (xU ?_)
 iterate 2 refine xO ?_
 refine xF [2,3,4,5,7,8,9,13,14] ?_
 refine W_cond rfl ?_ ?_
 · intro h14
   refine W_reg rfl ?_
   refine xO ?_
   refine xO ?_ (h := by simp [eRoot]; exact .mk)
   refine xO ?_
   refine xO ?_ (h := by simp [eRoot]; exact .mk)
   refine xO ?_
   refine xO ?_ (h := by simp [eRoot]; exact .mk)
   refine xC (ct89 g a.roots o.name o.ix o.gen hr) ?_ (he := by simp [row_rows, Function.comp_def]; exact .mk)
   iterate 5 refine xO ?_
   refine xF [2,4,5,7,8,9] ?_
   refine W_seq (xU ?_)
   iterate 2 refine xO ?_
   refine xF [2,4,5,7,8,9,48] ?_
   refine W_cond rfl ?_ ?_
   · intro h48
     refine xU ?_
     iterate 2 (refine xO ?_ (h := by simp [splice]; exact .mk))
     refine xO ?_
     iterate 2 (refine xO ?_ (h := by simp [splice]; exact .mk))
     refine xO ?_
     refine xF [4,5,6] ?_
     refine W_ret (endAt_drop 8 (by simp [Try.f47]; exact .mk) ?_ ?_ (by simp) (by first | rfl | simp) (by simp [z0, z1, z2, z3, z7]))
     · simp [*]
     simp
   intro h48
   exfalso; simp at h48; exact he h48
 intro h14
 simp [hact] at h14

theorem in47g (g : Gl) (o0 o1 o2 o3 o7 : Awp.Obj) (a : Abs) (ho : objsLt 8 [o0, o1, o2, o3, o7] = true) (ha : a.Ok) (hgd : a.data.length = a.gens.length) (o : Op) (hact : o.act = 7) (hr : RootsOk a.roots) (he : (getS a.roots o.name).2.2 = 0) : ∀ B S, CallsA Try.prog g B S ⟨8, true⟩ 47 [.agg [.hdr 4 0 a.gens.length, .hdr 5 0 a.data.length, .hdr 6 0 a.roots.length], .agg [.d (vI o.act), .d (vI o.ix), .d (vI o.gen), .d (vI o.n), .d (vI o.off), .d (rB o.b), .d (vS o.name)]] [o0, o1, o2, o3, .row 1 (a.gens.map vI), .row 1 (a.data.map oB), .row 3 (a.roots.map eRoot), o7]
    (fun x q => x = .tup [.agg [.hdr 4 0 a.gens.length, .hdr 5 0 a.data.length, .hdr 6 0 a.roots.length], .agg [.d (vI (getS a.roots o.name).1), .d (vI (getS a.roots o.name).2.1), .d (.v (.slice none 0 0))], .d (vI 0)] ∧ q = [o0, o1, o2, o3, .row 1 (a.gens.map vI), .row 1 (a.data.map oB), .row 3 (a.roots.map eRoot), o7]) := by
 refine callsA_at Try.func47 rfl (Nat.le_of_ble_eq_true rfl) fun B S => ?_
 obtain ⟨z0, z1, z2, z3, z7⟩ : o0.lt 8 = true ∧ o1.lt 8 = true ∧ o2.lt 8 = true ∧ o3.lt 8 = true ∧ o7.lt 8 = true := by simpa using ho
 refine xU ?_
 iterate 5 refine xO ?_
 refine xG [2,3,4,5] ?_
 refine xO ?_
 refine xG [2,3,4,5,7] ?_
 refine xO ?_
 refine xO ?_ (h := by simp [eRoot]; exact .mk)
 refine xO ?_
 refine xG [2,3,4,5,7,8] ?_
 refine xO ?_
 refine xF [2,3,4,5,7,8,9] ?_
 refine W_seq (xU ?_)
 refine xO ?_
 refine xO ?_ (h := by simp [eRoot]; exact .mk)
 refine xF [2,3,4,5,7,8,9,13] ?_
 refine W_block (xU ?_)
 iterate 2 refine xO ?_
 refine xF [2,3,4,5,7,8,9,13,14] ?_
 refine W_cond rfl ?_ ?_
 · intro h14
   simp [hact] at h14
 intro h14
 refine xU ?_
 iterate 2 refine xO ?_
 refine xF [2,3,4,5,7,8,9,13,26] ?_
 refine W_cond rfl ?_ ?_
 · intro h26
   refine W_reg rfl ?_
   refine xO ?_
   refine xO ?_ (h := by simp [eRoot]; exact .mk)
   refine xO ?_
   refine xO ?_ (h := by simp [eRoot]; exact .mk)
   refine xC (ct90 g a.roots o.name hr) ?_ (he := by simp [row_rows, Function.comp_def]; exact .mk)
   iterate 4 refine xO ?_
   refine xO ?_ (h := by simp [splice]; exact .mk)
   refine xO ?_
   refine xF [2,4,5,7,8,9] ?_
   refine W_seq (xU ?_)
   iterate 2 refine xO ?_
   refine xF [2,4,5,7,8,9,48] ?_
   refine W_cond rfl ?_ ?_
   · intro h48
     exfalso; simp at h48; exact absurd he h48
   intro h48
   refine W_skip ?_
   refine xT ?_
   iterate 2 refine xO ?_
   refine xO ?_ (h := by simp [splice]; exact .mk)
   refine xF [2,4,5,7] ?_
   refine W_seq ?_
   refine W_regDS (hard := []) [1,2] (keepOk_lt (by decide)) (by kernel_rfl) 4 [[0,1,2,3,4], [0,2,1,3,4]] (by decide +kernel) ⟨?_, ?_, trivial⟩
   · skip
     iterate 2 (refine xO ?_ (h := by simp [eRoot]; exact .mk))
     iterate 2 (refine xO ?_ (h := by simp [splice]; exact .mk))
     refine xO ?_
     refine xF [4,5,6] ?_
     refine W_ret (endAt_drop 8 (by simp [Try.f47]; exact .mk) ?_ ?_ (by simp) (by first | rfl | simp) (by simp [z0, z1, z2, z3, z7]))
     · simp
     simp
   skip
   refine xO ?_ (h := by simp [eRoot]; exact .mk)
   refine xO ?_ (h := by simp [splice]; exact .mk)
   refine xO ?_ (h := by simp [eRoot]; exact .mk)
   refine xO ?_ (h := by simp [splice]; exact .mk)
   refine xO ?_
   refine xF [4,5,6] ?_
   refine W_ret (endAt_drop 8 (by simp [Try.f47]; exact .mk) ?_ ?_ (by simp) (by first | rfl | simp) (by simp [z0, z1, z2, z3, z7]))
   · simp
   simp
 intro h26
 simp [hact] at h26

theorem in47gf (g : Gl) (o0 o1 o2 o3 o7 : Awp.Obj) (a : Abs) (ho : objsLt 8 [o0, o1, o2, o3, o7] = true) (ha : a.Ok) (hgd : a.data.length = a.gens.length) (o : Op) (hact : o.act = 7) (hr : RootsOk a.roots) (he : (getS a.roots o.name).2.2 ≠ 0) : ∀ B S, CallsA Try.prog g B S ⟨8, true⟩ 47 [.agg [.hdr 4 0 a.gens.length, .hdr 5 0 a.data.length, .hdr 6 0 a.roots.length], .agg [.d (vI o.act), .d (vI o.ix), .d (vI o.gen), .d (vI o.n), .d (vI o.off), .d (rB o.b), .d (vS o.name)]] [o0, o1, o2, o3, .row 1 (a.gens.map vI), .row 1 (a.data.map oB), .row 3 (a.roots.map eRoot), o7]
    (fun x q => x = .tup [.agg [.d (.v (.slice none 0 0)), .d (.v (.slice none 0 0)), .d (.v (.slice none 0 0))], .agg [.d (vI 0), .d (vI 0), .d (.v (.slice none 0 0))], .d (vI (getS a.roots o.name).2.2)] ∧ q = [o0, o1, o2, o3, .row 1 (a.gens.map vI), .row 1 (a.data.map oB), .row 3 (a.roots.map eRoot), o7]) := by
 refine callsA_at Try.func47 rfl (Nat.le_of_ble_eq_true rfl) fun B S => ?_
 obtain ⟨z0, z1, z2, z3, z7⟩ : o0.lt 8 = true ∧ o1.lt 8 = true ∧ o2.lt 8 = true ∧ o3.lt 8 = true ∧ o7.lt 8 = true := by simpa using ho
 refine xU ?_
 iterate 5 refine xO ?_
 refine xG [2,3,4,5] ?_
 refine xO ?_
 refine xG [2,3,4,5,7] ?_
 refine xO ?_
 refine xO ?_ (h := by simp [eRoot]; exact .mk)
 refine xO ?_
 refine xG [2,3,4,5,7,8] ?_
 refine xO ?_
 refine xF [2,3,4,5,7,8,9] ?_
 refine W_seq (xU ?_)
 refine xO ?_
 refine xO ?_ (h := by simp [eRoot]; exact .mk)
 refine xF [2,3,4,5,7,8,9,13] ?_
 refine W_block (xU ?_)
 iterate 2 refine xO ?_
 refine xF [2,3,4,5,7,8,9,13,14] ?_
 refine W_cond rfl ?_ ?_
 · intro h14
   simp [hact] at h14
 intro h14
 refine xU ?_
 iterate 2 refine xO ?_
 refine xF [2,3,4,5,7,8,9,13,26] ?_
 refine W_cond rfl ?_ ?_
 · intro h26
   refine W_reg rfl ?_
   refine xO ?_
   refine xO ?_ (h := by simp [eRoot]; exact .mk)
   refine xO ?_
   refine xO ?_ (h := by simp [eRoot]; exact .mk)
   refine xC (ct90 g a.roots o.name hr) ?_ (he := by simp [row_rows, Function.comp_def]; exact .mk)
   iterate 4 refine xO ?_
   refine xO ?_ (h := by simp [splice]; exact .mk)
   refine xO ?_
   refine xF [2,4,5,7,8,9] ?_
   refine W_seq (xU ?_)
   iterate 2 refine xO ?_
   refine xF [2,4,5,7,8,9,48] ?_
   refine W_cond rfl ?_ ?_
   · intro h48
     refine xU ?_
     iterate 2 (refine xO ?_ (h := by simp [splice]; exact .mk))
     refine xO ?_
     iterate 2 (refine xO ?_ (h := by simp [splice]; exact .mk))
     refine xO ?_
     refine xF [4,5,6] ?_
     refine W_ret (endAt_drop 8 (by simp [Try.f47]; exact .mk) ?_ ?_ (by simp) (by first | rfl | simp) (by simp [z0, z1, z2, z3, z7]))
     · simp [*]
     simp
   intro h48
   exfalso; simp at h48; exact he h48
 intro h26
 simp [hact] at h26

theorem in47d (g : Gl) (o0 o1 o2 o3 o7 : Awp.Obj) (a : Abs) (ho : objsLt 8 [o0, o1, o2, o3, o7] = true) (ha : a.Ok) (hgd : a.data.length = a.gens.length) (o : Op) (hact : o.act = 8) (hr : RootsOk a.roots) (he : (dropS a.roots o.name).2 = 0) : ∀ B S, CallsA Try.prog g B S ⟨8, true⟩ 47 [.agg [.hdr 4 0 a.gens.length, .hdr 5 0 a.data.length, .hdr 6 0 a.roots.length], .agg [.d (vI o.act), .d (vI o.ix), .d (vI o.gen), .d (vI o.n), .d (vI o.off), .d (rB o.b), .d (vS o.name)]] [o0, o1, o2, o3, .row 1 (a.gens.map vI), .row 1 (a.data.map oB), .row 3 (a.roots.map eRoot), o7]
    (fun x q => x = .tup [.agg [.hdr 4 0 a.gens.length, .hdr 5 0 a.data.length, .hdr 13 0 (dropS a.roots o.name).1.length], .agg [.d (vI 0), .d (vI 0), .d (.v (.slice none 0 0))], .d (vI 0)] ∧ q = [o0, o1, o2, o3, .row 1 (a.gens.map vI), .row 1 (a.data.map oB), .row 3 (a.roots.map eRoot), o7, .var 26 [.hdr 4 0 a.gens.length, .hdr 5 0 a.data.length, .hdr 13 0 (dropS a.roots o.name).1.length], .var 31 [.d (vI o.act), .d (vI o.ix), .d (vI o.gen), .d (vI o.n), .d (vI o.off), .d (rB o.b), .d (vS o.name)], .var 26 [.hdr 4 0 a.gens.length, .hdr 5 0 a.data.length, .hdr 13 0 (dropS a.roots o.name).1.length], .var 38 [.d (vI 0), .d (vI 0), .d (.v (.slice none 0 0))], .var 38 [.d (vI 0), .d (vI 0), .d (.v (.slice none 0 0))], .row 3 ((dropS a.roots o.name).1.map eRoot)]) := by
 refine callsA_at Try.func47 rfl (Nat.le_of_ble_eq_true rfl) fun B S => ?_
 obtain ⟨z0, z1, z2, z3, z7⟩ : o0.lt 8 = true ∧ o1.lt 8 = true ∧ o2.lt 8 = true ∧ o3.lt 8 = true ∧ o7.lt 8 = true := by simpa using ho
 refine xU ?_
 iterate 5 refine xO ?_
 refine xG [2,3,4,5] ?_
 refine xO ?_
 refine xG [2,3,4,5,7] ?_
 refine xO ?_
 refine xO ?_ (h := by simp [eRoot]; exact .mk)
 refine xO ?_
 refine xG [2,3,4,5,7,8] ?_
 refine xO ?_
 refine xF [2,3,4,5,7,8,9] ?_
 refine W_seq (xU ?_)
 refine xO ?_
 refine xO ?_ (h := by simp [eRoot]; exact .mk)
 refine xF [2,3,4,5,7,8,9,13] ?_
 refine W_block (xU ?_)
 iterate 2 refine xO ?_
 refine xF [2,3,4,5,7,8,9,13,14] ?_
 refine W_cond rfl ?_ ?_
 · intro h14
   simp [hact] at h14
 intro h14
 refine xU ?_
 iterate 2 refine xO ?_
 refine xF [2,3,4,5,7,8,9,13,26] ?_
 refine W_cond rfl ?_ ?_
 · intro h26
   simp [hact] at h26
 intro h26
 refine xU ?_
 iterate 2 refine xO ?_
 refine xF [2,3,4,5,7,8,9,37] ?_
 refine W_cond rfl ?_ ?_
 · intro h37
   refine W_reg rfl ?_
   refine xO ?_
   refine xO ?_ (h := by simp [eRoot]; exact .mk)
   refine xO ?_
   refine xO ?_ (h := by simp [eRoot]; exact .mk)
   refine xC (ct91 g a.roots o.name hr) ?_ (he := by simp [row_rows, Function.comp_def]; exact .mk)
   iterate 5 refine xO ?_
   refine xF [2,4,5,7,8,9] ?_
   refine W_seq (xU ?_)
   iterate 2 refine xO ?_
   refine xF [2,4,5,7,8,9,48] ?_
   refine W_cond rfl ?_ ?_
   · intro h48
     exfalso; simp at h48; exact absurd he h48
   intro h48
   refine W_skip ?_
   refine xT ?_
   iterate 2 refine xO ?_
   refine xO ?_ (h := by simp [splice]; exact .mk)
   refine xF [2,4,5,7] ?_
   refine W_seq ?_
   refine W_regDS (hard := []) [1,2] (keepOk_lt (by decide)) (by kernel_rfl) 4 [[0,1,2,3,4], [0,2,1,3,4]] (by decide +kernel) ⟨?_, ?_, trivial⟩
   · skip
     iterate 2 (refine xO ?_ (h := by simp [eRoot]; exact .mk))
     iterate 2 (refine xO ?_ (h := by simp [splice]; exact .mk))
     refine xO ?_
     refine xF [4,5,6] ?_
     refine W_ret (endAt_ret (by simp [Try.f47]; exact .mk) ?_ ?_)
     · simp
     simp
   skip
   refine xO ?_ (h := by simp [eRoot]; exact .mk)
   refine xO ?_ (h := by simp [splice]; exact .mk)
   refine xO ?_ (h := by simp [eRoot]; exact .mk)
   refine xO ?_ (h := by simp [splice]; exact .mk)
   refine xO ?_
   refine xF [4,5,6] ?_
   refine W_ret (endAt_ret (by simp [Try.f47]; exact .mk) ?_ ?_)
   · simp
   simp
 intro h37
 simp [hact] at h37

theorem in47df (g : Gl) (o0 o1 o2 o3 o7 : Awp.Obj) (a : Abs) (ho : objsLt 8 [o0, o1, o2, o3, o7] = true) (ha : a.Ok) (hgd : a.data.length = a.gens.length) (o : Op) (hact : o.act = 8) (hr : RootsOk a.roots) (he : (dropS a.roots o.name).2 ≠ 0) : ∀ B S, CallsA Try.prog g B S ⟨8, true⟩ 47 [.agg [.hdr 4 0 a.gens.length, .hdr 5 0 a.data.length, .hdr 6 0 a.roots.length], .agg [.d (vI o.act), .d (vI o.ix), .d (vI o.gen), .d (vI o.n), .d (vI o.off), .d (rB o.b), .d (vS o.name)]] [o0, o1, o2, o3, .row 1 (a.gens.map vI), .row 1 (a.data.map oB), .row 3 (a.roots.map eRoot), o7]
    (fun x q => x = .tup [.agg [.d (.v (.slice none 0 0)), .d (.v (.slice none 0 0)), .d (.v (.slice none 0 0))], .agg [.d (vI 0), .d (vI 0), .d (.v (.slice none 0 0))], .d (vI (dropS a.roots o.name).2)] ∧ q = [o0, o1, o2, o3, .row 1 (a.gens.map vI), .row 1 (a.data.map oB), .row 3 (a.roots.map eRoot), o7]) := by
 refine callsA_at Try.func47 rfl (Nat.le_of_ble_eq_true rfl) fun B S => ?_
 obtain ⟨z0, z1, z2, z3, z7⟩ : o0.lt 8 = true ∧ o1.lt 8 = true ∧ o2.lt 8 = true ∧ o3.lt 8 = true ∧ o7.lt 8 = true := by simpa using ho
 refine xU ?_
 iterate 5 refine xO ?_
 refine xG [2,3,4,5] ?_
 refine xO ?_
 refine xG [2,3,4,5,7] ?_
 refine xO ?_
 refine xO ?_ (h := by simp [eRoot]; exact .mk)
 refine xO ?_
 refine xG [2,3,4,5,7,8] ?_
 refine xO ?_
 refine xF [2,3,4,5,7,8,9] ?_
 refine W_seq (xU ?_)
 refine xO ?_
 refine xO ?_ (h := by simp [eRoot]; exact .mk)
 refine xF [2,3,4,5,7,8,9,13] ?_
 refine W_block (xU ?_)
 iterate 2 refine xO ?_
 refine xF [2,3,4,5,7,8,9,13,14] ?_
 refine W_cond rfl ?_ ?_
 · intro h14
   simp [hact] at h14
 intro h14
 refine xU ?_
 iterate 2 refine xO ?_
 refine xF [2,3,4,5,7,8,9,13,26] ?_
 refine W_cond rfl ?_ ?_
 · intro h26
   simp [hact] at h26
 intro h26
 refine xU ?_
 iterate 2 refine xO ?_
 refine xF [2,3,4,5,7,8,9,37] ?_
 refine W_cond rfl ?_ ?_
 · intro h37
   refine W_reg rfl ?_
   refine xO ?_
   refine xO ?_ (h := by simp [eRoot]; exact .mk)
   refine xO ?_
   refine xO ?_ (h := by simp [eRoot]; exact .mk)
   refine xC (ct91 g a.roots o.name hr) ?_ (he := by simp [row_rows, Function.comp_def]; exact .mk)
   iterate 5 refine xO ?_
   refine xF [2,4,5,7,8,9] ?_
   refine W_seq (xU ?_)
   iterate 2 refine xO ?_
   refine xF [2,4,5,7,8,9,48] ?_
   refine W_cond rfl ?_ ?_
   · intro h48
     refine xU ?_
     iterate 2 (refine xO ?_ (h := by simp [splice]; exact .mk))
     refine xO ?_
     iterate 2 (refine xO ?_ (h := by simp [splice]; exact .mk))
     refine xO ?_
     refine xF [4,5,6] ?_
     refine W_ret (endAt_drop 8 (by simp [Try.f47]; exact .mk) ?_ ?_ (by simp) (by first | rfl | simp) (by simp [z0, z1, z2, z3, z7]))
     · simp [*]
     simp
   intro h48
   exfalso; simp at h48; exact he h48
 intro h37
 simp [hact] at h37

open Go.Awp
theorem in50a (g : Gl) (o0 o1 o2 o3 o7 : Awp.Obj) (a : Abs) (ho : objsLt 8 [o0, o1, o2, o3, o7] = true) (ha : a.Ok) (hgd : a.data.length = a.gens.length) (o : Op) (k : Nat) (hix : o.ix = k) (hk : k < a.data.length) (hd : (nth a.data k).length ≤ 2^40) (hact : o.act = 2) (hk2 : k < a.gens.length) (hgn : 0 ≤ nth a.gens k ∧ nth a.gens k ≤ 65535) : ∀ B S, CallsA Try.prog g B S ⟨8, true⟩ 50 [.agg [.hdr 4 0 a.gens.length, .hdr 5 0 a.data.length, .hdr 6 0 a.roots.length], .agg [.d (vI o.act), .d (vI o.ix), .d (vI o.gen), .d (vI o.n), .d (vI o.off), .d (rB o.b), .d (vS o.name)]] [o0, o1, o2, o3, .row 1 (a.gens.map vI), .row 1 (a.data.map oB), .row 3 (a.roots.map eRoot), o7]
    (fun x q => x = .tup [.agg [.hdr 4 0 a.gens.length, .hdr 5 0 a.data.length, .hdr 6 0 a.roots.length], .agg [.d (vI 0), .d (vI 0), .d (.v (.slice none 0 0))], .d (vI 0)] ∧ q = [o0, o1, o2, o3, .row 1 ((freeS a k).a.gens.map vI), .row 1 ((freeS a k).a.data.map oB), .row 3 (a.roots.map eRoot), o7]) := by
 refine callsA_at Try.func50 rfl (Nat.le_of_ble_eq_true rfl) fun B S => ?_
 obtain ⟨z0, z1, z2, z3, z7⟩ : o0.lt 8 = true ∧ o1.lt 8 = true ∧ o2.lt 8 = true ∧ o3.lt 8 = true ∧ o7.lt 8 = true := by simpa using ho
 simp only [hix]
 refine xU ?_
 iterate 5 refine xO ?_
 refine xG [2,3,4,5] ?_
 iterate 4 refine xO ?_
 refine xG [2,3,4,5,7] ?_
 iterate 3 refine xO ?_
 refine xO ?_ (h := by simp [hk]; exact .mk)
 refine xO ?_ (h := by simp [-List.getElem?_map, map_get hk]; exact .mk)
 refine xO ?_
 refine xG [2,3,4,5,7,8] ?_
 refine xO ?_
 refine xG [2,3,4,5,7,8,9] ?_
 refine xO ?_
 refine xF [2,3,4,5,7,8,9,10] ?_
 refine W_seq (xU ?_)
 iterate 2 refine xO ?_
 refine xF [2,3,4,5,7,8,9,10,23] ?_
 refine W_block (xU ?_)
 iterate 2 refine xO ?_
 refine xF [2,3,4,5,7,8,9,10,23,24] ?_
 refine W_cond rfl ?_ ?_
 · intro h24
   refine xU ?_
   iterate 3 refine xO ?_
   refine xO ?_ (h := by simp [hk]; exact .mk)
   refine xO ?_ (h := by simp [-List.getElem?_map, map_get hk, nrmL, nrm, putC, splice]; exact .mk)
   refine xF [2,4,5,7,9,10] ?_
   have e1 : IntKind.i64.wrap (nth a.gens k + 1) = nth a.gens k + 1 := wrap64 (by omega) (by omega)
   have em : (if 65535 < nth a.gens k + 1 then (65535 : Int) else nth a.gens k + 1) = min (nth a.gens k + 1) 65535 := by omega
   refine W_regD (by kernel_rfl) [] 4 [0,1,2,3,4,5,6,7,8,9,10,11] (by decide +kernel) ?_
   iterate 6 refine xO ?_
   refine xO ?_ (h := by simp [hk2]; exact .mk)
   refine xO ?_ (h := by simp [-List.getElem?_map, map_get hk2]; exact .mk)
   refine xO ?_ (h := by simp [e1]; exact .mk)
   refine xO ?_ (h := by simp [minA]; exact .mk)
   refine xO ?_ (h := by simp [hk2]; exact .mk)
   refine xO ?_ (h := by simp [-List.getElem?_map, map_get hk2, nrmL, nrm, putC, splice]; exact .mk)
   refine xF [2,4,5,9,10] ?_
   refine W_seq (xU ?_)
   refine xO ?_
   refine xF [2,4,5,9,137] ?_
   refine W_cond rfl ?_ ?_
   · intro h137
     simp at h137
   intro h137
   refine W_skip ?_
   rintro -
   refine W_seq ?_
   refine W_regDS (hard := []) [1,2] (keepOk_lt (by decide)) (by kernel_rfl) 4 [[0,1,2,3,4], [0,2,1,3,4]] (by decide +kernel) ⟨?_, ?_, trivial⟩
   · skip
     iterate 2 refine xO ?_
     iterate 2 (refine xO ?_ (h := by simp [splice]; exact .mk))
     refine xO ?_
     refine xF [4,5,6] ?_
     refine W_ret (endAt_drop 8 (by simp [Try.f50]; exact .mk) ?_ ?_ (by simp) (by first | rfl | simp) (by simp [z0, z1, z2, z3, z7]))
     · simp
     simp [freeS, em, List.map_set, ownR, nrmL]; try rfl
   skip
   refine xO ?_
   refine xO ?_ (h := by simp [splice]; exact .mk)
   refine xO ?_
   refine xO ?_ (h := by simp [splice]; exact .mk)
   refine xO ?_
   refine xF [4,5,6] ?_
   refine W_ret (endAt_drop 8 (by simp [Try.f50]; exact .mk) ?_ ?_ (by simp) (by first | rfl | simp) (by simp [z0, z1, z2, z3, z7]))
   · simp
   simp [freeS, em, List.map_set, ownR, nrmL]; try rfl
 intro h24
 simp [hact] at h24

theorem in50b (g : Gl) (o0 o1 o2 o3 o7 : Awp.Obj) (a : Abs) (ho : objsLt 8 [o0, o1, o2, o3, o7] = true) (ha : a.Ok) (hgd : a.data.length = a.gens.length) (o : Op) (k : Nat) (hix : o.ix = k) (hk : k < a.data.length) (hd : (nth a.data k).length ≤ 2^40) (hact : o.act = 3) (hs : sizedS o.n = true) : ∀ B S, CallsA Try.prog g B S ⟨8, true⟩ 50 [.agg [.hdr 4 0 a.gens.length, .hdr 5 0 a.data.length, .hdr 6 0 a.roots.length], .agg [.d (vI o.act), .d (vI o.ix), .d (vI o.gen), .d (vI o.n), .d (vI o.off), .d (rB o.b), .d (vS o.name)]] [o0, o1, o2, o3, .row 1 (a.gens.map vI), .row 1 (a.data.map oB), .row 3 (a.roots.map eRoot), o7]
    (fun x q => x = .tup [.agg [.hdr 4 0 a.gens.length, .hdr 5 0 a.data.length, .hdr 6 0 a.roots.length], .agg [.d (vI 0), .d (vI 0), .d (.v (.slice none 0 0))], .d (vI 0)] ∧ q = [o0, o1, o2, o3, .row 1 (a.gens.map vI), .row 1 ((a.data.set k ((nth a.data k).take o.n.toNat ++ List.replicate (o.n.toNat - (nth a.data k).length) 0)).map oB), .row 3 (a.roots.map eRoot), o7]) := by
 refine callsA_at Try.func50 rfl (Nat.le_of_ble_eq_true rfl) fun B S => ?_
 obtain ⟨z0, z1, z2, z3, z7⟩ : o0.lt 8 = true ∧ o1.lt 8 = true ∧ o2.lt 8 = true ∧ o3.lt 8 = true ∧ o7.lt 8 = true := by simpa using ho
 simp only [hix]
 refine xU ?_
 iterate 5 refine xO ?_
 refine xG [2,3,4,5] ?_
 iterate 4 refine xO ?_
 refine xG [2,3,4,5,7] ?_
 iterate 3 refine xO ?_
 refine xO ?_ (h := by simp [hk]; exact .mk)
 refine xO ?_ (h := by simp [-List.getElem?_map, map_get hk]; exact .mk)
 refine xO ?_
 refine xG [2,3,4,5,7,8] ?_
 refine xO ?_
 refine xG [2,3,4,5,7,8,9] ?_
 refine xO ?_
 refine xF [2,3,4,5,7,8,9,10] ?_
 refine W_seq (xU ?_)
 iterate 2 refine xO ?_
 refine xF [2,3,4,5,7,8,9,10,23] ?_
 refine W_block (xU ?_)
 iterate 2 refine xO ?_
 refine xF [2,3,4,5,7,8,9,10,23,24] ?_
 refine W_cond rfl ?_ ?_
 · intro h24
   simp [hact] at h24
 intro h24
 refine xU ?_
 iterate 2 refine xO ?_
 refine xF [2,3,4,5,7,8,9,10,23,41] ?_
 refine W_cond rfl ?_ ?_
 · intro h41
   refine xU ?_
   iterate 4 refine xO ?_
   iterate 3 refine xI ?_
   refine xP ?_
   refine xB ?_
   refine xG [2,3,4,5,7,8,9,10] ?_
   iterate 2 refine xO ?_
   refine xF [2,3,4,5,7,8,9,10,52] ?_
   refine W_cond rfl ?_ ?_
   · intro h52
     have hb0 : (decide (o.n < 1) || decide (2048 < o.n)) = false := by simpa using h52
     rw [hb0]
     refine W_seq ?_
     have hn : 1 ≤ o.n ∧ o.n ≤ 2048 := by simpa [sizedS] using hs
     have e1 : 0 ≤ o.n := by omega
     have e2 : o.n ≤ 140737488355328 := by omega
     have e3 : ((o.n.toNat : Nat) : Int) = o.n := Int.toNat_of_nonneg e1
     refine W_reg rfl ?_
     iterate 2 refine xO ?_
     refine xO ?_ (h := by simp [e1, e2]; exact .mk)
     refine xO ?_
     refine xF [2,3,4,5,7,8,9,10,11] ?_
     refine W_seq (xU ?_)
     refine xO ?_
     refine xF [2,3,4,5,7,8,9,10,11,12] ?_
     refine W_block (W_rounds (fun m σ q => ∃ (i : Nat) (R : List UInt8), m = o.n.toNat - i ∧ i ≤ o.n.toNat ∧ i ≤ (nth a.data k).length ∧ R = ((nth a.data k).take i ++ List.replicate (o.n.toNat - i) 0) ∧ σ = slots [(2, .ptr 8 0 0), (3, .ptr 9 0 0), (4, .ptr 10 0 0), (5, .ptr 11 0 0), (7, .d (vI k)), (8, .d (snR 1 vB (nth a.data k))), (9, .ptr 12 0 0), (10, .d (vT false)), (11, .hdr 13 0 o.n.toNat), (12, .d (vI i))] ∧ q = [o0, o1, o2, o3, .row 1 (a.gens.map vI), .row 1 (a.data.map oB), .row 3 (a.roots.map eRoot), o7, .var 26 [.hdr 4 0 a.gens.length, .hdr 5 0 a.data.length, .hdr 6 0 a.roots.length], .var 31 [.d (vI o.act), .d (vI k), .d (vI o.gen), .d (vI o.n), .d (vI o.off), .d (rB o.b), .d (vS o.name)], .var 26 [.d (.v (.slice none 0 0)), .d (.v (.slice none 0 0)), .d (.v (.slice none 0 0))], .var 38 [.d (vI 0), .d (vI 0), .d (.v (.slice none 0 0))], .var 38 [.d (vI 0), .d (vI 0), .d (.v (.slice none 0 0))], .row 1 (R.map vB)]) o.n.toNat .refl ⟨0, List.replicate o.n.toNat 0, by simp, by simp, by simp, by simp, rfl, by simp⟩ ?_)
     rintro m σ q ⟨i, R, rfl, hi, hi2, hR, rfl, rfl⟩ _
     refine W_seq (xU ?_)
     iterate 5 refine xO ?_
     refine xI ?_
     refine run_if rfl (by simp; exact .mk) rfl (by simp <;> first | omega | grind) (fun hb => by simp [e3]; exact .mk) ?_
     iterate 2 refine xI ?_
     refine xP ?_
     refine xF [2,3,4,5,7,8,9,10,11,12,65] ?_
     refine W_cond rfl ?_ ?_
     · intro h65
       have hh : i < o.n.toNat ∧ i < (nth a.data k).length := by simp at h65; omega
       have h1 := hh.1
       have h2 := hh.2
       have h5 : (i : Int) < max o.n 0 := by omega
       have h6 : i < R.length := by rw [hR]; simp; omega
       refine W_skip ?_
       rintro -
       refine W_seq (W_block ?_)
       refine W_reg rfl ?_
       iterate 4 refine xO ?_
       refine xO ?_ (h := by simp [h2]; exact .mk)
       refine xO ?_ (h := by simp [-List.getElem?_map, map_get h2]; exact .mk)
       refine xO ?_ (h := by simp [h1, h5]; exact .mk)
       refine xO ?_ (h := by simp [-List.getElem?_map, map_get h6, nrmL, nrm, putC, splice]; exact .mk)
       refine xF [2,3,4,5,7,8,9,10,11,12] ?_
       refine W_reg rfl ?_
       iterate 3 refine xO ?_
       refine xE [2,3,4,5,7,8,9,10,11,12] ?_
       refine rounds_kill [2,3,4,5,7,8,9,10,11,12] ?_
       refine rounds_next (m' := o.n.toNat - (i+1)) (by omega) ⟨i+1, R.set i (nth (nth a.data k) i), rfl, by omega, by omega, by rw [hR, rsz_step h1 h2], ?_, ?_⟩
       · rw [wrap64 (by omega) (by omega)]; rfl
       rw [List.map_set]; try rfl
     intro h65
     have hh : ¬ (i < o.n.toNat ∧ i < (nth a.data k).length) := by simp at h65; omega
     have hfin := rsz_end (d := nth a.data k) (n := o.n.toNat) (i := i) hi hi2 hh
     rw [hfin] at hR
     have hl : R.length = o.n.toNat := by rw [hR]; simp; omega
     refine W_exit ?_
     rintro -
     refine W_reg rfl ?_
     iterate 4 refine xO ?_
     refine xO ?_ (h := by simp [hk]; exact .mk)
     refine xO ?_ (h := by simp [-List.getElem?_map, map_get hk, nrmL, nrm, putC, splice, hl]; exact .mk)
     refine xF [2,4,5,9,10] ?_
     refine W_seq (xU ?_)
     refine xO ?_
     refine xF [2,4,5,9,137] ?_
     refine W_cond rfl ?_ ?_
     · intro h137
       simp at h137
     intro h137
     refine W_skip ?_
     rintro -
     refine W_seq ?_
     refine W_regDS (hard := []) [1,2] (keepOk_lt (by decide)) (by kernel_rfl) 4 [[0,1,2,3,4], [0,2,1,3,4]] (by decide +kernel) ⟨?_, ?_, trivial⟩
     · skip
       iterate 2 refine xO ?_
       iterate 2 (refine xO ?_ (h := by simp [splice]; exact .mk))
       refine xO ?_
       refine xF [4,5,6] ?_
       refine W_ret (endAt_drop 8 (by simp [Try.f50]; exact .mk) ?_ ?_ (by simp) (by first | rfl | simp) (by simp [z0, z1, z2, z3, z7]))
       · simp
       rw [← hR]; simp [List.map_set, ownR]; try rfl
     skip
     refine xO ?_
     refine xO ?_ (h := by simp [splice]; exact .mk)
     refine xO ?_
     refine xO ?_ (h := by simp [splice]; exact .mk)
     refine xO ?_
     refine xF [4,5,6] ?_
     refine W_ret (endAt_drop 8 (by simp [Try.f50]; exact .mk) ?_ ?_ (by simp) (by first | rfl | simp) (by simp [z0, z1, z2, z3, z7]))
     · simp
     rw [← hR]; simp [List.map_set, ownR]; try rfl
   intro h52
   exfalso; simp [sizedS] at hs h52; omega
 intro h41
 simp [hact] at h41

theorem in50bf (g : Gl) (o0 o1 o2 o3 o7 : Awp.Obj) (a : Abs) (ho : objsLt 8 [o0, o1, o2, o3, o7] = true) (ha : a.Ok) (hgd : a.data.length = a.gens.length) (o : Op) (k : Nat) (hix : o.ix = k) (hk : k < a.data.length) (hd : (nth a.data k).length ≤ 2^40) (hact : o.act = 3) (hs : sizedS o.n = false) : ∀ B S, CallsA Try.prog g B S ⟨8, true⟩ 50 [.agg [.hdr 4 0 a.gens.length, .hdr 5 0 a.data.length, .hdr 6 0 a.roots.length], .agg [.d (vI o.act), .d (vI o.ix), .d (vI o.gen), .d (vI o.n), .d (vI o.off), .d (rB o.b), .d (vS o.name)]] [o0, o1, o2, o3, .row 1 (a.gens.map vI), .row 1 (a.data.map oB), .row 3 (a.roots.map eRoot), o7]
    (fun x q => x = .tup [.agg [.d (.v (.slice none 0 0)), .d (.v (.slice none 0 0)), .d (.v (.slice none 0 0))], .agg [.d (vI 0), .d (vI 0), .d (.v (.slice none 0 0))], .d (vI 1)] ∧ q = [o0, o1, o2, o3, .row 1 (a.gens.map vI), .row 1 (a.data.map oB), .row 3 (a.roots.map eRoot), o7]) := by
 refine callsA_at Try.func50 rfl (Nat.le_of_ble_eq_true rfl) fun B S => ?_
 obtain ⟨z0, z1, z2, z3, z7⟩ : o0.lt 8 = true ∧ o1.lt 8 = true ∧ o2.lt 8 = true ∧ o3.lt 8 = true ∧ o7.lt 8 = true := by simpa using ho
 simp only [hix]
 refine xU ?_
 iterate 5 refine xO ?_
 refine xG [2,3,4,5] ?_
 iterate 4 refine xO ?_
 refine xG [2,3,4,5,7] ?_
 iterate 3 refine xO ?_
 refine xO ?_ (h := by simp [hk]; exact .mk)
 refine xO ?_ (h := by simp [-List.getElem?_map, map_get hk]; exact .mk)
 refine xO ?_
 refine xG [2,3,4,5,7,8] ?_
 refine xO ?_
 refine xG [2,3,4,5,7,8,9] ?_
 refine xO ?_
 refine xF [2,3,4,5,7,8,9,10] ?_
 refine W_seq (xU ?_)
 iterate 2 refine xO ?_
 refine xF [2,3,4,5,7,8,9,10,23] ?_
 refine W_block (xU ?_)
 iterate 2 refine xO ?_
 refine xF [2,3,4,5,7,8,9,10,23,24] ?_
 refine W_cond rfl ?_ ?_
 · intro h24
   simp [hact] at h24
 intro h24
 refine xU ?_
 iterate 2 refine xO ?_
 refine xF [2,3,4,5,7,8,9,10,23,41] ?_
 refine W_cond rfl ?_ ?_
 · intro h41
   refine xU ?_
   iterate 4 refine xO ?_
   iterate 3 refine xI ?_
   refine xP ?_
   refine xB ?_
   refine xG [2,3,4,5,7,8,9,10] ?_
   iterate 2 refine xO ?_
   refine xF [2,3,4,5,7,8,9,10,52] ?_
   refine W_cond rfl ?_ ?_
   · intro h52
     exfalso; simp [sizedS] at hs h52; omega
   intro h52
   have hb0 : (decide (o.n < 1) || decide (2048 < o.n)) = true := by simp [sizedS] at hs ⊢; omega
   rw [hb0]
   refine W_skip ?_
   rintro -
   refine W_seq (xU ?_)
   refine xO ?_
   refine xF [2,4,5,9,137] ?_
   refine W_cond rfl ?_ ?_
   · intro h137
     refine xU ?_
     iterate 4 (refine xO ?_ (h := by simp [splice]; exact .mk))
     refine xO ?_
     refine xF [4,5,6] ?_
     refine W_ret (endAt_drop 8 (by simp [Try.f50]; exact .mk) ?_ ?_ (by simp) (by first | rfl | simp) (by simp [z0, z1, z2, z3, z7]))
     · simp
     simp
   intro h137
   simp at h137
 intro h41
 simp [hact] at h41

theorem in50c (g : Gl) (o0 o1 o2 o3 o7 : Awp.Obj) (a : Abs) (ho : objsLt 8 [o0, o1, o2, o3, o7] = true) (ha : a.Ok) (hgd : a.data.length = a.gens.length) (o : Op) (k : Nat) (hix : o.ix = k) (hk : k < a.data.length) (hd : (nth a.data k).length ≤ 2^40) (hact : o.act = 4) (hq : reachS (nth a.data k).length o.off o.n = true) : ∀ B S, CallsA Try.prog g B S ⟨8, true⟩ 50 [.agg [.hdr 4 0 a.gens.length, .hdr 5 0 a.data.length, .hdr 6 0 a.roots.length], .agg [.d (vI o.act), .d (vI o.ix), .d (vI o.gen), .d (vI o.n), .d (vI o.off), .d (rB o.b), .d (vS o.name)]] [o0, o1, o2, o3, .row 1 (a.gens.map vI), .row 1 (a.data.map oB), .row 3 (a.roots.map eRoot), o7]
    (fun x q => x = .tup [.agg [.hdr 4 0 a.gens.length, .hdr 5 0 a.data.length, .hdr 6 0 a.roots.length], .agg [.d (vI 0), .d (vI 0), .hdr 14 0 (((nth a.data k).drop o.off.toNat).take o.n.toNat).length], .d (vI 0)] ∧ q = [o0, o1, o2, o3, .row 1 (a.gens.map vI), .row 1 (a.data.map oB), .row 3 (a.roots.map eRoot), o7, .var 26 [.hdr 4 0 a.gens.length, .hdr 5 0 a.data.length, .hdr 6 0 a.roots.length], .var 31 [.d (vI o.act), .d (vI k), .d (vI o.gen), .d (vI o.n), .d (vI o.off), .d (rB o.b), .d (vS o.name)], .var 26 [.hdr 4 0 a.gens.length, .hdr 5 0 a.data.length, .hdr 6 0 a.roots.length], .var 38 [.d (vI 0), .d (vI 0), .hdr 14 0 (((nth a.data k).drop o.off.toNat).take o.n.toNat).length], .var 38 [.d (vI 0), .d (vI 0), .hdr 14 0 (((nth a.data k).drop o.off.toNat).take o.n.toNat).length], .dead, .row 1 ((((nth a.data k).drop o.off.toNat).take o.n.toNat).map vB)]) := by
 refine callsA_at Try.func50 rfl (Nat.le_of_ble_eq_true rfl) fun B S => ?_
 obtain ⟨z0, z1, z2, z3, z7⟩ : o0.lt 8 = true ∧ o1.lt 8 = true ∧ o2.lt 8 = true ∧ o3.lt 8 = true ∧ o7.lt 8 = true := by simpa using ho
 simp only [hix]
 refine xU ?_
 iterate 5 refine xO ?_
 refine xG [2,3,4,5] ?_
 iterate 4 refine xO ?_
 refine xG [2,3,4,5,7] ?_
 iterate 3 refine xO ?_
 refine xO ?_ (h := by simp [hk]; exact .mk)
 refine xO ?_ (h := by simp [-List.getElem?_map, map_get hk]; exact .mk)
 refine xO ?_
 refine xG [2,3,4,5,7,8] ?_
 refine xO ?_
 refine xG [2,3,4,5,7,8,9] ?_
 refine xO ?_
 refine xF [2,3,4,5,7,8,9,10] ?_
 refine W_seq (xU ?_)
 iterate 2 refine xO ?_
 refine xF [2,3,4,5,7,8,9,10,23] ?_
 refine W_block (xU ?_)
 iterate 2 refine xO ?_
 refine xF [2,3,4,5,7,8,9,10,23,24] ?_
 refine W_cond rfl ?_ ?_
 · intro h24
   simp [hact] at h24
 intro h24
 refine xU ?_
 iterate 2 refine xO ?_
 refine xF [2,3,4,5,7,8,9,10,23,41] ?_
 refine W_cond rfl ?_ ?_
 · intro h41
   simp [hact] at h41
 intro h41
 refine xU ?_
 iterate 2 refine xO ?_
 refine xF [2,3,4,5,8,9,10,23,80] ?_
 refine W_cond rfl ?_ ?_
 · intro h80
   refine W_seq ?_
   have c93 := ct93 g (nth a.data k).length o.off o.n hd
   rw [hq] at c93
   refine W_reg rfl ?_
   iterate 6 refine xO ?_
   refine xC (c93) ?_
   iterate 2 refine xO ?_
   refine xG [2,3,4,5,8,9,10] ?_
   iterate 2 refine xO ?_
   refine xF [2,3,4,5,8,9,10,91] ?_
   refine W_cond rfl ?_ ?_
   · intro h91
     have hx : 0 ≤ o.off ∧ o.off ≤ (nth a.data k).length ∧ 0 ≤ o.n ∧ o.n ≤ (nth a.data k).length - o.off := by rw [reachS] at hq; simp at hq; omega
     have e1 : IntKind.i64.wrap (o.off + o.n) = o.off + o.n := wrap64 (by omega) (by omega)
     have e2 : (o.off + o.n).toNat - o.off.toNat = o.n.toNat := by omega
     have e3 : min o.n.toNat ((nth a.data k).length - o.off.toNat) ≤ 140737488355328 := by omega
     refine W_reg rfl ?_
     iterate 8 refine xO ?_
     refine xO ?_ (h := by simp [e1]; exact .mk)
     refine xO ?_ (h := by simp [optA, hx.1, show o.off ≤ o.off + o.n from by omega, show o.off + o.n ≤ ↑(nth a.data k).length from by omega, e2]; exact .mk)
     refine xO ?_ (h := by simp [rows, snR, e3]; exact .mk)
     refine xO ?_
     refine xO ?_ (h := by simp [splice]; exact .mk)
     refine xF [2,4,5,9,10] ?_
     refine W_seq (xU ?_)
     refine xO ?_
     refine xF [2,4,5,9,137] ?_
     refine W_cond rfl ?_ ?_
     · intro h137
       simp at h137
     intro h137
     refine W_skip ?_
     rintro -
     refine W_seq ?_
     refine W_regDS (hard := []) [1,2] (keepOk_lt (by decide)) (by kernel_rfl) 4 [[0,1,2,3,4], [0,2,1,3,4]] (by decide +kernel) ⟨?_, ?_, trivial⟩
     · skip
       iterate 2 refine xO ?_
       iterate 2 (refine xO ?_ (h := by simp [splice]; exact .mk))
       refine xO ?_
       refine xF [4,5,6] ?_
       refine W_ret (endAt_ret (by simp [Try.f50]; exact .mk) ?_ ?_)
       · simp [rows, e2]
       simp [rows, e2]
     skip
     refine xO ?_
     refine xO ?_ (h := by simp [splice]; exact .mk)
     refine xO ?_
     refine xO ?_ (h := by simp [splice]; exact .mk)
     refine xO ?_
     refine xF [4,5,6] ?_
     refine W_ret (endAt_ret (by simp [Try.f50]; exact .mk) ?_ ?_)
     · simp [rows, e2]
     simp [rows, e2]
   intro h91
   simp at h91
 intro h80
 simp [hact] at h80

theorem in50cf (g : Gl) (o0 o1 o2 o3 o7 : Awp.Obj) (a : Abs) (ho : objsLt 8 [o0, o1, o2, o3, o7] = true) (ha : a.Ok) (hgd : a.data.length = a.gens.length) (o : Op) (k : Nat) (hix : o.ix = k) (hk : k < a.data.length) (hd : (nth a.data k).length ≤ 2^40) (hact : o.act = 4) (hq : reachS (nth a.data k).length o.off o.n = false) : ∀ B S, CallsA Try.prog g B S ⟨8, true⟩ 50 [.agg [.hdr 4 0 a.gens.length, .hdr 5 0 a.data.length, .hdr 6 0 a.roots.length], .agg [.d (vI o.act), .d (vI o.ix), .d (vI o.gen), .d (vI o.n), .d (vI o.off), .d (rB o.b), .d (vS o.name)]] [o0, o1, o2, o3, .row 1 (a.gens.map vI), .row 1 (a.data.map oB), .row 3 (a.roots.map eRoot), o7]
    (fun x q => x = .tup [.agg [.d (.v (.slice none 0 0)), .d (.v (.slice none 0 0)), .d (.v (.slice none 0 0))], .agg [.d (vI 0), .d (vI 0), .d (.v (.slice none 0 0))], .d (vI 1)] ∧ q = [o0, o1, o2, o3, .row 1 (a.gens.map vI), .row 1 (a.data.map oB), .row 3 (a.roots.map eRoot), o7]) := by
 refine callsA_at Try.func50 rfl (Nat.le_of_ble_eq_true rfl) fun B S => ?_
 obtain ⟨z0, z1, z2, z3, z7⟩ : o0.lt 8 = true ∧ o1.lt 8 = true ∧ o2.lt 8 = true ∧ o3.lt 8 = true ∧ o7.lt 8 = true := by simpa using ho
 simp only [hix]
 refine xU ?_
 iterate 5 refine xO ?_
 refine xG [2,3,4,5] ?_
 iterate 4 refine xO ?_
 refine xG [2,3,4,5,7] ?_
 iterate 3 refine xO ?_
 refine xO ?_ (h := by simp [hk]; exact .mk)
 refine xO ?_ (h := by simp [-List.getElem?_map, map_get hk]; exact .mk)
 refine xO ?_
 refine xG [2,3,4,5,7,8] ?_
 refine xO ?_
 refine xG [2,3,4,5,7,8,9] ?_
 refine xO ?_
 refine xF [2,3,4,5,7,8,9,10] ?_
 refine W_seq (xU ?_)
 iterate 2 refine xO ?_
 refine xF [2,3,4,5,7,8,9,10,23] ?_
 refine W_block (xU ?_)
 iterate 2 refine xO ?_
 refine xF [2,3,4,5,7,8,9,10,23,24] ?_
 refine W_cond rfl ?_ ?_
 · intro h24
   simp [hact] at h24
 intro h24
 refine xU ?_
 iterate 2 refine xO ?_
 refine xF [2,3,4,5,7,8,9,10,23,41] ?_
 refine W_cond rfl ?_ ?_
 · intro h41
   simp [hact] at h41
 intro h41
 refine xU ?_
 iterate 2 refine xO ?_
 refine xF [2,3,4,5,8,9,10,23,80] ?_
 refine W_cond rfl ?_ ?_
 · intro h80
   refine W_seq ?_
   have c93 := ct93 g (nth a.data k).length o.off o.n hd
   rw [hq] at c93
   refine W_reg rfl ?_
   iterate 6 refine xO ?_
   refine xC (c93) ?_
   iterate 2 refine xO ?_
   refine xG [2,3,4,5,8,9,10] ?_
   iterate 2 refine xO ?_
   refine xF [2,3,4,5,8,9,10,91] ?_
   refine W_cond rfl ?_ ?_
   · intro h91
     simp at h91
   intro h91
   refine W_skip ?_
   rintro -
   refine W_seq (xU ?_)
   refine xO ?_
   refine xF [2,4,5,9,137] ?_
   refine W_cond rfl ?_ ?_
   · intro h137
     refine xU ?_
     iterate 4 (refine xO ?_ (h := by simp [splice]; exact .mk))
     refine xO ?_
     refine xF [4,5,6] ?_
     refine W_ret (endAt_drop 8 (by simp [Try.f50]; exact .mk) ?_ ?_ (by simp) (by first | rfl | simp) (by simp [z0, z1, z2, z3, z7]))
     · simp
     simp
   intro h137
   simp at h137
 intro h80
 simp [hact] at h80

open Go.Awp
theorem in50w (g : Gl) (o0 o1 o2 o3 o7 : Awp.Obj) (a : Abs) (ho : objsLt 8 [o0, o1, o2, o3, o7] = true) (ha : a.Ok) (hgd : a.data.length = a.gens.length) (o : Op) (k : Nat) (hix : o.ix = k) (hk : k < a.data.length) (hd : (nth a.data k).length ≤ 2^40) (hact : o.act = 5) (fx : objsFix [o0, o1, o2, o3, o7] = true) (hob : o.b.length ≤ 2^40) (hq : reachS (nth a.data k).length o.off o.b.length = true) : ∀ B S, CallsA Try.prog g B S ⟨8, false⟩ 50 [.agg [.hdr 4 0 a.gens.length, .hdr 5 0 a.data.length, .hdr 6 0 a.roots.length], .agg [.d (vI o.act), .d (vI o.ix), .d (vI o.gen), .d (vI o.n), .d (vI o.off), .d (rB o.b), .d (vS o.name)]] [o0, o1, o2, o3, .row 1 (a.gens.map vI), .row 1 (a.data.map oB), .row 3 (a.roots.map eRoot), o7]
    (fun x q => x = .tup [.agg [.hdr 4 0 a.gens.length, .hdr 5 0 a.data.length, .hdr 6 0 a.roots.length], .agg [.d (vI 0), .d (vI 0), .d (.v (.slice none 0 0))], .d (vI 0)] ∧ q = [o0, o1, o2, o3, .row 1 (a.gens.map vI), .row 1 ((a.data.set k (Go.splice (nth a.data k) o.off.toNat o.b)).map oB), .row 3 (a.roots.map eRoot), o7]) := by
 refine callsA_at Try.func50 rfl (Nat.le_of_ble_eq_true rfl) fun B S => ?_
 obtain ⟨z0, z1, z2, z3, z7⟩ : o0.lt 8 = true ∧ o1.lt 8 = true ∧ o2.lt 8 = true ∧ o3.lt 8 = true ∧ o7.lt 8 = true := by simpa using ho
 simp only [hix]
 refine xU ?_
 iterate 5 refine xO ?_
 refine xG [2,3,4,5] ?_
 iterate 4 refine xO ?_
 refine xF [2,3,4,5,7] ?_
 refine W_seq ?_
 simp only [objsFix, Bool.and_eq_true, and_true] at fx
 refine W_weak (s2 := slots [(2, .ptr 8 0 0), (3, .ptr 9 0 0), (4, .ptr 10 0 0), (5, .ptr 11 0 0), (7, .d (vI k))]) (objs2 := [o0, o1, o2, o3, .row 1 (a.gens.map vI), .hole k 12 (nth a.data k).length (a.data.map oB), .row 3 (a.roots.map eRoot), o7, .var 26 [.hdr 4 0 a.gens.length, .hdr 5 0 a.data.length, .hdr 6 0 a.roots.length], .var 31 [.d (vI o.act), .d (vI k), .d (vI o.gen), .d (vI o.n), .d (vI o.off), .d (rB o.b), .d (vS o.name)], .var 26 [.d (.v (.slice none 0 0)), .d (.v (.slice none 0 0)), .d (.v (.slice none 0 0))], .var 38 [.d (vI 0), .d (vI 0), .d (.v (.slice none 0 0))], .row 1 ((nth a.data k).map vB)]) (Weak.open (xs := a.data.map oB) (ys := (nth a.data k).map vB) 5 k rfl rfl (map_get (f := oB) hk) ?_ ?_ (by simp)) ?_
 · simp
 · simp [fx, eRoot]
 refine W_reg rfl ?_
 iterate 3 refine xO ?_
 refine xO ?_ (h := by simp [hk]; exact .mk)
 iterate 2 refine xO ?_
 refine xG [2,3,4,5,7,8] ?_
 refine xO ?_
 refine xG [2,3,4,5,7,8,9] ?_
 refine xO ?_
 refine xF [2,3,4,5,7,8,9,10] ?_
 refine W_seq (xU ?_)
 iterate 2 refine xO ?_
 refine xF [2,3,4,5,7,8,9,10,23] ?_
 refine W_block (xU ?_)
 iterate 2 refine xO ?_
 refine xF [2,3,4,5,7,8,9,10,23,24] ?_
 refine W_cond rfl ?_ ?_
 · intro h24
   simp [hact] at h24
 intro h24
 refine xU ?_
 iterate 2 refine xO ?_
 refine xF [2,3,4,5,7,8,9,10,23,41] ?_
 refine W_cond rfl ?_ ?_
 · intro h41
   simp [hact] at h41
 intro h41
 refine xU ?_
 iterate 2 refine xO ?_
 refine xF [2,3,4,5,8,9,10,23,80] ?_
 refine W_cond rfl ?_ ?_
 · intro h80
   simp [hact] at h80
 intro h80
 refine xU ?_
 iterate 2 refine xO ?_
 refine xF [2,3,4,5,8,9,10,104] ?_
 refine W_cond rfl ?_ ?_
 · intro h104
   refine W_seq ?_
   have c93 := ct93 g (nth a.data k).length o.off o.b.length hd
   rw [hq] at c93
   refine W_reg rfl ?_
   iterate 7 refine xO ?_
   refine xC (c93) ?_
   iterate 2 refine xO ?_
   refine xF [2,3,4,5,8,9,10] ?_
   refine W_seq ?_
   have hx : 0 ≤ o.off ∧ o.off ≤ (nth a.data k).length ∧ (o.b.length : Int) ≤ (nth a.data k).length - o.off := by rw [reachS] at hq; simp at hq; omega
   obtain ⟨F, hF⟩ : ∃ F : Nat, o.off = F := ⟨o.off.toNat, by omega⟩
   have hFt : o.off.toNat = F := by omega
   rw [hFt]
   have hFl : F + o.b.length ≤ (nth a.data k).length := by omega
   refine W_reg rfl ?_
   refine xO ?_
   refine xF [2,3,4,5,8,9,10,13] ?_
   refine W_block (W_rounds (fun m σ q => ∃ i : Nat, m = o.b.length - i ∧ i ≤ o.b.length ∧ σ = slots [(2, .ptr 8 0 0), (3, .ptr 9 0 0), (4, .ptr 10 0 0), (5, .ptr 11 0 0), (8, .hdr 12 0 (nth a.data k).length), (9, .ptr 13 0 0), (10, .d (vT false)), (13, .d (vI i))] ∧ q = [o0, o1, o2, o3, .row 1 (a.gens.map vI), .hole k 12 (nth a.data k).length (a.data.map oB), .row 3 (a.roots.map eRoot), o7, .var 26 [.hdr 4 0 a.gens.length, .hdr 5 0 a.data.length, .hdr 6 0 a.roots.length], .var 31 [.d (vI o.act), .d (vI k), .d (vI o.gen), .d (vI o.n), .d (vI o.off), .d (rB o.b), .d (vS o.name)], .var 26 [.d (.v (.slice none 0 0)), .d (.v (.slice none 0 0)), .d (.v (.slice none 0 0))], .var 38 [.d (vI 0), .d (vI 0), .d (.v (.slice none 0 0))], .row 1 (((Go.splice (nth a.data k) F (o.b.take i)).map vB)), .var 38 [.d (vI 0), .d (vI 0), .d (.v (.slice none 0 0))]]) o.b.length .refl ⟨0, by simp, by simp, rfl, by simp [Go.splice]⟩ ?_)
   rintro m σ q ⟨i, rfl, hi, rfl, rfl⟩ _
   refine W_seq (xU ?_)
   iterate 6 refine xO ?_
   iterate 2 refine xI ?_
   refine xP ?_
   refine xF [2,3,4,5,8,9,10,13,123] ?_
   refine W_cond rfl ?_ ?_
   · intro h123
     have h1 : i < o.b.length := by simpa using h123
     have e1 : IntKind.i64.wrap (o.off + (i : Int)) = ((F + i : Nat) : Int) := by rw [wrap64 (by omega) (by omega)]; omega
     have h3 : F + i < (nth a.data k).length := by omega
     have h4 : (Go.splice (nth a.data k) F (o.b.take i)).length = (nth a.data k).length := Go.length_splice _ _ _ (by simp; omega)
     have h5 : 0 ≤ (F : Int) + i ∧ (F : Int) + i < ((nth a.data k).length : Int) := by omega
     have h6 : ((F : Int) + i).toNat = F + i := by omega
     obtain ⟨R, hR⟩ : ∃ R, R = Go.splice (nth a.data k) F (o.b.take i) := ⟨_, rfl⟩
     rw [← hR] at h4 ⊢
     have h7 : F + i < R.length := by omega
     refine W_skip ?_
     rintro -
     refine W_seq (W_block ?_)
     refine W_regD (by kernel_rfl) [] 4 [0,1,2,3,4,5,6,7,8,9,10,11] (by decide +kernel) ?_
     iterate 4 refine xO ?_
     refine xO ?_ (h := by simp [e1]; exact .mk)
     iterate 3 refine xO ?_
     refine xO ?_ (h := by simp [h1]; exact .mk)
     refine xO ?_ (h := by simp [-List.getElem?_map, map_get h1]; exact .mk)
     refine xO ?_ (h := by simp [h5, h6]; exact .mk)
     refine xO ?_ (h := by simp [-List.getElem?_map, map_get h7, nrmL, nrm, putC, splice]; exact .mk)
     refine xF [2,3,4,5,8,9,10,13] ?_
     refine W_reg rfl ?_
     iterate 3 refine xO ?_
     refine xE [2,3,4,5,8,9,10,13] ?_
     refine rounds_kill [2,3,4,5,8,9,10,13] ?_
     refine rounds_next (m' := o.b.length - (i+1)) (by omega) ⟨i+1, rfl, by omega, ?_, ?_⟩
     · rw [wrap64 (by omega) (by omega)]; rfl
     rw [← wr_step h1 hFl, ← hR]; simp
   intro h123
   obtain rfl : i = o.b.length := by simp at h123; omega
   rw [List.take_length]
   refine W_weak (objs2 := [o0, o1, o2, o3, .row 1 (a.gens.map vI), .row 1 ((a.data.map oB).set k (.row .own 1 ((Go.splice (nth a.data k) F o.b).map vB))), .row 3 (a.roots.map eRoot), o7, .var 26 [.hdr 4 0 a.gens.length, .hdr 5 0 a.data.length, .hdr 6 0 a.roots.length], .var 31 [.d (vI o.act), .d (vI k), .d (vI o.gen), .d (vI o.n), .d (vI o.off), .d (rB o.b), .d (vS o.name)], .var 26 [.d (.v (.slice none 0 0)), .d (.v (.slice none 0 0)), .d (.v (.slice none 0 0))], .var 38 [.d (vI 0), .d (vI 0), .d (.v (.slice none 0 0))], .dead, .var 38 [.d (vI 0), .d (vI 0), .d (.v (.slice none 0 0))]]) (Weak.close (i := k) (r' := 12) (k := 1) (xs := a.data.map oB) (ys := (Go.splice (nth a.data k) F o.b).map vB) (len := (nth a.data k).length) 5 rfl rfl ?_) ?_
   · rw [List.length_map, Go.length_splice _ _ _ hFl]
   refine W_exit ?_
   rintro -
   refine W_seq (xU ?_)
   refine xO ?_
   refine xF [2,4,5,9,137] ?_
   refine W_cond rfl ?_ ?_
   · intro h137
     simp at h137
   intro h137
   refine W_skip ?_
   rintro -
   refine W_seq ?_
   refine W_regDS (hard := []) [1,2] (keepOk_lt (by decide)) (by kernel_rfl) 4 [[0,1,2,3,4], [0,2,1,3,4]] (by decide +kernel) ⟨?_, ?_, trivial⟩
   · skip
     iterate 2 refine xO ?_
     iterate 2 (refine xO ?_ (h := by simp [splice]; exact .mk))
     refine xO ?_
     refine xF [4,5,6] ?_
     refine W_ret (endAt_drop 8 (by simp [Try.f50]; exact .mk) ?_ ?_ (by simp) (by first | rfl | simp) (by simp [z0, z1, z2, z3, z7]))
     · simp
     simp [List.map_set, ownR, hFt, Go.splice]
   skip
   refine xO ?_
   refine xO ?_ (h := by simp [splice]; exact .mk)
   refine xO ?_
   refine xO ?_ (h := by simp [splice]; exact .mk)
   refine xO ?_
   refine xF [4,5,6] ?_
   refine W_ret (endAt_drop 8 (by simp [Try.f50]; exact .mk) ?_ ?_ (by simp) (by first | rfl | simp) (by simp [z0, z1, z2, z3, z7]))
   · simp
   simp [List.map_set, ownR, hFt, Go.splice]
 intro h104
 simp [hact] at h104

theorem in50wf (g : Gl) (o0 o1 o2 o3 o7 : Awp.Obj) (a : Abs) (ho : objsLt 8 [o0, o1, o2, o3, o7] = true) (ha : a.Ok) (hgd : a.data.length = a.gens.length) (o : Op) (k : Nat) (hix : o.ix = k) (hk : k < a.data.length) (hd : (nth a.data k).length ≤ 2^40) (hact : o.act = 5) (fx : objsFix [o0, o1, o2, o3, o7] = true) (hob : o.b.length ≤ 2^40) (hq : reachS (nth a.data k).length o.off o.b.length = false) : ∀ B S, CallsA Try.prog g B S ⟨8, false⟩ 50 [.agg [.hdr 4 0 a.gens.length, .hdr 5 0 a.data.length, .hdr 6 0 a.roots.length], .agg [.d (vI o.act), .d (vI o.ix), .d (vI o.gen), .d (vI o.n), .d (vI o.off), .d (rB o.b), .d (vS o.name)]] [o0, o1, o2, o3, .row 1 (a.gens.map vI), .row 1 (a.data.map oB), .row 3 (a.roots.map eRoot), o7]
    (fun x q => x = .tup [.agg [.d (.v (.slice none 0 0)), .d (.v (.slice none 0 0)), .d (.v (.slice none 0 0))], .agg [.d (vI 0), .d (vI 0), .d (.v (.slice none 0 0))], .d (vI 1)] ∧ q = [o0, o1, o2, o3, .row 1 (a.gens.map vI), .row 1 (a.data.map oB), .row 3 (a.roots.map eRoot), o7]) := by
 refine callsA_at Try.func50 rfl (Nat.le_of_ble_eq_true rfl) fun B S => ?_
 obtain ⟨z0, z1, z2, z3, z7⟩ : o0.lt 8 = true ∧ o1.lt 8 = true ∧ o2.lt 8 = true ∧ o3.lt 8 = true ∧ o7.lt 8 = true := by simpa using ho
 simp only [hix]
 refine xU ?_
 iterate 5 refine xO ?_
 refine xG [2,3,4,5] ?_
 iterate 4 refine xO ?_
 refine xF [2,3,4,5,7] ?_
 refine W_seq ?_
 simp only [objsFix, Bool.and_eq_true, and_true] at fx
 refine W_weak (s2 := slots [(2, .ptr 8 0 0), (3, .ptr 9 0 0), (4, .ptr 10 0 0), (5, .ptr 11 0 0), (7, .d (vI k))]) (objs2 := [o0, o1, o2, o3, .row 1 (a.gens.map vI), .hole k 12 (nth a.data k).length (a.data.map oB), .row 3 (a.roots.map eRoot), o7, .var 26 [.hdr 4 0 a.gens.length, .hdr 5 0 a.data.length, .hdr 6 0 a.roots.length], .var 31 [.d (vI o.act), .d (vI k), .d (vI o.gen), .d (vI o.n), .d (vI o.off), .d (rB o.b), .d (vS o.name)], .var 26 [.d (.v (.slice none 0 0)), .d (.v (.slice none 0 0)), .d (.v (.slice none 0 0))], .var 38 [.d (vI 0), .d (vI 0), .d (.v (.slice none 0 0))], .row 1 ((nth a.data k).map vB)]) (Weak.open (xs := a.data.map oB) (ys := (nth a.data k).map vB) 5 k rfl rfl (map_get (f := oB) hk) ?_ ?_ (by simp)) ?_
 · simp
 · simp [fx, eRoot]
 refine W_reg rfl ?_
 iterate 3 refine xO ?_
 refine xO ?_ (h := by simp [hk]; exact .mk)
 iterate 2 refine xO ?_
 refine xG [2,3,4,5,7,8] ?_
 refine xO ?_
 refine xG [2,3,4,5,7,8,9] ?_
 refine xO ?_
 refine xF [2,3,4,5,7,8,9,10] ?_
 refine W_seq (xU ?_)
 iterate 2 refine xO ?_
 refine xF [2,3,4,5,7,8,9,10,23] ?_
 refine W_block (xU ?_)
 iterate 2 refine xO ?_
 refine xF [2,3,4,5,7,8,9,10,23,24] ?_
 refine W_cond rfl ?_ ?_
 · intro h24
   simp [hact] at h24
 intro h24
 refine xU ?_
 iterate 2 refine xO ?_
 refine xF [2,3,4,5,7,8,9,10,23,41] ?_
 refine W_cond rfl ?_ ?_
 · intro h41
   simp [hact] at h41
 intro h41
 refine xU ?_
 iterate 2 refine xO ?_
 refine xF [2,3,4,5,8,9,10,23,80] ?_
 refine W_cond rfl ?_ ?_
 · intro h80
   simp [hact] at h80
 intro h80
 refine xU ?_
 iterate 2 refine xO ?_
 refine xF [2,3,4,5,8,9,10,104] ?_
 refine W_cond rfl ?_ ?_
 · intro h104
   refine W_seq ?_
   have c93 := ct93 g (nth a.data k).length o.off o.b.length hd
   rw [hq] at c93
   refine W_reg rfl ?_
   iterate 7 refine xO ?_
   refine xC (c93) ?_
   iterate 2 refine xO ?_
   refine xG [2,3,4,5,8,9,10] ?_
   refine xO ?_
   refine xF [2,3,4,5,8,9,10,13] ?_
   refine W_block (W_rounds (fun m σ q => m = 0 ∧ σ = slots [(2, .ptr 8 0 0), (3, .ptr 9 0 0), (4, .ptr 10 0 0), (5, .ptr 11 0 0), (8, .hdr 12 0 (nth a.data k).length), (9, .ptr 13 0 0), (10, .d (vT true)), (13, .d (vI 0))] ∧ q = [o0, o1, o2, o3, .row 1 (a.gens.map vI), .hole k 12 (nth a.data k).length (a.data.map oB), .row 3 (a.roots.map eRoot), o7, .var 26 [.hdr 4 0 a.gens.length, .hdr 5 0 a.data.length, .hdr 6 0 a.roots.length], .var 31 [.d (vI o.act), .d (vI k), .d (vI o.gen), .d (vI o.n), .d (vI o.off), .d (rB o.b), .d (vS o.name)], .var 26 [.d (.v (.slice none 0 0)), .d (.v (.slice none 0 0)), .d (.v (.slice none 0 0))], .var 38 [.d (vI 0), .d (vI 0), .d (.v (.slice none 0 0))], .row 1 (((nth a.data k).map vB)), .var 38 [.d (vI 0), .d (vI 0), .d (.v (.slice none 0 0))]]) 0 .refl ⟨rfl, rfl, rfl⟩ ?_)
   rintro m σ q ⟨rfl, rfl, rfl⟩ _
   refine W_seq (xU ?_)
   iterate 6 refine xO ?_
   iterate 2 refine xI ?_
   refine xP ?_
   refine xF [2,3,4,5,8,9,10,13,123] ?_
   refine W_cond rfl ?_ ?_
   · intro h123
     simp at h123
   intro h123
   refine W_weak (objs2 := [o0, o1, o2, o3, .row 1 (a.gens.map vI), .row 1 ((a.data.map oB).set k (.row .own 1 ((nth a.data k).map vB))), .row 3 (a.roots.map eRoot), o7, .var 26 [.hdr 4 0 a.gens.length, .hdr 5 0 a.data.length, .hdr 6 0 a.roots.length], .var 31 [.d (vI o.act), .d (vI k), .d (vI o.gen), .d (vI o.n), .d (vI o.off), .d (rB o.b), .d (vS o.name)], .var 26 [.d (.v (.slice none 0 0)), .d (.v (.slice none 0 0)), .d (.v (.slice none 0 0))], .var 38 [.d (vI 0), .d (vI 0), .d (.v (.slice none 0 0))], .dead, .var 38 [.d (vI 0), .d (vI 0), .d (.v (.slice none 0 0))]]) (Weak.close (i := k) (r' := 12) (k := 1) (xs := a.data.map oB) (ys := (nth a.data k).map vB) (len := (nth a.data k).length) 5 rfl rfl ?_) ?_
   · simp
   refine W_exit ?_
   rintro -
   refine W_seq (xU ?_)
   refine xO ?_
   refine xF [2,4,5,9,137] ?_
   refine W_cond rfl ?_ ?_
   · intro h137
     refine xU ?_
     iterate 4 (refine xO ?_ (h := by simp [splice]; exact .mk))
     refine xO ?_
     refine xF [4,5,6] ?_
     refine W_ret (endAt_drop 8 (by simp [Try.f50]; exact .mk) ?_ ?_ (by simp) (by first | rfl | simp) (by simp [z0, z1, z2, z3, z7]))
     · simp
     simp [set_oB_self hk]
   intro h137
   simp at h137
 intro h104
 simp [hact] at h104

open Go.Awp
theorem ct26 (g : Gl) (a : Abs) (ha : a.Ok) : CtAt Try.prog g 26 [eAbs a] (.v (.bool (rightS a))) := by
 refine ctAt_of_W Try.func26 rfl rfl (Nat.le_of_ble_eq_true rfl) fun B S => ?_
 simp only [eAbs, List.map, argD_agg]
 have q1 := ha.h1
 refine xU ?_
 iterate 2 refine xO ?_
 refine xF [1] ?_
 refine W_seq (xU ?_)
 iterate 8 refine xO ?_
 iterate 4 refine xI ?_
 refine xP ?_
 refine xB ?_
 iterate 4 refine xI ?_
 refine xP ?_
 refine xB ?_
 iterate 5 refine xI ?_
 refine xP ?_
 refine xF [1,29] ?_
 refine W_cond rfl ?_ ?_
 · intro h29
   have hr : rightS a = false := right_len (by simp [lensOk] at *; omega)
   refine xU ?_
   refine xO ?_
   refine xF [2] ?_
   refine W_ret (xR (by simp [Try.f26]; exact .mk) ?_)
   simp [Try.f26, hr]
 intro h29
 have h0 : lensOk a = true := by simp [lensOk] at *; omega
 have hgd : a.gens.length = a.data.length := by simp [lensOk] at h0; omega
 refine W_skip ?_
 rintro -
 refine W_seq (xU ?_)
 refine xO ?_
 refine xF [1,3] ?_
 refine W_block (W_rounds (fun m σ o => ∃ i : Nat, m = a.gens.length - i ∧ i ≤ a.gens.length ∧ (∀ j, j < i → slotOk a j = true) ∧ σ = slots [(1, .ptr 0 0 0), (3, .d (vI i))] ∧ o = [.var 26 [.d (rI a.gens), .d (rBB a.data), .d (rR a.roots)]]) a.gens.length .refl ⟨0, by simp, by simp, by simp, rfl, rfl⟩ ?_)
 rintro m σ o ⟨i, rfl, hi, hinv, rfl, rfl⟩ _
 refine W_seq (xU ?_)
 iterate 5 refine xO ?_
 refine xF [1,3,34] ?_
 refine W_cond rfl ?_ ?_
 · intro h34
   have hi2 : i < a.gens.length := by simpa using h34
   have hi3 : i < a.data.length := by omega
   refine W_skip ?_
   rintro -
   refine W_seq (W_block ?_)
   refine xU ?_
   iterate 3 refine xO ?_
   refine xO ?_ (h := by simp [hi2]; exact .mk)
   refine xO ?_ (h := by simp [-List.getElem?_map, map_get hi2]; exact .mk)
   iterate 2 refine xO ?_
   iterate 3 refine xI ?_
   refine run_if rfl (by simp; exact .mk) rfl (by simp <;> first | omega | grind) (fun hb => by simp [hi2]; exact .mk) ?_
   refine run_if rfl (by simp; exact .mk) rfl (by simp <;> first | omega | grind) (fun hb => by simp [-List.getElem?_map, map_get hi2]; exact .mk) ?_
   refine xI ?_
   refine xP ?_
   refine xB ?_
   iterate 3 refine xI ?_
   refine run_if rfl (by simp; exact .mk) rfl (by simp <;> first | omega | grind) (fun hb => by simp [hi3]; exact .mk) ?_
   refine run_if rfl (by simp; exact .mk) rfl (by simp <;> first | omega | grind) (fun hb => by simp [-List.getElem?_map, map_get hi3]; exact .mk) ?_
   iterate 2 refine xI ?_
   refine xP ?_
   refine xF [1,3,59] ?_
   refine W_cond rfl ?_ ?_
   · intro h59
     have hr : rightS a = false := right_bad hi2 (by simp [slotOk] at *; omega)
     refine xU ?_
     refine xO ?_
     refine xF [2] ?_
     refine W_ret (xR (by simp [Try.f26]; exact .mk) ?_)
     simp [Try.f26, hr]
   intro h59
   refine W_skip ?_
   rintro -
   refine W_reg rfl ?_
   iterate 3 refine xO ?_
   refine xE [1,3] ?_
   refine rounds_kill [1,3] ?_
   refine rounds_next (m' := a.gens.length - (i+1)) (by omega) ⟨i+1, rfl, by omega, ?_, ?_, rfl⟩
   · intro j hj
     rcases Nat.lt_succ_iff_lt_or_eq.1 hj with hj | rfl
     · exact hinv j hj
     simp [slotOk] at *; omega
   rw [wrap64 (by omega) (by omega)]; rfl
 intro h34
 have hr : rightS a = rootsS a.roots := right_good h0 (fun j hj => hinv j (by simp at h34; omega))
 refine W_exit (xT ?_)
 iterate 2 refine xO ?_
 refine xC (ct55 g _ ha.h3) ?_
 refine xO ?_
 refine xF [2] ?_
 refine W_ret (xR (by simp [Try.f26]; exact .mk) ?_)
 simp [Try.f26, hr]

open Go.Awp
section
variable {a : Abs} {o : Op}
theorem do_kind {e : Nat} (hR : rightS a = true) (he : 0 < e) (h : kindS a o = -(e : Int)) : doS a o = failS e := by
 have hE : effS a o = ⟨a, 0, 0, [], e⟩ := by
  unfold effS
  rw [if_neg (by omega), if_neg (by omega), if_neg (by omega), if_neg (by omega), if_neg (by omega), if_neg (by omega), h]
  simp
 have := doS_fail (o := o) hR (by rw [hE]; show (e : Int) ≠ 0; omega)
 rw [hE] at this; exact this
theorem do_bad (h : rightS a = false ∨ o.act < 1 ∨ 8 < o.act) : doS a o = failS 1 := by
 cases hR : rightS a with
 | false => simp [doS, hR]
 | true =>
  have h : o.act < 1 ∨ 8 < o.act := by simpa [hR] using h
  refine do_kind (e := 1) hR (by omega) ?_
  unfold kindS
  rw [if_neg (by omega), if_neg (by omega), if_pos h]; rfl
theorem do_name (hR : rightS a = true) (h : o.act = 6) (hn : nameS o.name = false) : doS a o = failS 3 := by
 refine do_kind (e := 3) hR (by omega) ?_
 unfold kindS
 rw [if_neg (by omega), if_neg (by omega), if_neg (by omega), if_pos ⟨h, hn⟩]; rfl
theorem do_good (hR : rightS a = true) (h1 : 1 ≤ o.act ∧ o.act ≤ 8) (h2 : o.act ≠ 1) (h3 : ¬ (o.act = 7 ∨ o.act = 8)) (hn : ¬ (o.act = 6 ∧ nameS o.name = false)) (hg : goodS a o.ix o.gen = false) : doS a o = failS 8 := by
 refine do_kind (e := 8) hR (by omega) ?_
 unfold kindS
 rw [if_neg h2, if_neg h3, if_neg (by omega), if_neg hn, if_pos hg]; rfl
theorem eff_1 (h : o.act = 1) : effS a o = allocS a o.n := by
 have : kindS a o = 81 := by unfold kindS; rw [if_pos h]
 unfold effS; rw [if_pos this]
theorem eff_root (h : o.act = 7 ∨ o.act = 8 ∨ (o.act = 6 ∧ nameS o.name = true ∧ goodS a o.ix o.gen = true)) : effS a o = rootS a o := by
 have : kindS a o = 82 := by
  unfold kindS
  rw [if_neg (by omega)]
  by_cases q : o.act = 7 ∨ o.act = 8
  · rw [if_pos q]
  · have h := (h.resolve_left (fun e => q (.inl e))).resolve_left (fun e => q (.inr e))
    rw [if_neg q, if_neg (by omega), if_neg (by simp [h.2.1]), if_neg (by simp [h.2.2]), if_neg (by omega), if_neg (by omega), if_neg (by omega), if_neg (by omega)]
 unfold effS; rw [if_neg (by omega), if_pos this]
theorem kind_obj (hg : goodS a o.ix o.gen = true) (h : 2 ≤ o.act ∧ o.act ≤ 5) : kindS a o = 83 + o.act := by
 unfold kindS
 rw [if_neg (by omega), if_neg (by omega), if_neg (by omega), if_neg (by omega), if_neg (by simp [hg])]
 (repeat' split) <;> omega
theorem eff_2 {k : Nat} (hg : goodS a o.ix o.gen = true) (hk : o.ix = k) (h : o.act = 2) : effS a o = freeS a k := by
 have := kind_obj hg (by omega)
 unfold effS; rw [if_neg (by omega), if_neg (by omega), if_pos (by omega), hk]; rfl
theorem eff_3 {k : Nat} (hg : goodS a o.ix o.gen = true) (hk : o.ix = k) (h : o.act = 3) : effS a o = resizeS a k o.n := by
 have := kind_obj hg (by omega)
 unfold effS; rw [if_neg (by omega), if_neg (by omega), if_neg (by omega), if_pos (by omega), hk]; rfl
theorem eff_4 {k : Nat} (hg : goodS a o.ix o.gen = true) (hk : o.ix = k) (h : o.act = 4) : effS a o = readS a k o.off o.n := by
 have := kind_obj hg (by omega)
 unfold effS; rw [if_neg (by omega), if_neg (by omega), if_neg (by omega), if_neg (by omega), if_pos (by omega), hk]; rfl
theorem eff_5 {k : Nat} (hg : goodS a o.ix o.gen = true) (hk : o.ix = k) (h : o.act = 5) : effS a o = writeS a k o.off o.b := by
 have := kind_obj hg (by omega)
 unfold effS; rw [if_neg (by omega), if_neg (by omega), if_neg (by omega), if_neg (by omega), if_neg (by omega), if_pos (by omega), hk]; rfl
theorem alloc_ok {n : Int} (h : (allocS a n).e = 0) : ∃ k : Nat, allocIx a = some k ∧ sizedS n = true ∧ allocS a n = ⟨{ a with data := a.data.set k (List.replicate n.toNat 0) }, k, nth a.gens k, [], 0⟩ := by
 unfold allocS at h ⊢
 by_cases q : sizedS n = false
 · rw [if_pos q] at h; cases h
 · rw [if_neg q] at h ⊢
   cases hx : allocIx a with
   | none => rw [hx] at h; cases h
   | some k => exact ⟨k, rfl, by simpa using q, rfl⟩
end
end Go.Proofs
