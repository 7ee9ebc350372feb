/- Contracts of the program's functions and plain facts, for arguments as each lemma says. -/
import Derived.Test.YtokgokbgidgfeaaGreatAwpD
import Derived.Test.YtokgokbgidgfeaaGreatCA
import Derived.Test.YtokgokbgidgfeaaGreatCB
set_option linter.all false
namespace Go.Proofs
open Go.Awp
theorem in230 (g : Gl) (nm : ByteArray) (r : Root) (a b c : D) : ∀ B S, CallsA Tryz.prog g B S ⟨2, true⟩ 230 [.agg [.d (vS r.name), .d (vI r.ix), .d (vI r.gen)], .ptr 0 0 0] [.var 9 [.d (vS nm)], .var 96 [.d a, .d b, .d c]]
    (fun q o => q = .d (.v (.bool (r.name.toList == nm.toList))) ∧ o = [.var 9 [.d (vS nm)], .var 96 [.d a, .d b, .d c]]) := by
 refine callsA_at Tryz.func230 rfl (Nat.le_of_ble_eq_true rfl) fun B S => ?_
 refine xU ?_
 refine xO2 ?_
 refine xG [1,2] ?_
 refine xO5 ?_
 refine xF [3] ?_
 refine W_ret (endAt_drop 2 (by simp [Tryz.f230]; exact .mk) ?_ ?_ (by simp) (by simp) (by simp))
 · rfl
 rfl

theorem in229 (g : Gl) (l : List Root) (nm : ByteArray) (hl : l.length ≤ 2^40) : ∀ B S, CallsA Tryz.prog g B S ⟨1, true⟩ 229 [.d (rR l), .fn (.func 230) [] [.ptr 0 0 0]] [.var 9 [.d (vS nm)]]
    (fun a o => a = .d (vI (firstS l nm)) ∧ o = [.var 9 [.d (vS nm)]]) := by
 refine callsA_at Tryz.func229 rfl (Nat.le_of_ble_eq_true rfl) fun B S => ?_
 refine xU ?_
 refine xH [0,1] ?_
 refine W_seq (xU ?_)
 refine xH3 [1,7,8,9] ?_
 refine W_block (W_rounds (fun m σ o => ∃ i : Nat, m = l.length - i ∧ i ≤ l.length ∧ (∀ j, j < i → ((nth l j).name.toList == nm.toList) = false) ∧ σ = slots [(1, .fn (.func 230) [] [.ptr 0 0 0]), (7, .d (rR l)), (8, .d (vI l.length)), (9, .d (vI i))] ∧ o = [.var 9 [.d (vS nm)]]) l.length .refl ⟨0, by simp, by simp, by simp, rfl, rfl⟩ ?_)
 rintro m σ o ⟨i, rfl, hi, hinv, rfl, rfl⟩ _
 refine xU ?_
 refine xH [1,7,8,9,10] ?_
 refine W_seq (W_cond rfl ?_ ?_)
 · intro h10
   have hi2 : i < l.length := by simpa using h10
   refine W_skip fun _ => ?_
   refine W_seq (W_block ?_)
   refine xU ?_
   refine xO ?_
   refine xO ?_ (h := by simp [eRoot, *]; exact .mk)
   refine xO ?_ (h := by simp [eRoot]; exact .mk)
   refine xO2 ?_
   refine xOs ?_
   refine xG [1,5,6,7,8,9] ?_
   refine xO ?_
   refine xO ?_ (h := by simp [eRoot]; exact .mk)
   refine run_inl0 rfl rfl rfl rfl (by simp; exact .mk) ⟨_, Tryz.func230, rfl, rfl⟩ (in230 g nm (nth l i) _ _ _) (.inr ⟨[], rfl⟩) ?_
   refine xQ [1,5,7,8,9,16] ?_ ?_
   · intro h16
     have hr : firstS l nm = i := firstS_at hi2 hinv h16
     refine xU ?_
     refine xH2 [4] ?_
     refine W_ret (endAt_drop 1 (by simp [Tryz.f229]; exact .mk) ?_ ?_ (by simp) (by simp) (by simp))
     · rw [hr]; rfl
     rfl
   intro h16
   refine W_skip fun _ => ?_
   refine xY ?_
   refine xO2 ?_
   refine xE [1,7,8,9] ?_
   refine rounds_drop 1 [1,7,8,9] (by simp) (by simp) (by simp) ?_
   refine rounds_next (m' := l.length - (i+1)) (by omega) ⟨i+1, rfl, by omega, ?_, ?_, rfl⟩
   · intro j hj
     rcases Nat.lt_succ_iff_lt_or_eq.1 hj with hj | rfl
     · exact hinv j hj
     exact h16
   rw [wrap64 (by omega) (by omega)]; rfl
 intro h10
 have hr : firstS l nm = -1 := firstS_none (fun j hj => hinv j (by simp at h10; omega))
 refine W_exit (xT ?_)
 refine xH [4] ?_
 refine W_ret (endAt_drop 1 (by simp [Tryz.f229]; exact .mk) ?_ ?_ (by simp) (by simp) (by simp))
 · rw [hr]; rfl
 rfl

theorem ct198 (g : Gl) (l : List Root) (nm : ByteArray) (hl : l.length ≤ 2^40) : CtAt Tryz.prog g 198 [rR l, vS nm] (vI (firstS l nm)) := by
 refine xA Tryz.func198 fun B S => ?_
 refine xU ?_
 refine xO2 ?_
 refine xG [0,3] ?_
 refine xO2 ?_
 refine run_inl0 rfl rfl rfl rfl (by simp; exact .mk) ⟨_, Tryz.func229, rfl, rfl⟩ (in229 g l nm hl) (.inr ⟨[], rfl⟩) ?_
 refine xH [4] ?_
 refine W_ret (xR (by simp [Tryz.f198]; exact .mk) ?_)
 simp [nrmR, nrmK]

theorem ct121 (g : Gl) (n : Int) : CtAt Tryz.prog g 121 [vI n] (.tup [oR (if newOk n then List.replicate n.toNat zRoot else []), vI (if newOk n then 0 else 1)]) := by
 refine xA Tryz.func121 fun B S => ?_
 refine xU ?_
 refine xH2 [0] ?_
 refine W_seq (xU ?_)
 refine xO3 ?_
 iterate 2 (refine run_if rfl (by simp; exact .mk) rfl (by simp <;> omega) (fun hb => by simp; exact .mk) ?_)
 refine xP ?_
 refine run_op1 rfl rfl rfl (by simp <;> omega) (by simp; exact .mk) ?_
 iterate 3 (refine run_if rfl (by simp; exact .mk) rfl (by simp <;> omega) (fun hb => by simp; exact .mk) ?_)
 refine xP ?_
 refine run_end [0,14] (by simp <;> omega) (by simp; exact .mk) ?_
 rintro -
 refine W_cond rfl ?_ ?_
 · intro h14
   have hr : newOk n = false := by simp at h14; simp [newOk]; omega
   refine xU ?_
   refine xH2 [2,3] ?_
   refine W_ret (xR (by simp [Tryz.f121]; exact .mk) ?_)
   simp [Tryz.f121, hr, ownR, eRoot, zRoot]
 intro h14
 have hr : newOk n = true := by simp at h14; simp [newOk]; omega
 have hn : 2 ≤ n ∧ n ≤ 8 := by simp at h14; omega
 refine W_skip fun _ => ?_
 refine W_seq ?_
 have e1 : 0 ≤ n := by omega
 have e2 : 32 * n ≤ 140737488355328 := by omega
 have e3 : n ≤ 140737488355328 := by omega
 refine xY ?_
 refine xO ?_
 refine xO ?_ (h := by simp [e1, e2, e3]; exact .mk)
 refine xH2 [2,3] ?_
 refine W_ret (xR (by simp [Tryz.f121]; exact .mk) ?_)
 simp [Tryz.f121, hr, ownR, eRoot, zRoot]

open Go.Awp
theorem ct140 (g : Gl) (l : List Root) (hl : l.length ≤ 2^40) (hn : ∀ i, i < l.length → (nth l i).name.size ≤ 2^40) : CtAt Tryz.prog g 140 [rR l] (.v (.bool (rootsS l))) := by
 refine xA Tryz.func140 fun B S => ?_
 refine xU ?_
 refine xH [0] ?_
 refine W_seq (xU ?_)
 refine xH3 [0,7,8,9] ?_
 refine W_block (W_rounds (fun m σ o => ∃ i : Nat, m = l.length - i ∧ i ≤ l.length ∧ (∀ j, j < i → rootOk l j = true) ∧ σ = slots [(0, .d (rR l)), (7, .d (rR l)), (8, .d (vI l.length)), (9, .d (vI i))] ∧ o = []) l.length .refl ⟨0, by simp, by simp, by simp, rfl, rfl⟩ ?_)
 rintro m σ o ⟨i, rfl, hi, hinv, rfl, rfl⟩ _
 refine xU ?_
 refine xH [0,7,8,9,10] ?_
 refine W_seq (W_cond rfl ?_ ?_)
 · intro h10
   have hi2 : i < l.length := by simpa using h10
   refine W_skip fun _ => ?_
   refine W_seq (W_block ?_)
   refine xU ?_
   refine xO ?_
   refine xO ?_ (h := by simp [eRoot, *]; exact .mk)
   refine xO ?_ (h := by simp [eRoot]; exact .mk)
   refine xO2 ?_
   refine xOs ?_
   refine xF [0,3,4,7,8,9] ?_
   refine W_block (xU ?_)
   refine xO ?_ (h := by simp [eRoot]; exact .mk)
   refine xOs ?_
   refine xO2 ?_
   refine xQ [0,3,4,7,8,9,14] ?_ ?_
   · intro h14
     refine W_skip fun _ => ?_
     refine xY ?_
     refine xO2 ?_
     refine xE [0,7,8,9] ?_
     refine rounds_drop 0 [0,7,8,9] (by simp) (by simp) (by simp) ?_
     refine rounds_next (m' := l.length - (i+1)) (by omega) ⟨i+1, rfl, by omega, ?_, ?_, rfl⟩
     · intro j hj
       rcases Nat.lt_succ_iff_lt_or_eq.1 hj with hj | rfl
       · exact hinv j hj
       simp [rootOk, isZero] at *; simp_all
     rw [wrap64 (by omega) (by omega)]; rfl
   intro h14
   refine W_seq (xU ?_)
   refine xO ?_
   refine xO ?_ (h := by simp [eRoot]; exact .mk)
   refine xC (ct188 g _ (hn i hi2)) ?_
   refine xO2 ?_
   refine xQ [0,3,4,7,8,9,18] ?_ ?_
   · intro h18
     refine W_skip fun _ => ?_
     refine W_cond rfl ?_ ?_
     · intro h18'
       refine W_seq ?_
       have hr : rootsS l = false := roots_bad hi2 (by simp [rootOk, isZero] at *; simp_all)
       refine xY ?_
       refine xH [2] ?_
       refine W_ret (xR (by simp [Tryz.f140]; exact .mk) ?_)
       simp [Tryz.f140, hr]
       try (cases newOk l.length <;> rfl)
     intro h18'
     refine W_skip fun _ => ?_
     refine xY ?_
     refine xO2 ?_
     refine xE [0,7,8,9] ?_
     refine rounds_drop 0 [0,7,8,9] (by simp) (by simp) (by simp) ?_
     refine rounds_next (m' := l.length - (i+1)) (by omega) ⟨i+1, rfl, by omega, ?_, ?_, rfl⟩
     · intro j hj
       rcases Nat.lt_succ_iff_lt_or_eq.1 hj with hj | rfl
       · exact hinv j hj
       simp [rootOk, isZero] at *; simp_all
     rw [wrap64 (by omega) (by omega)]; rfl
   intro h18
   refine xU ?_
   refine xO ?_
   refine xO ?_ (h := by simp [eRoot]; exact .mk)
   refine xC (ct197 g _ _) ?_
   refine xO2 ?_
   refine xQ [0,3,4,7,8,9,18] ?_ ?_
   · intro h18'
     refine W_skip fun _ => ?_
     refine W_cond rfl ?_ ?_
     · intro h18''
       refine W_seq ?_
       have hr : rootsS l = false := roots_bad hi2 (by simp [rootOk, isZero] at *; simp_all)
       refine xY ?_
       refine xH [2] ?_
       refine W_ret (xR (by simp [Tryz.f140]; exact .mk) ?_)
       simp [Tryz.f140, hr]
       try (cases newOk l.length <;> rfl)
     intro h18''
     refine W_skip fun _ => ?_
     refine xY ?_
     refine xO2 ?_
     refine xE [0,7,8,9] ?_
     refine rounds_drop 0 [0,7,8,9] (by simp) (by simp) (by simp) ?_
     refine rounds_next (m' := l.length - (i+1)) (by omega) ⟨i+1, rfl, by omega, ?_, ?_, rfl⟩
     · intro j hj
       rcases Nat.lt_succ_iff_lt_or_eq.1 hj with hj | rfl
       · exact hinv j hj
       simp [rootOk, isZero] at *; simp_all
     rw [wrap64 (by omega) (by omega)]; rfl
   intro h18'
   refine W_regD (by kernel_rfl) [] 4 [0,1,2,3,4,5,6,7] (by decide +kernel) ?_
   refine xO2 ?_
   refine xO ?_ (h := by simp [optA, *]; exact .mk)
   refine xO ?_
   refine xO ?_ (h := by simp [eRoot]; exact .mk)
   refine run_call0 rfl rfl rfl rfl (by simp; exact .mk) (by simp; exact .mk) (by have := ct198 g (l.take i) (nth l i).name (by simp; omega); exact this) (by simp) (by simp; exact .mk) ?_
   refine xO2 ?_
   refine xQ [0,7,8,9,18] ?_ ?_
   · intro h18''
     refine W_seq ?_
     have hr : rootsS l = false := roots_bad hi2 (by simp [rootOk, isZero] at *; simp_all)
     refine xY ?_
     refine xH [2] ?_
     refine W_ret (xR (by simp [Tryz.f140]; exact .mk) ?_)
     simp [Tryz.f140, hr]
     try (cases newOk l.length <;> rfl)
   intro h18''
   refine W_skip fun _ => ?_
   refine xY ?_
   refine xO2 ?_
   refine xE [0,7,8,9] ?_
   refine rounds_drop 0 [0,7,8,9] (by simp) (by simp) (by simp) ?_
   refine rounds_next (m' := l.length - (i+1)) (by omega) ⟨i+1, rfl, by omega, ?_, ?_, rfl⟩
   · intro j hj
     rcases Nat.lt_succ_iff_lt_or_eq.1 hj with hj | rfl
     · exact hinv j hj
     simp [rootOk, isZero] at *; simp_all
   rw [wrap64 (by omega) (by omega)]; rfl
 intro h10
 refine W_exit ?_
 rintro -
 refine W_seq ?_
 have hr : rootsS l = newOk l.length := roots_good (fun j hj => hinv j (by simp at h10; omega))
 refine xY ?_
 refine xO2 ?_
 refine xC (ct121 g _) ?_
 refine xO5 ?_
 refine xG [6] ?_
 refine xH3 [2] ?_
 refine W_ret (xR (by simp [Tryz.f140]; exact .mk) ?_)
 simp [Tryz.f140, hr]
 try (cases newOk l.length <;> rfl)

set_option maxHeartbeats 4000000
set_option maxRecDepth 4000
open Go.Awp
theorem ct22 (g : Gl) (s : Stt) (hs : s.Ok) : CtAt Tryz.prog g 22 [eStt s] (.tup [oO (twosO s.slots), oI (twosI s.slots)]) := by
 refine xA Tryz.func22 fun B S => ?_
 simp only [eStt, List.map, argD_agg]
 have q0 := hs.h1
 refine xU ?_
 refine xO3 ?_
 refine xG [1] ?_
 refine xO ?_
 refine xG [1,4] ?_
 refine xH [1,4,5] ?_
 refine W_seq (xU ?_)
 refine xO ?_
 refine xOl ?_
 refine xH2 [4,5,9,10,11] ?_
 refine W_block ?_
 refine W_rounds (fun m σ o => ∃ i : Nat, m = s.slots.length - i ∧ i ≤ s.slots.length ∧ σ = slots [(4, .hdr 1 0 (twoIx s.slots i).length), (5, .hdr 2 0 (twoIx s.slots i).length), (9, .d (rSl s.slots)), (10, .d (vI s.slots.length)), (11, .d (vI i))] ∧ o = [.var 28 [.d (vI s.sh.pages), .d (vI s.sh.slots), .d (vI s.sh.roots), .d (vI s.sh.room), .d (vI s.mode), .d (vI s.base), .d (rSl s.slots), .d (rR s.roots), .d (rBB s.data)], .row 2 ((twoIx s.slots i).map fun j => eObj (objAt s.slots j)), .row 1 ((twoIx s.slots i).map fun (j : Nat) => vI j)]) s.slots.length
  (Weak.trans (Weak.nilRow 4 2 rfl) (Weak.trans (Weak.nilRow 5 1 rfl) (Weak.kills [4,5,9,10,11] rfl) (fun _ _ _ h1 h2 => by rw [← h1.len]; exact h2)) (fun _ _ _ h1 h2 => by rw [← h1.len]; exact h2)) ⟨0, by simp, by simp, by simp [twoIx], by simp [twoIx]⟩ ?_
 rintro m σ o ⟨i, rfl, hi, rfl, rfl⟩ _
 have hle := twoIx_len (l := s.slots) (i := i)
 refine xU ?_
 refine xH [4,5,9,10,11,12] ?_
 refine W_seq (W_cond rfl ?_ ?_)
 · intro h12
   have hi2 : i < s.slots.length := by simpa using h12
   refine W_skip fun _ => ?_
   refine W_seq (W_block ?_)
   refine xU ?_
   refine xO ?_
   refine xO ?_ (h := by simp [eSlot, *]; exact .mk)
   refine xOl ?_
   refine xO2 ?_
   refine xOs ?_
   refine xG [4,5,6,7,9,10,11] ?_
   refine xO ?_
   refine xOl ?_
   refine xO ?_
   refine xI ?_
   refine xI ?_ (h := fun hb => by simp [eSlot]; exact .mk)
   refine xP ?_
   refine xQ [4,5,6,7,9,10,11,21] ?_ ?_
   · intro h21
     have h2 : isTwo (nth s.slots i) = true := h21
     have e1 : ((twoIx s.slots i).length + 1) * 16 ≤ 140737488355328 := by omega
     have e2 : (twoIx s.slots i).length ≤ 140737488355327 := by omega
     have e3 : ((twoIx s.slots i).length + 1) * 8 ≤ 140737488355328 := by omega
     refine xY ?_
     refine xO2 ?_
     refine xOl ?_
     refine xO ?_
     refine xOl ?_
     refine xOs ?_
     refine xO ?_
     refine xO ?_ (h := by simp [rows, e1, e2]; exact .mk)
     refine xO3 ?_
     refine xO ?_ (h := by simp [rows, e3, e2]; exact .mk)
     refine xH2 [4,5,9,10,11] ?_
     refine xY ?_
     refine xO2 ?_
     refine xE [4,5,9,10,11] ?_
     refine rounds_kill [4,5,9,10,11] ?_
     first
     | (refine rounds_drop 3 [4,5,9,10,11] (by decide) (by rfl) (by rfl) ?_
        refine rounds_next (m' := s.slots.length - (i+1)) (by omega) ⟨i+1, rfl, by omega, ?_, ?_⟩
        · rw [wrap64 (by omega) (by omega), twoIx_f h2]; rfl
        rw [twoIx_f h2]; rfl)
     | (refine rounds_kills [4,5,9,10,11] rfl ?_
        refine rounds_swap 1 5 1 (by decide) (by simp) (by decide) rfl rfl ?_
        refine rounds_swap 2 7 1 (by decide) (by simp) (by decide) rfl rfl ?_
        refine rounds_drop 3 [4,5,9,10,11] (by decide) (by rfl) (by rfl) ?_
        refine rounds_next (m' := s.slots.length - (i+1)) (by omega) ⟨i+1, rfl, by omega, ?_, ?_⟩
        · rw [wrap64 (by omega) (by omega), twoIx_t h2]; simp; try rfl
        rw [twoIx_t h2]; simp [eObj, objAt]; try rfl)
   intro h21
   have h2 : isTwo (nth s.slots i) = false := h21
   refine W_skip fun _ => ?_
   refine xY ?_
   refine xO2 ?_
   refine xE [4,5,9,10,11] ?_
   refine rounds_kill [4,5,9,10,11] ?_
   first
   | (refine rounds_drop 3 [4,5,9,10,11] (by decide) (by rfl) (by rfl) ?_
      refine rounds_next (m' := s.slots.length - (i+1)) (by omega) ⟨i+1, rfl, by omega, ?_, ?_⟩
      · rw [wrap64 (by omega) (by omega), twoIx_f h2]; rfl
      rw [twoIx_f h2]; rfl)
   | (refine rounds_kills [4,5,9,10,11] rfl ?_
      refine rounds_swap 1 5 1 (by decide) (by simp) (by decide) rfl rfl ?_
      refine rounds_swap 2 7 1 (by decide) (by simp) (by decide) rfl rfl ?_
      refine rounds_drop 3 [4,5,9,10,11] (by decide) (by rfl) (by rfl) ?_
      refine rounds_next (m' := s.slots.length - (i+1)) (by omega) ⟨i+1, rfl, by omega, ?_, ?_⟩
      · rw [wrap64 (by omega) (by omega), twoIx_t h2]; simp; try rfl
      rw [twoIx_t h2]; simp [eObj, objAt]; try rfl)
 intro h12
 obtain rfl : i = s.slots.length := by simp at h12; omega
 refine W_exit (xT ?_)
 refine xO4 ?_
 refine xF [2,3] ?_
 refine W_ret (xR (by simp [Tryz.f22]; exact .mk) ?_)
 simp [Tryz.f22, ownR, twosO, twosI]; try rfl

theorem ct89 (g : Gl) (s : Stt) (hs : s.Ok) : CtAt Tryz.prog g 89 [eStt s] (.v (.bool (rowsS s))) := by
 refine xA Tryz.func89 fun B S => ?_
 simp only [eStt, List.map, argD_agg]
 have q0 := hs.h1
 refine xU ?_
 refine xH2 [1] ?_
 refine W_seq (W_block ?_)
 refine W_seq (xU ?_)
 iterate 8 refine xO ?_
 refine xQ [1,4] ?_ ?_
 · intro h4
   refine W_skip fun _ => ?_
   refine W_cond rfl ?_ ?_
   · intro h4'
     refine xU ?_
     refine xH [2] ?_
     refine W_ret (xR (by simp [Tryz.f89]; exact .mk) ?_)
     first | (simp [Tryz.f89, hr]; done) | (simp [Tryz.f89, show rowsS s = false from by (simp [rowsS] at *; grind)])
   intro hq
   cases h4.symm.trans hq
 intro h4
 refine xU ?_
 iterate 8 refine xO ?_
 refine xQ [1,4] ?_ ?_
 · intro h4'
   refine W_skip fun _ => ?_
   refine W_cond rfl ?_ ?_
   · intro h4''
     refine xU ?_
     refine xH [2] ?_
     refine W_ret (xR (by simp [Tryz.f89]; exact .mk) ?_)
     first | (simp [Tryz.f89, hr]; done) | (simp [Tryz.f89, show rowsS s = false from by (simp [rowsS] at *; grind)])
   intro hq
   cases h4'.symm.trans hq
 intro h4'
 refine xY ?_
 iterate 8 refine xO ?_
 refine xQ [1,4] ?_ ?_
 · intro h4''
   refine xU ?_
   refine xH [2] ?_
   refine W_ret (xR (by simp [Tryz.f89]; exact .mk) ?_)
   first | (simp [Tryz.f89, hr]; done) | (simp [Tryz.f89, show rowsS s = false from by (simp [rowsS] at *; grind)])
 intro h4''
 refine W_seq (xU ?_)
 refine xO2 ?_
 refine xC (ct139 g s.slots hs.h1) ?_
 refine xO2 ?_
 refine xQ [1,26] ?_ ?_
 · intro h26
   refine W_skip fun _ => ?_
   refine W_cond rfl ?_ ?_
   · intro h26'
     refine xU ?_
     refine xH [2] ?_
     refine W_ret (xR (by simp [Tryz.f89]; exact .mk) ?_)
     first | (simp [Tryz.f89, hr]; done) | (simp [Tryz.f89, show rowsS s = false from by (simp [rowsS] at *; grind)])
   intro hq
   cases h26.symm.trans hq
 intro h26
 refine xY ?_
 refine xO2 ?_
 refine xC (ct140 g s.roots hs.h2 hs.h5) ?_
 refine xO2 ?_
 refine xQ [1,26] ?_ ?_
 · intro h26'
   refine xU ?_
   refine xH [2] ?_
   refine W_ret (xR (by simp [Tryz.f89]; exact .mk) ?_)
   first | (simp [Tryz.f89, hr]; done) | (simp [Tryz.f89, show rowsS s = false from by (simp [rowsS] at *; grind)])
 intro h26'
 refine W_skip fun _ => ?_
 refine W_seq (W_seq ?_)
 have hh : (s.slots.length : Int) = s.sh.slots ∧ (s.roots.length : Int) = s.sh.roots ∧ s.data.length = s.slots.length ∧ tableS s.slots = true ∧ rootsS s.roots = true := by simp at *; grind
 have hr0 : rowsS s = (List.range s.slots.length).all (lenOk s) := by simp [rowsS, hh]
 obtain ⟨_, _, hdl, _, _⟩ := hh
 refine xY ?_
 refine xO4 ?_
 refine xF [1,37,38] ?_
 refine W_block (W_rounds (fun m σ o => ∃ i : Nat, m = s.slots.length - i ∧ i ≤ s.slots.length ∧ (∀ j, j < i → lenOk s j = true) ∧ σ = slots [(1, .ptr 0 0 0), (37, .d (vI s.slots.length)), (38, .d (vI i))] ∧ o = [.var 28 [.d (vI s.sh.pages), .d (vI s.sh.slots), .d (vI s.sh.roots), .d (vI s.sh.room), .d (vI s.mode), .d (vI s.base), .d (rSl s.slots), .d (rR s.roots), .d (rBB s.data)]]) s.slots.length .refl ⟨0, by simp, by simp, by simp, rfl, rfl⟩ ?_)
 rintro m σ o ⟨i, rfl, hi, hinv, rfl, rfl⟩ _
 refine xU ?_
 refine xH [1,37,38,39] ?_
 refine W_seq (W_cond rfl ?_ ?_)
 · intro h39
   have hi2 : i < s.slots.length := by simpa using h39
   have hi3 : i < s.data.length := by omega
   refine W_skip fun _ => ?_
   refine W_seq (W_block ?_)
   refine xU ?_
   refine xH2 [1,3,37,38] ?_
   refine W_seq ?_
   refine W_regD (by kernel_rfl) [] 4 [0,1,2,3,4,5,6,7,8,9,10,11,12] (by decide +kernel) ?_
   refine xO3 ?_
   refine xO ?_ (h := by simp [hi3]; exact .mk)
   refine xO5 ?_
   refine xO ?_ (h := by simp [hi2]; exact .mk)
   refine xO3 ?_
   refine xQ [1,37,38,53] ?_ ?_
   · intro h53
     have hr : rowsS s = false := by rw [hr0]; exact all_bad hi2 (by simp [lenOk] at *; simpa [eSlot] using h53)
     refine xU ?_
     refine xH [2] ?_
     refine W_ret (xR (by simp [Tryz.f89]; exact .mk) ?_)
     first | (simp [Tryz.f89, hr]; done) | (simp [Tryz.f89, show rowsS s = false from by (simp [rowsS] at *; grind)])
   intro h53
   refine W_skip fun _ => ?_
   refine xY ?_
   refine xO2 ?_
   refine xE [1,37,38] ?_
   refine rounds_kill [1,37,38] ?_
   refine rounds_next (m' := s.slots.length - (i+1)) (by omega) ⟨i+1, rfl, by omega, ?_, ?_, rfl⟩
   · intro j hj
     rcases Nat.lt_succ_iff_lt_or_eq.1 hj with hj | rfl
     · exact hinv j hj
     simp [lenOk] at *; simpa [eSlot] using h53
   rw [wrap64 (by omega) (by omega)]; rfl
 intro h39
 have hr : rowsS s = true := by rw [hr0]; exact all_good (fun j hj => hinv j (by simp at h39; omega))
 refine W_exit (xT ?_)
 refine xH [2] ?_
 refine W_ret (xR (by simp [Tryz.f89]; exact .mk) ?_)
 first | (simp [Tryz.f89, hr]; done) | (simp [Tryz.f89, show rowsS s = false from by (simp [rowsS] at *; grind)])

theorem ct143 (g : Gl) (a b : Int) : CtAt Tryz.prog g 143 [vI a, vI b] (.tup []) := by
 refine xA Tryz.func143 fun B S => ?_
 refine W_skip ?_
 refine end_normal (by simp [Tryz.f143]; exact .mk) (by simp; exact .mk) ?_ (by simp)
 simp [Tryz.f143]

open Go.Awp
theorem in142 (g : Gl) (fr to : Int) (l : List (Int × Int)) (hl : l.length ≤ 2^40) : ∀ B S, CallsA Tryz.prog g B S ⟨0, true⟩ 142 [.d (vI fr), .d (vI to), .d (rO l), .fn (.func 143) [] []] []
    (fun x r => x = .d (.v (.bool (gapsS fr to l))) ∧ r = []) := by
 refine callsA_at Tryz.func142 rfl (Nat.le_of_ble_eq_true rfl) fun B S => ?_
 refine xU ?_
 refine xH [0,1,2,3] ?_
 refine W_seq (xU ?_)
 refine xO3 ?_
 iterate 3 refine xI ?_
 refine xP ?_
 refine xB ?_
 iterate 2 refine xI ?_
 refine xP ?_
 refine xB ?_
 refine xI ?_
 refine run_call rfl (by simp; exact .mk) rfl rfl (by simp) (by simp; exact .mk) (by simp; exact .mk) (fun hb => ct201 g fr) (by simp) (by simp; exact .mk) (by simp) ?_
 refine xI ?_
 refine xP ?_
 refine xB ?_
 refine xI ?_
 refine run_call rfl (by simp; exact .mk) rfl rfl (by simp) (by simp; exact .mk) (by simp; exact .mk) (fun hb => ct201 g to) (by simp) (by simp; exact .mk) (by simp) ?_
 refine xI ?_
 refine xP ?_
 refine xQ [0,1,2,3,32] ?_ ?_
 · intro h32
   have hr : gapsS fr to l = false := by
    have : gapsHead fr to = false := by simp [gapsHead] at *; grind
    simp [gapsS, this]
   refine xU ?_
   refine xH [8] ?_
   refine W_ret (endAt_drop 0 (by simp [Tryz.f142]; exact .mk) ?_ ?_ (by simp) (by simp) (by simp))
   · simp [hr]
   rfl
 intro h32
 have hH : 0 ≤ fr ∧ fr ≤ to ∧ to ≤ 2048 ∧ fr.tmod 4 = 0 ∧ to.tmod 4 = 0 := by simp at h32; omega
 have hr0 : gapsS fr to l = gapsOk to fr l := by simp [gapsS, gapsHead, hH]
 refine W_skip ?_
 refine xT ?_
 refine xH2 [1,2,3,9] ?_
 refine W_seq (xU ?_)
 refine xH3 [1,3,9,34,35,36] ?_
 refine W_block (W_rounds (fun m σ o => ∃ (i : Nat) (a : Int), m = l.length - i ∧ i ≤ l.length ∧ 0 ≤ a ∧ a ≤ to ∧ gapsOk to a (l.drop i) = gapsOk to fr l ∧ σ = slots [(1, .d (vI to)), (3, .fn (.func 143) [] []), (9, .d (vI a)), (34, .d (rO l)), (35, .d (vI l.length)), (36, .d (vI i))] ∧ o = []) l.length .refl ⟨0, fr, by simp, by simp, by omega, by omega, by simp, rfl, rfl⟩ ?_)
 rintro m σ o ⟨i, a, rfl, hi, ha0, ha1, hinv, rfl, rfl⟩ _
 refine xU ?_
 refine xH [1,3,9,34,35,36,37] ?_
 refine W_seq (W_cond rfl ?_ ?_)
 · intro h37
   have hi2 : i < l.length := by simpa using h37
   rw [gapsOk_drop hi2] at hinv
   refine W_skip fun _ => ?_
   refine W_seq (W_block ?_)
   refine xU ?_
   refine xO ?_ (h := by simp [eObj, *]; exact .mk)
   refine xO ?_ (h := by simp [eObj]; exact .mk)
   refine xO ?_
   refine xOs ?_
   refine xF [1,3,9,11,34,35,36] ?_
   refine W_seq (W_block ?_)
   refine W_seq (xU ?_)
   refine xO ?_
   refine xO ?_ (h := by simp [eObj]; exact .mk)
   refine xO3 ?_
   refine xQ [1,3,9,11,34,35,36,40] ?_ ?_
   · intro h40
     refine W_skip fun _ => ?_
     refine W_cond rfl ?_ ?_
     · intro h40'
       refine W_seq ?_
       have hb : gapBad to a (nth l i) = true := by simp [gapBad, eObj] at *; grind
       have hr : gapsS fr to l = false := by rw [hr0, ← hinv, hb]; rfl
       refine xY ?_
       refine xH [8] ?_
       refine W_ret (endAt_drop 0 (by simp [Tryz.f142]; exact .mk) ?_ ?_ (by simp) (by simp) (by simp))
       · simp [hr]
       rfl
     intro hq
     cases h40.symm.trans hq
   intro h40
   refine xU ?_
   refine xO ?_
   refine xO ?_ (h := by simp [eObj]; exact .mk)
   refine xO3 ?_
   refine xQ [1,3,9,11,34,35,36,40] ?_ ?_
   · intro h40'
     refine W_skip fun _ => ?_
     refine W_cond rfl ?_ ?_
     · intro h40''
       refine W_seq ?_
       have hb : gapBad to a (nth l i) = true := by simp [gapBad, eObj] at *; grind
       have hr : gapsS fr to l = false := by rw [hr0, ← hinv, hb]; rfl
       refine xY ?_
       refine xH [8] ?_
       refine W_ret (endAt_drop 0 (by simp [Tryz.f142]; exact .mk) ?_ ?_ (by simp) (by simp) (by simp))
       · simp [hr]
       rfl
     intro hq
     cases h40'.symm.trans hq
   intro h40'
   refine xU ?_
   refine xO ?_
   refine xO ?_ (h := by simp [eObj]; exact .mk)
   refine xO2 ?_
   refine xQ [1,3,9,11,34,35,36,40] ?_ ?_
   · intro h40''
     refine W_skip fun _ => ?_
     refine W_cond rfl ?_ ?_
     · intro h40'''
       refine W_seq ?_
       have hb : gapBad to a (nth l i) = true := by simp [gapBad, eObj] at *; grind
       have hr : gapsS fr to l = false := by rw [hr0, ← hinv, hb]; rfl
       refine xY ?_
       refine xH [8] ?_
       refine W_ret (endAt_drop 0 (by simp [Tryz.f142]; exact .mk) ?_ ?_ (by simp) (by simp) (by simp))
       · simp [hr]
       rfl
     intro hq
     cases h40''.symm.trans hq
   intro h40''
   refine W_seq ?_
   have w1 : IntKind.i64.wrap (to - (nth l i).1) = to - (nth l i).1 := wrap64 (by simp [eObj] at *; omega) (by simp [eObj] at *; omega)
   refine xY ?_
   refine xO ?_
   refine xO ?_ (h := by simp [eObj]; exact .mk)
   refine xO2 ?_
   refine xO ?_ (h := by simp [eObj]; exact .mk)
   refine xO ?_ (h := by simp [w1]; exact .mk)
   refine xO2 ?_
   refine xQ [1,3,9,11,34,35,36,40] ?_ ?_
   · intro h40'''
     refine W_skip fun _ => ?_
     refine W_cond rfl ?_ ?_
     · intro h40''''
       refine W_seq ?_
       have hb : gapBad to a (nth l i) = true := by simp [gapBad, eObj] at *; grind
       have hr : gapsS fr to l = false := by rw [hr0, ← hinv, hb]; rfl
       refine xY ?_
       refine xH [8] ?_
       refine W_ret (endAt_drop 0 (by simp [Tryz.f142]; exact .mk) ?_ ?_ (by simp) (by simp) (by simp))
       · simp [hr]
       rfl
     intro hq
     cases h40'''.symm.trans hq
   intro h40'''
   refine xU ?_
   refine xO ?_
   refine xO ?_ (h := by simp [eObj]; exact .mk)
   refine xC (ct201 g _) ?_
   refine xO2 ?_
   refine xQ [1,3,9,11,34,35,36,40] ?_ ?_
   · intro h40''''
     refine W_skip fun _ => ?_
     refine W_cond rfl ?_ ?_
     · intro h40'''''
       refine W_seq ?_
       have hb : gapBad to a (nth l i) = true := by simp [gapBad, eObj] at *; grind
       have hr : gapsS fr to l = false := by rw [hr0, ← hinv, hb]; rfl
       refine xY ?_
       refine xH [8] ?_
       refine W_ret (endAt_drop 0 (by simp [Tryz.f142]; exact .mk) ?_ ?_ (by simp) (by simp) (by simp))
       · simp [hr]
       rfl
     intro hq
     cases h40''''.symm.trans hq
   intro h40''''
   refine xY ?_
   refine xO ?_
   refine xO ?_ (h := by simp [eObj]; exact .mk)
   refine xC (ct201 g _) ?_
   refine xO2 ?_
   refine xQ [1,3,9,11,34,35,36,40] ?_ ?_
   · intro h40'''''
     refine W_seq ?_
     have hb : gapBad to a (nth l i) = true := by simp [gapBad, eObj] at *; grind
     have hr : gapsS fr to l = false := by rw [hr0, ← hinv, hb]; rfl
     refine xY ?_
     refine xH [8] ?_
     refine W_ret (endAt_drop 0 (by simp [Tryz.f142]; exact .mk) ?_ ?_ (by simp) (by simp) (by simp))
     · simp [hr]
     rfl
   intro h40'''''
   refine W_skip fun _ => ?_
   refine W_seq ?_
   have hb : gapBad to a (nth l i) = false := by simp [gapBad, eObj] at *; grind
   have hb2 : a ≤ (nth l i).1 ∧ (nth l i).1 ≤ to ∧ 4 ≤ (nth l i).2 ∧ (nth l i).2 ≤ to - (nth l i).1 := by simp [gapBad] at hb; omega
   have w2 : IntKind.i64.wrap ((nth l i).1 + (nth l i).2) = (nth l i).1 + (nth l i).2 := wrap64 (by omega) (by omega)
   rw [hb] at hinv
   refine xY ?_
   refine xO3 ?_
   refine xO ?_ (h := by simp [eObj]; exact .mk)
   refine xC (ct143 g _ _) ?_
   refine xF [1,3,11,34,35,36] ?_
   refine xY ?_
   refine xO ?_
   refine xO ?_ (h := by simp [eObj]; exact .mk)
   refine xO ?_
   refine xO ?_ (h := by simp [eObj]; exact .mk)
   refine xO ?_ (h := by simp [w2]; exact .mk)
   refine xH [1,3,9,34,35,36] ?_
   refine xY ?_
   refine xO2 ?_
   refine xE [1,3,9,34,35,36] ?_
   refine rounds_drop 0 [1,3,9,34,35,36] (by simp) (by simp) (by simp) ?_
   refine rounds_next (m' := l.length - (i+1)) (by omega) ⟨i+1, (nth l i).1 + (nth l i).2, rfl, by omega, by omega, by omega, by simpa using hinv, ?_, rfl⟩
   rw [wrap64 (by omega) (by omega)]; rfl
 intro h37
 obtain rfl : i = l.length := by simp at h37; omega
 have hr : gapsS fr to l = true := by rw [hr0, ← hinv]; simp [gapsOk]
 refine W_exit (xT ?_)
 refine xO3 ?_
 refine xC (ct143 g _ _) ?_
 refine xG [] ?_
 refine xH [8] ?_
 refine W_ret (endAt_drop 0 (by simp [Tryz.f142]; exact .mk) ?_ ?_ (by simp) (by simp) (by simp))
 · simp [hr]
 rfl

theorem ct91 (g : Gl) (fr to : Int) (l : List (Int × Int)) (hl : l.length ≤ 2^40) : CtAt Tryz.prog g 91 [vI fr, vI to, rO l] (.v (.bool (gapsS fr to l))) := by
 refine xA Tryz.func91 fun B S => ?_
 refine xU ?_
 refine xO ?_
 refine xG [0,1,2] ?_
 refine xO3 ?_
 refine run_inl0 rfl rfl rfl rfl (by simp; exact .mk) ⟨_, Tryz.func142, rfl, rfl⟩ (in142 g fr to l hl) (.inr ⟨[], rfl⟩) ?_
 refine xH [6] ?_
 refine W_ret (xR (by simp [Tryz.f91]; exact .mk) ?_)
 simp [Tryz.f91]

open Go.Awp
theorem tableS_slot {l : List Slot} (h : tableS l = true) : ∀ i, i < l.length → slotS1 (nth l i) = true := by
 simp only [tableS, Bool.and_eq_true, List.all_eq_true, List.mem_range] at h
 exact h.1
theorem tableS_len {l : List Slot} (h : tableS l = true) : l.length ≤ 32 := by
 simp only [tableS, Bool.and_eq_true, tnewOk, decide_eq_true_eq] at h
 omega
theorem slotS1_live {s : Slot} (h : slotS1 s = true) (hl : s.live = true) : 0 ≤ s.at_ ∧ s.at_ ≤ 2048 ∧ 1 ≤ s.len ∧ s.len ≤ 2048 := by
 unfold slotS1 at h
 split at h
 · cases h
 · rw [if_neg (by simp [hl])] at h
   simpa using h
theorem twoIx_mem {l : List Slot} {n j : Nat} (h : j ∈ twoIx l n) : j < n ∧ isTwo (nth l j) = true := by
 simp only [twoIx, List.mem_filter, List.mem_range] at h
 exact h
theorem oneIx_mem {l : List Slot} {n j : Nat} (h : j ∈ oneIx l n) : j < n ∧ isOne (nth l j) = true := by
 simp only [oneIx, List.mem_filter, List.mem_range] at h
 exact h
theorem nth_map {α β : Type} [Inhabited α] [Inhabited β] {f : α → β} {l : List α} {i : Nat} (h : i < l.length) : nth (l.map f) i = f (nth l i) := by
 rw [nth_eq (by simpa using h), List.getElem_map, nth_eq h]
theorem nth_mem {α : Type} [Inhabited α] {l : List α} {i : Nat} (h : i < l.length) : nth l i ∈ l := by
 rw [nth_eq h]; exact List.getElem_mem h
theorem twosO_le {l : List Slot} (h : tableS l = true) : ∀ i, i < (twosO l).length → (nth (twosO l) i).1 ≤ 2^40 := by
 intro i hi
 have hi2 : i < (twoIx l l.length).length := by simpa [twosO] using hi
 rw [twosO, nth_map hi2]
 obtain ⟨h1, h2⟩ := twoIx_mem (nth_mem hi2)
 have h3 := slotS1_live (tableS_slot h _ h1) (by simp [isTwo] at h2; exact h2.1)
 simp only [objAt]; omega
theorem twosO_len {l : List Slot} : (twosO l).length ≤ l.length := by simpa [twosO] using twoIx_len
def spanOf (b : Blk) : Int × Int := (b.at_, b.len)
def spansS (l : List Slot) : List (Int × Int) := (onesS l).map spanOf
def modeOk (s : Stt) : Bool := if s.mode = 1 then decide ((twosO s.slots).length = 0) else if s.mode = 2 then decide ((spansS s.slots).length = 0) else true
def sttS (s : Stt) : Bool := superS s.sh s.mode s.base && (rowsS s && ((laidS s.base (twosO s.slots)).isSome && (gapsS (s.base * 32) (s.sh.pages * 32) (spansS s.slots) && modeOk s)))
theorem take_succ {α : Type} [Inhabited α] {l : List α} {i : Nat} (h : i < l.length) : l.take (i + 1) = l.take i ++ [nth l i] := by
 rw [List.take_succ_eq_append_getElem h, nth_eq h]
theorem superS_b {sh : Shape} {mode base : Int} (h : superS sh mode base = true) : 0 ≤ base ∧ base ≤ sh.pages ∧ 1 ≤ sh.pages ∧ sh.pages ≤ 64 := by
 simp only [superS, shapeS, sizedSh, Bool.and_eq_true, decide_eq_true_eq] at h
 omega
theorem rowsS_t {s : Stt} (h : rowsS s = true) : tableS s.slots = true := by
 simp only [rowsS, Bool.and_eq_true] at h; exact h.2.1
open Go.Awp
theorem ct90 (g : Gl) (pages : Int) (l : List (Int × Int)) (hl : l.length ≤ 2^40) (ho : ∀ i, i < l.length → (nth l i).1 ≤ 2^40) : CtAt Tryz.prog g 90 [vI pages, rO l] (.tup [oI (match laidS pages l with | some y => y.1 | none => []), vT (laidS pages l).isSome]) := by
 refine xA Tryz.func90 fun B S => ?_
 have hc := in141 g pages l hl ho
 refine xU ?_
 refine xH2 [0,1] ?_
 refine W_seq ?_
 cases hr : laidS pages l
 · skip
   simp only [hr] at hc
   refine xY ?_
   refine xO2 ?_
   refine run_inl0 rfl rfl rfl rfl (by simp; exact .mk) ⟨_, Tryz.func141, rfl, rfl⟩ hc (.inl (by simp)) ?_
   refine xO5 ?_
   refine xF [6,7] ?_
   refine W_seq (xU ?_)
   refine xO2 ?_
   refine xQ [6,15] ?_ ?_
   · intro h15
     refine xU ?_
     refine xH2 [4,5] ?_
     refine W_ret (xR (by simp [Tryz.f90]; exact .mk) ?_)
     simp [Tryz.f90, ownR]; try rfl
   intro h15
   simp at h15
 skip
 rename_i y
 simp only [hr] at hc
 have hy : y.1.length = pages.toNat := by
  simp only [laidS] at hr
  split at hr
  · cases hr; exact stI_len.1
  cases hr
 rw [← hy] at hc
 refine xY ?_
 refine xO2 ?_
 refine run_inl0 rfl rfl rfl rfl (by simp; exact .mk) ⟨_, Tryz.func141, rfl, rfl⟩ hc (.inl (by simp)) ?_
 refine xO5 ?_
 refine xF [6,7] ?_
 refine W_seq (xU ?_)
 refine xO2 ?_
 refine xQ [6,15] ?_ ?_
 · intro h15
   simp at h15
 intro h15
 refine W_skip ?_
 refine xT ?_
 iterate 6 refine xO ?_
 refine xF [4,5] ?_
 refine W_ret (xR (by simp [Tryz.f90]; exact .mk) ?_)
 simp [Tryz.f90, ownR]; try rfl

theorem ct32 (g : Gl) (s : Stt) (hs : s.Ok) : CtAt Tryz.prog g 32 [eStt s] (.v (.bool (sttS s))) := by
 refine xA Tryz.func32 fun B S => ?_
 simp only [eStt, List.map, argD_agg]
 have q0 := hs.h1
 refine xU ?_
 refine xH2 [1] ?_
 refine W_seq (xU ?_)
 refine xO ?_
 refine xO ?_ (h := by simp [eBlk]; exact .mk)
 refine xO ?_
 refine xO ?_ (h := by simp [eBlk]; exact .mk)
 refine xO ?_
 refine xO ?_ (h := by simp [eBlk]; exact .mk)
 refine xC (ct88 g s.sh s.mode s.base) ?_ (he := by simp [show D.roed ∘ eObj = eObj from funext roed_eObj]; exact .mk)
 refine xO2 ?_
 refine xI ?_ (h := fun hb => by simp [eBlk]; exact .mk)
 refine run_call rfl (by simp; exact .mk) rfl rfl (by simp) (by simp; exact .mk) (by simp [show D.roed ∘ eObj = eObj from funext roed_eObj]; exact .mk) (fun hb => ct89 g s hs) (by simp) (by simp; exact .mk) (by simp) ?_
 refine xI ?_
 refine xP ?_
 refine xQ [1,22] ?_ ?_
 · intro h22
   have hr : sttS s = false := by simp [sttS] at *; grind
   refine xU ?_
   refine xH [2] ?_
   refine W_ret (xR (by simp [Tryz.f32]; exact .mk) ?_)
   first | (simp [Tryz.f32, hr]; done) | (simp [Tryz.f32, hr0]; done) | (simp [Tryz.f32, hr0]; generalize twosO s.slots = V; cases V <;> simp <;> omega) | (simp [Tryz.f32, hr0]; clear hU hm hm2; cases U <;> simp <;> omega)
 intro h22
 have hsu : superS s.sh s.mode s.base = true ∧ rowsS s = true := by simp at h22; exact h22
 have hb := superS_b hsu.1
 have hT := rowsS_t hsu.2
 have hl32 := tableS_len hT
 have hol := onesS_len (l := s.slots)
 have hr0 : sttS s = ((laidS s.base (twosO s.slots)).isSome && (gapsS (s.base * 32) (s.sh.pages * 32) (spansS s.slots) && modeOk s)) := by simp [sttS, hsu]
 refine W_skip ?_
 refine xT ?_
 refine xH [1,3] ?_
 refine W_seq (xU ?_)
 refine xO ?_ (h := by simp [eBlk]; exact .mk)
 refine xC (ct28 g s hs) ?_ (he := by simp [show D.roed ∘ eObj = eObj from funext roed_eObj]; exact .mk)
 refine xH2 [1,3,24,25,26] ?_
 refine W_block ?_
 refine W_rounds (fun m σ o => ∃ i : Nat, m = (onesS s.slots).length - i ∧ i ≤ (onesS s.slots).length ∧ σ = slots [(1, .ptr 0 0 0), (3, .hdr 2 0 i), (24, .hdr 1 0 (onesS s.slots).length), (25, .d (vI (onesS s.slots).length)), (26, .d (vI i))] ∧ o = [.var 28 [.d (vI s.sh.pages), .d (vI s.sh.slots), .d (vI s.sh.roots), .d (vI s.sh.room), .d (vI s.mode), .d (vI s.base), .d (rSl s.slots), .d (rR s.roots), .d (rBB s.data)], .row 3 ((onesS s.slots).map eBlk), .row 2 (((onesS s.slots).take i).map fun b => eObj (spanOf b))]) (onesS s.slots).length
  (Weak.trans (Weak.nilRow 3 2 rfl) (Weak.kills [1,3,24,25,26] rfl) (fun _ _ _ h1 h2 => by rw [← h1.len]; exact h2)) ⟨0, by simp, by simp, by simp, by simp⟩ ?_
 rintro m σ o ⟨i, rfl, hi, rfl, rfl⟩ _
 refine xU ?_
 refine xH [1,3,24,25,26,27] ?_
 refine W_seq (W_cond rfl ?_ ?_)
 · intro h27
   have hi2 : i < (onesS s.slots).length := by simpa using h27
   have e1 : (i + 1) * 16 ≤ 140737488355328 := by omega
   have e2 : i ≤ 140737488355327 := by omega
   have htk : ((onesS s.slots).take i).length = i := by simp; omega
   refine W_skip fun _ => ?_
   refine W_seq (W_block ?_)
   refine xU ?_
   refine xO ?_ (h := by simp [eBlk, hi2]; exact .mk)
   refine xO ?_ (h := by simp [-List.getElem?_map, map_get hi2, eBlk]; exact .mk)
   refine xO ?_
   refine xOs ?_
   refine xF [1,3,5,24,25,26] ?_
   refine xY ?_
   refine xO2 ?_
   refine xO ?_ (h := by simp [eBlk]; exact .mk)
   refine xO ?_
   refine xO ?_ (h := by simp [eBlk]; exact .mk)
   refine xOs ?_
   refine xO ?_
   refine xO ?_ (h := by simp [rows, e1, e2, htk, Nat.min_eq_left hi]; exact .mk)
   refine xH [1,3,24,25,26] ?_
   refine xY ?_
   refine xO2 ?_
   refine xE [1,3,24,25,26] ?_
   refine rounds_kill [1,3,24,25,26] ?_
   refine rounds_kills [1,3,24,25,26] rfl ?_
   refine rounds_swap 2 5 1 (by decide) (by simp) (by decide) rfl rfl ?_
   refine rounds_drop 3 [1,3,24,25,26] (by decide) (by rfl) (by rfl) ?_
   refine rounds_next (m' := (onesS s.slots).length - (i+1)) (by omega) ⟨i+1, rfl, by omega, ?_, ?_⟩
   · rw [wrap64 (by omega) (by omega)]; simp; try rfl
   rw [take_succ hi2]; simp [eObj, spanOf, eBlk]; try rfl
 intro h27
 obtain rfl : i = (onesS s.slots).length := by simp at h27; omega
 obtain ⟨U, hU⟩ : ∃ U, U = spansS s.slots := ⟨_, rfl⟩
 have hm : List.take (onesS s.slots).length (List.map (fun b => eObj (spanOf b)) (onesS s.slots)) = U.map eObj := by rw [hU, spansS, ← List.map_take, List.take_length, List.map_map]; rfl
 have hm2 : (onesS s.slots).length = U.length := by rw [hU, spansS, List.length_map]
 rw [hm, hm2]
 have e4 : IntKind.i64.wrap (s.base * 32) = s.base * 32 := wrap64 (by omega) (by omega)
 have e5 : IntKind.i64.wrap (s.sh.pages * 32) = s.sh.pages * 32 := wrap64 (by omega) (by omega)
 have htl := twosO_len (l := s.slots)
 rw [← hU] at hr0
 refine W_exit (xT ?_)
 refine xO ?_ (h := by simp [eBlk]; exact .mk)
 refine xC (ct22 g s hs) ?_ (he := by simp [show D.roed ∘ eObj = eObj from funext roed_eObj]; exact .mk)
 refine xO5 ?_
 refine xG [1,3,6] ?_
 refine xO ?_
 refine xO ?_ (h := by simp [eBlk]; exact .mk)
 refine xO ?_
 refine xC (ct90 g s.base (twosO s.slots) (by omega) (twosO_le hT)) ?_ (he := by simp [show D.roed ∘ eObj = eObj from funext roed_eObj]; exact .mk)
 refine xO5 ?_
 refine xF [1,3,6,9] ?_
 refine W_seq (W_block ?_)
 refine W_seq (xU ?_)
 refine xO3 ?_
 refine xQ [1,3,6,51] ?_ ?_
 · intro h51
   have hr : sttS s = false := by rw [hr0]; first | (simp at h51'; simp [h51']; done) | (simp at h51; simp [h51]; done)
   refine W_skip fun _ => ?_
   refine W_cond rfl ?_ ?_
   · intro h51'
     have hr : sttS s = false := by rw [hr0]; first | (simp at h51'; simp [h51']; done) | (simp at h51; simp [h51]; done)
     refine xU ?_
     refine xH [2] ?_
     refine W_ret (xR (by simp [Tryz.f32]; exact .mk) ?_)
     first | (simp [Tryz.f32, hr]; done) | (simp [Tryz.f32, hr0]; done) | (simp [Tryz.f32, hr0]; generalize twosO s.slots = V; cases V <;> simp <;> omega) | (simp [Tryz.f32, hr0]; clear hU hm hm2; cases U <;> simp <;> omega)
   intro hq
   cases h51.symm.trans hq
 intro h51
 refine xY ?_
 refine xO ?_
 refine xO ?_ (h := by simp [eBlk]; exact .mk)
 refine xO ?_ (h := by simp [e4]; exact .mk)
 refine xO2 ?_
 refine xO ?_ (h := by simp [eBlk]; exact .mk)
 refine xO ?_ (h := by simp [e5]; exact .mk)
 refine xO ?_
 refine xC (ct91 g (s.base * 32) (s.sh.pages * 32) U (by omega)) ?_ (he := by simp [show D.roed ∘ eObj = eObj from funext roed_eObj]; exact .mk)
 refine xO2 ?_
 refine xQ [1,3,6,51] ?_ ?_
 · intro h51'
   have hr : sttS s = false := by rw [hr0]; first | (simp at h51'; simp [h51']; done) | (simp at h51; simp [h51]; done)
   refine xU ?_
   refine xH [2] ?_
   refine W_ret (xR (by simp [Tryz.f32]; exact .mk) ?_)
   first | (simp [Tryz.f32, hr]; done) | (simp [Tryz.f32, hr0]; done) | (simp [Tryz.f32, hr0]; generalize twosO s.slots = V; cases V <;> simp <;> omega) | (simp [Tryz.f32, hr0]; clear hU hm hm2; cases U <;> simp <;> omega)
 intro h51'
 have hl : (laidS s.base (twosO s.slots)).isSome = true := by simpa using h51
 have hg : gapsS (s.base * 32) (s.sh.pages * 32) U = true := by simpa using h51'
 rw [hl, hg, Bool.true_and, Bool.true_and, modeOk, ← hU] at hr0
 refine xU ?_
 refine xO ?_
 refine xO ?_ (h := by simp [eBlk]; exact .mk)
 refine xO2 ?_
 refine xQ [1,3,6,64] ?_ ?_
 · intro h64
   rw [if_pos (by simpa using h64)] at hr0
   refine xU ?_
   refine xO4 ?_
   refine xF [2] ?_
   refine W_ret (xR (by simp [Tryz.f32]; exact .mk) ?_)
   first | (simp [Tryz.f32, hr]; done) | (simp [Tryz.f32, hr0]; done) | (simp [Tryz.f32, hr0]; generalize twosO s.slots = V; cases V <;> simp <;> omega) | (simp [Tryz.f32, hr0]; clear hU hm hm2; cases U <;> simp <;> omega)
 intro h64
 rw [if_neg (by simpa using h64)] at hr0
 refine xU ?_
 refine xO ?_
 refine xO ?_ (h := by simp [eBlk]; exact .mk)
 refine xO2 ?_
 refine xQ [3,71] ?_ ?_
 · intro h71
   rw [if_pos (by simpa using h71)] at hr0
   refine xU ?_
   refine xO4 ?_
   refine xF [2] ?_
   refine W_ret (xR (by simp [Tryz.f32]; exact .mk) ?_)
   first | (simp [Tryz.f32, hr]; done) | (simp [Tryz.f32, hr0]; done) | (simp [Tryz.f32, hr0]; generalize twosO s.slots = V; cases V <;> simp <;> omega) | (simp [Tryz.f32, hr0]; clear hU hm hm2; cases U <;> simp <;> omega)
 intro h71
 rw [if_neg (by simpa using h71)] at hr0
 refine W_skip ?_
 refine xT ?_
 refine xH [2] ?_
 refine W_ret (xR (by simp [Tryz.f32]; exact .mk) ?_)
 first | (simp [Tryz.f32, hr]; done) | (simp [Tryz.f32, hr0]; done) | (simp [Tryz.f32, hr0]; generalize twosO s.slots = V; cases V <;> simp <;> omega) | (simp [Tryz.f32, hr0]; clear hU hm hm2; cases U <;> simp <;> omega)

open Go.Awp
def oStt (s : Stt) : D := .agg [vI s.sh.pages, vI s.sh.slots, vI s.sh.roots, vI s.sh.room, vI s.mode, vI s.base, oSl s.slots, oR s.roots, oBB s.data]
@[simp] theorem noSn_oStt (s : Stt) : (oStt s).noSn = true := by simp [oStt]
@[simp] theorem noRo_oStt (s : Stt) : (oStt s).noRo = true := by simp [oStt]
def zStt : Stt := ⟨⟨0, 0, 0, 0⟩, 0, 0, [], [], []⟩
def baseOf (sh : Shape) (mode : Int) : Int := if mode = 2 then sh.pages else 0
def firstStt (sh : Shape) (mode : Int) : Stt := ⟨sh, mode, baseOf sh mode, List.replicate sh.slots.toNat zSlot, List.replicate sh.roots.toNat zRoot, List.replicate sh.slots.toNat []⟩
def newS (sh : Shape) (mode : Int) : Stt × Int := if superS sh mode (baseOf sh mode) && decide (mode ≤ 2) then (firstStt sh mode, 0) else (zStt, 1)
def fewStt (s : Stt) : Bool := (List.range (min s.data.length 100)).all (fun i => decide (((nth s.data i).length : Int) ≤ 4096)) && ((List.range (min s.roots.length 100)).all (fun i => decide (((nth s.roots i).name.size : Int) ≤ 1024))
  && (decide ((s.slots.length : Int) ≤ 60) && (decide ((s.roots.length : Int) ≤ 60) && decide ((s.data.length : Int) ≤ 60))))
theorem fewStt_ok {s : Stt} (h : fewStt s = true) : s.Ok := by
 simp [fewStt] at h
 obtain ⟨h1, h2, h3, h4, h5⟩ := h
 refine ⟨by omega, by omega, by omega, fun i hi => ?_, fun i hi => ?_⟩
 · have := h1 i (by omega); omega
 · have := h2 i (by omega); omega
def sh4 : Shape := ⟨4, 4, 2, 30⟩
theorem superS_sh {sh : Shape} {mode base : Int} (h : superS sh mode base = true) : (2 ≤ sh.slots ∧ sh.slots ≤ 32 ∧ sh.slots.tmod 2 = 0) ∧ 2 ≤ sh.roots ∧ sh.roots ≤ 8 ∧ sh.roots.tmod 2 = 0 := by
 simp only [superS, shapeS, sizedSh, Bool.and_eq_true, decide_eq_true_eq] at h
 omega
theorem superS_tnew {sh : Shape} {mode base : Int} (h : superS sh mode base = true) : tnewOk sh.slots = true := by
 simp only [tnewOk, decide_eq_true_eq]; exact (superS_sh h).1
theorem superS_rnew {sh : Shape} {mode base : Int} (h : superS sh mode base = true) : newOk sh.roots = true := by
 have := (superS_sh h).2
 simp [newOk]; omega
open Go.Awp
theorem ct53 (g : Gl) (sh : Shape) (mode : Int) : CtAt Tryz.prog g 53 [eShape sh, vI mode] (.tup [oStt (newS sh mode).1, vI (newS sh mode).2]) := by
 refine xA Tryz.func53 fun B S => ?_
 simp only [eShape, List.map, argD_agg, argD_v]
 refine xU ?_
 refine xO3 ?_
 refine xG [1,2,4] ?_
 refine xH [1,2,4,6] ?_
 refine W_seq (xU ?_)
 refine xO2 ?_
 refine xQ [1,2,4,6,12] ?_ ?_
 · intro h12
   have hm : mode = 2 := by simpa using h12
   have hb : baseOf sh mode = sh.pages := by rw [baseOf, if_pos hm]
   refine xY ?_
   refine xH3 [1,2,4,6] ?_
   refine W_seq (xU ?_)
   refine xO3 ?_
   refine run_call0 rfl rfl rfl rfl (by simp; exact .mk) (by simp; exact .mk) (by first | exact ct88 g sh mode sh.pages | exact ct88 g sh mode 0) (by simp) (by simp; exact .mk) ?_
   refine xO2 ?_
   iterate 2 refine xI ?_
   refine xP ?_
   refine xQ [1,2,4,6,23] ?_ ?_
   · intro h23
     have hr : newS sh mode = (zStt, 1) := by unfold newS; rw [hb, if_neg]; simp at h23 ⊢; grind
     refine xU ?_
     iterate 2 (refine xOs ?_)
     refine xH [4,5] ?_
     refine W_ret (end_ret (by simp [Tryz.f53]; exact .mk) (by simp; exact .mk) ?_ (by simp [oStt]))
     simp [Tryz.f53, hr, oStt, zStt, firstStt, hb, ownR]
   intro h23
   have hs : superS sh mode (baseOf sh mode) = true ∧ mode ≤ 2 := by rw [hb]; simp at h23; exact h23
   have hr : newS sh mode = (firstStt sh mode, 0) := by unfold newS; rw [if_pos]; simp [hs]
   have c67 := ct120 g sh.slots
   have c68 := ct121 g sh.roots
   simp only [superS_tnew hs.1, superS_rnew hs.1, if_true] at c67 c68
   have hsh := superS_sh hs.1
   have e0 : 0 ≤ sh.slots := by omega
   have e1 : 24 * sh.slots ≤ 140737488355328 := by omega
   have e2 : sh.slots ≤ 140737488355328 := by omega
   refine W_skip ?_
   refine xT ?_
   refine xO2 ?_
   refine xC (c67) ?_
   refine xO5 ?_
   refine xG [1,2,4,6,7] ?_
   refine xO2 ?_
   refine xC (c68) ?_
   refine xO5 ?_
   refine xF [1,2,4,6,7,9] ?_
   refine W_seq ?_
   refine W_regD (by kernel_rfl) [] 4 [0,1,2,3,4,5,6,7,8,9,10] (by decide +kernel) ?_
   iterate 7 refine xO ?_
   refine xO ?_ (h := by simp [e0, e1, e2]; exact .mk)
   iterate 2 (refine xOs ?_)
   refine xH [4,5] ?_
   refine W_ret (end_ret (by simp [Tryz.f53]; exact .mk) (by simp; exact .mk) ?_ (by simp [oStt]))
   simp [Tryz.f53, hr, oStt, zStt, firstStt, hb, ownR]
 intro h12
 have hm : mode ≠ 2 := by simpa using h12
 have hb : baseOf sh mode = 0 := by rw [baseOf, if_neg hm]
 refine W_skip fun _ => ?_
 refine W_seq (xU ?_)
 refine xO3 ?_
 refine run_call0 rfl rfl rfl rfl (by simp; exact .mk) (by simp; exact .mk) (by first | exact ct88 g sh mode sh.pages | exact ct88 g sh mode 0) (by simp) (by simp; exact .mk) ?_
 refine xO2 ?_
 iterate 2 refine xI ?_
 refine xP ?_
 refine xQ [1,2,4,6,23] ?_ ?_
 · intro h23
   have hr : newS sh mode = (zStt, 1) := by unfold newS; rw [hb, if_neg]; simp at h23 ⊢; grind
   refine xU ?_
   iterate 2 (refine xOs ?_)
   refine xH [4,5] ?_
   refine W_ret (end_ret (by simp [Tryz.f53]; exact .mk) (by simp; exact .mk) ?_ (by simp [oStt]))
   simp [Tryz.f53, hr, oStt, zStt, firstStt, hb, ownR]
 intro h23
 have hs : superS sh mode (baseOf sh mode) = true ∧ mode ≤ 2 := by rw [hb]; simp at h23; exact h23
 have hr : newS sh mode = (firstStt sh mode, 0) := by unfold newS; rw [if_pos]; simp [hs]
 have c67 := ct120 g sh.slots
 have c68 := ct121 g sh.roots
 simp only [superS_tnew hs.1, superS_rnew hs.1, if_true] at c67 c68
 have hsh := superS_sh hs.1
 have e0 : 0 ≤ sh.slots := by omega
 have e1 : 24 * sh.slots ≤ 140737488355328 := by omega
 have e2 : sh.slots ≤ 140737488355328 := by omega
 refine W_skip ?_
 refine xT ?_
 refine xO2 ?_
 refine xC (c67) ?_
 refine xO5 ?_
 refine xG [1,2,4,6,7] ?_
 refine xO2 ?_
 refine xC (c68) ?_
 refine xO5 ?_
 refine xF [1,2,4,6,7,9] ?_
 refine W_seq ?_
 refine W_regD (by kernel_rfl) [] 4 [0,1,2,3,4,5,6,7,8,9,10] (by decide +kernel) ?_
 iterate 7 refine xO ?_
 refine xO ?_ (h := by simp [e0, e1, e2]; exact .mk)
 iterate 2 (refine xOs ?_)
 refine xH [4,5] ?_
 refine W_ret (end_ret (by simp [Tryz.f53]; exact .mk) (by simp; exact .mk) ?_ (by simp [oStt]))
 simp [Tryz.f53, hr, oStt, zStt, firstStt, hb, ownR]

theorem ct20 (g : Gl) (s : Stt) : CtAt Tryz.prog g 20 [eStt s] (.v (.bool (fewStt s))) := by
 refine xA Tryz.func20 fun B S => ?_
 simp only [eStt, List.map, argD_agg]
 refine xU ?_
 refine xH2 [1] ?_
 refine W_seq (xU ?_)
 refine xH [1,3] ?_
 refine W_block (W_rounds (fun m σ r => ∃ i : Nat, m = 100 - i ∧ i ≤ min s.data.length 100 ∧ (∀ j, j < i → decide (((nth s.data j).length : Int) ≤ 4096) = true) ∧ σ = slots [(1, .ptr 0 0 0), (3, .d (vI i))] ∧ r = [.var 28 [.d (vI s.sh.pages), .d (vI s.sh.slots), .d (vI s.sh.roots), .d (vI s.sh.room), .d (vI s.mode), .d (vI s.base), .d (rSl s.slots), .d (rR s.roots), .d (rBB s.data)]]) 100 .refl ⟨0, by simp, by simp, by simp, rfl, rfl⟩ ?_)
 rintro m σ r ⟨i, rfl, hi, hinv, rfl, rfl⟩ _
 refine W_seq (xU ?_)
 refine xO2 ?_
 refine xO ?_ (h := by simp [eRoot]; exact .mk)
 refine xO3 ?_
 iterate 2 refine xI ?_
 refine xP ?_
 refine xQ [1,3,13] ?_ ?_
 · intro h13
   have h1 : i < s.data.length ∧ i < 100 := by simp at h13; omega
   have h2 := h1.1
   refine W_skip fun _ => ?_
   refine W_seq (W_block ?_)
   refine xU ?_
   refine xO ?_
   refine xO ?_ (h := by simp [eRoot]; exact .mk)
   refine xO ?_
   refine xO ?_ (h := by simp [eRoot, h2]; exact .mk)
   refine xO ?_ (h := by simp [eRoot]; exact .mk)
   refine xO2 ?_
   refine xQ [1,3,22] ?_ ?_
   · intro h22
     have hr : fewStt s = false := by
      have : (List.range (min s.data.length 100)).all (fun i => decide (((nth s.data i).length : Int) ≤ 4096)) = false := all_bad (i := i) (by omega) (by simpa using h22)
      simp [fewStt, this]
     refine xU ?_
     refine xH [2] ?_
     refine W_ret (xR (by simp [Tryz.f20]; exact .mk) ?_)
     simp [Tryz.f20, hr] <;> try (simp [Bool.and_assoc])
   intro h22
   refine W_skip fun _ => ?_
   refine xY ?_
   refine xO3 ?_
   refine xE [1,3] ?_
   refine rounds_kill [1,3] ?_
   refine rounds_next (m' := 100 - (i+1)) (by omega) ⟨i+1, rfl, by omega, ?_, ?_, rfl⟩
   · intro j hj
     rcases Nat.lt_succ_iff_lt_or_eq.1 hj with hj | rfl
     · exact hinv j hj
     simpa using h22
   rw [wrap64 (by omega) (by omega)]; rfl
 intro h13
 have q1 : (List.range (min s.data.length 100)).all (fun i => decide (((nth s.data i).length : Int) ≤ 4096)) = true := all_good (fun j hj => hinv j (by simp at h13; omega))
 refine W_exit ?_
 rintro -
 refine W_seq (xU ?_)
 refine xH [1,4] ?_
 refine W_block (W_rounds (fun m σ r => ∃ i : Nat, m = 100 - i ∧ i ≤ min s.roots.length 100 ∧ (∀ j, j < i → decide (((nth s.roots j).name.size : Int) ≤ 1024) = true) ∧ σ = slots [(1, .ptr 0 0 0), (4, .d (vI i))] ∧ r = [.var 28 [.d (vI s.sh.pages), .d (vI s.sh.slots), .d (vI s.sh.roots), .d (vI s.sh.room), .d (vI s.mode), .d (vI s.base), .d (rSl s.slots), .d (rR s.roots), .d (rBB s.data)]]) 100 .refl ⟨0, by simp, by simp, by simp, rfl, rfl⟩ ?_)
 rintro m σ r ⟨i, rfl, hi, hinv, rfl, rfl⟩ _
 refine W_seq (xU ?_)
 refine xO2 ?_
 refine xO ?_ (h := by simp [eRoot]; exact .mk)
 refine xO3 ?_
 iterate 2 refine xI ?_
 refine xP ?_
 refine xQ [1,4,31] ?_ ?_
 · intro h31
   have h1 : i < s.roots.length ∧ i < 100 := by simp at h31; omega
   have h2 := h1.1
   refine W_skip fun _ => ?_
   refine W_seq (W_block ?_)
   refine xU ?_
   refine xO ?_
   refine xO ?_ (h := by simp [eRoot]; exact .mk)
   refine xO ?_
   refine xO ?_ (h := by simp [eRoot, h2]; exact .mk)
   refine xO ?_
   refine xO ?_ (h := by simp [eRoot]; exact .mk)
   refine xO2 ?_
   refine xQ [1,4,41] ?_ ?_
   · intro h41
     have hr : fewStt s = false := by
      have : (List.range (min s.roots.length 100)).all (fun i => decide (((nth s.roots i).name.size : Int) ≤ 1024)) = false := all_bad (i := i) (by omega) (by simpa using h41)
      simp [fewStt, this]
     refine xU ?_
     refine xH [2] ?_
     refine W_ret (xR (by simp [Tryz.f20]; exact .mk) ?_)
     simp [Tryz.f20, hr] <;> try (simp [Bool.and_assoc])
   intro h41
   refine W_skip fun _ => ?_
   refine xY ?_
   refine xO3 ?_
   refine xE [1,4] ?_
   refine rounds_kill [1,4] ?_
   refine rounds_next (m' := 100 - (i+1)) (by omega) ⟨i+1, rfl, by omega, ?_, ?_, rfl⟩
   · intro j hj
     rcases Nat.lt_succ_iff_lt_or_eq.1 hj with hj | rfl
     · exact hinv j hj
     simpa using h41
   rw [wrap64 (by omega) (by omega)]; rfl
 intro h31
 have q2 : (List.range (min s.roots.length 100)).all (fun i => decide (((nth s.roots i).name.size : Int) ≤ 1024)) = true := all_good (fun j hj => hinv j (by simp at h31; omega))
 have hr : fewStt s = (decide ((s.slots.length : Int) ≤ 60) && (decide ((s.roots.length : Int) ≤ 60) && decide ((s.data.length : Int) ≤ 60))) := by rw [fewStt, q1, q2]; rfl
 refine W_exit (xT ?_)
 refine xO ?_
 refine xO ?_ (h := by simp [eRoot]; exact .mk)
 refine xO3 ?_
 refine xI ?_
 refine xI ?_ (h := fun hb => by simp [eRoot]; exact .mk)
 iterate 2 refine xI ?_
 refine xP ?_
 refine xB ?_
 refine xI ?_
 refine xI ?_ (h := fun hb => by simp [eRoot]; exact .mk)
 iterate 2 refine xI ?_
 refine xP ?_
 refine xB ?_
 refine xF [2] ?_
 refine W_ret (xR (by simp [Tryz.f20]; exact .mk) ?_)
 simp [Tryz.f20, hr] <;> try (simp [Bool.and_assoc])

open Go.Awp
theorem sttS_rows {s : Stt} (h : sttS s = true) : tableS s.slots = true := by
 simp only [sttS, Bool.and_eq_true] at h; exact rowsS_t h.2.1
theorem sttS_gaps {s : Stt} (h : sttS s = true) : gapsS (s.base * 32) (s.sh.pages * 32) (spansS s.slots) = true := by
 simp only [sttS, Bool.and_eq_true] at h; exact h.2.2.2.1
theorem sttS_super {s : Stt} (h : sttS s = true) : superS s.sh s.mode s.base = true := by
 simp only [sttS, Bool.and_eq_true] at h; exact h.1
theorem onesS_mem {l : List Slot} {b : Blk} (h : b ∈ onesS l) : ∃ k : Nat, k < l.length ∧ isOne (nth l k) = true ∧ b = blkAt l k := by
 have h1 : b ∈ onesR l := (stS_perm (onesR l)).mem_iff.1 h
 simp only [onesR, List.mem_map] at h1
 obtain ⟨k, hk, rfl⟩ := h1
 exact ⟨k, (oneIx_mem hk).1, (oneIx_mem hk).2, rfl⟩
theorem twosI_len {l : List Slot} : (twosI l).length = (twosO l).length := by simp [twosI, twosO]
open Go.Awp
def apartS (a b : Spot) : Prop := (a.small = true ∧ b.small = true ∧ a.cls = b.cls ∧ a.cell ≠ b.cell) ∨ a.page + a.count ≤ b.page ∨ b.page + b.count ≤ a.page
def Holds (st : List Int × List Nat) (a : Spot) : Prop := (a.small = true → nth st.1 a.page.toNat = a.cls ∧ (nth st.2 a.page.toNat).testBit a.cell.toNat = true) ∧ (a.small = false → ∀ t : Nat, (t : Int) < a.count → nth st.1 (a.page.toNat + t) = 7 ∨ nth st.1 (a.page.toNat + t) = 6)
structure GoodSpot (pages : Int) (a : Spot) : Prop where
 p0 : 0 ≤ a.page
 c1 : 1 ≤ a.count
 p1 : a.page + a.count ≤ pages
 s1 : a.small = true → a.count = 1 ∧ 0 ≤ a.cls ∧ a.cls < 6 ∧ 0 ≤ a.cell ∧ a.cell < 64
theorem nth_set2 {α : Type} [Inhabited α] {l : List α} {i j : Nat} {x : α} (hi : i < l.length) : nth (l.set i x) j = if i = j then x else nth l j := by
 by_cases hj : j < l.length
 · rw [nth_eq (by simpa using hj), List.getElem_set]
   split
   · rfl
   · rw [nth_eq hj]
 · rw [if_neg (by omega)]
   simp only [nth]
   rw [List.getD_eq_getElem?_getD, List.getD_eq_getElem?_getD, List.getElem?_eq_none (by simpa using hj), List.getElem?_eq_none (by omega)]
theorem fillF_spec {p : Nat} : ∀ {f j : Nat} {l : List Int}, (fillF p f j l).1 = true → p + j + f ≤ l.length → (∀ t, j ≤ t → t < j + f → nth l (p + t) = -1) ∧ ∀ x, nth (fillF p f j l).2 x = if p + j ≤ x ∧ x < p + j + f then 7 else nth l x
 | 0, j, l, h, hl => ⟨fun t h1 h2 => by omega, fun x => by rw [if_neg (by omega)]; rfl⟩
 | f + 1, j, l, h, hl => by
  by_cases hq : nth l (p + j) = -1
  · rw [fillF_t hq] at h ⊢
    obtain ⟨h1, h2⟩ := fillF_spec h (by simp; omega)
    constructor
    · intro t ht1 ht2
      by_cases e : t = j
      · subst e; exact hq
      · have := h1 t (by omega) (by omega)
        rwa [nth_set2 (by omega), if_neg (by omega)] at this
    · intro x
      rw [h2, nth_set2 (by omega)]
      by_cases e : p + j = x
      · subst e; rw [if_neg (by omega), if_pos rfl, if_pos (by omega)]
      · rw [if_neg e]
        by_cases e2 : p + (j + 1) ≤ x ∧ x < p + (j + 1) + f
        · rw [if_pos e2, if_pos (by omega)]
        · rw [if_neg e2, if_neg (by omega)]
  · rw [fillF_f hq] at h; cases h
theorem and_pow {m c : Nat} (h : m &&& 2 ^ c = 0) : m.testBit c = false := by
 have := congrArg (fun x => x.testBit c) h
 simpa [Nat.testBit_and, Nat.testBit_two_pow_self] using this
theorem lay_step {pages : Int} {st : List Int × List Nat} {b : Spot} (hp : pages ≤ 64) (h1 : st.1.length = pages.toNat) (h2 : st.2.length = 64) (hb : GoodSpot pages b)
    (h : (layS st.1 st.2 b.page.toNat b.count.toNat b.small b.cls b.cell.toNat).1 = true) :
    (∀ a, GoodSpot pages a → Holds st a → apartS a b ∧ Holds (layS st.1 st.2 b.page.toNat b.count.toNat b.small b.cls b.cell.toNat).2 a) ∧ Holds (layS st.1 st.2 b.page.toNat b.count.toNat b.small b.cls b.cell.toNat).2 b := by
 obtain ⟨bp, bc, bs, bk, bl⟩ := b
 obtain ⟨p0, c1, p1, s1⟩ := hb
 simp only at p0 c1 p1 s1 h ⊢
 have hpl : bp.toNat < st.1.length := by omega
 have hpm : bp.toNat < st.2.length := by omega
 unfold layS at h ⊢
 by_cases hs : bs = true
 · subst hs
   obtain ⟨rfl, k0, k6, l0, l64⟩ := s1 rfl
   simp only [if_true] at h ⊢
   by_cases hc : nth st.1 bp.toNat = bk ∧ nth st.2 bp.toNat &&& 2 ^ bl.toNat = 0
   · rw [if_pos hc] at h ⊢
     have hbit := and_pow hc.2
     refine ⟨fun a ga ha => ⟨?_, ?_⟩, ?_⟩
     · by_cases hpp : a.page + a.count ≤ bp ∨ bp + 1 ≤ a.page
       · exact .inr hpp
       · left
         cases has : a.small with
         | true =>
          obtain ⟨q1, q2⟩ := ha.1 has
          have gs := ga.s1 has
          have hpe : a.page = bp := by have := gs.1; omega
          rw [hpe] at q1 q2
          refine ⟨rfl, rfl, by rw [← q1, hc.1], fun e => ?_⟩
          simp only at e
          rw [e] at q2
          rw [hbit] at q2; cases q2
         | false =>
          exfalso
          have := ha.2 has (bp - a.page).toNat (by have := ga.c1; omega)
          rw [show a.page.toNat + (bp - a.page).toNat = bp.toNat by have := ga.p0; omega, hc.1] at this
          omega
     · refine ⟨fun has => ?_, fun has t ht => ha.2 has t ht⟩
       obtain ⟨q1, q2⟩ := ha.1 has
       refine ⟨q1, ?_⟩
       rw [nth_set2 hpm]
       split
       · rename_i e; rw [← e] at q2; rw [Nat.testBit_or, q2]; rfl
       · exact q2
     · refine ⟨fun _ => ⟨hc.1, ?_⟩, fun e => by cases e⟩
       simp only
       rw [nth_set2 hpm, if_pos rfl, Nat.testBit_or, Nat.testBit_two_pow_self]; simp
   · rw [if_neg hc] at h ⊢
     by_cases hf : nth st.1 bp.toNat = -1
     · rw [if_pos hf] at h ⊢
       have nopage : ∀ a, GoodSpot pages a → Holds st a → a.page + a.count ≤ bp ∨ bp + 1 ≤ a.page := by
        intro a ga ha
        by_cases hpp : a.page + a.count ≤ bp ∨ bp + 1 ≤ a.page
        · exact hpp
        · exfalso
          cases has : a.small with
          | true =>
           obtain ⟨q1, _⟩ := ha.1 has
           have gs := ga.s1 has
           rw [show a.page = bp by omega, hf] at q1
           omega
          | false =>
           have := ha.2 has (bp - a.page).toNat (by have := ga.c1; omega)
           rw [show a.page.toNat + (bp - a.page).toNat = bp.toNat by have := ga.p0; omega, hf] at this
           omega
       refine ⟨fun a ga ha => ⟨.inr (nopage a ga ha), ?_⟩, ?_⟩
       · have hn := nopage a ga ha
         have h0 := ga.p0
         have h1 := ga.c1
         refine ⟨fun has => ?_, fun has t ht => ?_⟩
         · obtain ⟨q1, q2⟩ := ha.1 has
           simp only
           rw [nth_set2 hpl, nth_set2 hpm, if_neg (by omega), if_neg (by omega)]
           exact ⟨q1, q2⟩
         · simp only
           rw [nth_set2 hpl, if_neg (by omega)]
           exact ha.2 has t ht
       · refine ⟨fun _ => ⟨?_, ?_⟩, fun e => by cases e⟩
         · simp only; rw [nth_set2 hpl, if_pos rfl]
         · simp only; rw [nth_set2 hpm, if_pos rfl, Nat.testBit_two_pow_self]
     · rw [if_neg hf] at h; cases h
 · have hs2 : bs = false := by simpa using hs
   subst hs2
   simp only [Bool.false_eq_true, if_false] at h ⊢
   by_cases hf : (fillF bp.toNat bc.toNat 0 st.1).1 = true
   · rw [if_pos hf] at h ⊢
     obtain ⟨g1, g2⟩ := fillF_spec hf (by omega)
     have hlen : bp.toNat < (fillF bp.toNat bc.toNat 0 st.1).2.length := by rw [fillF_len]; exact hpl
     have val : ∀ x, nth ((fillF bp.toNat bc.toNat 0 st.1).2.set bp.toNat 6) x = if bp.toNat = x then 6 else if bp.toNat ≤ x ∧ x < bp.toNat + bc.toNat then 7 else nth st.1 x := by
      intro x
      rw [nth_set2 hlen, g2]
      simp only [Nat.add_zero]
     have nopage : ∀ a, GoodSpot pages a → Holds st a → a.page + a.count ≤ bp ∨ bp + bc ≤ a.page := by
      intro a ga ha
      by_cases hpp : a.page + a.count ≤ bp ∨ bp + bc ≤ a.page
      · exact hpp
      · exfalso
        have h0 := ga.p0
        have h1 := ga.c1
        cases has : a.small with
        | true =>
         obtain ⟨q1, _⟩ := ha.1 has
         have gs := ga.s1 has
         have := g1 (a.page - bp).toNat (by omega) (by omega)
         rw [show bp.toNat + (a.page - bp).toNat = a.page.toNat by omega, q1] at this
         omega
        | false =>
         by_cases hle : a.page ≤ bp
         · have e1 := ha.2 has (bp - a.page).toNat (by omega)
           have e2 := g1 0 (by omega) (by omega)
           rw [show a.page.toNat + (bp - a.page).toNat = bp.toNat + 0 by omega, e2] at e1
           omega
         · have e1 := ha.2 has 0 (by omega)
           have e2 := g1 (a.page - bp).toNat (by omega) (by omega)
           rw [show bp.toNat + (a.page - bp).toNat = a.page.toNat + 0 by omega] at e2
           simp only [Nat.add_zero] at e1 e2
           rw [e2] at e1
           omega
     refine ⟨fun a ga ha => ⟨.inr (nopage a ga ha), ?_⟩, ?_⟩
     · have hn := nopage a ga ha
       have h0 := ga.p0
       have h1 := ga.c1
       refine ⟨fun has => ?_, fun has t ht => ?_⟩
       · obtain ⟨q1, q2⟩ := ha.1 has
         refine ⟨?_, q2⟩
         simp only
         rw [val, if_neg (by omega), if_neg (by omega)]; exact q1
       · simp only
         rw [val, if_neg (by omega), if_neg (by omega)]; exact ha.2 has t ht
     · refine ⟨fun e => (by cases e), fun _ t ht => ?_⟩
       simp only at ht ⊢
       rw [val]
       split
       · exact .inr rfl
       · rw [if_pos (by omega)]; exact .inl rfl
   · rw [if_neg hf] at h; cases h
open Go.Awp
theorem wordsL_k {k : Nat} (h : k < 6) : nth wordsL k = 2 ∨ nth wordsL k = 3 ∨ nth wordsL k = 5 ∨ nth wordsL k = 7 ∨ nth wordsL k = 10 ∨ nth wordsL k = 15 := by
 have : k = 0 ∨ k = 1 ∨ k = 2 ∨ k = 3 ∨ k = 4 ∨ k = 5 := by omega
 rcases this with h | h | h | h | h | h <;> subst h <;> decide
theorem classS_spec {n : Int} (h : (classS n).2 = true) : 1 ≤ n ∧ ∃ k : Nat, k < 6 ∧ (classS n).1 = k ∧ n ≤ nth wordsL k * 8 := by
 unfold classS at h ⊢
 split
 · rename_i h1; rw [if_pos h1] at h; simp at h
 · rename_i h1
   rw [if_neg h1] at h
   refine ⟨by omega, ?_⟩
   cases hf : wordsL.findIdx? (fun w => decide (n ≤ w * 8)) with
   | none => rw [hf] at h; simp at h
   | some k =>
    obtain ⟨h2, h3, _⟩ := List.findIdx?_eq_some_iff_getElem.1 hf
    exact ⟨k, h2, rfl, by rw [nth_eq h2]; simpa using h3⟩
structure SpotW (pages : Int) (o : Int × Int) (a : Spot) : Prop where
 good : GoodSpot pages a
 sm : a.small = true → ∃ k : Nat, k < 6 ∧ a.cls = k ∧ o.1 = 32 * a.page + 4 + a.cell * nth wordsL k ∧ (o.2 + 7).tdiv 8 ≤ nth wordsL k ∧ 4 + (a.cell + 1) * nth wordsL k ≤ 32
 lg : a.small = false → o.1 = 32 * a.page ∧ (o.2 + 7).tdiv 8 ≤ 32 * a.count
theorem spot_words {pages : Int} {o : Int × Int} (h : (spotS pages o).2 = true) : SpotW pages o (spotS pages o).1 := by
 unfold spotS at h ⊢
 split
 · rename_i h1; rw [if_pos h1] at h; simp at h
 · rename_i h1
   rw [if_neg h1] at h
   have hdm : o.1 = 32 * o.1.tdiv 32 + o.1.tmod 32 := by
    rw [Int.tdiv_eq_ediv_of_nonneg (by omega), Int.tmod_eq_emod_of_nonneg (by omega)]; omega
   have hp : 0 ≤ o.1.tdiv 32 := Int.tdiv_nonneg (by omega) (by omega)
   have hm : 0 ≤ o.1.tmod 32 ∧ o.1.tmod 32 < 32 := by rw [Int.tmod_eq_emod_of_nonneg (by omega)]; omega
   split
   · rename_i h2
     rw [if_pos h2] at h
     simp only [Bool.and_eq_true, decide_eq_true_eq] at h
     obtain ⟨hn, k, hk, hcls, hlen⟩ := classS_spec h2
     obtain ⟨hw, hpg⟩ := h
     rw [hcls] at hw ⊢
     simp only
     have hwk := wordsL_k hk
     have hwb : 2 ≤ nth wordsL k ∧ nth wordsL k ≤ 15 := by omega
     obtain ⟨w, hwe⟩ : ∃ w, w = nth wordsL k := ⟨_, rfl⟩
     have hlen2 : (o.2 + 7).tdiv 8 ≤ w := by
      rw [Int.tdiv_eq_ediv_of_nonneg (by omega)]; omega
     have hcell : ∃ c : Int, (whichS k (o.1.tmod 32)).1 = c ∧ 0 ≤ c ∧ o.1.tmod 32 = 4 + c * w ∧ 4 + (c + 1) * w ≤ 32 := by
      unfold whichS at hw ⊢
      split
      · rename_i h3; rw [if_pos h3] at hw; simp at hw
      · rename_i h3
        rw [if_neg h3] at hw
        split
        · rename_i h4; rw [if_pos h4] at hw; simp at hw
        · rename_i h4
          simp only [Int.toNat_natCast] at h4 ⊢
          refine ⟨_, rfl, Int.tdiv_nonneg (by omega) (by omega), ?_⟩
          rw [← hwe] at h4 ⊢
          have h5 : ¬ (28 : Int).tdiv w ≤ (o.1.tmod 32 - 4).tdiv w := by omega
          have h6 : (o.1.tmod 32 - 4).tmod w = 0 := by omega
          generalize hx : o.1.tmod 32 - 4 = x at h5 h6
          have hx0 : 0 ≤ x := by omega
          rw [Int.tdiv_eq_ediv_of_nonneg (by omega), Int.tdiv_eq_ediv_of_nonneg hx0] at h5
          rw [Int.tmod_eq_emod_of_nonneg hx0] at h6
          rw [Int.tdiv_eq_ediv_of_nonneg hx0]
          rw [← hwe] at hwk
          rcases hwk with e | e | e | e | e | e <;> rw [e] at h5 h6 ⊢ <;> omega
     obtain ⟨c, e1, e2, e3, e4⟩ := hcell
     rw [e1]
     have hc : c < 64 := by
      rw [← hwe] at hwk
      rcases hwk with e | e | e | e | e | e <;> rw [e] at e4 <;> omega
     refine ⟨⟨hp, by simp, by simp only; omega, fun _ => ⟨rfl, by simp only; omega, by simp only; omega, e2, hc⟩⟩, fun _ => ⟨k, hk, rfl, ?_, by rw [← hwe]; exact hlen2, by rw [← hwe]; exact e4⟩, fun e => by cases e⟩
     simp only
     rw [← hwe]
     generalize c * w = y at e3 ⊢
     omega
   · rename_i h2
     rw [if_neg h2] at h
     simp only [Bool.and_eq_true, decide_eq_true_eq] at h
     obtain ⟨⟨⟨q1, q2⟩, q3⟩, q4⟩ := h
     have hk : 1 ≤ (pagesS o.2).1 ∧ (o.2 + 7).tdiv 8 ≤ 32 * (pagesS o.2).1 := by
      unfold pagesS at q1 ⊢
      split
      · rename_i h3; rw [if_pos h3] at q1; simp at q1
      · simp only; rw [Int.tdiv_eq_ediv_of_nonneg (by omega), Int.tdiv_eq_ediv_of_nonneg (by omega)]; omega
     refine ⟨⟨hp, hk.1, by simp only; omega, fun e => (by cases e)⟩, fun e => (by cases e), fun _ => ⟨by simp only; omega, hk.2⟩⟩
theorem okI_spot {pages : Int} {l : List (Int × Int)} {i : Nat} (h : okI pages l i = true) : (spotS pages (nth l i)).2 = true := by
 unfold okI layO at h
 split at h
 · assumption
 · simp at h
theorem okI_lay {pages : Int} {l : List (Int × Int)} {i : Nat} (h : okI pages l i = true) : stI pages l (i + 1) = (layS (stI pages l i).1 (stI pages l i).2 (spotS pages (nth l i)).1.page.toNat (spotS pages (nth l i)).1.count.toNat (spotS pages (nth l i)).1.small (spotS pages (nth l i)).1.cls (spotS pages (nth l i)).1.cell.toNat).2 ∧
    (layS (stI pages l i).1 (stI pages l i).2 (spotS pages (nth l i)).1.page.toNat (spotS pages (nth l i)).1.count.toNat (spotS pages (nth l i)).1.small (spotS pages (nth l i)).1.cls (spotS pages (nth l i)).1.cell.toNat).1 = true := by
 have hs := okI_spot h
 constructor
 · simp only [stI, layO]; rw [if_pos hs]
 · simp only [okI, layO] at h; rwa [if_pos hs] at h
theorem laid_holds {pages : Int} {l : List (Int × Int)} (hp : pages ≤ 64) : ∀ {i : Nat}, (∀ j, j < i → okI pages l j = true) → ∀ j, j < i → Holds (stI pages l i) (spotS pages (nth l j)).1
 | 0, _, j, h => by omega
 | i + 1, h, j, hj => by
  obtain ⟨e1, e2⟩ := okI_lay (h i (by omega))
  have hstep := lay_step hp stI_len.1 stI_len.2 (spot_words (okI_spot (h i (by omega)))).good e2
  rw [e1]
  by_cases hji : j = i
  · subst hji; exact hstep.2
  · exact (hstep.1 _ (spot_words (okI_spot (h j (by omega)))).good (laid_holds hp (fun j hj => h j (by omega)) j (by omega))).2
theorem laid_apart {pages : Int} {l : List (Int × Int)} (hp : pages ≤ 64) {i : Nat} (h : ∀ j, j ≤ i → okI pages l j = true) {j : Nat} (hj : j < i) : apartS (spotS pages (nth l j)).1 (spotS pages (nth l i)).1 := by
 obtain ⟨_, e2⟩ := okI_lay (h i (by omega))
 have hstep := lay_step hp stI_len.1 stI_len.2 (spot_words (okI_spot (h i (by omega)))).good e2
 exact (hstep.1 _ (spot_words (okI_spot (h j (by omega)))).good (laid_holds hp (fun j hj => h j (by omega)) j hj)).1
theorem spot_range {pages : Int} {o : Int × Int} {a : Spot} (h : SpotW pages o a) : 0 ≤ o.1 ∧ o.1 + (o.2 + 7).tdiv 8 ≤ 32 * pages := by
 have h1 := h.good.c1
 have h2 := h.good.p1
 have h3 := h.good.p0
 cases hs : a.small with
 | true =>
  obtain ⟨k, hk, e1, e2, e3, e4⟩ := h.sm hs
  have hw := wordsL_k hk
  have hg := h.good.s1 hs
  rcases hw with e | e | e | e | e | e <;> rw [e] at e2 e3 e4 <;> omega
 | false =>
  obtain ⟨e1, e2⟩ := h.lg hs
  omega
theorem sttS_laid {s : Stt} (h : sttS s = true) : ∀ j, j < (twosO s.slots).length → okI s.base (twosO s.slots) j = true := by
 simp only [sttS, Bool.and_eq_true] at h
 have h1 := h.2.2.1
 unfold laidS at h1
 split at h1
 · rename_i h2
   simp only [Bool.and_eq_true, List.all_eq_true, List.mem_range] at h2
   exact h2.2
 · simp at h1
def wordsN (s : Slot) : Int := (s.len + 7).tdiv 8 + (if s.two = true then 0 else 2)
theorem twos_at {l : List Slot} {k : Nat} (hk : k < l.length) (h : isTwo (nth l k) = true) : ∃ i, i < (twosO l).length ∧ nth (twoIx l l.length) i = k := by
 have hm : k ∈ twoIx l l.length := by simp only [twoIx, List.mem_filter, List.mem_range]; exact ⟨hk, h⟩
 obtain ⟨i, hi, e⟩ := List.getElem_of_mem hm
 exact ⟨i, by simpa [twosO] using hi, by rw [nth_eq hi, e]⟩
theorem gapsOk_pair {to : Int} : ∀ {l : List (Int × Int)} {a : Int}, gapsOk to a l = true → l.Pairwise (fun p q => p.1 + p.2 ≤ q.1 ∨ q.1 + q.2 ≤ p.1) ∧ ∀ p ∈ l, a ≤ p.1 ∧ 0 ≤ p.2 ∧ p.1 + p.2 ≤ to
 | [], a, _ => ⟨.nil, by simp⟩
 | p :: l, a, h => by
  simp only [gapsOk, Bool.and_eq_true, gapBad, Bool.not_eq_true', decide_eq_false_iff_not] at h
  obtain ⟨h1, h2⟩ := gapsOk_pair h.2
  refine ⟨List.Pairwise.cons (fun q hq => .inl (h2 q hq).1) h1, fun q hq => ?_⟩
  rcases List.mem_cons.1 hq with rfl | hq
  · omega
  · have := h2 q hq; omega
theorem needS_words {n : Int} (h : 1 ≤ n ∧ n ≤ 2048) : (n + 7).tdiv 8 + 2 ≤ (needS n).1 := by
 unfold needS; rw [if_neg (by omega)]
 simp only [upS]
 have e1 : (n + 7).tdiv 8 = (n + 7) / 8 := Int.tdiv_eq_ediv_of_nonneg (by omega)
 have e2 : (n + 8 - 1).tdiv 8 = (n + 8 - 1) / 8 := Int.tdiv_eq_ediv_of_nonneg (by omega)
 rw [e1, e2, Int.tdiv_eq_ediv_of_nonneg (a := 2 + (n + 8 - 1) / 8 + 4 - 1) (by omega)]
 omega
theorem needS_pos {n : Int} (h : 1 ≤ n ∧ n ≤ 2048) : 4 ≤ (needS n).1 := by
 have := needS_words h
 have h2 : 0 < (n + 7).tdiv 8 := by rw [Int.tdiv_eq_ediv_of_nonneg (by omega)]; omega
 have h3 : (needS n).1 = upS (2 + (n + 8 - 1).tdiv 8) := by unfold needS; rw [if_neg (by omega)]
 rw [h3] at this ⊢
 unfold upS at this ⊢
 omega
open Go.Awp
section
variable {α : Type} [Inhabited α]
omit [Inhabited α] in
theorem nil_or_snoc (l : List α) : l = [] ∨ ∃ l' u, l = l' ++ [u] := by
 by_cases h : l = []
 · exact .inl h
 · exact .inr ⟨l.dropLast, l.getLast h, (List.dropLast_concat_getLast h).symm⟩
theorem nth_mid {P S : List α} {x : α} {i : Nat} (h : i = P.length) : nth (P ++ x :: S) i = x := by
 subst h; simp [nth]
theorem nth_at {l : List α} {i : Nat} {x : α} (h : l[i]? = some x) : nth l i = x := by simp [nth, h]
theorem swp_mid {P M S : List α} {x y : α} {i j : Nat} (hi : i = P.length) (hj : j = P.length + 1 + M.length) : swp (P ++ x :: (M ++ y :: S)) i j = P ++ y :: (M ++ x :: S) := by
 have hy : nth (P ++ x :: (M ++ y :: S)) j = y := by
  rw [show P ++ x :: (M ++ y :: S) = (P ++ x :: M) ++ y :: S by simp]
  exact nth_mid (by simp [hj]; omega)
 unfold swp
 rw [if_pos (by simp; omega), hy, nth_mid hi]
 subst hi hj
 apply List.ext_getElem?
 intro k
 simp only [List.getElem?_set, List.length_set]
 rcases Nat.lt_trichotomy k P.length with h | h | h
 · rw [if_neg (by omega), if_neg (by omega), List.getElem?_append_left h, List.getElem?_append_left h]
 · subst h; rw [if_neg (by omega), if_pos rfl, if_pos (by simp)]; simp
 · obtain ⟨d, rfl⟩ : ∃ d, k = P.length + 1 + d := ⟨k - (P.length + 1), by omega⟩
   have e : ∀ (z : α) (T : List α), (P ++ z :: T)[P.length + 1 + d]? = T[d]? := fun z T => by
    rw [List.getElem?_append_right (by omega), show P.length + 1 + d - P.length = d + 1 by omega]; simp
   rw [e, e, if_neg (show ¬ P.length = P.length + 1 + d by omega)]
   rcases Nat.lt_trichotomy d M.length with h | h | h
   · rw [if_neg (by omega), List.getElem?_append_left h, List.getElem?_append_left h]
   · subst h; rw [if_pos rfl, if_pos (by simp; omega)]; simp
   · rw [if_neg (by omega), List.getElem?_append_right (by omega), List.getElem?_append_right (by omega)]
     obtain ⟨q, hq⟩ : ∃ q, d - M.length = q + 1 := ⟨d - M.length - 1, by omega⟩
     rw [hq]; simp
theorem swp_adj {P S : List α} {x y : α} {i j : Nat} (hi : i = P.length) (hj : j = P.length + 1) : swp (P ++ x :: y :: S) i j = P ++ y :: x :: S :=
 swp_mid (M := []) hi (by simpa using hj)
theorem swp_adj' {P S : List α} {x y : α} {i j : Nat} (hi : i = P.length + 1) (hj : j = P.length) : swp (P ++ x :: y :: S) i j = P ++ y :: x :: S := by
 rw [← swp_adj (P := P) (S := S) (x := x) (y := y) hj hi]
 unfold swp
 subst hi hj
 have h1 : P.length < (P ++ x :: y :: S).length := by simp
 have h2 : P.length + 1 < (P ++ x :: y :: S).length := by simp
 rw [if_pos ⟨h2, h1⟩, if_pos ⟨h1, h2⟩, List.set_comm _ _ (by omega)]
theorem swrF_mid {a b : Nat} : ∀ (k i : Nat) (P X M Y S : List α), X.length = k → Y.length = k → a + i = P.length → b + i = P.length + k + M.length →
    swrF a b k i (P ++ (X ++ (M ++ (Y ++ S)))) = P ++ (Y ++ (M ++ (X ++ S)))
 | 0, i, P, X, M, Y, S, hX, hY, _, _ => by
  rw [List.length_eq_zero_iff] at hX hY; subst hX hY; rfl
 | k + 1, i, P, x :: X, M, y :: Y, S, hX, hY, ha, hb => by
  have e := swp_mid (P := P) (M := X ++ M) (S := Y ++ S) (x := x) (y := y) (i := a + i) (j := b + i) ha (by simp at hX ⊢; omega)
  have e1 : P ++ ((x :: X) ++ (M ++ ((y :: Y) ++ S))) = P ++ x :: ((X ++ M) ++ y :: (Y ++ S)) := by simp
  unfold swrF
  rw [e1, e]
  have := swrF_mid (a := a) (b := b) k (i + 1) (P ++ [y]) X (M ++ [x]) Y S (by simpa using hX) (by simpa using hY) (by simp; omega) (by simp; omega)
  have e2 : P ++ y :: ((X ++ M) ++ x :: (Y ++ S)) = (P ++ [y]) ++ (X ++ ((M ++ [x]) ++ (Y ++ S))) := by simp
  rw [e2, this]; simp
theorem swr_mid {a b n : Nat} {P X M Y S : List α} (hX : X.length = n) (hY : Y.length = n) (ha : a = P.length) (hb : b = P.length + n + M.length) :
    swr a b n (P ++ (X ++ (M ++ (Y ++ S)))) = P ++ (Y ++ (M ++ (X ++ S))) := swrF_mid n 0 P X M Y S hX hY (by omega) (by omega)
theorem rotF_mid {m : Nat} : ∀ (f i j : Nat) (P L R S : List α), i + j ≤ f → 0 < i → 0 < j → L.length = i → R.length = j → i ≤ m → m = P.length + i →
    rotF m f i j (P ++ (L ++ (R ++ S))) = P ++ (R ++ (L ++ S))
 | 0, i, j, P, L, R, S, hf, hi, hj, _, _, _, _ => by omega
 | f + 1, i, j, P, L, R, S, hf, hi, hj, hL, hR, him, hm => by
  unfold rotF
  split
  · rename_i h; subst h
    have := swr_mid (a := m - i) (b := m) (P := P) (X := L) (M := []) (Y := R) (S := S) hL hR (by omega) (by rw [List.length_nil]; omega)
    simpa using this
  · split
    · rename_i h1 h2
      have eL : L = L.take j ++ L.drop j := (List.take_append_drop ..).symm
      have e1 : P ++ (L ++ (R ++ S)) = P ++ (L.take j ++ (L.drop j ++ (R ++ S))) := by
       rw [← List.append_assoc (L.take j), List.take_append_drop]
      rw [e1, swr_mid (X := L.take j) (M := L.drop j) (Y := R) (by simp; omega) hR (by omega) (by simp; omega)]
      have := rotF_mid (m := m) f (i - j) j (P ++ R) (L.drop j) (L.take j) S (by omega) (by omega) hj (by simp; omega) (by simp; omega) (by omega) (by simp; omega)
      rw [show P ++ (R ++ (L.drop j ++ (L.take j ++ S))) = (P ++ R) ++ (L.drop j ++ (L.take j ++ S)) by simp, this]
      rw [List.append_assoc, ← List.append_assoc (L.take j), List.take_append_drop]
    · rename_i h1 h2
      have eR : R = R.take (j - i) ++ R.drop (j - i) := (List.take_append_drop ..).symm
      have e1 : P ++ (L ++ (R ++ S)) = P ++ (L ++ (R.take (j - i) ++ (R.drop (j - i) ++ S))) := by
       rw [← List.append_assoc (R.take (j - i)), List.take_append_drop]
      rw [e1, swr_mid (X := L) (M := R.take (j - i)) (Y := R.drop (j - i)) hL (by simp; omega) (by omega) (by simp; omega)]
      rw [rotF_mid (m := m) f i (j - i) P (R.drop (j - i)) (R.take (j - i)) (L ++ S) (by omega) hi (by omega) (by simp; omega) (by simp; omega) him hm]
      rw [← List.append_assoc (R.take (j - i)), List.take_append_drop]
theorem rotS_mid {a m b : Nat} {P L R S : List α} (h1 : 0 < L.length) (h2 : 0 < R.length) (ha : a = P.length) (hm : m = a + L.length) (hb : b = m + R.length) : rotS a m b (P ++ (L ++ (R ++ S))) = P ++ (R ++ (L ++ S)) := by
 unfold rotS
 exact rotF_mid _ _ _ P L R S (by omega) (by omega) (by omega) (by omega) (by omega) (by omega) (by omega)
theorem upF_mid : ∀ (k i : Nat) (P A C : List α) (x : α), A.length = k → i = P.length → upF k i (P ++ x :: (A ++ C)) = P ++ (A ++ x :: C)
 | 0, i, P, A, C, x, hA, _ => by rw [List.length_eq_zero_iff] at hA; subst hA; rfl
 | k + 1, i, P, y :: A, C, x, hA, hi => by
  unfold upF
  rw [show P ++ x :: ((y :: A) ++ C) = P ++ x :: y :: (A ++ C) by simp, swp_adj hi (by omega)]
  have := upF_mid k (i + 1) (P ++ [y]) A C x (by simpa using hA) (by simp; omega)
  rw [show P ++ y :: x :: (A ++ C) = (P ++ [y]) ++ x :: (A ++ C) by simp, this]; simp
theorem dnF_mid : ∀ (k i : Nat) (P A C : List α) (x : α), A.length = k → i = P.length + k → dnF k i (P ++ (A ++ x :: C)) = P ++ x :: (A ++ C)
 | 0, i, P, A, C, x, hA, _ => by rw [List.length_eq_zero_iff] at hA; subst hA; rfl
 | k + 1, i, P, A, C, x, hA, hi => by
  obtain ⟨A', y, rfl⟩ : ∃ A' y, A = A' ++ [y] := by
   rcases nil_or_snoc A with rfl | h
   · simp at hA
   · exact h
  have hA' : A'.length = k := by simpa using hA
  unfold dnF
  rw [show P ++ ((A' ++ [y]) ++ x :: C) = (P ++ A') ++ y :: x :: C by simp, swp_adj' (by simp; omega) (by simp; omega)]
  have := dnF_mid k (i - 1) P A' (y :: C) x hA' (by omega)
  rw [show (P ++ A') ++ x :: y :: C = P ++ (A' ++ x :: (y :: C)) by simp, this]; simp
end
theorem bsF_spec {p : Nat → Bool} : ∀ (f i j : Nat), j - i ≤ f → i ≤ j → (∀ x y, i ≤ x → x < y → y < j → p y = true → p x = true) →
    (∀ x, i ≤ x → x < bsF p f i j → p x = true) ∧ (∀ x, bsF p f i j ≤ x → x < j → p x = false)
 | 0, i, j, hf, h, hp => by
  have : i = j := by omega
  subst this
  exact ⟨fun x h1 h2 => by simp [bsF] at h2; omega, fun x h1 h2 => by simp [bsF] at h1; omega⟩
 | f + 1, i, j, hf, h, hp => by
  by_cases hij : i < j
  · cases hq : p ((i + j) / 2) with
    | true =>
     rw [bsF_t hij hq]
     obtain ⟨a1, a2⟩ := bsF_spec f ((i + j) / 2 + 1) j (by omega) (by omega) (fun x y h1 h2 h3 h4 => hp x y (by omega) h2 h3 h4)
     refine ⟨fun x h1 h2 => ?_, a2⟩
     rcases Nat.lt_trichotomy x ((i + j) / 2) with h | h | h
     · exact hp x _ h1 h (by omega) hq
     · rw [h]; exact hq
     · exact a1 x (by omega) h2
    | false =>
     rw [bsF_f hij hq]
     obtain ⟨a1, a2⟩ := bsF_spec f i ((i + j) / 2) (by omega) (by omega) (fun x y h1 h2 h3 h4 => hp x y h1 h2 (by omega) h4)
     refine ⟨a1, fun x h1 h2 => ?_⟩
     by_cases hx : x < (i + j) / 2
     · exact a2 x h1 hx
     · cases hpx : p x with
       | false => rfl
       | true =>
        rcases Nat.lt_or_ge ((i + j) / 2) x with h | h
        · have := hp _ x (by omega) h h2 hpx; rw [hq] at this; cases this
        · have : x = (i + j) / 2 := by omega
          rw [this, hq] at hpx; cases hpx
  · rw [bsF_end (by omega)]
    exact ⟨fun x h1 h2 => by omega, fun x h1 h2 => by omega⟩
theorem bsS_spec {p : Nat → Bool} {i j : Nat} (h : i ≤ j) (hp : ∀ x y, i ≤ x → x < y → y < j → p y = true → p x = true) :
    (∀ x, i ≤ x → x < bsS p i j → p x = true) ∧ (∀ x, bsS p i j ≤ x → x < j → p x = false) := bsF_spec _ i j (Nat.le_refl _) h hp
open Go.Awp
section
variable {α : Type} [Inhabited α] {lt : α → α → Bool} {R Q : α → α → Prop}
structure Keys (lt : α → α → Bool) (R Q : α → α → Prop) : Prop where
 tr : ∀ {x y z}, R x y → R y z → R x z
 no : ∀ {x y}, Q x y → lt y x = false → R x y
 on : ∀ {x y}, Q x y → lt y x = true → R y x
 sa : ∀ {x y}, Q x y → R x y → lt y x = false
variable (K : Keys lt R Q)
include K
theorem cross {A B : List α} {u v : α} {A' B' : List α} (hA : A = A' ++ [u]) (hB : B = v :: B') (sA : A.Pairwise R) (sB : B.Pairwise R) (h : R u v) : ∀ x ∈ A, ∀ y ∈ B, R x y := by
 subst hA hB
 have h1 : ∀ x ∈ A', R x u := fun x hx => (List.pairwise_append.1 sA).2.2 x hx u (by simp)
 have h2 : ∀ y ∈ B', R v y := (List.pairwise_cons.1 sB).1
 intro x hx y hy
 have a1 : R x v := by
  rcases List.mem_append.1 hx with hx | hx
  · exact K.tr (h1 x hx) h
  · simp at hx; subst hx; exact h
 rcases List.mem_cons.1 hy with rfl | hy
 · exact a1
 · exact K.tr a1 (h2 y hy)
theorem symF_ok : ∀ (f a m b : Nat) (P L M S : List α), a = P.length → m = a + L.length → b = m + M.length → L.length + M.length ≤ f → 0 < L.length → 0 < M.length → L.Pairwise R → M.Pairwise R →
    (∀ x ∈ L, ∀ y ∈ M, Q x y) → ∃ X, symF lt f a m b (P ++ (L ++ (M ++ S))) = P ++ (X ++ S) ∧ X.Perm (L ++ M) ∧ X.Pairwise R
 | 0, a, m, b, P, L, M, S, _, _, _, hf, hL, _, _, _, _ => by omega
 | f + 1, a, m, b, P, L, M, S, ha, hm, hb, hf, hL, hM, sL, sM, hQ => by
  have nL : ∀ c, a ≤ c → c < m → ∀ (h : c - a < L.length), nth (P ++ (L ++ (M ++ S))) c = L[c - a] := fun c h1 h2 h => nth_at (by
    rw [List.getElem?_append_right (by omega), List.getElem?_append_left (by omega), List.getElem?_eq_getElem (by omega)]; simp only [ha])
  have nM : ∀ c, m ≤ c → c < b → ∀ (h : c - m < M.length), nth (P ++ (L ++ (M ++ S))) c = M[c - m] := fun c h1 h2 h => nth_at (by
    rw [List.getElem?_append_right (by omega), List.getElem?_append_right (by omega), List.getElem?_append_left (by omega), List.getElem?_eq_getElem (by omega)]
    simp only [show c - P.length - L.length = c - m by omega])
  have oL : ∀ i j (hi : i < L.length) (hj : j < L.length), i < j → R L[i] L[j] := fun i j hi hj h => List.pairwise_iff_getElem.1 sL i j hi hj h
  have oM : ∀ i j (hi : i < M.length) (hj : j < M.length), i < j → R M[i] M[j] := fun i j hi hj h => List.pairwise_iff_getElem.1 sM i j hi hj h
  by_cases k1 : m - a = 1
  · obtain ⟨x, rfl⟩ : ∃ x, L = [x] := List.length_eq_one_iff.1 (by omega)
    have hx : nth (P ++ ([x] ++ (M ++ S))) a = x := nth_mid (S := M ++ S) ha
    have hp : ∀ c, m ≤ c → ∀ (h : c - m < M.length), lt (nth (P ++ ([x] ++ (M ++ S))) c) (nth (P ++ ([x] ++ (M ++ S))) a) = lt M[c - m] x := fun c h1 h => by rw [hx, nM c h1 (by omega) h]
    have sp := bsS_spec (p := fun h => lt (nth (P ++ ([x] ++ (M ++ S))) h) (nth (P ++ ([x] ++ (M ++ S))) a)) (i := m) (j := b) (by omega) (fun c d h1 h2 h3 h4 => by
      rw [hp d (by omega) (by omega)] at h4
      rw [hp c h1 (by omega)]
      have r1 := K.on (hQ x (by simp) _ (List.getElem_mem _)) h4
      have r2 := K.tr (oM (c - m) (d - m) (by omega) (by omega) (by omega)) r1
      cases hl : lt M[c - m] x with
      | true => rfl
      | false =>
        have r3 := K.no (hQ x (by simp) _ (List.getElem_mem _)) hl
        have := K.sa (hQ x (by simp) _ (List.getElem_mem _)) (K.tr r3 (oM (c - m) (d - m) (by omega) (by omega) (by omega)))
        rw [h4] at this; cases this)
    have hbd := bsS_le (p := fun h => lt (nth (P ++ ([x] ++ (M ++ S))) h) (nth (P ++ ([x] ++ (M ++ S))) a)) (i := m) (j := b) (by omega)
    unfold symF
    rw [if_pos k1]
    simp only
    generalize bsS (fun h => lt (nth (P ++ ([x] ++ (M ++ S))) h) (nth (P ++ ([x] ++ (M ++ S))) a)) m b = i at sp hbd
    have e : P ++ ([x] ++ (M ++ S)) = P ++ x :: (M.take (i - m) ++ (M.drop (i - m) ++ S)) := by
     rw [← List.append_assoc (M.take (i - m)), List.take_append_drop]; rfl
    rw [e, upF_mid (i - 1 - a) a P (M.take (i - m)) (M.drop (i - m) ++ S) x (by simp at hm ⊢; omega) ha]
    refine ⟨M.take (i - m) ++ x :: M.drop (i - m), by simp, ?_, ?_⟩
    · refine List.perm_middle.trans ?_
      simp
    · have h1 : ∀ y ∈ M.take (i - m), R y x := fun y hy => by
       obtain ⟨k, hk, rfl⟩ := List.getElem_of_mem hy
       simp only [List.length_take] at hk
       rw [List.getElem_take]
       have h := sp.1 (m + k) (by omega) (by omega)
       rw [hp _ (by omega) (by omega)] at h
       simp only [Nat.add_sub_cancel_left] at h
       exact K.on (hQ x (by simp) _ (List.getElem_mem _)) h
      have h2 : ∀ y ∈ M.drop (i - m), R x y := fun y hy => by
       obtain ⟨k, hk, rfl⟩ := List.getElem_of_mem hy
       simp only [List.length_drop] at hk
       rw [List.getElem_drop]
       have h := sp.2 (i + k) (by omega) (by omega)
       rw [hp _ (by omega) (by omega)] at h
       simp only [show i + k - m = i - m + k by omega] at h
       exact K.no (hQ x (by simp) _ (List.getElem_mem _)) h
      have sM' : (M.take (i - m) ++ M.drop (i - m)).Pairwise R := by rw [List.take_append_drop]; exact sM
      obtain ⟨s1, s2, s3⟩ := List.pairwise_append.1 sM'
      refine List.pairwise_append.2 ⟨s1, List.pairwise_cons.2 ⟨h2, s2⟩, fun y hy z hz => ?_⟩
      rcases List.mem_cons.1 hz with rfl | hz
      · exact h1 y hy
      · exact s3 y hy z hz
  by_cases k2 : b - m = 1
  · obtain ⟨y, rfl⟩ : ∃ y, M = [y] := List.length_eq_one_iff.1 (by omega)
    have hy : nth (P ++ (L ++ ([y] ++ S))) m = y := by
     rw [show P ++ (L ++ ([y] ++ S)) = (P ++ L) ++ y :: S by simp]
     exact nth_mid (by simp; omega)
    have hp : ∀ c, a ≤ c → ∀ (h : c - a < L.length), lt (nth (P ++ (L ++ ([y] ++ S))) m) (nth (P ++ (L ++ ([y] ++ S))) c) = lt y L[c - a] := fun c h1 h => by rw [hy, nL c h1 (by omega) h]
    have sp := bsS_spec (p := fun h => !lt (nth (P ++ (L ++ ([y] ++ S))) m) (nth (P ++ (L ++ ([y] ++ S))) h)) (i := a) (j := m) (by omega) (fun c d h1 h2 h3 h4 => by
      simp only [Bool.not_eq_true'] at h4 ⊢
      rw [hp d (by omega) (by omega)] at h4
      rw [hp c h1 (by omega)]
      exact K.sa (hQ _ (List.getElem_mem _) y (by simp)) (K.tr (oL (c - a) (d - a) (by omega) (by omega) (by omega)) (K.no (hQ _ (List.getElem_mem _) y (by simp)) h4)))
    have hbd := bsS_le (p := fun h => !lt (nth (P ++ (L ++ ([y] ++ S))) m) (nth (P ++ (L ++ ([y] ++ S))) h)) (i := a) (j := m) (by omega)
    unfold symF
    rw [if_neg k1, if_pos k2]
    simp only
    generalize bsS (fun h => !lt (nth (P ++ (L ++ ([y] ++ S))) m) (nth (P ++ (L ++ ([y] ++ S))) h)) a m = i at sp hbd
    have e : P ++ (L ++ ([y] ++ S)) = (P ++ L.take (i - a)) ++ (L.drop (i - a) ++ y :: S) := by
     rw [List.append_assoc, ← List.append_assoc (L.take (i - a)), List.take_append_drop]; rfl
    rw [e, dnF_mid (m - i) m (P ++ L.take (i - a)) (L.drop (i - a)) S y (by simp; omega) (by simp; omega)]
    refine ⟨L.take (i - a) ++ y :: L.drop (i - a), by simp, ?_, ?_⟩
    · refine List.perm_middle.trans ?_
      rw [List.take_append_drop]
      exact (List.perm_append_comm (l₁ := [y]) (l₂ := L))
    · have h1 : ∀ x ∈ L.take (i - a), R x y := fun x hx => by
       obtain ⟨k, hk, rfl⟩ := List.getElem_of_mem hx
       simp only [List.length_take] at hk
       rw [List.getElem_take]
       have h := sp.1 (a + k) (by omega) (by omega)
       simp only [Bool.not_eq_true'] at h
       rw [hp _ (by omega) (by omega)] at h
       simp only [Nat.add_sub_cancel_left] at h
       exact K.no (hQ _ (List.getElem_mem _) y (by simp)) h
      have h2 : ∀ x ∈ L.drop (i - a), R y x := fun x hx => by
       obtain ⟨k, hk, rfl⟩ := List.getElem_of_mem hx
       simp only [List.length_drop] at hk
       rw [List.getElem_drop]
       have h := sp.2 (i + k) (by omega) (by omega)
       simp only [Bool.not_eq_false'] at h
       rw [hp _ (by omega) (by omega)] at h
       simp only [show i + k - a = i - a + k by omega] at h
       exact K.on (hQ _ (List.getElem_mem _) y (by simp)) h
      have sL' : (L.take (i - a) ++ L.drop (i - a)).Pairwise R := by rw [List.take_append_drop]; exact sL
      obtain ⟨s1, s2, s3⟩ := List.pairwise_append.1 sL'
      refine List.pairwise_append.2 ⟨s1, List.pairwise_cons.2 ⟨h2, s2⟩, fun x hx z hz => ?_⟩
      rcases List.mem_cons.1 hz with rfl | hz
      · exact h1 x hx
      · exact s3 x hx z hz
  -- the general step
  obtain ⟨mid, hmid⟩ : ∃ mid, mid = (a + b) / 2 := ⟨_, rfl⟩
  obtain ⟨N, hN⟩ : ∃ N, N = mid + m := ⟨_, rfl⟩
  obtain ⟨s0, hs0⟩ : ∃ s0, s0 = if mid < m then N - b else a := ⟨_, rfl⟩
  obtain ⟨r0, hr0⟩ : ∃ r0, r0 = if mid < m then mid else m := ⟨_, rfl⟩
  have hsr : a ≤ s0 ∧ s0 ≤ r0 ∧ r0 ≤ m ∧ r0 ≤ mid ∧ N ≤ b + s0 := by
   rw [hs0, hr0]; split <;> omega
  have hrange : ∀ c, s0 ≤ c → c < r0 → a ≤ c ∧ c < m ∧ m ≤ N - 1 - c ∧ N - 1 - c < b := fun c h1 h2 => by omega
  have hp : ∀ c (h1 : s0 ≤ c) (h2 : c < r0), lt (nth (P ++ (L ++ (M ++ S))) (N - 1 - c)) (nth (P ++ (L ++ (M ++ S))) c) = lt (M[N - 1 - c - m]'(by have := hrange c h1 h2; omega)) (L[c - a]'(by have := hrange c h1 h2; omega)) := fun c h1 h2 => by
   have := hrange c h1 h2
   rw [nL c (by omega) (by omega) (by omega), nM (N - 1 - c) (by omega) (by omega) (by omega)]
  obtain ⟨st, hst⟩ : ∃ st, bsS (fun c => !lt (nth (P ++ (L ++ (M ++ S))) (N - 1 - c)) (nth (P ++ (L ++ (M ++ S))) c)) s0 r0 = st := ⟨_, rfl⟩
  have sp := bsS_spec (p := fun c => !lt (nth (P ++ (L ++ (M ++ S))) (N - 1 - c)) (nth (P ++ (L ++ (M ++ S))) c)) (i := s0) (j := r0) (by omega) (fun c d h1 h2 h3 h4 => by
    simp only [Bool.not_eq_true'] at h4 ⊢
    have q1 := hrange c h1 (by omega)
    have q2 := hrange d (by omega) h3
    rw [hp d (by omega) h3] at h4
    rw [hp c h1 (by omega)]
    refine K.sa (hQ _ (List.getElem_mem _) _ (List.getElem_mem _)) (K.tr (oL (c - a) (d - a) (by omega) (by omega) (by omega)) (K.tr (K.no (hQ _ (List.getElem_mem _) _ (List.getElem_mem _)) h4) (oM (N - 1 - d - m) (N - 1 - c - m) (by omega) (by omega) (by omega)))))
  have hbd := bsS_le (p := fun c => !lt (nth (P ++ (L ++ (M ++ S))) (N - 1 - c)) (nth (P ++ (L ++ (M ++ S))) c)) (i := s0) (j := r0) (by omega)
  rw [hst] at sp hbd
  obtain ⟨en, hen⟩ : ∃ en, en = N - st := ⟨_, rfl⟩
  rw [symF_gen k1 k2 hmid hN rfl hs0 hr0 hst hen]
  have hb1 : a ≤ st ∧ st ≤ m ∧ m ≤ en ∧ en ≤ b ∧ st ≤ mid := by omega
  have hp1 : ∀ c, s0 ≤ c → c < st → ∀ (h1 : c - a < L.length) (h2 : N - 1 - c - m < M.length), R L[c - a] M[N - 1 - c - m] := fun c h1 h2 h3 h4 => by
   have h := sp.1 c h1 h2
   simp only [Bool.not_eq_true'] at h
   rw [hp c h1 (by omega)] at h
   exact K.no (hQ _ (List.getElem_mem _) _ (List.getElem_mem _)) h
  have hp2 : ∀ c, st ≤ c → c < r0 → ∀ (h1 : c - a < L.length) (h2 : N - 1 - c - m < M.length), R M[N - 1 - c - m] L[c - a] := fun c h1 h2 h3 h4 => by
   have h := sp.2 c h1 h2
   simp only [Bool.not_eq_false'] at h
   rw [hp c (by omega) h2] at h
   exact K.on (hQ _ (List.getElem_mem _) _ (List.getElem_mem _)) h
  -- the parts
  obtain ⟨L1, L2, rfl, hL1⟩ : ∃ L1 L2, L = L1 ++ L2 ∧ L1.length = st - a := ⟨L.take (st - a), L.drop (st - a), by simp, by simp; omega⟩
  obtain ⟨M1, M2, rfl, hM1⟩ : ∃ M1 M2, M = M1 ++ M2 ∧ M1.length = en - m := ⟨M.take (en - m), M.drop (en - m), by simp, by simp; omega⟩
  simp only [List.length_append] at hm hb hf hL hM
  obtain ⟨sL1, sL2, sL12⟩ := List.pairwise_append.1 sL
  obtain ⟨sM1, sM2, sM12⟩ := List.pairwise_append.1 sM
  have c1 : ∀ x ∈ L1, ∀ y ∈ M2, R x y := by
   rcases Nat.eq_zero_or_pos L1.length with h | h
   · rw [List.length_eq_zero_iff] at h; subst h; simp
   rcases Nat.eq_zero_or_pos M2.length with h' | h'
   · rw [List.length_eq_zero_iff] at h'; subst h'; simp
   have hs : s0 < st := by
    rcases Nat.lt_or_ge s0 st with h | h
    · exact h
    · exfalso; have : st = s0 := by omega
      rw [hs0] at this; split at this <;> omega
   have hr := hp1 (st - 1) (by omega) (by omega) (by simp; omega) (by simp; omega)
   have e1 : (L1 ++ L2)[st - 1 - a]'(by simp; omega) = L1[L1.length - 1]'(by omega) := by rw [List.getElem_append_left (by omega)]; congr 1; omega
   have e2 : (M1 ++ M2)[N - 1 - (st - 1) - m]'(by simp; omega) = M2[0]'h' := by rw [List.getElem_append_right (by omega)]; congr 1; omega
   rw [e1, e2] at hr
   have hA : L1 = L1.dropLast ++ [L1[L1.length - 1]'(by omega)] := by
    have := List.dropLast_concat_getLast (l := L1) (by intro e; subst e; simp at h)
    rw [List.getLast_eq_getElem] at this; exact this.symm
   have hB : M2 = M2[0]'h' :: M2.tail := by cases M2 with
    | nil => simp at h'
    | cons z t => rfl
   exact cross K hA hB sL1 sM2 hr
  have c2 : ∀ x ∈ M1, ∀ y ∈ L2, R x y := by
   rcases Nat.eq_zero_or_pos M1.length with h | h
   · rw [List.length_eq_zero_iff] at h; subst h; simp
   rcases Nat.eq_zero_or_pos L2.length with h' | h'
   · rw [List.length_eq_zero_iff] at h'; subst h'; simp
   have hs : st < r0 := by
    rcases Nat.lt_or_ge st r0 with h | h
    · exact h
    · exfalso; have : st = r0 := by omega
      rw [hr0] at this; split at this <;> omega
   have hr := hp2 st (Nat.le_refl _) hs (by simp; omega) (by simp; omega)
   have e1 : (L1 ++ L2)[st - a]'(by simp; omega) = L2[0]'h' := by rw [List.getElem_append_right (by omega)]; congr 1; omega
   have e2 : (M1 ++ M2)[N - 1 - st - m]'(by simp; omega) = M1[M1.length - 1]'(by omega) := by rw [List.getElem_append_left (by omega)]; congr 1; omega
   rw [e1, e2] at hr
   have hA : M1 = M1.dropLast ++ [M1[M1.length - 1]'(by omega)] := by
    have := List.dropLast_concat_getLast (l := M1) (by intro e; subst e; simp at h)
    rw [List.getLast_eq_getElem] at this; exact this.symm
   have hB : L2 = L2[0]'h' :: L2.tail := by cases L2 with
    | nil => simp at h'
    | cons z t => rfl
   exact cross K hA hB sM1 sL2 hr
  have hl1 : (if st < m ∧ m < en then rotS st m en (P ++ (L1 ++ L2 ++ (M1 ++ M2 ++ S))) else P ++ (L1 ++ L2 ++ (M1 ++ M2 ++ S))) = P ++ (L1 ++ (M1 ++ (L2 ++ (M2 ++ S)))) := by
   split
   · rw [show P ++ (L1 ++ L2 ++ (M1 ++ M2 ++ S)) = (P ++ L1) ++ (L2 ++ (M1 ++ (M2 ++ S))) by simp]
     rw [rotS_mid (by omega) (by omega) (by simp; omega) (by omega) (by omega)]; simp
   · rename_i h
     have : L2.length = 0 ∨ M1.length = 0 := by omega
     rcases this with h | h <;> (rw [List.length_eq_zero_iff] at h; subst h; simp)
  simp only [hl1]
  obtain ⟨X1, hX1, pX1, sX1⟩ : ∃ X1, (if a < st ∧ st < mid then symF lt f a st mid (P ++ (L1 ++ (M1 ++ (L2 ++ (M2 ++ S))))) else P ++ (L1 ++ (M1 ++ (L2 ++ (M2 ++ S))))) = P ++ (X1 ++ (L2 ++ (M2 ++ S))) ∧ X1.Perm (L1 ++ M1) ∧ X1.Pairwise R := by
   split
   · exact symF_ok f a st mid P L1 M1 (L2 ++ (M2 ++ S)) ha (by omega) (by omega) (by omega) (by omega) (by omega) sL1 sM1 (fun x hx y hy => hQ x (by simp [hx]) y (by simp [hy]))
   · rename_i h
     have : L1.length = 0 ∨ M1.length = 0 := by omega
     refine ⟨L1 ++ M1, by simp, .refl _, ?_⟩
     rcases this with h | h <;> (rw [List.length_eq_zero_iff] at h; subst h; simpa)
  rw [hX1]
  have hX1l : X1.length = mid - a := by rw [pX1.length_eq, List.length_append]; omega
  obtain ⟨X2, hX2, pX2, sX2⟩ : ∃ X2, (if mid < en ∧ en < b then symF lt f mid en b (P ++ (X1 ++ (L2 ++ (M2 ++ S)))) else P ++ (X1 ++ (L2 ++ (M2 ++ S)))) = P ++ (X1 ++ (X2 ++ S)) ∧ X2.Perm (L2 ++ M2) ∧ X2.Pairwise R := by
   split
   · obtain ⟨X2, h1, h2, h3⟩ := symF_ok f mid en b (P ++ X1) L2 M2 S (by simp; omega) (by omega) (by omega) (by omega) (by omega) (by omega) sL2 sM2 (fun x hx y hy => hQ x (by simp [hx]) y (by simp [hy]))
     exact ⟨X2, by rw [show P ++ (X1 ++ (L2 ++ (M2 ++ S))) = (P ++ X1) ++ (L2 ++ (M2 ++ S)) by simp, h1]; simp, h2, h3⟩
   · rename_i h
     have : L2.length = 0 ∨ M2.length = 0 := by omega
     refine ⟨L2 ++ M2, by simp, .refl _, ?_⟩
     rcases this with h | h <;> (rw [List.length_eq_zero_iff] at h; subst h; simpa)
  rw [hX2]
  refine ⟨X1 ++ X2, by simp, ?_, List.pairwise_append.2 ⟨sX1, sX2, fun x hx y hy => ?_⟩⟩
  · refine (pX1.append pX2).trans ?_
    rw [List.append_assoc, List.append_assoc]
    refine List.Perm.append_left L1 ?_
    rw [← List.append_assoc, ← List.append_assoc]
    exact List.Perm.append_right M2 List.perm_append_comm
  · have hx := pX1.mem_iff.1 hx
    have hy := pX2.mem_iff.1 hy
    rcases List.mem_append.1 hx with hx | hx <;> rcases List.mem_append.1 hy with hy | hy
    · exact sL12 x hx y hy
    · exact c1 x hx y hy
    · exact c2 x hx y hy
    · exact sM12 x hx y hy
theorem sink_ok : ∀ (j : Nat) (a : Nat) (P X S : List α) (y : α), a = P.length → j = a + X.length → ∃ A C, X = A ++ C ∧ sink lt a j (P ++ (X ++ y :: S)) = P ++ (A ++ y :: (C ++ S)) ∧ (∀ c ∈ C, lt y c = true) ∧ (∀ A' u, A = A' ++ [u] → lt y u = false)
 | 0, a, P, X, S, y, ha, hj => by
  have : X.length = 0 := by omega
  rw [List.length_eq_zero_iff] at this; subst this
  exact ⟨[], [], rfl, rfl, by simp, fun A' u h => by simp at h⟩
 | j + 1, a, P, X, S, y, ha, hj => by
  rcases nil_or_snoc X with rfl | ⟨X', u, rfl⟩
  · refine ⟨[], [], rfl, ?_, by simp, fun A' u h => by simp at h⟩
    unfold sink
    rw [if_neg (by simp at hj; omega)]; rfl
  · simp only [List.length_append, List.length_cons, List.length_nil] at hj
    have h1 : nth (P ++ ((X' ++ [u]) ++ y :: S)) (j + 1) = y := by
     rw [show P ++ ((X' ++ [u]) ++ y :: S) = (P ++ (X' ++ [u])) ++ y :: S by simp]
     exact nth_mid (by simp; omega)
    have h2 : nth (P ++ ((X' ++ [u]) ++ y :: S)) j = u := by
     rw [show P ++ ((X' ++ [u]) ++ y :: S) = (P ++ X') ++ u :: (y :: S) by simp]
     exact nth_mid (by simp; omega)
    unfold sink
    rw [h1, h2]
    split
    · rename_i h
      have e : swp (P ++ ((X' ++ [u]) ++ y :: S)) (j + 1) j = P ++ (X' ++ y :: (u :: S)) := by
       rw [show P ++ ((X' ++ [u]) ++ y :: S) = (P ++ X') ++ u :: y :: S by simp, swp_adj' (by simp; omega) (by simp; omega)]; simp
      rw [e]
      obtain ⟨A, C, r1, r2, r3, r4⟩ := sink_ok j a P X' (u :: S) y ha (by omega)
      refine ⟨A, C ++ [u], by rw [r1]; simp, by rw [r2]; simp, fun c hc => ?_, r4⟩
      rcases List.mem_append.1 hc with hc | hc
      · exact r3 c hc
      · simp at hc; subst hc; exact h.2
    · rename_i h
      refine ⟨X' ++ [u], [], by simp, by simp, by simp, fun A' v hA => ?_⟩
      have := List.append_inj_right' hA rfl
      simp at this; subst this
      cases hl : lt y u with
      | false => rfl
      | true => exact absurd ⟨by omega, hl⟩ h
theorem insF_ok : ∀ (k i a : Nat) (P X Y S : List α), a = P.length → i = a + X.length → Y.length = k → X.Pairwise R → Y.Pairwise Q → (∀ x ∈ X, ∀ y ∈ Y, Q x y) →
    ∃ Z, insF lt a k i (P ++ (X ++ (Y ++ S))) = P ++ (Z ++ S) ∧ Z.Perm (X ++ Y) ∧ Z.Pairwise R
 | 0, i, a, P, X, Y, S, ha, hi, hY, sX, sY, hQ => by
  rw [List.length_eq_zero_iff] at hY; subst hY
  exact ⟨X, by simp [insF], by simp, sX⟩
 | k + 1, i, a, P, X, y :: Y, S, ha, hi, hY, sX, sY, hQ => by
  obtain ⟨A, C, rfl, r2, r3, r4⟩ := sink_ok K (lt := lt) i a P X (Y ++ S) y ha hi
  obtain ⟨sA, sC, sAC⟩ := List.pairwise_append.1 sX
  obtain ⟨sy, sY⟩ := List.pairwise_cons.1 sY
  have hC : ∀ c ∈ C, R y c := fun c hc => K.on (hQ c (by simp [hc]) y (by simp)) (r3 c hc)
  have hA : ∀ x ∈ A, R x y := by
   rcases nil_or_snoc A with rfl | ⟨A', u, rfl⟩
   · simp
   · have hu : R u y := K.no (hQ u (by simp) y (by simp)) (r4 A' u rfl)
     intro x hx
     rcases List.mem_append.1 hx with hx | hx
     · exact K.tr ((List.pairwise_append.1 sA).2.2 x hx u (by simp)) hu
     · simp at hx; subst hx; exact hu
  have sN : (A ++ y :: C).Pairwise R := by
   refine List.pairwise_append.2 ⟨sA, List.pairwise_cons.2 ⟨hC, sC⟩, fun x hx z hz => ?_⟩
   rcases List.mem_cons.1 hz with rfl | hz
   · exact hA x hx
   · exact sAC x hx z hz
  have pN : (A ++ y :: C).Perm (A ++ C ++ [y]) := (List.perm_middle).trans (List.perm_append_comm (l₁ := [y]) (l₂ := A ++ C))
  obtain ⟨Z, z1, z2, z3⟩ := insF_ok k (i + 1) a P (A ++ y :: C) Y S ha (by simp at hi ⊢; omega) (by simpa using hY) sN sY (fun x hx z hz => by
    rcases List.mem_append.1 (pN.mem_iff.1 hx) with hx | hx
    · exact hQ x hx z (by simp [hz])
    · simp at hx; subst hx; exact sy z hz)
  refine ⟨Z, ?_, z2.trans ?_, z3⟩
  · unfold insF
    rw [show P ++ ((A ++ C) ++ ((y :: Y) ++ S)) = P ++ ((A ++ C) ++ y :: (Y ++ S)) by simp, r2]
    rw [show P ++ (A ++ y :: (C ++ (Y ++ S))) = P ++ ((A ++ y :: C) ++ (Y ++ S)) by simp]
    exact z1
  · have := pN.append_right Y
    simpa using this
theorem insS_ok {a b : Nat} {P X S : List α} (ha : a = P.length) (hb : b = a + X.length) (sX : X.Pairwise Q) : ∃ Z, insS lt a b (P ++ (X ++ S)) = P ++ (Z ++ S) ∧ Z.Perm X ∧ Z.Pairwise R := by
 cases X with
 | nil =>
  refine ⟨[], ?_, .refl _, .nil⟩
  unfold insS
  rw [show b - (a + 1) = 0 by simp at hb; omega]; rfl
 | cons x X =>
  obtain ⟨sx, sX⟩ := List.pairwise_cons.1 sX
  obtain ⟨Z, z1, z2, z3⟩ := insF_ok K (b - (a + 1)) (a + 1) a P [x] X S ha (by simp) (by simp at hb; omega) (by simp) sX (fun u hu y hy => by simp at hu; subst hu; exact sx y hy)
  exact ⟨Z, by unfold insS; simpa using z1, by simpa using z2, z3⟩
end
open Go.Awp
section
variable {α : Type} [Inhabited α] {lt : α → α → Bool} {R Q : α → α → Prop}
inductive Blks (R Q : α → α → Prop) (bs : Nat) : List α → Prop
 | last {B : List α} (h : B.length ≤ bs) (s : B.Pairwise R) : Blks R Q bs B
 | cons {B r : List α} (h : B.length = bs) (s : B.Pairwise R) (t : Blks R Q bs r) (c : ∀ x ∈ B, ∀ y ∈ r, Q x y) : Blks R Q bs (B ++ r)
theorem Blks.head {bs : Nat} {r : List α} (h : Blks R Q bs r) (hl : bs ≤ r.length) : ∃ B r', r = B ++ r' ∧ B.length = bs ∧ B.Pairwise R ∧ Blks R Q bs r' ∧ ∀ x ∈ B, ∀ y ∈ r', Q x y := by
 cases h with
 | last h s => exact ⟨r, [], by simp, by omega, s, .last (by simp) .nil, by simp⟩
 | cons h s t c => exact ⟨_, _, rfl, h, s, t, c⟩
theorem Blks.one {bs : Nat} {r : List α} (h : Blks R Q bs r) (hl : r.length ≤ bs) : r.Pairwise R := by
 cases h with
 | last h s => exact s
 | @cons B r h s t c =>
  have : r.length = 0 := by simp at hl; omega
  rw [List.length_eq_zero_iff] at this; subst this; simpa using s
theorem pairF_ok (K : Keys lt R Q) {bs : Nat} (hbs : 0 < bs) : ∀ (f a : Nat) (P r : List α), a = P.length → r.length ≤ f → Blks R Q bs r → ∃ r', pairF lt bs f a (P ++ r) = P ++ r' ∧ r'.Perm r ∧ Blks R Q (2 * bs) r' := by
 have small : ∀ (a : Nat) (P r : List α), a = P.length → r.length < 2 * bs → Blks R Q bs r → ∃ r', lastP lt bs a (P ++ r) = P ++ r' ∧ r'.Perm r ∧ Blks R Q (2 * bs) r' := by
  intro a P r ha hr hB
  unfold lastP
  split
  · rename_i h
    simp only [List.length_append] at h
    obtain ⟨B, r1, rfl, h1, h2, h3, h4⟩ := hB.head (by omega)
    simp only [List.length_append] at h hr
    obtain ⟨X, x1, x2, x3⟩ := symF_ok K (P.length + (B.length + r1.length) - a) a (a + bs) (P.length + (B.length + r1.length)) P B r1 [] ha (by omega) (by omega) (by omega) (by omega) (by omega) h2 (h3.one (by omega)) h4
    refine ⟨X, ?_, x2, .last (by rw [x2.length_eq]; simp; omega) x3⟩
    unfold symS
    simpa using x1
  · rename_i h
    simp only [List.length_append] at h
    exact ⟨r, rfl, .refl _, .last (by omega) (hB.one (by omega))⟩
 intro f
 induction f with
 | zero =>
  intro a P r ha hf hB
  unfold pairF
  exact small a P r ha (by omega) hB
 | succ f ih =>
  intro a P r ha hf hB
  unfold pairF
  split
  · rename_i h
    simp only [List.length_append] at h
    obtain ⟨B, r1, rfl, h1, h2, h3, h4⟩ := hB.head (by omega)
    simp only [List.length_append] at h hf
    obtain ⟨C, r2, rfl, k1, k2, k3, k4⟩ := h3.head (by omega)
    simp only [List.length_append] at h hf
    obtain ⟨X, x1, x2, x3⟩ := symF_ok K (a + 2 * bs - a) a (a + bs) (a + 2 * bs) P B C r2 ha (by omega) (by omega) (by omega) (by omega) (by omega) h2 k2 (fun x hx y hy => h4 x hx y (by simp [hy]))
    unfold symS
    rw [x1]
    have hX : X.length = 2 * bs := by rw [x2.length_eq]; simp; omega
    obtain ⟨r3, y1, y2, y3⟩ := ih (a + 2 * bs) (P ++ X) r2 (by simp; omega) (by omega) k3
    refine ⟨X ++ r3, by rw [← List.append_assoc, y1, List.append_assoc], ?_, .cons hX x3 y3 fun x hx y hy => ?_⟩
    · have := x2.append y2
      simpa using this
    · have hy := y2.mem_iff.1 hy
      rcases List.mem_append.1 (x2.mem_iff.1 hx) with hx | hx
      · exact h4 x hx y (by simp [hy])
      · exact k4 x hx y hy
  · rename_i h
    simp only [List.length_append] at h
    exact small a P r ha (by omega) hB
theorem mrgF_ok (K : Keys lt R Q) : ∀ (f bs : Nat) (l : List α), 0 < bs → l.length ≤ f + bs → Blks R Q bs l → (mrgF lt f bs l).Pairwise R
 | 0, bs, l, h0, hl, hB => by unfold mrgF; exact hB.one (by omega)
 | f + 1, bs, l, h0, hl, hB => by
  unfold mrgF
  split
  · obtain ⟨r', h1, h2, h3⟩ := pairF_ok K h0 l.length 0 [] l rfl (Nat.le_refl _) hB
    rw [show ([] : List α) ++ l = l from rfl] at h1
    rw [h1, List.nil_append]
    exact mrgF_ok K f (2 * bs) r' (by omega) (by rw [h2.length_eq]; omega) h3
  · exact hB.one (by omega)
theorem blkF_ok (K : Keys lt R Q) : ∀ (f a : Nat) (P r : List α), a = P.length → r.length ≤ f → r.Pairwise Q → ∃ r', blkF lt f a (P ++ r) = P ++ r' ∧ r'.Perm r ∧ Blks R Q 20 r' := by
 have small : ∀ (a : Nat) (P r : List α), a = P.length → r.length < 20 → r.Pairwise Q → ∃ r', insS lt a (P ++ r).length (P ++ r) = P ++ r' ∧ r'.Perm r ∧ Blks R Q 20 r' := by
  intro a P r ha hr hQ
  obtain ⟨Z, z1, z2, z3⟩ := insS_ok K (P := P) (X := r) (S := []) (a := a) (b := (P ++ r).length) ha (by simp; omega) hQ
  exact ⟨Z, by simpa using z1, z2, .last (by rw [z2.length_eq]; omega) z3⟩
 intro f
 induction f with
 | zero =>
  intro a P r ha hf hQ
  unfold blkF
  exact small a P r ha (by omega) hQ
 | succ f ih =>
  intro a P r ha hf hQ
  unfold blkF
  split
  · rename_i h
    simp only [List.length_append] at h
    obtain ⟨X, r1, rfl, hX⟩ : ∃ X r1, r = X ++ r1 ∧ X.length = 20 := ⟨r.take 20, r.drop 20, by simp, by simp; omega⟩
    simp only [List.length_append] at h hf
    obtain ⟨q1, q2, q3⟩ := List.pairwise_append.1 hQ
    obtain ⟨Z, z1, z2, z3⟩ := insS_ok K (P := P) (X := X) (S := r1) (a := a) (b := a + 20) ha (by omega) q1
    rw [z1]
    obtain ⟨r2, y1, y2, y3⟩ := ih (a + 20) (P ++ Z) r1 (by simp [z2.length_eq]; omega) (by omega) q2
    refine ⟨Z ++ r2, by rw [← List.append_assoc, y1, List.append_assoc], z2.append y2, .cons (by rw [z2.length_eq]; exact hX) z3 y3 fun x hx y hy => q3 x (z2.mem_iff.1 hx) y (y2.mem_iff.1 hy)⟩
  · rename_i h
    simp only [List.length_append] at h
    exact small a P r ha (by omega) hQ
theorem stS_ok (K : Keys lt R Q) {l : List α} (h : l.Pairwise Q) : (stS lt l).Pairwise R := by
 obtain ⟨r', h1, h2, h3⟩ := blkF_ok K l.length 0 [] l rfl (Nat.le_refl _) h
 rw [show ([] : List α) ++ l = l from rfl, List.nil_append] at h1
 unfold stS
 rw [h1]
 exact mrgF_ok K _ _ _ (by omega) (by rw [h2.length_eq]; omega) h3
end
def beforeB (x y : Blk) : Prop := x.at_ < y.at_ ∨ (x.at_ = y.at_ ∧ x.slot < y.slot)
def aheadB (x y : Blk) : Prop := x.slot < y.slot
theorem keysB : Keys ltB beforeB aheadB := by
 have hlt : ∀ x y : Blk, ltB x y = decide (x.at_ < y.at_) := fun x y => by
  unfold ltB cmpI
  split
  · simp [*]
  · split <;> simp [*]
 constructor
 · intro x y z h1 h2; unfold beforeB at *; omega
 · intro x y h1 h2; rw [hlt] at h2; unfold beforeB aheadB at *; simp at h2; omega
 · intro x y h1 h2; rw [hlt] at h2; unfold beforeB aheadB at *; simp at h2; omega
 · intro x y h1 h2; rw [hlt]; unfold beforeB aheadB at *; simp; omega
end Go.Proofs
