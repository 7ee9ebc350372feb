/- Contracts of the program's functions, each against a plain function over lists and numbers (it answers what that one answers, for arguments of at most 2^40 elements where a lemma says so), and plain facts about these. -/
import Derived.Test.YtokgokbgidgfeaaCA
import Derived.Test.YtokgokbgidgfeaaCB
import Derived.Test.YtokgokbgidgfeaaCC
set_option linter.all false
set_option maxHeartbeats 4000000
set_option maxRecDepth 4000
namespace Go.Proofs
open Go.Awp
theorem ct37 (g : Gl) (s : Stt) (hs : s.Ok) : CtAt Try.prog g 37 [eStt s] (vI (liveIx s.slots s.slots.length)) := by
  refine ctAt_of_W Try.func37 rfl rfl (Nat.le_of_ble_eq_true rfl) fun B S => ?_
  simp only [eStt, List.map, argD_agg]
  have q0 := hs.h1
  refine xU ?_
  iterate 2 refine xO ?_
  refine xE [1] ?_
  refine xT ?_
  refine xO ?_
  refine xE [1, 3] ?_
  rintro -
  refine W_seq ?_
  refine xU ?_
  refine xO ?_
  refine run_op rfl rfl rfl (by simp [eSlot]; exact .mk) ?_
  iterate 2 refine xO ?_
  refine xE [3, 7, 8, 9] ?_
  rintro -
  refine W_block ?_
  refine W_rounds (fun m σ o => ∃ i : Nat, m = s.slots.length - i ∧ i ≤ s.slots.length ∧ σ = slots [(3, .d (vI (liveIx s.slots i))), (7, .d (rSl s.slots)), (8, .d (vI s.slots.length)), (9, .d (vI i))] ∧ o = [.var 52 [.d (vI s.sh.pages), .d (vI s.sh.slots), .d (vI s.sh.roots), .d (vI s.sh.room), .d (vI s.mode), .d (vI s.base), .d (rSl s.slots), .d (rR s.roots), .d (rBB s.data)]]) s.slots.length .refl ⟨0, by simp, by simp, by simp [liveIx], rfl⟩ ?_
  rintro m σ o ⟨i, rfl, hi, rfl, rfl⟩ _
  have hle := liveIx_le (l := s.slots) (i := i)
  refine xU ?_
  refine xO ?_
  refine xE [3, 7, 8, 9, 10] ?_
  rintro -
  refine W_seq ?_
  refine W_cond rfl ?_ ?_
  · intro h10
    have hi2 : i < s.slots.length := by simpa using h10
    have e1 : IntKind.i64.wrap (((liveIx s.slots i : Nat) : Int) + 1) = ((liveIx s.slots i : Nat) : Int) + 1 := wrap64 (by omega) (by omega)
    refine W_skip ?_
    rintro -
    refine W_seq ?_
    refine W_block ?_
    refine xU ?_
    refine run_op rfl rfl rfl (by simp [eSlot, *]; exact .mk) ?_
    refine run_op rfl rfl rfl (by simp [eSlot]; exact .mk) ?_
    refine xO ?_
    refine run_op rfl rfl rfl (by simp [splice]; exact .mk) ?_
    refine xE [3, 5, 7, 8, 9] ?_
    refine xT ?_
    refine xO ?_
    refine run_op rfl rfl rfl (by simp [eSlot]; exact .mk) ?_
    refine xE [3, 7, 8, 9, 14] ?_
    rintro -
    refine W_cond rfl ?_ ?_
    · intro h14
      refine W_reg rfl ?_
      refine xO ?_
      refine run_op rfl rfl rfl (by simp [e1]; exact .mk) ?_
      refine xO ?_
      refine xE [3, 7, 8, 9] ?_
      rintro -
      refine W_reg rfl ?_
      iterate 2 refine xO ?_
      refine xE [3, 7, 8, 9] ?_
      refine rounds_drop 1 [3, 7, 8, 9] (by simp) (by simp [boxA, AV.cells, AV.isCell]) (by simp [boxA, AV.cells, AV.isCell]) ?_
      refine rounds_next (m' := s.slots.length - (i+1)) (by omega) ⟨i+1, rfl, by omega, ?_, rfl⟩
      rw [wrap64 (by omega) (by omega), liveIx_s, h14]; rfl
    intro h14
    refine W_skip ?_
    rintro -
    refine W_reg rfl ?_
    iterate 2 refine xO ?_
    refine xE [3, 7, 8, 9] ?_
    refine rounds_drop 1 [3, 7, 8, 9] (by simp) (by simp [boxA, AV.cells, AV.isCell]) (by simp [boxA, AV.cells, AV.isCell]) ?_
    refine rounds_next (m' := s.slots.length - (i+1)) (by omega) ⟨i+1, rfl, by omega, ?_, rfl⟩
    rw [wrap64 (by omega) (by omega), liveIx_s, h14]; rfl
  intro h10
  obtain rfl : i = s.slots.length := by simp at h10; omega
  refine W_exit ?_
  refine xT ?_
  iterate 2 refine xO ?_
  refine xE [2] ?_
  rintro -
  refine W_ret ?_
  refine xR (by simp [Try.f37]; exact .mk) ?_
  simp [nrmR, nrmRs, nrmK, kindsOf, kinds, Try.f37]

theorem ct62 (g : Gl) (s : Stt) (hs : s.Ok) : CtAt Try.prog g 62 [eStt s] (.tup [oO (twosO s.slots), oI (twosI s.slots)]) := by
  refine ctAt_of_W Try.func62 rfl rfl (Nat.le_of_ble_eq_true rfl) fun B S => ?_
  simp only [eStt, List.map, argD_agg]
  have q0 := hs.h1
  refine xU ?_
  iterate 3 refine xO ?_
  refine xE [1] ?_
  refine xT ?_
  refine xO ?_
  refine xE [1, 4] ?_
  refine xT ?_
  refine xO ?_
  refine xE [1, 4, 5] ?_
  rintro -
  refine W_seq ?_
  refine xU ?_
  refine xO ?_
  refine run_op rfl rfl rfl (by simp [eSlot]; exact .mk) ?_
  iterate 2 refine xO ?_
  refine xE [4, 5, 9, 10, 11] ?_
  rintro -
  refine W_block ?_
  refine W_rounds (fun m σ o => ∃ i : Nat, m = s.slots.length - i ∧ i ≤ s.slots.length ∧ σ = slots [(4, .hdr 1 0 (twoIx s.slots i).length), (5, .hdr 2 0 (twoIx s.slots i).length), (9, .d (rSl s.slots)), (10, .d (vI s.slots.length)), (11, .d (vI i))] ∧ o = [.var 52 [.d (vI s.sh.pages), .d (vI s.sh.slots), .d (vI s.sh.roots), .d (vI s.sh.room), .d (vI s.mode), .d (vI s.base), .d (rSl s.slots), .d (rR s.roots), .d (rBB s.data)], .row 2 ((twoIx s.slots i).map fun j => eObj (objAt s.slots j)), .row 1 ((twoIx s.slots i).map fun (j : Nat) => vI j)]) s.slots.length
    (Weak.trans (Weak.nilRow 4 2 rfl) (Weak.trans (Weak.nilRow 5 1 rfl) (Weak.kills [4, 5, 9, 10, 11] rfl) (fun _ _ _ h1 h2 => by rw [← h1.len]; exact h2)) (fun _ _ _ h1 h2 => by rw [← h1.len]; exact h2)) ⟨0, by simp, by simp, by simp [twoIx], by simp [twoIx]⟩ ?_
  rintro m σ o ⟨i, rfl, hi, rfl, rfl⟩ _
  have hle := twoIx_len (l := s.slots) (i := i)
  refine xU ?_
  refine xO ?_
  refine xE [4, 5, 9, 10, 11, 12] ?_
  rintro -
  refine W_seq ?_
  refine W_cond rfl ?_ ?_
  · intro h12
    have hi2 : i < s.slots.length := by simpa using h12
    refine W_skip ?_
    rintro -
    refine W_seq ?_
    refine W_block ?_
    refine xU ?_
    refine xO ?_
    refine run_op rfl rfl rfl (by simp [eSlot, *]; exact .mk) ?_
    refine run_op rfl rfl rfl (by simp [eSlot]; exact .mk) ?_
    iterate 2 refine xO ?_
    refine run_op rfl rfl rfl (by simp [splice]; exact .mk) ?_
    refine xE [4, 5, 6, 7, 9, 10, 11] ?_
    refine xT ?_
    refine xO ?_
    refine run_op rfl rfl rfl (by simp [eSlot]; exact .mk) ?_
    refine xO ?_
    refine xI ?_
    refine run_if rfl (by simp; exact .mk) rfl (by simp <;> first | omega | grind) (fun hb => by simp [eSlot]; exact .mk) ?_
    refine xP ?_
    refine xE [4, 5, 6, 7, 9, 10, 11, 21] ?_
    rintro -
    refine W_cond rfl ?_ ?_
    · intro h21
      have h2 : isTwo (nth s.slots i) = true := h21
      have e1 : ((twoIx s.slots i).length + 1) * 16 ≤ 140737488355328 := by omega
      have e2 : (twoIx s.slots i).length ≤ 140737488355327 := by omega
      have e3 : ((twoIx s.slots i).length + 1) * 8 ≤ 140737488355328 := by omega
      refine W_reg rfl ?_
      iterate 2 refine xO ?_
      refine run_op rfl rfl rfl (by simp [eSlot]; exact .mk) ?_
      refine xO ?_
      refine run_op rfl rfl rfl (by simp [eSlot]; exact .mk) ?_
      refine run_op rfl rfl rfl (by simp [splice]; exact .mk) ?_
      refine xO ?_
      refine run_op rfl rfl rfl (by simp [rows, e1, e2]; exact .mk) ?_
      iterate 3 refine xO ?_
      refine run_op rfl rfl rfl (by simp [rows, e3, e2]; exact .mk) ?_
      iterate 2 refine xO ?_
      refine xE [4, 5, 9, 10, 11] ?_
      rintro -
      refine W_reg rfl ?_
      iterate 2 refine xO ?_
      refine xE [4, 5, 9, 10, 11] ?_
      refine rounds_kill [4, 5, 9, 10, 11] ?_
      first
      | (refine rounds_drop 3 [4, 5, 9, 10, 11] (by decide) (by rfl) (by rfl) ?_
         refine rounds_next (m' := s.slots.length - (i+1)) (by omega) ⟨i+1, rfl, by omega, ?_, ?_⟩
         · rw [wrap64 (by omega) (by omega), twoIx_f h2]; rfl
         rw [twoIx_f h2]; rfl)
      | (refine rounds_kills [4, 5, 9, 10, 11] rfl ?_
         refine rounds_swap 1 5 1 (by decide) (by simp) (by decide) rfl rfl ?_
         refine rounds_swap 2 7 1 (by decide) (by simp) (by decide) rfl rfl ?_
         refine rounds_drop 3 [4, 5, 9, 10, 11] (by decide) (by rfl) (by rfl) ?_
         refine rounds_next (m' := s.slots.length - (i+1)) (by omega) ⟨i+1, rfl, by omega, ?_, ?_⟩
         · rw [wrap64 (by omega) (by omega), twoIx_t h2]; simp; try rfl
         rw [twoIx_t h2]; simp [eObj, objAt]; try rfl)
    intro h21
    have h2 : isTwo (nth s.slots i) = false := h21
    refine W_skip ?_
    rintro -
    refine W_reg rfl ?_
    iterate 2 refine xO ?_
    refine xE [4, 5, 9, 10, 11] ?_
    refine rounds_kill [4, 5, 9, 10, 11] ?_
    first
    | (refine rounds_drop 3 [4, 5, 9, 10, 11] (by decide) (by rfl) (by rfl) ?_
       refine rounds_next (m' := s.slots.length - (i+1)) (by omega) ⟨i+1, rfl, by omega, ?_, ?_⟩
       · rw [wrap64 (by omega) (by omega), twoIx_f h2]; rfl
       rw [twoIx_f h2]; rfl)
    | (refine rounds_kills [4, 5, 9, 10, 11] rfl ?_
       refine rounds_swap 1 5 1 (by decide) (by simp) (by decide) rfl rfl ?_
       refine rounds_swap 2 7 1 (by decide) (by simp) (by decide) rfl rfl ?_
       refine rounds_drop 3 [4, 5, 9, 10, 11] (by decide) (by rfl) (by rfl) ?_
       refine rounds_next (m' := s.slots.length - (i+1)) (by omega) ⟨i+1, rfl, by omega, ?_, ?_⟩
       · rw [wrap64 (by omega) (by omega), twoIx_t h2]; simp; try rfl
       rw [twoIx_t h2]; simp [eObj, objAt]; try rfl)
  intro h12
  obtain rfl : i = s.slots.length := by simp at h12; omega
  refine W_exit ?_
  refine xT ?_
  iterate 4 refine xO ?_
  refine xE [2, 3] ?_
  rintro -
  refine W_ret ?_
  refine xR (by simp [Try.f62]; exact .mk) ?_
  simp [nrmR, nrmRs, nrmK, kindsOf, kinds, Try.f62, ownR, twosO, twosI]; try rfl

theorem ct60 (g : Gl) (s : Stt) (hs : s.Ok) : CtAt Try.prog g 60 [eStt s] (.v (.bool (rowsS s))) := by
  refine ctAt_of_W Try.func60 rfl rfl (Nat.le_of_ble_eq_true rfl) fun B S => ?_
  simp only [eStt, List.map, argD_agg]
  have q0 := hs.h1
  refine xU ?_
  iterate 2 refine xO ?_
  refine xE [1] ?_
  rintro -
  refine W_seq ?_
  refine W_block ?_
  refine W_seq ?_
  refine xU ?_
  iterate 8 refine xO ?_
  refine xE [1, 4] ?_
  rintro -
  refine W_cond rfl ?_ ?_
  · intro h4
    refine W_skip ?_
    rintro -
    refine W_cond rfl ?_ ?_
    · intro h4'
      refine xU ?_
      refine xO ?_
      refine xE [2] ?_
      rintro -
      refine W_ret ?_
      refine xR (by simp [Try.f60]; exact .mk) ?_
      first | (simp [nrmR, nrmRs, nrmK, kindsOf, kinds, Try.f60, hr]; done) | (simp [nrmR, nrmRs, nrmK, kindsOf, kinds, Try.f60, show rowsS s = false from by (simp [rowsS] at *; grind)])
    intro hq
    cases h4.symm.trans hq
  intro h4
  refine xU ?_
  iterate 8 refine xO ?_
  refine xE [1, 4] ?_
  rintro -
  refine W_cond rfl ?_ ?_
  · intro h4'
    refine W_skip ?_
    rintro -
    refine W_cond rfl ?_ ?_
    · intro h4''
      refine xU ?_
      refine xO ?_
      refine xE [2] ?_
      rintro -
      refine W_ret ?_
      refine xR (by simp [Try.f60]; exact .mk) ?_
      first | (simp [nrmR, nrmRs, nrmK, kindsOf, kinds, Try.f60, hr]; done) | (simp [nrmR, nrmRs, nrmK, kindsOf, kinds, Try.f60, show rowsS s = false from by (simp [rowsS] at *; grind)])
    intro hq
    cases h4'.symm.trans hq
  intro h4'
  refine W_reg rfl ?_
  iterate 8 refine xO ?_
  refine xE [1, 4] ?_
  rintro -
  refine W_cond rfl ?_ ?_
  · intro h4''
    refine xU ?_
    refine xO ?_
    refine xE [2] ?_
    rintro -
    refine W_ret ?_
    refine xR (by simp [Try.f60]; exact .mk) ?_
    first | (simp [nrmR, nrmRs, nrmK, kindsOf, kinds, Try.f60, hr]; done) | (simp [nrmR, nrmRs, nrmK, kindsOf, kinds, Try.f60, show rowsS s = false from by (simp [rowsS] at *; grind)])
  intro h4''
  refine W_seq ?_
  refine xU ?_
  iterate 2 refine xO ?_
  refine run_call0 rfl rfl rfl rfl (by simp; exact .mk) (by simp; exact .mk) (ct100 g s.slots hs.h1) (by simp) (by simp; exact .mk) ?_
  iterate 2 refine xO ?_
  refine xE [1, 26] ?_
  rintro -
  refine W_cond rfl ?_ ?_
  · intro h26
    refine W_skip ?_
    rintro -
    refine W_cond rfl ?_ ?_
    · intro h26'
      refine xU ?_
      refine xO ?_
      refine xE [2] ?_
      rintro -
      refine W_ret ?_
      refine xR (by simp [Try.f60]; exact .mk) ?_
      first | (simp [nrmR, nrmRs, nrmK, kindsOf, kinds, Try.f60, hr]; done) | (simp [nrmR, nrmRs, nrmK, kindsOf, kinds, Try.f60, show rowsS s = false from by (simp [rowsS] at *; grind)])
    intro hq
    cases h26.symm.trans hq
  intro h26
  refine W_reg rfl ?_
  iterate 2 refine xO ?_
  refine run_call0 rfl rfl rfl rfl (by simp; exact .mk) (by simp; exact .mk) (ct54 g s.roots hs.h2 hs.h5) (by simp) (by simp; exact .mk) ?_
  iterate 2 refine xO ?_
  refine xE [1, 26] ?_
  rintro -
  refine W_cond rfl ?_ ?_
  · intro h26'
    refine xU ?_
    refine xO ?_
    refine xE [2] ?_
    rintro -
    refine W_ret ?_
    refine xR (by simp [Try.f60]; exact .mk) ?_
    first | (simp [nrmR, nrmRs, nrmK, kindsOf, kinds, Try.f60, hr]; done) | (simp [nrmR, nrmRs, nrmK, kindsOf, kinds, Try.f60, show rowsS s = false from by (simp [rowsS] at *; grind)])
  intro h26'
  refine W_skip ?_
  rintro -
  refine W_seq ?_
  refine W_seq ?_
  have hh : (s.slots.length : Int) = s.sh.slots ∧ (s.roots.length : Int) = s.sh.roots ∧ s.data.length = s.slots.length ∧ tableS s.slots = true ∧ rootsS s.roots = true := by simp at *; grind
  have hr0 : rowsS s = (List.range s.slots.length).all (lenOk s) := by simp [rowsS, hh]
  obtain ⟨_, _, hdl, _, _⟩ := hh
  refine W_reg rfl ?_
  iterate 4 refine xO ?_
  refine xE [1, 37, 38] ?_
  rintro -
  refine W_block ?_
  refine W_rounds (fun m σ o => ∃ i : Nat, m = s.slots.length - i ∧ i ≤ s.slots.length ∧ (∀ j, j < i → lenOk s j = true) ∧ σ = slots [(1, .ptr 0 0 0), (37, .d (vI s.slots.length)), (38, .d (vI i))] ∧ o = [.var 52 [.d (vI s.sh.pages), .d (vI s.sh.slots), .d (vI s.sh.roots), .d (vI s.sh.room), .d (vI s.mode), .d (vI s.base), .d (rSl s.slots), .d (rR s.roots), .d (rBB s.data)]]) s.slots.length .refl ⟨0, by simp, by simp, by simp, rfl, rfl⟩ ?_
  rintro m σ o ⟨i, rfl, hi, hinv, rfl, rfl⟩ _
  refine xU ?_
  refine xO ?_
  refine xE [1, 37, 38, 39] ?_
  rintro -
  refine W_seq ?_
  refine W_cond rfl ?_ ?_
  · intro h39
    have hi2 : i < s.slots.length := by simpa using h39
    have hi3 : i < s.data.length := by omega
    refine W_skip ?_
    rintro -
    refine W_seq ?_
    refine W_block ?_
    refine xU ?_
    iterate 2 refine xO ?_
    refine xE [1, 3, 37, 38] ?_
    rintro -
    refine W_seq ?_
    refine W_regD (by kernel_rfl) [] 4 [0, 1, 2, 3, 4, 5, 6, 7, 8, 9, 10, 11, 12] (by decide +kernel) ?_
    iterate 3 refine xO ?_
    refine run_op rfl rfl rfl (by simp [hi3]; exact .mk) ?_
    iterate 5 refine xO ?_
    refine run_op rfl rfl rfl (by simp [hi2]; exact .mk) ?_
    iterate 3 refine xO ?_
    refine xE [1, 37, 38, 53] ?_
    rintro -
    refine W_cond rfl ?_ ?_
    · intro h53
      have hr : rowsS s = false := by rw [hr0]; exact all_bad hi2 (by simp [lenOk] at *; simpa [eSlot] using h53)
      refine xU ?_
      refine xO ?_
      refine xE [2] ?_
      rintro -
      refine W_ret ?_
      refine xR (by simp [Try.f60]; exact .mk) ?_
      first | (simp [nrmR, nrmRs, nrmK, kindsOf, kinds, Try.f60, hr]; done) | (simp [nrmR, nrmRs, nrmK, kindsOf, kinds, Try.f60, show rowsS s = false from by (simp [rowsS] at *; grind)])
    intro h53
    refine W_skip ?_
    rintro -
    refine W_reg rfl ?_
    iterate 2 refine xO ?_
    refine xE [1, 37, 38] ?_
    refine rounds_kill [1, 37, 38] ?_
    refine rounds_next (m' := s.slots.length - (i+1)) (by omega) ⟨i+1, rfl, by omega, ?_, ?_, rfl⟩
    · intro j hj
      rcases Nat.lt_succ_iff_lt_or_eq.1 hj with hj | rfl
      · exact hinv j hj
      simp [lenOk] at *; simpa [eSlot] using h53
    rw [wrap64 (by omega) (by omega)]; rfl
  intro h39
  have hr : rowsS s = true := by rw [hr0]; exact all_good (fun j hj => hinv j (by simp at h39; omega))
  refine W_exit ?_
  refine xT ?_
  refine xO ?_
  refine xE [2] ?_
  rintro -
  refine W_ret ?_
  refine xR (by simp [Try.f60]; exact .mk) ?_
  first | (simp [nrmR, nrmRs, nrmK, kindsOf, kinds, Try.f60, hr]; done) | (simp [nrmR, nrmRs, nrmK, kindsOf, kinds, Try.f60, show rowsS s = false from by (simp [rowsS] at *; grind)])

theorem ct107 (g : Gl) (a b : Int) : CtAt Try.prog g 107 [vI a, vI b] (.tup []) := by
  refine ctAt_of_W Try.func107 rfl rfl (Nat.le_of_ble_eq_true rfl) fun B S => ?_
  refine W_skip ?_
  refine end_normal (by simp [Try.f107]; exact .mk) (by simp; exact .mk) ?_ (by simp)
  simp [nrmR, nrmRs, nrmK, kindsOf, kinds, Try.f107]

end Go.Proofs

set_option maxHeartbeats 4000000
set_option maxRecDepth 4000
namespace Go.Proofs
open Go.Awp
theorem in106 (g : Gl) (fr to : Int) (l : List (Int × Int)) (hl : l.length ≤ 2^40) : ∀ B S, CallsA Try.prog g B S ⟨0, true⟩ 106 [.d (vI fr), .d (vI to), .d (rO l), .fn (.func 107) [] []] []
    (fun x r => x = .d (.v (.bool (gapsS fr to l))) ∧ r = []) := by
  refine callsA_at Try.func106 rfl (Nat.le_of_ble_eq_true rfl) fun B S => ?_
  refine xU ?_
  refine xO ?_
  refine xE [0, 1, 2, 3] ?_
  rintro -
  refine W_seq ?_
  refine xU ?_
  iterate 3 refine xO ?_
  iterate 3 refine xI ?_
  refine xP ?_
  refine xB ?_
  iterate 2 refine xI ?_
  refine xP ?_
  refine xB ?_
  refine xI ?_
  refine run_call rfl (by simp; exact .mk) rfl rfl (by simp) (by simp; exact .mk) (by simp; exact .mk) (fun hb => ct130 g fr) (by simp) (by simp; exact .mk) (by simp) ?_
  refine xI ?_
  refine xP ?_
  refine xB ?_
  refine xI ?_
  refine run_call rfl (by simp; exact .mk) rfl rfl (by simp) (by simp; exact .mk) (by simp; exact .mk) (fun hb => ct130 g to) (by simp) (by simp; exact .mk) (by simp) ?_
  refine xI ?_
  refine xP ?_
  refine xE [0, 1, 2, 3, 32] ?_
  rintro -
  refine W_cond rfl ?_ ?_
  · intro h32
    have hr : gapsS fr to l = false := by
      have : gapsHead fr to = false := by simp [gapsHead] at *; grind
      simp [gapsS, this]
    refine xU ?_
    refine xO ?_
    refine xE [8] ?_
    rintro -
    refine W_ret ?_
    refine endAt_drop 0 (by simp [Try.f106]; exact .mk) ?_ ?_ (by simp) (by simp) (by simp)
    · simp [hr]
    rfl
  intro h32
  have hH : 0 ≤ fr ∧ fr ≤ to ∧ to ≤ 2048 ∧ fr.tmod 4 = 0 ∧ to.tmod 4 = 0 := by simp at h32; omega
  have hr0 : gapsS fr to l = gapsOk to fr l := by simp [gapsS, gapsHead, hH]
  refine W_skip ?_
  refine xT ?_
  iterate 2 refine xO ?_
  refine xE [1, 2, 3, 9] ?_
  rintro -
  refine W_seq ?_
  refine xU ?_
  iterate 3 refine xO ?_
  refine xE [1, 3, 9, 34, 35, 36] ?_
  rintro -
  refine W_block ?_
  refine W_rounds (fun m σ o => ∃ (i : Nat) (a : Int), m = l.length - i ∧ i ≤ l.length ∧ 0 ≤ a ∧ a ≤ to ∧ gapsOk to a (l.drop i) = gapsOk to fr l ∧ σ = slots [(1, .d (vI to)), (3, .fn (.func 107) [] []), (9, .d (vI a)), (34, .d (rO l)), (35, .d (vI l.length)), (36, .d (vI i))] ∧ o = []) l.length .refl ⟨0, fr, by simp, by simp, by omega, by omega, by simp, rfl, rfl⟩ ?_
  rintro m σ o ⟨i, a, rfl, hi, ha0, ha1, hinv, rfl, rfl⟩ _
  refine xU ?_
  refine xO ?_
  refine xE [1, 3, 9, 34, 35, 36, 37] ?_
  rintro -
  refine W_seq ?_
  refine W_cond rfl ?_ ?_
  · intro h37
    have hi2 : i < l.length := by simpa using h37
    rw [gapsOk_drop hi2] at hinv
    refine W_skip ?_
    rintro -
    refine W_seq ?_
    refine W_block ?_
    refine xU ?_
    refine run_op rfl rfl rfl (by simp [eObj, *]; exact .mk) ?_
    refine run_op rfl rfl rfl (by simp [eObj]; exact .mk) ?_
    refine xO ?_
    refine run_op rfl rfl rfl (by simp [splice]; exact .mk) ?_
    refine xE [1, 3, 9, 11, 34, 35, 36] ?_
    rintro -
    refine W_seq ?_
    refine W_block ?_
    refine W_seq ?_
    refine xU ?_
    refine xO ?_
    refine run_op rfl rfl rfl (by simp [eObj]; exact .mk) ?_
    iterate 3 refine xO ?_
    refine xE [1, 3, 9, 11, 34, 35, 36, 40] ?_
    rintro -
    refine W_cond rfl ?_ ?_
    · intro h40
      refine W_skip ?_
      rintro -
      refine W_cond rfl ?_ ?_
      · intro h40'
        refine W_seq ?_
        have hb : gapBad to a (nth l i) = true := by simp [gapBad, eObj] at *; grind
        have hr : gapsS fr to l = false := by rw [hr0, ← hinv, hb]; rfl
        refine W_reg rfl ?_
        refine xO ?_
        refine xE [8] ?_
        rintro -
        refine W_ret ?_
        refine endAt_drop 0 (by simp [Try.f106]; exact .mk) ?_ ?_ (by simp) (by simp) (by simp)
        · simp [hr]
        rfl
      intro hq
      cases h40.symm.trans hq
    intro h40
    refine xU ?_
    refine xO ?_
    refine run_op rfl rfl rfl (by simp [eObj]; exact .mk) ?_
    iterate 3 refine xO ?_
    refine xE [1, 3, 9, 11, 34, 35, 36, 40] ?_
    rintro -
    refine W_cond rfl ?_ ?_
    · intro h40'
      refine W_skip ?_
      rintro -
      refine W_cond rfl ?_ ?_
      · intro h40''
        refine W_seq ?_
        have hb : gapBad to a (nth l i) = true := by simp [gapBad, eObj] at *; grind
        have hr : gapsS fr to l = false := by rw [hr0, ← hinv, hb]; rfl
        refine W_reg rfl ?_
        refine xO ?_
        refine xE [8] ?_
        rintro -
        refine W_ret ?_
        refine endAt_drop 0 (by simp [Try.f106]; exact .mk) ?_ ?_ (by simp) (by simp) (by simp)
        · simp [hr]
        rfl
      intro hq
      cases h40'.symm.trans hq
    intro h40'
    refine xU ?_
    refine xO ?_
    refine run_op rfl rfl rfl (by simp [eObj]; exact .mk) ?_
    iterate 2 refine xO ?_
    refine xE [1, 3, 9, 11, 34, 35, 36, 40] ?_
    rintro -
    refine W_cond rfl ?_ ?_
    · intro h40''
      refine W_skip ?_
      rintro -
      refine W_cond rfl ?_ ?_
      · intro h40'''
        refine W_seq ?_
        have hb : gapBad to a (nth l i) = true := by simp [gapBad, eObj] at *; grind
        have hr : gapsS fr to l = false := by rw [hr0, ← hinv, hb]; rfl
        refine W_reg rfl ?_
        refine xO ?_
        refine xE [8] ?_
        rintro -
        refine W_ret ?_
        refine endAt_drop 0 (by simp [Try.f106]; exact .mk) ?_ ?_ (by simp) (by simp) (by simp)
        · simp [hr]
        rfl
      intro hq
      cases h40''.symm.trans hq
    intro h40''
    refine W_seq ?_
    have w1 : IntKind.i64.wrap (to - (nth l i).1) = to - (nth l i).1 := wrap64 (by simp [eObj] at *; omega) (by simp [eObj] at *; omega)
    refine W_reg rfl ?_
    refine xO ?_
    refine run_op rfl rfl rfl (by simp [eObj]; exact .mk) ?_
    iterate 2 refine xO ?_
    refine run_op rfl rfl rfl (by simp [eObj]; exact .mk) ?_
    refine run_op rfl rfl rfl (by simp [w1]; exact .mk) ?_
    iterate 2 refine xO ?_
    refine xE [1, 3, 9, 11, 34, 35, 36, 40] ?_
    rintro -
    refine W_cond rfl ?_ ?_
    · intro h40'''
      refine W_skip ?_
      rintro -
      refine W_cond rfl ?_ ?_
      · intro h40''''
        refine W_seq ?_
        have hb : gapBad to a (nth l i) = true := by simp [gapBad, eObj] at *; grind
        have hr : gapsS fr to l = false := by rw [hr0, ← hinv, hb]; rfl
        refine W_reg rfl ?_
        refine xO ?_
        refine xE [8] ?_
        rintro -
        refine W_ret ?_
        refine endAt_drop 0 (by simp [Try.f106]; exact .mk) ?_ ?_ (by simp) (by simp) (by simp)
        · simp [hr]
        rfl
      intro hq
      cases h40'''.symm.trans hq
    intro h40'''
    refine xU ?_
    refine xO ?_
    refine run_op rfl rfl rfl (by simp [eObj]; exact .mk) ?_
    refine run_call0 rfl rfl rfl rfl (by simp; exact .mk) (by simp; exact .mk) (ct130 g _) (by simp) (by simp; exact .mk) ?_
    iterate 2 refine xO ?_
    refine xE [1, 3, 9, 11, 34, 35, 36, 40] ?_
    rintro -
    refine W_cond rfl ?_ ?_
    · intro h40''''
      refine W_skip ?_
      rintro -
      refine W_cond rfl ?_ ?_
      · intro h40'''''
        refine W_seq ?_
        have hb : gapBad to a (nth l i) = true := by simp [gapBad, eObj] at *; grind
        have hr : gapsS fr to l = false := by rw [hr0, ← hinv, hb]; rfl
        refine W_reg rfl ?_
        refine xO ?_
        refine xE [8] ?_
        rintro -
        refine W_ret ?_
        refine endAt_drop 0 (by simp [Try.f106]; exact .mk) ?_ ?_ (by simp) (by simp) (by simp)
        · simp [hr]
        rfl
      intro hq
      cases h40''''.symm.trans hq
    intro h40''''
    refine W_reg rfl ?_
    refine xO ?_
    refine run_op rfl rfl rfl (by simp [eObj]; exact .mk) ?_
    refine run_call0 rfl rfl rfl rfl (by simp; exact .mk) (by simp; exact .mk) (ct130 g _) (by simp) (by simp; exact .mk) ?_
    iterate 2 refine xO ?_
    refine xE [1, 3, 9, 11, 34, 35, 36, 40] ?_
    rintro -
    refine W_cond rfl ?_ ?_
    · intro h40'''''
      refine W_seq ?_
      have hb : gapBad to a (nth l i) = true := by simp [gapBad, eObj] at *; grind
      have hr : gapsS fr to l = false := by rw [hr0, ← hinv, hb]; rfl
      refine W_reg rfl ?_
      refine xO ?_
      refine xE [8] ?_
      rintro -
      refine W_ret ?_
      refine endAt_drop 0 (by simp [Try.f106]; exact .mk) ?_ ?_ (by simp) (by simp) (by simp)
      · simp [hr]
      rfl
    intro h40'''''
    refine W_skip ?_
    rintro -
    refine W_seq ?_
    have hb : gapBad to a (nth l i) = false := by simp [gapBad, eObj] at *; grind
    have hb2 : a ≤ (nth l i).1 ∧ (nth l i).1 ≤ to ∧ 4 ≤ (nth l i).2 ∧ (nth l i).2 ≤ to - (nth l i).1 := by simp [gapBad] at hb; omega
    have w2 : IntKind.i64.wrap ((nth l i).1 + (nth l i).2) = (nth l i).1 + (nth l i).2 := wrap64 (by omega) (by omega)
    rw [hb] at hinv
    refine W_reg rfl ?_
    iterate 3 refine xO ?_
    refine run_op rfl rfl rfl (by simp [eObj]; exact .mk) ?_
    refine run_call0 rfl rfl rfl rfl (by simp; exact .mk) (by simp; exact .mk) (ct107 g _ _) (by simp) (by simp; exact .mk) ?_
    refine xE [1, 3, 11, 34, 35, 36] ?_
    rintro -
    refine W_reg rfl ?_
    refine xO ?_
    refine run_op rfl rfl rfl (by simp [eObj]; exact .mk) ?_
    refine xO ?_
    refine run_op rfl rfl rfl (by simp [eObj]; exact .mk) ?_
    refine run_op rfl rfl rfl (by simp [w2]; exact .mk) ?_
    refine xO ?_
    refine xE [1, 3, 9, 34, 35, 36] ?_
    rintro -
    refine W_reg rfl ?_
    iterate 2 refine xO ?_
    refine xE [1, 3, 9, 34, 35, 36] ?_
    refine rounds_drop 0 [1, 3, 9, 34, 35, 36] (by simp) (by simp) (by simp) ?_
    refine rounds_next (m' := l.length - (i+1)) (by omega) ⟨i+1, (nth l i).1 + (nth l i).2, rfl, by omega, by omega, by omega, by simpa using hinv, ?_, rfl⟩
    rw [wrap64 (by omega) (by omega)]; rfl
  intro h37
  obtain rfl : i = l.length := by simp at h37; omega
  have hr : gapsS fr to l = true := by rw [hr0, ← hinv]; simp [gapsOk]
  refine W_exit ?_
  refine xT ?_
  iterate 3 refine xO ?_
  refine run_call0 rfl rfl rfl rfl (by simp; exact .mk) (by simp; exact .mk) (ct107 g _ _) (by simp) (by simp; exact .mk) ?_
  refine xE [] ?_
  refine xT ?_
  refine xO ?_
  refine xE [8] ?_
  rintro -
  refine W_ret ?_
  refine endAt_drop 0 (by simp [Try.f106]; exact .mk) ?_ ?_ (by simp) (by simp) (by simp)
  · simp [hr]
  rfl

theorem ct64 (g : Gl) (fr to : Int) (l : List (Int × Int)) (hl : l.length ≤ 2^40) : CtAt Try.prog g 64 [vI fr, vI to, rO l] (.v (.bool (gapsS fr to l))) := by
  refine ctAt_of_W Try.func64 rfl rfl (Nat.le_of_ble_eq_true rfl) fun B S => ?_
  refine xU ?_
  refine xO ?_
  refine xE [0, 1, 2] ?_
  refine xT ?_
  iterate 3 refine xO ?_
  refine run_inl0 rfl rfl rfl rfl (by simp; exact .mk) ⟨_, Try.func106, rfl, rfl⟩ (in106 g fr to l hl) (.inr ⟨[], rfl⟩) ?_
  refine xO ?_
  refine xE [6] ?_
  rintro -
  refine W_ret ?_
  refine xR (by simp [Try.f64]; exact .mk) ?_
  simp [nrmR, nrmRs, nrmK, kindsOf, kinds, Try.f64]

end Go.Proofs

namespace Go.Proofs
open Go.Awp
theorem tableS_slot {l : List Slot} (h : tableS l = true) : ∀ i, i < l.length → slotS1 (nth l i) = true := by
  simp only [tableS, Bool.and_eq_true, List.all_eq_true, List.mem_range] at h
  exact h.1
theorem tableS_len {l : List Slot} (h : tableS l = true) : l.length ≤ 32 := by
  simp only [tableS, Bool.and_eq_true, tnewOk, decide_eq_true_eq] at h
  omega
theorem slotS1_live {s : Slot} (h : slotS1 s = true) (hl : s.live = true) : 0 ≤ s.at_ ∧ s.at_ ≤ 2048 ∧ 1 ≤ s.len ∧ s.len ≤ 2048 := by
  unfold slotS1 at h
  split at h
  · cases h
  · rw [if_neg (by simp [hl])] at h
    simpa using h
theorem twoIx_mem {l : List Slot} {n j : Nat} (h : j ∈ twoIx l n) : j < n ∧ isTwo (nth l j) = true := by
  simp only [twoIx, List.mem_filter, List.mem_range] at h
  exact h
theorem oneIx_mem {l : List Slot} {n j : Nat} (h : j ∈ oneIx l n) : j < n ∧ isOne (nth l j) = true := by
  simp only [oneIx, List.mem_filter, List.mem_range] at h
  exact h
theorem nth_map {α β : Type} [Inhabited α] [Inhabited β] {f : α → β} {l : List α} {i : Nat} (h : i < l.length) : nth (l.map f) i = f (nth l i) := by
  rw [nth_eq (by simpa using h), List.getElem_map, nth_eq h]
theorem nth_mem {α : Type} [Inhabited α] {l : List α} {i : Nat} (h : i < l.length) : nth l i ∈ l := by
  rw [nth_eq h]; exact List.getElem_mem h
theorem twosO_le {l : List Slot} (h : tableS l = true) : ∀ i, i < (twosO l).length → (nth (twosO l) i).1 ≤ 2^40 := by
  intro i hi
  have hi2 : i < (twoIx l l.length).length := by simpa [twosO] using hi
  rw [twosO, nth_map hi2]
  obtain ⟨h1, h2⟩ := twoIx_mem (nth_mem hi2)
  have h3 := slotS1_live (tableS_slot h _ h1) (by simp [isTwo] at h2; exact h2.1)
  simp only [objAt]; omega
theorem twosO_len {l : List Slot} : (twosO l).length ≤ l.length := by simpa [twosO] using twoIx_len
def spanOf (b : Blk) : Int × Int := (b.at_, b.len)
def spansS (l : List Slot) : List (Int × Int) := (onesS l).map spanOf
def modeOk (s : Stt) : Bool := if s.mode = 1 then decide ((twosO s.slots).length = 0) else if s.mode = 2 then decide ((spansS s.slots).length = 0) else true
/-- Which states are right. -/
def sttS (s : Stt) : Bool := superS s.sh s.mode s.base && (rowsS s && ((laidS s.base (twosO s.slots)).isSome && (gapsS (s.base * 32) (s.sh.pages * 32) (spansS s.slots) && modeOk s)))
theorem take_succ {α : Type} [Inhabited α] {l : List α} {i : Nat} (h : i < l.length) : l.take (i + 1) = l.take i ++ [nth l i] := by
  rw [List.take_succ_eq_append_getElem h, nth_eq h]
theorem superS_b {sh : Shape} {mode base : Int} (h : superS sh mode base = true) : 0 ≤ base ∧ base ≤ sh.pages ∧ 1 ≤ sh.pages ∧ sh.pages ≤ 64 := by
  simp only [superS, shapeS, sizedSh, Bool.and_eq_true, decide_eq_true_eq] at h
  omega
theorem rowsS_t {s : Stt} (h : rowsS s = true) : tableS s.slots = true := by
  simp only [rowsS, Bool.and_eq_true] at h; exact h.2.1
end Go.Proofs

set_option maxHeartbeats 4000000
set_option maxRecDepth 4000
namespace Go.Proofs
open Go.Awp
theorem ct63 (g : Gl) (pages : Int) (l : List (Int × Int)) (hl : l.length ≤ 2^40) (ho : ∀ i, i < l.length → (nth l i).1 ≤ 2^40) : CtAt Try.prog g 63 [vI pages, rO l] (.tup [oI (match laidS pages l with | some y => y.1 | none => []), vT (laidS pages l).isSome]) := by
  refine ctAt_of_W Try.func63 rfl rfl (Nat.le_of_ble_eq_true rfl) fun B S => ?_
  have hc := in105 g pages l hl ho
  refine xU ?_
  iterate 2 refine xO ?_
  refine xE [0, 1] ?_
  rintro -
  refine W_seq ?_
  cases hr : laidS pages l
  · skip
    simp only [hr] at hc
    refine W_reg rfl ?_
    iterate 2 refine xO ?_
    refine run_inl0 rfl rfl rfl rfl (by simp; exact .mk) ⟨_, Try.func105, rfl, rfl⟩ hc (.inl (by simp)) ?_
    iterate 5 refine xO ?_
    refine xE [6, 7] ?_
    rintro -
    refine W_seq ?_
    refine xU ?_
    iterate 2 refine xO ?_
    refine xE [6, 15] ?_
    rintro -
    refine W_cond rfl ?_ ?_
    · intro h15
      refine xU ?_
      iterate 2 refine xO ?_
      refine xE [4, 5] ?_
      rintro -
      refine W_ret ?_
      refine xR (by simp [Try.f63]; exact .mk) ?_
      simp [nrmR, nrmRs, nrmK, kindsOf, kinds, Try.f63, ownR]; try rfl
    intro h15
    simp at h15
  skip
  rename_i y
  simp only [hr] at hc
  have hy : y.1.length = pages.toNat := by
    simp only [laidS] at hr
    split at hr
    · cases hr; exact stI_len.1
    cases hr
  rw [← hy] at hc
  refine W_reg rfl ?_
  iterate 2 refine xO ?_
  refine run_inl0 rfl rfl rfl rfl (by simp; exact .mk) ⟨_, Try.func105, rfl, rfl⟩ hc (.inl (by simp)) ?_
  iterate 5 refine xO ?_
  refine xE [6, 7] ?_
  rintro -
  refine W_seq ?_
  refine xU ?_
  iterate 2 refine xO ?_
  refine xE [6, 15] ?_
  rintro -
  refine W_cond rfl ?_ ?_
  · intro h15
    simp at h15
  intro h15
  refine W_skip ?_
  refine xT ?_
  iterate 6 refine xO ?_
  refine xE [4, 5] ?_
  rintro -
  refine W_ret ?_
  refine xR (by simp [Try.f63]; exact .mk) ?_
  simp [nrmR, nrmRs, nrmK, kindsOf, kinds, Try.f63, ownR]; try rfl

theorem ct28 (g : Gl) (s : Stt) (hs : s.Ok) : CtAt Try.prog g 28 [eStt s] (.v (.bool (sttS s))) := by
  refine ctAt_of_W Try.func28 rfl rfl (Nat.le_of_ble_eq_true rfl) fun B S => ?_
  simp only [eStt, List.map, argD_agg]
  have q0 := hs.h1
  refine xU ?_
  iterate 2 refine xO ?_
  refine xE [1] ?_
  rintro -
  refine W_seq ?_
  refine xU ?_
  refine xO ?_
  refine run_op rfl rfl rfl (by simp [eBlk]; exact .mk) ?_
  refine xO ?_
  refine run_op rfl rfl rfl (by simp [eBlk]; exact .mk) ?_
  refine xO ?_
  refine run_op rfl rfl rfl (by simp [eBlk]; exact .mk) ?_
  refine run_call0 rfl rfl rfl rfl (by simp; exact .mk) (by simp [show D.roed ∘ eObj = eObj from funext roed_eObj]; exact .mk) (ct59 g s.sh s.mode s.base) (by simp) (by simp; exact .mk) ?_
  iterate 2 refine xO ?_
  refine run_if rfl (by simp; exact .mk) rfl (by simp <;> first | omega | grind) (fun hb => by simp [eBlk]; exact .mk) ?_
  refine run_call rfl (by simp; exact .mk) rfl rfl (by simp) (by simp; exact .mk) (by simp [show D.roed ∘ eObj = eObj from funext roed_eObj]; exact .mk) (fun hb => ct60 g s hs) (by simp) (by simp; exact .mk) (by simp) ?_
  refine xI ?_
  refine xP ?_
  refine xE [1, 22] ?_
  rintro -
  refine W_cond rfl ?_ ?_
  · intro h22
    have hr : sttS s = false := by simp [sttS] at *; grind
    refine xU ?_
    refine xO ?_
    refine xE [2] ?_
    rintro -
    refine W_ret ?_
    refine xR (by simp [Try.f28]; exact .mk) ?_
    first | (simp [nrmR, nrmRs, nrmK, kindsOf, kinds, Try.f28, hr]; done) | (simp [nrmR, nrmRs, nrmK, kindsOf, kinds, Try.f28, hr0]; done) | (simp [nrmR, nrmRs, nrmK, kindsOf, kinds, Try.f28, hr0]; generalize twosO s.slots = V; cases V <;> simp <;> omega) | (simp [nrmR, nrmRs, nrmK, kindsOf, kinds, Try.f28, hr0]; clear hU hm hm2; cases U <;> simp <;> omega)
  intro h22
  have hsu : superS s.sh s.mode s.base = true ∧ rowsS s = true := by simp at h22; exact h22
  have hb := superS_b hsu.1
  have hT := rowsS_t hsu.2
  have hl32 := tableS_len hT
  have hol := onesS_len (l := s.slots)
  have hr0 : sttS s = ((laidS s.base (twosO s.slots)).isSome && (gapsS (s.base * 32) (s.sh.pages * 32) (spansS s.slots) && modeOk s)) := by simp [sttS, hsu]
  refine W_skip ?_
  refine xT ?_
  refine xO ?_
  refine xE [1, 3] ?_
  rintro -
  refine W_seq ?_
  refine xU ?_
  refine run_op rfl rfl rfl (by simp [eBlk]; exact .mk) ?_
  refine run_call0 rfl rfl rfl rfl (by simp; exact .mk) (by simp [show D.roed ∘ eObj = eObj from funext roed_eObj]; exact .mk) (ct61 g s hs) (by simp) (by simp; exact .mk) ?_
  iterate 2 refine xO ?_
  refine xE [1, 3, 24, 25, 26] ?_
  rintro -
  refine W_block ?_
  refine W_rounds (fun m σ o => ∃ i : Nat, m = (onesS s.slots).length - i ∧ i ≤ (onesS s.slots).length ∧ σ = slots [(1, .ptr 0 0 0), (3, .hdr 2 0 i), (24, .hdr 1 0 (onesS s.slots).length), (25, .d (vI (onesS s.slots).length)), (26, .d (vI i))] ∧ o = [.var 52 [.d (vI s.sh.pages), .d (vI s.sh.slots), .d (vI s.sh.roots), .d (vI s.sh.room), .d (vI s.mode), .d (vI s.base), .d (rSl s.slots), .d (rR s.roots), .d (rBB s.data)], .row 3 ((onesS s.slots).map eBlk), .row 2 (((onesS s.slots).take i).map fun b => eObj (spanOf b))]) (onesS s.slots).length
    (Weak.trans (Weak.nilRow 3 2 rfl) (Weak.kills [1, 3, 24, 25, 26] rfl) (fun _ _ _ h1 h2 => by rw [← h1.len]; exact h2)) ⟨0, by simp, by simp, by simp, by simp⟩ ?_
  rintro m σ o ⟨i, rfl, hi, rfl, rfl⟩ _
  refine xU ?_
  refine xO ?_
  refine xE [1, 3, 24, 25, 26, 27] ?_
  rintro -
  refine W_seq ?_
  refine W_cond rfl ?_ ?_
  · intro h27
    have hi2 : i < (onesS s.slots).length := by simpa using h27
    have e1 : (i + 1) * 16 ≤ 140737488355328 := by omega
    have e2 : i ≤ 140737488355327 := by omega
    have htk : ((onesS s.slots).take i).length = i := by simp; omega
    refine W_skip ?_
    rintro -
    refine W_seq ?_
    refine W_block ?_
    refine xU ?_
    refine run_op rfl rfl rfl (by simp [eBlk, hi2]; exact .mk) ?_
    refine run_op rfl rfl rfl (by simp [-List.getElem?_map, map_get hi2, eBlk]; exact .mk) ?_
    refine xO ?_
    refine run_op rfl rfl rfl (by simp [splice]; exact .mk) ?_
    refine xE [1, 3, 5, 24, 25, 26] ?_
    rintro -
    refine W_reg rfl ?_
    iterate 2 refine xO ?_
    refine run_op rfl rfl rfl (by simp [eBlk]; exact .mk) ?_
    refine xO ?_
    refine run_op rfl rfl rfl (by simp [eBlk]; exact .mk) ?_
    refine run_op rfl rfl rfl (by simp [splice]; exact .mk) ?_
    refine xO ?_
    refine run_op rfl rfl rfl (by simp [rows, e1, e2, htk, Nat.min_eq_left hi]; exact .mk) ?_
    refine xO ?_
    refine xE [1, 3, 24, 25, 26] ?_
    rintro -
    refine W_reg rfl ?_
    iterate 2 refine xO ?_
    refine xE [1, 3, 24, 25, 26] ?_
    refine rounds_kill [1, 3, 24, 25, 26] ?_
    refine rounds_kills [1, 3, 24, 25, 26] rfl ?_
    refine rounds_swap 2 5 1 (by decide) (by simp) (by decide) rfl rfl ?_
    refine rounds_drop 3 [1, 3, 24, 25, 26] (by decide) (by rfl) (by rfl) ?_
    refine rounds_next (m' := (onesS s.slots).length - (i+1)) (by omega) ⟨i+1, rfl, by omega, ?_, ?_⟩
    · rw [wrap64 (by omega) (by omega)]; simp; try rfl
    rw [take_succ hi2]; simp [eObj, spanOf, eBlk]; try rfl
  intro h27
  obtain rfl : i = (onesS s.slots).length := by simp at h27; omega
  obtain ⟨U, hU⟩ : ∃ U, U = spansS s.slots := ⟨_, rfl⟩
  have hm : List.take (onesS s.slots).length (List.map (fun b => eObj (spanOf b)) (onesS s.slots)) = U.map eObj := by rw [hU, spansS, ← List.map_take, List.take_length, List.map_map]; rfl
  have hm2 : (onesS s.slots).length = U.length := by rw [hU, spansS, List.length_map]
  rw [hm, hm2]
  have e4 : IntKind.i64.wrap (s.base * 32) = s.base * 32 := wrap64 (by omega) (by omega)
  have e5 : IntKind.i64.wrap (s.sh.pages * 32) = s.sh.pages * 32 := wrap64 (by omega) (by omega)
  have htl := twosO_len (l := s.slots)
  rw [← hU] at hr0
  refine W_exit ?_
  refine xT ?_
  refine run_op rfl rfl rfl (by simp [eBlk]; exact .mk) ?_
  refine run_call0 rfl rfl rfl rfl (by simp; exact .mk) (by simp [show D.roed ∘ eObj = eObj from funext roed_eObj]; exact .mk) (ct62 g s hs) (by simp) (by simp; exact .mk) ?_
  iterate 5 refine xO ?_
  refine xE [1, 3, 6] ?_
  refine xT ?_
  refine xO ?_
  refine run_op rfl rfl rfl (by simp [eBlk]; exact .mk) ?_
  refine xO ?_
  refine run_call0 rfl rfl rfl rfl (by simp; exact .mk) (by simp [show D.roed ∘ eObj = eObj from funext roed_eObj]; exact .mk) (ct63 g s.base (twosO s.slots) (by omega) (twosO_le hT)) (by simp) (by simp; exact .mk) ?_
  iterate 5 refine xO ?_
  refine xE [1, 3, 6, 9] ?_
  rintro -
  refine W_seq ?_
  refine W_block ?_
  refine W_seq ?_
  refine xU ?_
  iterate 3 refine xO ?_
  refine xE [1, 3, 6, 51] ?_
  rintro -
  refine W_cond rfl ?_ ?_
  · intro h51
    have hr : sttS s = false := by rw [hr0]; first | (simp at h51'; simp [h51']; done) | (simp at h51; simp [h51]; done)
    refine W_skip ?_
    rintro -
    refine W_cond rfl ?_ ?_
    · intro h51'
      have hr : sttS s = false := by rw [hr0]; first | (simp at h51'; simp [h51']; done) | (simp at h51; simp [h51]; done)
      refine xU ?_
      refine xO ?_
      refine xE [2] ?_
      rintro -
      refine W_ret ?_
      refine xR (by simp [Try.f28]; exact .mk) ?_
      first | (simp [nrmR, nrmRs, nrmK, kindsOf, kinds, Try.f28, hr]; done) | (simp [nrmR, nrmRs, nrmK, kindsOf, kinds, Try.f28, hr0]; done) | (simp [nrmR, nrmRs, nrmK, kindsOf, kinds, Try.f28, hr0]; generalize twosO s.slots = V; cases V <;> simp <;> omega) | (simp [nrmR, nrmRs, nrmK, kindsOf, kinds, Try.f28, hr0]; clear hU hm hm2; cases U <;> simp <;> omega)
    intro hq
    cases h51.symm.trans hq
  intro h51
  refine W_reg rfl ?_
  refine xO ?_
  refine run_op rfl rfl rfl (by simp [eBlk]; exact .mk) ?_
  refine run_op rfl rfl rfl (by simp [e4]; exact .mk) ?_
  iterate 2 refine xO ?_
  refine run_op rfl rfl rfl (by simp [eBlk]; exact .mk) ?_
  refine run_op rfl rfl rfl (by simp [e5]; exact .mk) ?_
  refine xO ?_
  refine run_call0 rfl rfl rfl rfl (by simp; exact .mk) (by simp [show D.roed ∘ eObj = eObj from funext roed_eObj]; exact .mk) (ct64 g (s.base * 32) (s.sh.pages * 32) U (by omega)) (by simp) (by simp; exact .mk) ?_
  iterate 2 refine xO ?_
  refine xE [1, 3, 6, 51] ?_
  rintro -
  refine W_cond rfl ?_ ?_
  · intro h51'
    have hr : sttS s = false := by rw [hr0]; first | (simp at h51'; simp [h51']; done) | (simp at h51; simp [h51]; done)
    refine xU ?_
    refine xO ?_
    refine xE [2] ?_
    rintro -
    refine W_ret ?_
    refine xR (by simp [Try.f28]; exact .mk) ?_
    first | (simp [nrmR, nrmRs, nrmK, kindsOf, kinds, Try.f28, hr]; done) | (simp [nrmR, nrmRs, nrmK, kindsOf, kinds, Try.f28, hr0]; done) | (simp [nrmR, nrmRs, nrmK, kindsOf, kinds, Try.f28, hr0]; generalize twosO s.slots = V; cases V <;> simp <;> omega) | (simp [nrmR, nrmRs, nrmK, kindsOf, kinds, Try.f28, hr0]; clear hU hm hm2; cases U <;> simp <;> omega)
  intro h51'
  have hl : (laidS s.base (twosO s.slots)).isSome = true := by simpa using h51
  have hg : gapsS (s.base * 32) (s.sh.pages * 32) U = true := by simpa using h51'
  rw [hl, hg, Bool.true_and, Bool.true_and, modeOk, ← hU] at hr0
  refine xU ?_
  refine xO ?_
  refine run_op rfl rfl rfl (by simp [eBlk]; exact .mk) ?_
  iterate 2 refine xO ?_
  refine xE [1, 3, 6, 64] ?_
  rintro -
  refine W_cond rfl ?_ ?_
  · intro h64
    rw [if_pos (by simpa using h64)] at hr0
    refine xU ?_
    iterate 4 refine xO ?_
    refine xE [2] ?_
    rintro -
    refine W_ret ?_
    refine xR (by simp [Try.f28]; exact .mk) ?_
    first | (simp [nrmR, nrmRs, nrmK, kindsOf, kinds, Try.f28, hr]; done) | (simp [nrmR, nrmRs, nrmK, kindsOf, kinds, Try.f28, hr0]; done) | (simp [nrmR, nrmRs, nrmK, kindsOf, kinds, Try.f28, hr0]; generalize twosO s.slots = V; cases V <;> simp <;> omega) | (simp [nrmR, nrmRs, nrmK, kindsOf, kinds, Try.f28, hr0]; clear hU hm hm2; cases U <;> simp <;> omega)
  intro h64
  rw [if_neg (by simpa using h64)] at hr0
  refine xU ?_
  refine xO ?_
  refine run_op rfl rfl rfl (by simp [eBlk]; exact .mk) ?_
  iterate 2 refine xO ?_
  refine xE [3, 71] ?_
  rintro -
  refine W_cond rfl ?_ ?_
  · intro h71
    rw [if_pos (by simpa using h71)] at hr0
    refine xU ?_
    iterate 4 refine xO ?_
    refine xE [2] ?_
    rintro -
    refine W_ret ?_
    refine xR (by simp [Try.f28]; exact .mk) ?_
    first | (simp [nrmR, nrmRs, nrmK, kindsOf, kinds, Try.f28, hr]; done) | (simp [nrmR, nrmRs, nrmK, kindsOf, kinds, Try.f28, hr0]; done) | (simp [nrmR, nrmRs, nrmK, kindsOf, kinds, Try.f28, hr0]; generalize twosO s.slots = V; cases V <;> simp <;> omega) | (simp [nrmR, nrmRs, nrmK, kindsOf, kinds, Try.f28, hr0]; clear hU hm hm2; cases U <;> simp <;> omega)
  intro h71
  rw [if_neg (by simpa using h71)] at hr0
  refine W_skip ?_
  refine xT ?_
  refine xO ?_
  refine xE [2] ?_
  rintro -
  refine W_ret ?_
  refine xR (by simp [Try.f28]; exact .mk) ?_
  first | (simp [nrmR, nrmRs, nrmK, kindsOf, kinds, Try.f28, hr]; done) | (simp [nrmR, nrmRs, nrmK, kindsOf, kinds, Try.f28, hr0]; done) | (simp [nrmR, nrmRs, nrmK, kindsOf, kinds, Try.f28, hr0]; generalize twosO s.slots = V; cases V <;> simp <;> omega) | (simp [nrmR, nrmRs, nrmK, kindsOf, kinds, Try.f28, hr0]; clear hU hm hm2; cases U <;> simp <;> omega)

end Go.Proofs

namespace Go.Proofs
open Go.Awp
def oStt (s : Stt) : D := .agg [vI s.sh.pages, vI s.sh.slots, vI s.sh.roots, vI s.sh.room, vI s.mode, vI s.base, oSl s.slots, oR s.roots, oBB s.data]
@[simp] theorem noSn_oStt (s : Stt) : (oStt s).noSn = true := by simp [oStt]
@[simp] theorem noRo_oStt (s : Stt) : (oStt s).noRo = true := by simp [oStt]
def zStt : Stt := ⟨⟨0, 0, 0, 0⟩, 0, 0, [], [], []⟩
def baseOf (sh : Shape) (mode : Int) : Int := if mode = 2 then sh.pages else 0
def firstStt (sh : Shape) (mode : Int) : Stt := ⟨sh, mode, baseOf sh mode, List.replicate sh.slots.toNat zSlot, List.replicate sh.roots.toNat zRoot, List.replicate sh.slots.toNat []⟩
def newS (sh : Shape) (mode : Int) : Stt × Int := if superS sh mode (baseOf sh mode) && decide (mode ≤ 2) then (firstStt sh mode, 0) else (zStt, 1)
def fewStt (s : Stt) : Bool := (List.range (min s.data.length 100)).all (fun i => decide (((nth s.data i).length : Int) ≤ 4096)) && ((List.range (min s.roots.length 100)).all (fun i => decide (((nth s.roots i).name.size : Int) ≤ 1024))
  && (decide ((s.slots.length : Int) ≤ 60) && (decide ((s.roots.length : Int) ≤ 60) && decide ((s.data.length : Int) ≤ 60))))
theorem fewStt_len {s : Stt} (h : fewStt s = true) : s.slots.length ≤ 60 ∧ s.roots.length ≤ 60 ∧ s.data.length ≤ 60 := by
  simp [fewStt] at h; omega
theorem fewStt_ok {s : Stt} (h : fewStt s = true) : s.Ok := by
  simp [fewStt] at h
  obtain ⟨h1, h2, h3, h4, h5⟩ := h
  refine ⟨by omega, by omega, by omega, fun i hi => ?_, fun i hi => ?_⟩
  · have := h1 i (by omega); omega
  · have := h2 i (by omega); omega
def sh4 : Shape := ⟨4, 4, 2, 30⟩
theorem new4 : newS sh4 2 = (firstStt sh4 2, 0) := by kernel_rfl
theorem new4up : newS sh4 3 = (zStt, 1) := by kernel_rfl
theorem right4 : sttS (firstStt sh4 2) = true := by kernel_rfl
theorem superS_sh {sh : Shape} {mode base : Int} (h : superS sh mode base = true) : (2 ≤ sh.slots ∧ sh.slots ≤ 32 ∧ sh.slots.tmod 2 = 0) ∧ 2 ≤ sh.roots ∧ sh.roots ≤ 8 ∧ sh.roots.tmod 2 = 0 := by
  simp only [superS, shapeS, sizedSh, Bool.and_eq_true, decide_eq_true_eq] at h
  omega
theorem superS_tnew {sh : Shape} {mode base : Int} (h : superS sh mode base = true) : tnewOk sh.slots = true := by
  simp only [tnewOk, decide_eq_true_eq]; exact (superS_sh h).1
theorem superS_rnew {sh : Shape} {mode base : Int} (h : superS sh mode base = true) : newOk sh.roots = true := by
  have := (superS_sh h).2
  simp [newOk]; omega
theorem firstOk {sh : Shape} {mode base : Int} (h : superS sh mode base = true) : (firstStt sh mode).Ok := by
  have := superS_sh h
  refine ⟨by simp [firstStt]; omega, by simp [firstStt]; omega, by simp [firstStt]; omega, fun i hi => ?_, fun i hi => ?_⟩
  · simp only [firstStt, List.length_replicate] at hi ⊢
    rw [nth_eq (by simpa using hi), List.getElem_replicate]; simp
  · simp only [firstStt, List.length_replicate] at hi ⊢
    rw [nth_eq (by simpa using hi), List.getElem_replicate]; simp [zRoot, ByteArray.size]
end Go.Proofs

set_option maxHeartbeats 4000000
set_option maxRecDepth 4000
namespace Go.Proofs
open Go.Awp
theorem ct65 (g : Gl) (sh : Shape) (mode : Int) : CtAt Try.prog g 65 [eShape sh, vI mode] (.tup [oStt (newS sh mode).1, vI (newS sh mode).2]) := by
  refine ctAt_of_W Try.func65 rfl rfl (Nat.le_of_ble_eq_true rfl) fun B S => ?_
  simp only [eShape, List.map, argD_agg, argD_v]
  refine xU ?_
  iterate 3 refine xO ?_
  refine xE [1, 2, 4] ?_
  refine xT ?_
  refine xO ?_
  refine xE [1, 2, 4, 6] ?_
  rintro -
  refine W_seq ?_
  refine xU ?_
  iterate 2 refine xO ?_
  refine xE [1, 2, 4, 6, 12] ?_
  rintro -
  refine W_cond rfl ?_ ?_
  · intro h12
    have hm : mode = 2 := by simpa using h12
    have hb : baseOf sh mode = sh.pages := by rw [baseOf, if_pos hm]
    refine W_reg rfl ?_
    iterate 3 refine xO ?_
    refine xE [1, 2, 4, 6] ?_
    rintro -
    refine W_seq ?_
    refine xU ?_
    iterate 3 refine xO ?_
    refine run_call0 rfl rfl rfl rfl (by simp; exact .mk) (by simp; exact .mk) (by first | exact ct59 g sh mode sh.pages | exact ct59 g sh mode 0) (by simp) (by simp; exact .mk) ?_
    iterate 2 refine xO ?_
    iterate 2 refine xI ?_
    refine xP ?_
    refine xE [1, 2, 4, 6, 23] ?_
    rintro -
    refine W_cond rfl ?_ ?_
    · intro h23
      have hr : newS sh mode = (zStt, 1) := by unfold newS; rw [hb, if_neg]; simp at h23 ⊢; grind
      refine xU ?_
      iterate 2 (refine run_op rfl rfl rfl (by simp [splice]; exact .mk) ?_)
      refine xO ?_
      refine xE [4, 5] ?_
      rintro -
      refine W_ret ?_
      refine end_ret (by simp [Try.f65]; exact .mk) (by simp; exact .mk) ?_ (by simp [oStt])
      simp [nrmR, nrmRs, nrmK, kindsOf, kinds, Try.f65, hr, oStt, zStt, firstStt, hb, ownR]
    intro h23
    have hs : superS sh mode (baseOf sh mode) = true ∧ mode ≤ 2 := by rw [hb]; simp at h23; exact h23
    have hr : newS sh mode = (firstStt sh mode, 0) := by unfold newS; rw [if_pos]; simp [hs]
    have c67 := ct108 g sh.slots
    have c68 := ct96 g sh.roots
    simp only [superS_tnew hs.1, superS_rnew hs.1, if_true] at c67 c68
    have hsh := superS_sh hs.1
    have e0 : 0 ≤ sh.slots := by omega
    have e1 : 24 * sh.slots ≤ 140737488355328 := by omega
    have e2 : sh.slots ≤ 140737488355328 := by omega
    refine W_skip ?_
    refine xT ?_
    iterate 2 refine xO ?_
    refine run_call0 rfl rfl rfl rfl (by simp; exact .mk) (by simp; exact .mk) (c67) (by simp) (by simp; exact .mk) ?_
    iterate 5 refine xO ?_
    refine xE [1, 2, 4, 6, 7] ?_
    refine xT ?_
    iterate 2 refine xO ?_
    refine run_call0 rfl rfl rfl rfl (by simp; exact .mk) (by simp; exact .mk) (c68) (by simp) (by simp; exact .mk) ?_
    iterate 5 refine xO ?_
    refine xE [1, 2, 4, 6, 7, 9] ?_
    rintro -
    refine W_seq ?_
    refine W_regD (by kernel_rfl) [] 4 [0, 1, 2, 3, 4, 5, 6, 7, 8, 9, 10] (by decide +kernel) ?_
    iterate 7 refine xO ?_
    refine run_op rfl rfl rfl (by simp [e0, e1, e2]; exact .mk) ?_
    iterate 2 (refine run_op rfl rfl rfl (by simp [splice]; exact .mk) ?_)
    refine xO ?_
    refine xE [4, 5] ?_
    rintro -
    refine W_ret ?_
    refine end_ret (by simp [Try.f65]; exact .mk) (by simp; exact .mk) ?_ (by simp [oStt])
    simp [nrmR, nrmRs, nrmK, kindsOf, kinds, Try.f65, hr, oStt, zStt, firstStt, hb, ownR]
  intro h12
  have hm : mode ≠ 2 := by simpa using h12
  have hb : baseOf sh mode = 0 := by rw [baseOf, if_neg hm]
  refine W_skip ?_
  rintro -
  refine W_seq ?_
  refine xU ?_
  iterate 3 refine xO ?_
  refine run_call0 rfl rfl rfl rfl (by simp; exact .mk) (by simp; exact .mk) (by first | exact ct59 g sh mode sh.pages | exact ct59 g sh mode 0) (by simp) (by simp; exact .mk) ?_
  iterate 2 refine xO ?_
  iterate 2 refine xI ?_
  refine xP ?_
  refine xE [1, 2, 4, 6, 23] ?_
  rintro -
  refine W_cond rfl ?_ ?_
  · intro h23
    have hr : newS sh mode = (zStt, 1) := by unfold newS; rw [hb, if_neg]; simp at h23 ⊢; grind
    refine xU ?_
    iterate 2 (refine run_op rfl rfl rfl (by simp [splice]; exact .mk) ?_)
    refine xO ?_
    refine xE [4, 5] ?_
    rintro -
    refine W_ret ?_
    refine end_ret (by simp [Try.f65]; exact .mk) (by simp; exact .mk) ?_ (by simp [oStt])
    simp [nrmR, nrmRs, nrmK, kindsOf, kinds, Try.f65, hr, oStt, zStt, firstStt, hb, ownR]
  intro h23
  have hs : superS sh mode (baseOf sh mode) = true ∧ mode ≤ 2 := by rw [hb]; simp at h23; exact h23
  have hr : newS sh mode = (firstStt sh mode, 0) := by unfold newS; rw [if_pos]; simp [hs]
  have c67 := ct108 g sh.slots
  have c68 := ct96 g sh.roots
  simp only [superS_tnew hs.1, superS_rnew hs.1, if_true] at c67 c68
  have hsh := superS_sh hs.1
  have e0 : 0 ≤ sh.slots := by omega
  have e1 : 24 * sh.slots ≤ 140737488355328 := by omega
  have e2 : sh.slots ≤ 140737488355328 := by omega
  refine W_skip ?_
  refine xT ?_
  iterate 2 refine xO ?_
  refine run_call0 rfl rfl rfl rfl (by simp; exact .mk) (by simp; exact .mk) (c67) (by simp) (by simp; exact .mk) ?_
  iterate 5 refine xO ?_
  refine xE [1, 2, 4, 6, 7] ?_
  refine xT ?_
  iterate 2 refine xO ?_
  refine run_call0 rfl rfl rfl rfl (by simp; exact .mk) (by simp; exact .mk) (c68) (by simp) (by simp; exact .mk) ?_
  iterate 5 refine xO ?_
  refine xE [1, 2, 4, 6, 7, 9] ?_
  rintro -
  refine W_seq ?_
  refine W_regD (by kernel_rfl) [] 4 [0, 1, 2, 3, 4, 5, 6, 7, 8, 9, 10] (by decide +kernel) ?_
  iterate 7 refine xO ?_
  refine run_op rfl rfl rfl (by simp [e0, e1, e2]; exact .mk) ?_
  iterate 2 (refine run_op rfl rfl rfl (by simp [splice]; exact .mk) ?_)
  refine xO ?_
  refine xE [4, 5] ?_
  rintro -
  refine W_ret ?_
  refine end_ret (by simp [Try.f65]; exact .mk) (by simp; exact .mk) ?_ (by simp [oStt])
  simp [nrmR, nrmRs, nrmK, kindsOf, kinds, Try.f65, hr, oStt, zStt, firstStt, hb, ownR]

theorem ct22 (g : Gl) (s : Stt) : CtAt Try.prog g 22 [eStt s] (.v (.bool (fewStt s))) := by
  refine ctAt_of_W Try.func22 rfl rfl (Nat.le_of_ble_eq_true rfl) fun B S => ?_
  simp only [eStt, List.map, argD_agg]
  refine xU ?_
  iterate 2 refine xO ?_
  refine xE [1] ?_
  rintro -
  refine W_seq ?_
  refine xU ?_
  refine xO ?_
  refine xE [1, 3] ?_
  rintro -
  refine W_block ?_
  refine W_rounds (fun m σ r => ∃ i : Nat, m = 100 - i ∧ i ≤ min s.data.length 100 ∧ (∀ j, j < i → decide (((nth s.data j).length : Int) ≤ 4096) = true) ∧ σ = slots [(1, .ptr 0 0 0), (3, .d (vI i))] ∧ r = [.var 52 [.d (vI s.sh.pages), .d (vI s.sh.slots), .d (vI s.sh.roots), .d (vI s.sh.room), .d (vI s.mode), .d (vI s.base), .d (rSl s.slots), .d (rR s.roots), .d (rBB s.data)]]) 100 .refl ⟨0, by simp, by simp, by simp, rfl, rfl⟩ ?_
  rintro m σ r ⟨i, rfl, hi, hinv, rfl, rfl⟩ _
  refine W_seq ?_
  refine xU ?_
  iterate 2 refine xO ?_
  refine run_op rfl rfl rfl (by simp [eRoot]; exact .mk) ?_
  iterate 3 refine xO ?_
  iterate 2 refine xI ?_
  refine xP ?_
  refine xE [1, 3, 13] ?_
  rintro -
  refine W_cond rfl ?_ ?_
  · intro h13
    have h1 : i < s.data.length ∧ i < 100 := by simp at h13; omega
    have h2 := h1.1
    refine W_skip ?_
    rintro -
    refine W_seq ?_
    refine W_block ?_
    refine xU ?_
    refine xO ?_
    refine run_op rfl rfl rfl (by simp [eRoot]; exact .mk) ?_
    refine xO ?_
    refine run_op rfl rfl rfl (by simp [eRoot, h2]; exact .mk) ?_
    refine run_op rfl rfl rfl (by simp [eRoot]; exact .mk) ?_
    iterate 2 refine xO ?_
    refine xE [1, 3, 22] ?_
    rintro -
    refine W_cond rfl ?_ ?_
    · intro h22
      have hr : fewStt s = false := by
        have : (List.range (min s.data.length 100)).all (fun i => decide (((nth s.data i).length : Int) ≤ 4096)) = false := all_bad (i := i) (by omega) (by simpa using h22)
        simp [fewStt, this]
      refine xU ?_
      refine xO ?_
      refine xE [2] ?_
      rintro -
      refine W_ret ?_
      refine xR (by simp [Try.f22]; exact .mk) ?_
      simp [nrmR, nrmRs, nrmK, kindsOf, kinds, Try.f22, hr] <;> try (simp [Bool.and_assoc])
    intro h22
    refine W_skip ?_
    rintro -
    refine W_reg rfl ?_
    iterate 3 refine xO ?_
    refine xE [1, 3] ?_
    refine rounds_kill [1, 3] ?_
    refine rounds_next (m' := 100 - (i+1)) (by omega) ⟨i+1, rfl, by omega, ?_, ?_, rfl⟩
    · intro j hj
      rcases Nat.lt_succ_iff_lt_or_eq.1 hj with hj | rfl
      · exact hinv j hj
      simpa using h22
    rw [wrap64 (by omega) (by omega)]; rfl
  intro h13
  have q1 : (List.range (min s.data.length 100)).all (fun i => decide (((nth s.data i).length : Int) ≤ 4096)) = true := all_good (fun j hj => hinv j (by simp at h13; omega))
  refine W_exit ?_
  rintro -
  refine W_seq ?_
  refine xU ?_
  refine xO ?_
  refine xE [1, 4] ?_
  rintro -
  refine W_block ?_
  refine W_rounds (fun m σ r => ∃ i : Nat, m = 100 - i ∧ i ≤ min s.roots.length 100 ∧ (∀ j, j < i → decide (((nth s.roots j).name.size : Int) ≤ 1024) = true) ∧ σ = slots [(1, .ptr 0 0 0), (4, .d (vI i))] ∧ r = [.var 52 [.d (vI s.sh.pages), .d (vI s.sh.slots), .d (vI s.sh.roots), .d (vI s.sh.room), .d (vI s.mode), .d (vI s.base), .d (rSl s.slots), .d (rR s.roots), .d (rBB s.data)]]) 100 .refl ⟨0, by simp, by simp, by simp, rfl, rfl⟩ ?_
  rintro m σ r ⟨i, rfl, hi, hinv, rfl, rfl⟩ _
  refine W_seq ?_
  refine xU ?_
  iterate 2 refine xO ?_
  refine run_op rfl rfl rfl (by simp [eRoot]; exact .mk) ?_
  iterate 3 refine xO ?_
  iterate 2 refine xI ?_
  refine xP ?_
  refine xE [1, 4, 31] ?_
  rintro -
  refine W_cond rfl ?_ ?_
  · intro h31
    have h1 : i < s.roots.length ∧ i < 100 := by simp at h31; omega
    have h2 := h1.1
    refine W_skip ?_
    rintro -
    refine W_seq ?_
    refine W_block ?_
    refine xU ?_
    refine xO ?_
    refine run_op rfl rfl rfl (by simp [eRoot]; exact .mk) ?_
    refine xO ?_
    refine run_op rfl rfl rfl (by simp [eRoot, h2]; exact .mk) ?_
    refine xO ?_
    refine run_op rfl rfl rfl (by simp [eRoot]; exact .mk) ?_
    iterate 2 refine xO ?_
    refine xE [1, 4, 41] ?_
    rintro -
    refine W_cond rfl ?_ ?_
    · intro h41
      have hr : fewStt s = false := by
        have : (List.range (min s.roots.length 100)).all (fun i => decide (((nth s.roots i).name.size : Int) ≤ 1024)) = false := all_bad (i := i) (by omega) (by simpa using h41)
        simp [fewStt, this]
      refine xU ?_
      refine xO ?_
      refine xE [2] ?_
      rintro -
      refine W_ret ?_
      refine xR (by simp [Try.f22]; exact .mk) ?_
      simp [nrmR, nrmRs, nrmK, kindsOf, kinds, Try.f22, hr] <;> try (simp [Bool.and_assoc])
    intro h41
    refine W_skip ?_
    rintro -
    refine W_reg rfl ?_
    iterate 3 refine xO ?_
    refine xE [1, 4] ?_
    refine rounds_kill [1, 4] ?_
    refine rounds_next (m' := 100 - (i+1)) (by omega) ⟨i+1, rfl, by omega, ?_, ?_, rfl⟩
    · intro j hj
      rcases Nat.lt_succ_iff_lt_or_eq.1 hj with hj | rfl
      · exact hinv j hj
      simpa using h41
    rw [wrap64 (by omega) (by omega)]; rfl
  intro h31
  have q2 : (List.range (min s.roots.length 100)).all (fun i => decide (((nth s.roots i).name.size : Int) ≤ 1024)) = true := all_good (fun j hj => hinv j (by simp at h31; omega))
  have hr : fewStt s = (decide ((s.slots.length : Int) ≤ 60) && (decide ((s.roots.length : Int) ≤ 60) && decide ((s.data.length : Int) ≤ 60))) := by rw [fewStt, q1, q2]; rfl
  refine W_exit ?_
  refine xT ?_
  refine xO ?_
  refine run_op rfl rfl rfl (by simp [eRoot]; exact .mk) ?_
  iterate 3 refine xO ?_
  refine xI ?_
  refine run_if rfl (by simp; exact .mk) rfl (by simp <;> first | omega | grind) (fun hb => by simp [eRoot]; exact .mk) ?_
  iterate 2 refine xI ?_
  refine xP ?_
  refine xB ?_
  refine xI ?_
  refine run_if rfl (by simp; exact .mk) rfl (by simp <;> first | omega | grind) (fun hb => by simp [eRoot]; exact .mk) ?_
  iterate 2 refine xI ?_
  refine xP ?_
  refine xB ?_
  refine xE [2] ?_
  rintro -
  refine W_ret ?_
  refine xR (by simp [Try.f22]; exact .mk) ?_
  simp [nrmR, nrmRs, nrmK, kindsOf, kinds, Try.f22, hr] <;> try (simp [Bool.and_assoc])

end Go.Proofs

namespace Go.Proofs
open Go.Awp
theorem sttS_rows {s : Stt} (h : sttS s = true) : tableS s.slots = true := by
  simp only [sttS, Bool.and_eq_true] at h; exact rowsS_t h.2.1
theorem sttS_gaps {s : Stt} (h : sttS s = true) : gapsS (s.base * 32) (s.sh.pages * 32) (spansS s.slots) = true := by
  simp only [sttS, Bool.and_eq_true] at h; exact h.2.2.2.1
theorem sttS_super {s : Stt} (h : sttS s = true) : superS s.sh s.mode s.base = true := by
  simp only [sttS, Bool.and_eq_true] at h; exact h.1
theorem count_split {l : List Slot} : ∀ {i : Nat}, (oneIx l i).length + (twoIx l i).length = liveIx l i
  | 0 => by simp [oneIx, twoIx, liveIx]
  | i + 1 => by
    have := count_split (l := l) (i := i)
    simp only [oneIx, twoIx, liveIx, List.range_succ, List.filter_append, List.length_append, List.filter_cons, List.filter_nil] at this ⊢
    simp only [isOne, isTwo] at this ⊢
    by_cases h1 : (nth l i).live = true <;> by_cases h2 : (nth l i).two = true <;> simp [h1, h2] <;> omega
theorem live_split {l : List Slot} : (onesS l).length + (twosO l).length = liveIx l l.length := by
  rw [onesS, nodup_of_stS, onesR, List.length_map, twosO, List.length_map, count_split]
theorem onesS_mem {l : List Slot} {b : Blk} (h : b ∈ onesS l) : ∃ k : Nat, k < l.length ∧ isOne (nth l k) = true ∧ b = blkAt l k := by
  have h1 : b ∈ onesR l := (stS_perm (onesR l)).mem_iff.1 h
  simp only [onesR, List.mem_map] at h1
  obtain ⟨k, hk, rfl⟩ := h1
  exact ⟨k, (oneIx_mem hk).1, (oneIx_mem hk).2, rfl⟩
theorem gapsOk_step {to : Int} : ∀ {l : List (Int × Int)} {a : Int} {i : Nat}, gapsOk to a l = true → i + 1 < l.length → (nth l i).1 + (nth l i).2 ≤ (nth l (i + 1)).1
  | [], _, _, _, h => by simp at h
  | p :: l, a, i, h, hi => by
    simp only [gapsOk, Bool.and_eq_true] at h
    cases i with
    | zero =>
      cases l with
      | nil => simp at hi
      | cons q l =>
        have h2 := h.2
        simp only [gapsOk, Bool.and_eq_true, gapBad, Bool.not_eq_true', decide_eq_false_iff_not] at h2
        show p.1 + p.2 ≤ q.1
        omega
    | succ i => exact gapsOk_step (l := l) h.2 (by simpa using hi)
/-- What stands in the row of blocks of a right state. -/
theorem ones_spec {s : Stt} (h : sttS s = true) {i : Nat} (hi : i < (onesS s.slots).length) : ∃ k : Nat, k < s.slots.length ∧ (nth (onesS s.slots) i).slot = k ∧ (nth (onesS s.slots) i).at_ = (nth s.slots k).at_ ∧
    (nth (onesS s.slots) i).len = (needS (nth s.slots k).len).1 ∧ (needS (nth s.slots k).len).2 = 0 ∧ (nth s.slots k).two = false ∧ (nth s.slots k).live = true := by
  obtain ⟨k, h1, h2, h3⟩ := onesS_mem (nth_mem hi)
  have h4 := slotS1_live (tableS_slot (sttS_rows h) k h1) (by simp [isOne] at h2; exact h2.1)
  refine ⟨k, h1, by rw [h3]; rfl, by rw [h3]; rfl, by rw [h3]; rfl, ?_, by simp [isOne] at h2; exact h2.2, by simp [isOne] at h2; exact h2.1⟩
  unfold needS; rw [if_neg (by omega)]
theorem needS_le {n : Int} : 0 ≤ (needS n).1 ∧ (needS n).1 ≤ 4096 := by
  unfold needS
  split
  · omega
  · simp only [upS]
    rename_i h
    have h1 : 0 ≤ (n + 8 - 1).tdiv 8 ∧ (n + 8 - 1).tdiv 8 ≤ 300 := by rw [Int.tdiv_eq_ediv_of_nonneg (by omega)]; omega
    rw [Int.tdiv_eq_ediv_of_nonneg (by omega)]; omega
theorem ones_b {s : Stt} (h : sttS s = true) {i : Nat} (hi : i < (onesS s.slots).length) : 0 ≤ (nth (onesS s.slots) i).at_ ∧ (nth (onesS s.slots) i).at_ ≤ 2048 ∧ 0 ≤ (nth (onesS s.slots) i).len ∧ (nth (onesS s.slots) i).len ≤ 4096 := by
  obtain ⟨k, h1, h2, h3, h4, _, _, h5⟩ := ones_spec h hi
  have h6 := slotS1_live (tableS_slot (sttS_rows h) k h1) h5
  have h7 := needS_le (n := (nth s.slots k).len)
  rw [h3, h4]; omega
theorem ones_step {s : Stt} (h : sttS s = true) {i : Nat} (hi : i < (onesS s.slots).length) (h0 : 0 < i) : (nth (onesS s.slots) (i - 1)).at_ + (nth (onesS s.slots) (i - 1)).len ≤ (nth (onesS s.slots) i).at_ := by
  have hg := sttS_gaps h
  simp only [gapsS, Bool.and_eq_true] at hg
  obtain ⟨j, rfl⟩ : ∃ j, i = j + 1 := ⟨i - 1, by omega⟩
  have := gapsOk_step (i := j) hg.2 (by simpa [spansS] using hi)
  rw [spansS, nth_map (by omega), nth_map (by simpa using hi)] at this
  simpa [spanOf] using this
theorem twoIx_sorted {l : List Slot} {n : Nat} : (twoIx l n).Pairwise (· < ·) := List.pairwise_lt_range.filter _
theorem twosI_len {l : List Slot} : (twosI l).length = (twosO l).length := by simp [twosI, twosO]
theorem twos_spec {s : Stt} {i : Nat} (hi : i < (twosO s.slots).length) : ∃ k : Nat, k < s.slots.length ∧ nth (twosI s.slots) i = k ∧ (nth (twosO s.slots) i).1 = (nth s.slots k).at_ ∧ (nth (twosO s.slots) i).2 = (nth s.slots k).len ∧ (nth s.slots k).two = true := by
  have hi2 : i < (twoIx s.slots s.slots.length).length := by simpa [twosO] using hi
  have h1 := twoIx_mem (nth_mem hi2)
  refine ⟨nth (twoIx s.slots s.slots.length) i, h1.1, by rw [twosI, nth_map hi2], by rw [twosO, nth_map hi2]; rfl, by rw [twosO, nth_map hi2]; rfl, by have := h1.2; simp [isTwo] at this; exact this.2⟩
theorem twos_step {s : Stt} {i : Nat} (hi : i < (twosO s.slots).length) (h0 : 0 < i) : nth (twosI s.slots) (i - 1) < nth (twosI s.slots) i := by
  have hi2 : i < (twoIx s.slots s.slots.length).length := by simpa [twosO] using hi
  rw [twosI, nth_map (by omega), nth_map hi2]
  have := (List.pairwise_iff_getElem.1 (twoIx_sorted (l := s.slots) (n := s.slots.length))) (i - 1) i (by omega) hi2 (by omega)
  rw [nth_eq (by omega), nth_eq hi2]; omega
end Go.Proofs

set_option maxHeartbeats 1000000
namespace Go.Proofs
open Go.Awp
/-- Two spots that share nothing. -/
def apartS (a b : Spot) : Prop := (a.small = true ∧ b.small = true ∧ a.cls = b.cls ∧ a.cell ≠ b.cell) ∨ a.page + a.count ≤ b.page ∨ b.page + b.count ≤ a.page
/-- What a layout holds of an object that was laid. -/
def Holds (st : List Int × List Nat) (a : Spot) : Prop := (a.small = true → nth st.1 a.page.toNat = a.cls ∧ (nth st.2 a.page.toNat).testBit a.cell.toNat = true) ∧ (a.small = false → ∀ t : Nat, (t : Int) < a.count → nth st.1 (a.page.toNat + t) = 7 ∨ nth st.1 (a.page.toNat + t) = 6)
structure GoodSpot (pages : Int) (a : Spot) : Prop where
  p0 : 0 ≤ a.page
  c1 : 1 ≤ a.count
  p1 : a.page + a.count ≤ pages
  s1 : a.small = true → a.count = 1 ∧ 0 ≤ a.cls ∧ a.cls < 6 ∧ 0 ≤ a.cell ∧ a.cell < 64
theorem nth_set2 {α : Type} [Inhabited α] {l : List α} {i j : Nat} {x : α} (hi : i < l.length) : nth (l.set i x) j = if i = j then x else nth l j := by
  by_cases hj : j < l.length
  · rw [nth_eq (by simpa using hj), List.getElem_set]
    split
    · rfl
    · rw [nth_eq hj]
  · rw [if_neg (by omega)]
    simp only [nth]
    rw [List.getD_eq_getElem?_getD, List.getD_eq_getElem?_getD, List.getElem?_eq_none (by simpa using hj), List.getElem?_eq_none (by omega)]
theorem fillF_spec {p : Nat} : ∀ {f j : Nat} {l : List Int}, (fillF p f j l).1 = true → p + j + f ≤ l.length → (∀ t, j ≤ t → t < j + f → nth l (p + t) = -1) ∧ ∀ x, nth (fillF p f j l).2 x = if p + j ≤ x ∧ x < p + j + f then 7 else nth l x
  | 0, j, l, h, hl => ⟨fun t h1 h2 => by omega, fun x => by rw [if_neg (by omega)]; rfl⟩
  | f + 1, j, l, h, hl => by
    by_cases hq : nth l (p + j) = -1
    · rw [fillF_t hq] at h ⊢
      obtain ⟨h1, h2⟩ := fillF_spec h (by simp; omega)
      constructor
      · intro t ht1 ht2
        by_cases e : t = j
        · subst e; exact hq
        · have := h1 t (by omega) (by omega)
          rwa [nth_set2 (by omega), if_neg (by omega)] at this
      · intro x
        rw [h2, nth_set2 (by omega)]
        by_cases e : p + j = x
        · subst e; rw [if_neg (by omega), if_pos rfl, if_pos (by omega)]
        · rw [if_neg e]
          by_cases e2 : p + (j + 1) ≤ x ∧ x < p + (j + 1) + f
          · rw [if_pos e2, if_pos (by omega)]
          · rw [if_neg e2, if_neg (by omega)]
    · rw [fillF_f hq] at h; cases h
theorem and_pow {m c : Nat} (h : m &&& 2 ^ c = 0) : m.testBit c = false := by
  have := congrArg (fun x => x.testBit c) h
  simpa [Nat.testBit_and, Nat.testBit_two_pow_self] using this
/-- A step: the new spot is apart from those that are held, and all are held behind it. -/
theorem lay_step {pages : Int} {st : List Int × List Nat} {b : Spot} (hp : pages ≤ 64) (h1 : st.1.length = pages.toNat) (h2 : st.2.length = 64) (hb : GoodSpot pages b)
    (h : (layS st.1 st.2 b.page.toNat b.count.toNat b.small b.cls b.cell.toNat).1 = true) :
    (∀ a, GoodSpot pages a → Holds st a → apartS a b ∧ Holds (layS st.1 st.2 b.page.toNat b.count.toNat b.small b.cls b.cell.toNat).2 a) ∧ Holds (layS st.1 st.2 b.page.toNat b.count.toNat b.small b.cls b.cell.toNat).2 b := by
  obtain ⟨bp, bc, bs, bk, bl⟩ := b
  obtain ⟨p0, c1, p1, s1⟩ := hb
  simp only at p0 c1 p1 s1 h ⊢
  have hpl : bp.toNat < st.1.length := by omega
  have hpm : bp.toNat < st.2.length := by omega
  unfold layS at h ⊢
  by_cases hs : bs = true
  · subst hs
    obtain ⟨rfl, k0, k6, l0, l64⟩ := s1 rfl
    simp only [if_true] at h ⊢
    by_cases hc : nth st.1 bp.toNat = bk ∧ nth st.2 bp.toNat &&& 2 ^ bl.toNat = 0
    · rw [if_pos hc] at h ⊢
      have hbit := and_pow hc.2
      refine ⟨fun a ga ha => ⟨?_, ?_⟩, ?_⟩
      · by_cases hpp : a.page + a.count ≤ bp ∨ bp + 1 ≤ a.page
        · exact .inr hpp
        · left
          cases has : a.small with
          | true =>
            obtain ⟨q1, q2⟩ := ha.1 has
            have gs := ga.s1 has
            have hpe : a.page = bp := by have := gs.1; omega
            rw [hpe] at q1 q2
            refine ⟨rfl, rfl, by rw [← q1, hc.1], fun e => ?_⟩
            simp only at e
            rw [e] at q2
            rw [hbit] at q2; cases q2
          | false =>
            exfalso
            have := ha.2 has (bp - a.page).toNat (by have := ga.c1; omega)
            rw [show a.page.toNat + (bp - a.page).toNat = bp.toNat by have := ga.p0; omega, hc.1] at this
            omega
      · refine ⟨fun has => ?_, fun has t ht => ha.2 has t ht⟩
        obtain ⟨q1, q2⟩ := ha.1 has
        refine ⟨q1, ?_⟩
        rw [nth_set2 hpm]
        split
        · rename_i e; rw [← e] at q2; rw [Nat.testBit_or, q2]; rfl
        · exact q2
      · refine ⟨fun _ => ⟨hc.1, ?_⟩, fun e => by cases e⟩
        simp only
        rw [nth_set2 hpm, if_pos rfl, Nat.testBit_or, Nat.testBit_two_pow_self]; simp
    · rw [if_neg hc] at h ⊢
      by_cases hf : nth st.1 bp.toNat = -1
      · rw [if_pos hf] at h ⊢
        have nopage : ∀ a, GoodSpot pages a → Holds st a → a.page + a.count ≤ bp ∨ bp + 1 ≤ a.page := by
          intro a ga ha
          by_cases hpp : a.page + a.count ≤ bp ∨ bp + 1 ≤ a.page
          · exact hpp
          · exfalso
            cases has : a.small with
            | true =>
              obtain ⟨q1, _⟩ := ha.1 has
              have gs := ga.s1 has
              rw [show a.page = bp by omega, hf] at q1
              omega
            | false =>
              have := ha.2 has (bp - a.page).toNat (by have := ga.c1; omega)
              rw [show a.page.toNat + (bp - a.page).toNat = bp.toNat by have := ga.p0; omega, hf] at this
              omega
        refine ⟨fun a ga ha => ⟨.inr (nopage a ga ha), ?_⟩, ?_⟩
        · have hn := nopage a ga ha
          have h0 := ga.p0
          have h1 := ga.c1
          refine ⟨fun has => ?_, fun has t ht => ?_⟩
          · obtain ⟨q1, q2⟩ := ha.1 has
            simp only
            rw [nth_set2 hpl, nth_set2 hpm, if_neg (by omega), if_neg (by omega)]
            exact ⟨q1, q2⟩
          · simp only
            rw [nth_set2 hpl, if_neg (by omega)]
            exact ha.2 has t ht
        · refine ⟨fun _ => ⟨?_, ?_⟩, fun e => by cases e⟩
          · simp only; rw [nth_set2 hpl, if_pos rfl]
          · simp only; rw [nth_set2 hpm, if_pos rfl, Nat.testBit_two_pow_self]
      · rw [if_neg hf] at h; cases h
  · have hs2 : bs = false := by simpa using hs
    subst hs2
    simp only [Bool.false_eq_true, if_false] at h ⊢
    by_cases hf : (fillF bp.toNat bc.toNat 0 st.1).1 = true
    · rw [if_pos hf] at h ⊢
      obtain ⟨g1, g2⟩ := fillF_spec hf (by omega)
      have hlen : bp.toNat < (fillF bp.toNat bc.toNat 0 st.1).2.length := by rw [fillF_len]; exact hpl
      have val : ∀ x, nth ((fillF bp.toNat bc.toNat 0 st.1).2.set bp.toNat 6) x = if bp.toNat = x then 6 else if bp.toNat ≤ x ∧ x < bp.toNat + bc.toNat then 7 else nth st.1 x := by
        intro x
        rw [nth_set2 hlen, g2]
        simp only [Nat.add_zero]
      have nopage : ∀ a, GoodSpot pages a → Holds st a → a.page + a.count ≤ bp ∨ bp + bc ≤ a.page := by
        intro a ga ha
        by_cases hpp : a.page + a.count ≤ bp ∨ bp + bc ≤ a.page
        · exact hpp
        · exfalso
          have h0 := ga.p0
          have h1 := ga.c1
          cases has : a.small with
          | true =>
            obtain ⟨q1, _⟩ := ha.1 has
            have gs := ga.s1 has
            have := g1 (a.page - bp).toNat (by omega) (by omega)
            rw [show bp.toNat + (a.page - bp).toNat = a.page.toNat by omega, q1] at this
            omega
          | false =>
            by_cases hle : a.page ≤ bp
            · have e1 := ha.2 has (bp - a.page).toNat (by omega)
              have e2 := g1 0 (by omega) (by omega)
              rw [show a.page.toNat + (bp - a.page).toNat = bp.toNat + 0 by omega, e2] at e1
              omega
            · have e1 := ha.2 has 0 (by omega)
              have e2 := g1 (a.page - bp).toNat (by omega) (by omega)
              rw [show bp.toNat + (a.page - bp).toNat = a.page.toNat + 0 by omega] at e2
              simp only [Nat.add_zero] at e1 e2
              rw [e2] at e1
              omega
      refine ⟨fun a ga ha => ⟨.inr (nopage a ga ha), ?_⟩, ?_⟩
      · have hn := nopage a ga ha
        have h0 := ga.p0
        have h1 := ga.c1
        refine ⟨fun has => ?_, fun has t ht => ?_⟩
        · obtain ⟨q1, q2⟩ := ha.1 has
          refine ⟨?_, q2⟩
          simp only
          rw [val, if_neg (by omega), if_neg (by omega)]; exact q1
        · simp only
          rw [val, if_neg (by omega), if_neg (by omega)]; exact ha.2 has t ht
      · refine ⟨fun e => (by cases e), fun _ t ht => ?_⟩
        simp only at ht ⊢
        rw [val]
        split
        · exact .inr rfl
        · rw [if_pos (by omega)]; exact .inl rfl
    · rw [if_neg hf] at h; cases h
end Go.Proofs

set_option maxHeartbeats 1000000
namespace Go.Proofs
open Go.Awp
theorem wordsL_k {k : Nat} (h : k < 6) : nth wordsL k = 2 ∨ nth wordsL k = 3 ∨ nth wordsL k = 5 ∨ nth wordsL k = 7 ∨ nth wordsL k = 10 ∨ nth wordsL k = 15 := by
  have : k = 0 ∨ k = 1 ∨ k = 2 ∨ k = 3 ∨ k = 4 ∨ k = 5 := by omega
  rcases this with h | h | h | h | h | h <;> subst h <;> decide
theorem classS_spec {n : Int} (h : (classS n).2 = true) : 1 ≤ n ∧ ∃ k : Nat, k < 6 ∧ (classS n).1 = k ∧ n ≤ nth wordsL k * 8 := by
  unfold classS at h ⊢
  split
  · rename_i h1; rw [if_pos h1] at h; simp at h
  · rename_i h1
    rw [if_neg h1] at h
    refine ⟨by omega, ?_⟩
    cases hf : wordsL.findIdx? (fun w => decide (n ≤ w * 8)) with
    | none => rw [hf] at h; simp at h
    | some k =>
      obtain ⟨h2, h3, _⟩ := List.findIdx?_eq_some_iff_getElem.1 hf
      exact ⟨k, h2, rfl, by rw [nth_eq h2]; simpa using h3⟩
/-- Where an object lies that has a right spot: its words. -/
structure SpotW (pages : Int) (o : Int × Int) (a : Spot) : Prop where
  good : GoodSpot pages a
  sm : a.small = true → ∃ k : Nat, k < 6 ∧ a.cls = k ∧ o.1 = 32 * a.page + 4 + a.cell * nth wordsL k ∧ (o.2 + 7).tdiv 8 ≤ nth wordsL k ∧ 4 + (a.cell + 1) * nth wordsL k ≤ 32
  lg : a.small = false → o.1 = 32 * a.page ∧ (o.2 + 7).tdiv 8 ≤ 32 * a.count
theorem spot_words {pages : Int} {o : Int × Int} (h : (spotS pages o).2 = true) : SpotW pages o (spotS pages o).1 := by
  unfold spotS at h ⊢
  split
  · rename_i h1; rw [if_pos h1] at h; simp at h
  · rename_i h1
    rw [if_neg h1] at h
    have hdm : o.1 = 32 * o.1.tdiv 32 + o.1.tmod 32 := by
      rw [Int.tdiv_eq_ediv_of_nonneg (by omega), Int.tmod_eq_emod_of_nonneg (by omega)]; omega
    have hp : 0 ≤ o.1.tdiv 32 := Int.tdiv_nonneg (by omega) (by omega)
    have hm : 0 ≤ o.1.tmod 32 ∧ o.1.tmod 32 < 32 := by rw [Int.tmod_eq_emod_of_nonneg (by omega)]; omega
    split
    · rename_i h2
      rw [if_pos h2] at h
      simp only [Bool.and_eq_true, decide_eq_true_eq] at h
      obtain ⟨hn, k, hk, hcls, hlen⟩ := classS_spec h2
      obtain ⟨hw, hpg⟩ := h
      rw [hcls] at hw ⊢
      simp only
      have hwk := wordsL_k hk
      have hwb : 2 ≤ nth wordsL k ∧ nth wordsL k ≤ 15 := by omega
      obtain ⟨w, hwe⟩ : ∃ w, w = nth wordsL k := ⟨_, rfl⟩
      have hlen2 : (o.2 + 7).tdiv 8 ≤ w := by
        rw [Int.tdiv_eq_ediv_of_nonneg (by omega)]; omega
      have hcell : ∃ c : Int, (whichS k (o.1.tmod 32)).1 = c ∧ 0 ≤ c ∧ o.1.tmod 32 = 4 + c * w ∧ 4 + (c + 1) * w ≤ 32 := by
        unfold whichS at hw ⊢
        split
        · rename_i h3; rw [if_pos h3] at hw; simp at hw
        · rename_i h3
          rw [if_neg h3] at hw
          split
          · rename_i h4; rw [if_pos h4] at hw; simp at hw
          · rename_i h4
            simp only [Int.toNat_natCast] at h4 ⊢
            refine ⟨_, rfl, Int.tdiv_nonneg (by omega) (by omega), ?_⟩
            rw [← hwe] at h4 ⊢
            have h5 : ¬ (28 : Int).tdiv w ≤ (o.1.tmod 32 - 4).tdiv w := by omega
            have h6 : (o.1.tmod 32 - 4).tmod w = 0 := by omega
            generalize hx : o.1.tmod 32 - 4 = x at h5 h6
            have hx0 : 0 ≤ x := by omega
            rw [Int.tdiv_eq_ediv_of_nonneg (by omega), Int.tdiv_eq_ediv_of_nonneg hx0] at h5
            rw [Int.tmod_eq_emod_of_nonneg hx0] at h6
            rw [Int.tdiv_eq_ediv_of_nonneg hx0]
            rw [← hwe] at hwk
            rcases hwk with e | e | e | e | e | e <;> rw [e] at h5 h6 ⊢ <;> omega
      obtain ⟨c, e1, e2, e3, e4⟩ := hcell
      rw [e1]
      have hc : c < 64 := by
        rw [← hwe] at hwk
        rcases hwk with e | e | e | e | e | e <;> rw [e] at e4 <;> omega
      refine ⟨⟨hp, by simp, by simp only; omega, fun _ => ⟨rfl, by simp only; omega, by simp only; omega, e2, hc⟩⟩, fun _ => ⟨k, hk, rfl, ?_, by rw [← hwe]; exact hlen2, by rw [← hwe]; exact e4⟩, fun e => by cases e⟩
      simp only
      rw [← hwe]
      generalize c * w = y at e3 ⊢
      omega
    · rename_i h2
      rw [if_neg h2] at h
      simp only [Bool.and_eq_true, decide_eq_true_eq] at h
      obtain ⟨⟨⟨q1, q2⟩, q3⟩, q4⟩ := h
      have hk : 1 ≤ (pagesS o.2).1 ∧ (o.2 + 7).tdiv 8 ≤ 32 * (pagesS o.2).1 := by
        unfold pagesS at q1 ⊢
        split
        · rename_i h3; rw [if_pos h3] at q1; simp at q1
        · simp only; rw [Int.tdiv_eq_ediv_of_nonneg (by omega), Int.tdiv_eq_ediv_of_nonneg (by omega)]; omega
      refine ⟨⟨hp, hk.1, by simp only; omega, fun e => (by cases e)⟩, fun e => (by cases e), fun _ => ⟨by simp only; omega, hk.2⟩⟩
theorem okI_spot {pages : Int} {l : List (Int × Int)} {i : Nat} (h : okI pages l i = true) : (spotS pages (nth l i)).2 = true := by
  unfold okI layO at h
  split at h
  · assumption
  · simp at h
theorem okI_lay {pages : Int} {l : List (Int × Int)} {i : Nat} (h : okI pages l i = true) : stI pages l (i + 1) = (layS (stI pages l i).1 (stI pages l i).2 (spotS pages (nth l i)).1.page.toNat (spotS pages (nth l i)).1.count.toNat (spotS pages (nth l i)).1.small (spotS pages (nth l i)).1.cls (spotS pages (nth l i)).1.cell.toNat).2 ∧
    (layS (stI pages l i).1 (stI pages l i).2 (spotS pages (nth l i)).1.page.toNat (spotS pages (nth l i)).1.count.toNat (spotS pages (nth l i)).1.small (spotS pages (nth l i)).1.cls (spotS pages (nth l i)).1.cell.toNat).1 = true := by
  have hs := okI_spot h
  constructor
  · simp only [stI, layO]; rw [if_pos hs]
  · simp only [okI, layO] at h; rwa [if_pos hs] at h
/-- All objects of a layout are held. -/
theorem laid_holds {pages : Int} {l : List (Int × Int)} (hp : pages ≤ 64) : ∀ {i : Nat}, (∀ j, j < i → okI pages l j = true) → ∀ j, j < i → Holds (stI pages l i) (spotS pages (nth l j)).1
  | 0, _, j, h => by omega
  | i + 1, h, j, hj => by
    obtain ⟨e1, e2⟩ := okI_lay (h i (by omega))
    have hstep := lay_step hp stI_len.1 stI_len.2 (spot_words (okI_spot (h i (by omega)))).good e2
    rw [e1]
    by_cases hji : j = i
    · subst hji; exact hstep.2
    · exact (hstep.1 _ (spot_words (okI_spot (h j (by omega)))).good (laid_holds hp (fun j hj => h j (by omega)) j (by omega))).2
theorem laid_apart {pages : Int} {l : List (Int × Int)} (hp : pages ≤ 64) {i : Nat} (h : ∀ j, j ≤ i → okI pages l j = true) {j : Nat} (hj : j < i) : apartS (spotS pages (nth l j)).1 (spotS pages (nth l i)).1 := by
  obtain ⟨_, e2⟩ := okI_lay (h i (by omega))
  have hstep := lay_step hp stI_len.1 stI_len.2 (spot_words (okI_spot (h i (by omega)))).good e2
  exact (hstep.1 _ (spot_words (okI_spot (h j (by omega)))).good (laid_holds hp (fun j hj => h j (by omega)) j hj)).1
theorem mul_le_words {c w : Int} (hc : 0 ≤ c) (hw : 0 ≤ w) : 0 ≤ c * w := Int.mul_nonneg hc hw
/-- Objects whose spots are apart share no word. -/
theorem words_apart {pages : Int} {o p : Int × Int} {a b : Spot} (ha : SpotW pages o a) (hb : SpotW pages p b) (h : apartS a b) : o.1 + (o.2 + 7).tdiv 8 ≤ p.1 ∨ p.1 + (p.2 + 7).tdiv 8 ≤ o.1 := by
  have lower : ∀ {q : Int × Int} {c : Spot}, SpotW pages q c → 32 * c.page ≤ q.1 ∧ q.1 + (q.2 + 7).tdiv 8 ≤ 32 * (c.page + c.count) := by
    intro q c hc
    have h1 := hc.good.c1
    cases hs : c.small with
    | true =>
      obtain ⟨k, hk, e1, e2, e3, e4⟩ := hc.sm hs
      have hw := wordsL_k hk
      have hg := hc.good.s1 hs
      rcases hw with e | e | e | e | e | e <;> rw [e] at e2 e3 e4 <;> omega
    | false =>
      obtain ⟨e1, e2⟩ := hc.lg hs
      omega
  have la := lower ha
  have lb := lower hb
  rcases h with ⟨h1, h2, h3, h4⟩ | h | h
  · obtain ⟨k, hk, e1, e2, e3, e4⟩ := ha.sm h1
    obtain ⟨k', hk', f1, f2, f3, f4⟩ := hb.sm h2
    obtain rfl : k = k' := by omega
    have g1 := ha.good.s1 h1
    have g2 := hb.good.s1 h2
    by_cases hpp : a.page = b.page
    · have hw := wordsL_k hk
      rcases hw with e | e | e | e | e | e <;> rw [e] at e2 e3 e4 f2 f3 f4 <;> omega
    · omega
  · left; omega
  · right; omega
theorem spot_range {pages : Int} {o : Int × Int} {a : Spot} (h : SpotW pages o a) : 0 ≤ o.1 ∧ o.1 + (o.2 + 7).tdiv 8 ≤ 32 * pages := by
  have h1 := h.good.c1
  have h2 := h.good.p1
  have h3 := h.good.p0
  cases hs : a.small with
  | true =>
    obtain ⟨k, hk, e1, e2, e3, e4⟩ := h.sm hs
    have hw := wordsL_k hk
    have hg := h.good.s1 hs
    rcases hw with e | e | e | e | e | e <;> rw [e] at e2 e3 e4 <;> omega
  | false =>
    obtain ⟨e1, e2⟩ := h.lg hs
    omega
theorem sttS_laid {s : Stt} (h : sttS s = true) : ∀ j, j < (twosO s.slots).length → okI s.base (twosO s.slots) j = true := by
  simp only [sttS, Bool.and_eq_true] at h
  have h1 := h.2.2.1
  unfold laidS at h1
  split at h1
  · rename_i h2
    simp only [Bool.and_eq_true, List.all_eq_true, List.mem_range] at h2
    exact h2.2
  · simp at h1
/-- The words of a slot's object. -/
def wordsN (s : Slot) : Int := (s.len + 7).tdiv 8 + (if s.two = true then 0 else 2)
theorem twos_at {l : List Slot} {k : Nat} (hk : k < l.length) (h : isTwo (nth l k) = true) : ∃ i, i < (twosO l).length ∧ nth (twoIx l l.length) i = k := by
  have hm : k ∈ twoIx l l.length := by simp only [twoIx, List.mem_filter, List.mem_range]; exact ⟨hk, h⟩
  obtain ⟨i, hi, e⟩ := List.getElem_of_mem hm
  exact ⟨i, by simpa [twosO] using hi, by rw [nth_eq hi, e]⟩
theorem gapsOk_pair {to : Int} : ∀ {l : List (Int × Int)} {a : Int}, gapsOk to a l = true → l.Pairwise (fun p q => p.1 + p.2 ≤ q.1 ∨ q.1 + q.2 ≤ p.1) ∧ ∀ p ∈ l, a ≤ p.1 ∧ 0 ≤ p.2 ∧ p.1 + p.2 ≤ to
  | [], a, _ => ⟨.nil, by simp⟩
  | p :: l, a, h => by
    simp only [gapsOk, Bool.and_eq_true, gapBad, Bool.not_eq_true', decide_eq_false_iff_not] at h
    obtain ⟨h1, h2⟩ := gapsOk_pair h.2
    refine ⟨List.Pairwise.cons (fun q hq => .inl (h2 q hq).1) h1, fun q hq => ?_⟩
    rcases List.mem_cons.1 hq with rfl | hq
    · omega
    · have := h2 q hq; omega
theorem oneIx_sorted {l : List Slot} {n : Nat} : (oneIx l n).Pairwise (· < ·) := List.pairwise_lt_range.filter _
theorem ones_pair {s : Stt} (h : sttS s = true) : (onesR s.slots).Pairwise (fun b c => b.at_ + b.len ≤ c.at_ ∨ c.at_ + c.len ≤ b.at_) ∧ ∀ b ∈ onesR s.slots, s.base * 32 ≤ b.at_ ∧ 0 ≤ b.len ∧ b.at_ + b.len ≤ s.sh.pages * 32 := by
  have hg := sttS_gaps h
  simp only [gapsS, Bool.and_eq_true] at hg
  obtain ⟨h1, h2⟩ := gapsOk_pair hg.2
  have hperm := stS_perm (lt := ltB) (onesR s.slots)
  constructor
  · have h3 : (onesS s.slots).Pairwise (fun b c => b.at_ + b.len ≤ c.at_ ∨ c.at_ + c.len ≤ b.at_) := by
      rw [spansS, List.pairwise_map] at h1
      exact h1
    exact (hperm.pairwise_iff (fun h => h.symm)).1 h3
  · intro b hb
    exact h2 (spanOf b) (by rw [spansS]; exact List.mem_map_of_mem (hperm.mem_iff.2 hb))
theorem ones_apart {s : Stt} (h : sttS s = true) {i j : Nat} (hij : i < j) (hj : j < s.slots.length) (h1 : isOne (nth s.slots i) = true) (h2 : isOne (nth s.slots j) = true) :
    (nth s.slots i).at_ + (needS (nth s.slots i).len).1 ≤ (nth s.slots j).at_ ∨ (nth s.slots j).at_ + (needS (nth s.slots j).len).1 ≤ (nth s.slots i).at_ := by
  have hp := (ones_pair h).1
  rw [onesR, List.pairwise_map] at hp
  have hm : ∀ k, k < s.slots.length → isOne (nth s.slots k) = true → k ∈ oneIx s.slots s.slots.length := fun k hk h => by simp only [oneIx, List.mem_filter, List.mem_range]; exact ⟨hk, h⟩
  obtain ⟨a, ha, ea⟩ := List.getElem_of_mem (hm i (by omega) h1)
  obtain ⟨b, hb, eb⟩ := List.getElem_of_mem (hm j hj h2)
  have hab : a < b := by
    rcases Nat.lt_trichotomy a b with q | q | q
    · exact q
    · subst q; omega
    · have := (List.pairwise_iff_getElem.1 (oneIx_sorted (l := s.slots) (n := s.slots.length))) b a hb ha q
      omega
  have := (List.pairwise_iff_getElem.1 hp) a b ha hb hab
  rw [ea, eb] at this
  exact this
theorem needS_words {n : Int} (h : 1 ≤ n ∧ n ≤ 2048) : (n + 7).tdiv 8 + 2 ≤ (needS n).1 := by
  unfold needS; rw [if_neg (by omega)]
  simp only [upS]
  have e1 : (n + 7).tdiv 8 = (n + 7) / 8 := Int.tdiv_eq_ediv_of_nonneg (by omega)
  have e2 : (n + 8 - 1).tdiv 8 = (n + 8 - 1) / 8 := Int.tdiv_eq_ediv_of_nonneg (by omega)
  rw [e1, e2, Int.tdiv_eq_ediv_of_nonneg (a := 2 + (n + 8 - 1) / 8 + 4 - 1) (by omega)]
  omega
theorem needS_pos {n : Int} (h : 1 ≤ n ∧ n ≤ 2048) : 4 ≤ (needS n).1 := by
  have := needS_words h
  have h2 : 0 < (n + 7).tdiv 8 := by rw [Int.tdiv_eq_ediv_of_nonneg (by omega)]; omega
  have h3 : (needS n).1 = upS (2 + (n + 8 - 1).tdiv 8) := by unfold needS; rw [if_neg (by omega)]
  rw [h3] at this ⊢
  unfold upS at this ⊢
  omega
/-- Each live slot's words stand in the part of its format. -/
theorem apart_range {s : Stt} (h : sttS s = true) {i : Nat} (hi : i < s.slots.length) (hl : (nth s.slots i).live = true) : 1 ≤ wordsN (nth s.slots i) ∧ 0 ≤ (nth s.slots i).at_ ∧ (nth s.slots i).at_ + wordsN (nth s.slots i) ≤ 32 * s.sh.pages ∧
    ((nth s.slots i).two = true → (nth s.slots i).at_ + wordsN (nth s.slots i) ≤ 32 * s.base) ∧ ((nth s.slots i).two = false → 32 * s.base ≤ (nth s.slots i).at_) := by
  have hsl := slotS1_live (tableS_slot (sttS_rows h) i hi) hl
  have hsu := superS_b (sttS_super h)
  have hq : 0 < ((nth s.slots i).len + 7).tdiv 8 := by rw [Int.tdiv_eq_ediv_of_nonneg (by omega)]; omega
  unfold wordsN
  cases ht : (nth s.slots i).two with
  | true =>
    obtain ⟨a, ha, ea⟩ := twos_at hi (by simp [isTwo, hl, ht])
    have ho : nth (twosO s.slots) a = objAt s.slots i := by rw [twosO, nth_map (by simpa [twosO] using ha), ea]
    have hw := spot_range (spot_words (okI_spot (sttS_laid h a ha)))
    rw [ho] at hw
    simp only [objAt] at hw
    simp only [if_true]
    refine ⟨by omega, by omega, by omega, fun _ => by omega, fun e => (by cases e)⟩
  | false =>
    have hm : blkAt s.slots i ∈ onesR s.slots := by
      rw [onesR]; exact List.mem_map_of_mem (by simp only [oneIx, List.mem_filter, List.mem_range]; exact ⟨hi, by simp [isOne, hl, ht]⟩)
    have hb := (ones_pair h).2 _ hm
    simp only [blkAt] at hb
    have := needS_words (n := (nth s.slots i).len) (by omega)
    simp only [Bool.false_eq_true, if_false]
    refine ⟨by omega, by omega, by omega, fun e => e.elim, fun _ => by omega⟩
/-- No word is two objects'. -/
theorem apart_two {s : Stt} (h : sttS s = true) {i j : Nat} (hij : i < j) (hj : j < s.slots.length) (h1 : (nth s.slots i).live = true) (h2 : (nth s.slots j).live = true) :
    (nth s.slots i).at_ + wordsN (nth s.slots i) ≤ (nth s.slots j).at_ ∨ (nth s.slots j).at_ + wordsN (nth s.slots j) ≤ (nth s.slots i).at_ := by
  obtain ⟨a1, a2, a3, a4, a5⟩ := apart_range h (by omega) h1
  obtain ⟨b1, b2, b3, b4, b5⟩ := apart_range h hj h2
  cases t1 : (nth s.slots i).two with
  | false =>
    cases t2 : (nth s.slots j).two with
    | false =>
      have := ones_apart h hij hj (by simp [isOne, h1, t1]) (by simp [isOne, h2, t2])
      have s1 := slotS1_live (tableS_slot (sttS_rows h) i (by omega)) h1
      have s2 := slotS1_live (tableS_slot (sttS_rows h) j hj) h2
      have n1 := needS_words (n := (nth s.slots i).len) (by omega)
      have n2 := needS_words (n := (nth s.slots j).len) (by omega)
      simp only [wordsN, t1, t2, Bool.false_eq_true, if_false]
      omega
    | true => right; have := b4 t2; have := a5 t1; omega
  | true =>
    cases t2 : (nth s.slots j).two with
    | false => left; have := a4 t1; have := b5 t2; omega
    | true =>
      obtain ⟨a, ha, ea⟩ := twos_at (by omega) (show isTwo (nth s.slots i) = true by simp [isTwo, h1, t1])
      obtain ⟨b, hb, eb⟩ := twos_at hj (show isTwo (nth s.slots j) = true by simp [isTwo, h2, t2])
      have hoa : nth (twosO s.slots) a = objAt s.slots i := by rw [twosO, nth_map (by simpa [twosO] using ha), ea]
      have hob : nth (twosO s.slots) b = objAt s.slots j := by rw [twosO, nth_map (by simpa [twosO] using hb), eb]
      have hL := sttS_laid h
      have hsu := superS_b (sttS_super h)
      have wa := spot_words (okI_spot (hL a ha))
      have wb := spot_words (okI_spot (hL b hb))
      have hab : a ≠ b := by rintro rfl; omega
      have key : (nth (twosO s.slots) a).1 + ((nth (twosO s.slots) a).2 + 7).tdiv 8 ≤ (nth (twosO s.slots) b).1 ∨ (nth (twosO s.slots) b).1 + ((nth (twosO s.slots) b).2 + 7).tdiv 8 ≤ (nth (twosO s.slots) a).1 := by
        rcases Nat.lt_or_gt_of_ne hab with q | q
        · exact words_apart wa wb (laid_apart (by omega) (fun j hj => hL j (by omega)) q)
        · exact (words_apart wb wa (laid_apart (by omega) (fun j hj => hL j (by omega)) q)).symm
      rw [hoa, hob] at key
      simp only [objAt] at key
      simp only [wordsN, t1, t2, if_true]
      omega
end Go.Proofs

namespace Go.Proofs
open Go.Awp
section
variable {α : Type} [Inhabited α]
omit [Inhabited α] in
theorem nil_or_snoc (l : List α) : l = [] ∨ ∃ l' u, l = l' ++ [u] := by
  by_cases h : l = []
  · exact .inl h
  · exact .inr ⟨l.dropLast, l.getLast h, (List.dropLast_concat_getLast h).symm⟩
theorem nth_mid {P S : List α} {x : α} {i : Nat} (h : i = P.length) : nth (P ++ x :: S) i = x := by
  subst h; simp [nth]
theorem nth_at {l : List α} {i : Nat} {x : α} (h : l[i]? = some x) : nth l i = x := by simp [nth, h]
theorem swp_mid {P M S : List α} {x y : α} {i j : Nat} (hi : i = P.length) (hj : j = P.length + 1 + M.length) : swp (P ++ x :: (M ++ y :: S)) i j = P ++ y :: (M ++ x :: S) := by
  have hy : nth (P ++ x :: (M ++ y :: S)) j = y := by
    rw [show P ++ x :: (M ++ y :: S) = (P ++ x :: M) ++ y :: S by simp]
    exact nth_mid (by simp [hj]; omega)
  unfold swp
  rw [if_pos (by simp; omega), hy, nth_mid hi]
  subst hi hj
  apply List.ext_getElem?
  intro k
  simp only [List.getElem?_set, List.length_set]
  rcases Nat.lt_trichotomy k P.length with h | h | h
  · rw [if_neg (by omega), if_neg (by omega), List.getElem?_append_left h, List.getElem?_append_left h]
  · subst h; rw [if_neg (by omega), if_pos rfl, if_pos (by simp)]; simp
  · obtain ⟨d, rfl⟩ : ∃ d, k = P.length + 1 + d := ⟨k - (P.length + 1), by omega⟩
    have e : ∀ (z : α) (T : List α), (P ++ z :: T)[P.length + 1 + d]? = T[d]? := fun z T => by
      rw [List.getElem?_append_right (by omega), show P.length + 1 + d - P.length = d + 1 by omega]; simp
    rw [e, e, if_neg (show ¬ P.length = P.length + 1 + d by omega)]
    rcases Nat.lt_trichotomy d M.length with h | h | h
    · rw [if_neg (by omega), List.getElem?_append_left h, List.getElem?_append_left h]
    · subst h; rw [if_pos rfl, if_pos (by simp; omega)]; simp
    · rw [if_neg (by omega), List.getElem?_append_right (by omega), List.getElem?_append_right (by omega)]
      obtain ⟨q, hq⟩ : ∃ q, d - M.length = q + 1 := ⟨d - M.length - 1, by omega⟩
      rw [hq]; simp
theorem swp_adj {P S : List α} {x y : α} {i j : Nat} (hi : i = P.length) (hj : j = P.length + 1) : swp (P ++ x :: y :: S) i j = P ++ y :: x :: S :=
  swp_mid (M := []) hi (by simpa using hj)
theorem swp_adj' {P S : List α} {x y : α} {i j : Nat} (hi : i = P.length + 1) (hj : j = P.length) : swp (P ++ x :: y :: S) i j = P ++ y :: x :: S := by
  rw [← swp_adj (P := P) (S := S) (x := x) (y := y) hj hi]
  unfold swp
  subst hi hj
  have h1 : P.length < (P ++ x :: y :: S).length := by simp
  have h2 : P.length + 1 < (P ++ x :: y :: S).length := by simp
  rw [if_pos ⟨h2, h1⟩, if_pos ⟨h1, h2⟩, List.set_comm _ _ (by omega)]
theorem swrF_mid {a b : Nat} : ∀ (k i : Nat) (P X M Y S : List α), X.length = k → Y.length = k → a + i = P.length → b + i = P.length + k + M.length →
    swrF a b k i (P ++ (X ++ (M ++ (Y ++ S)))) = P ++ (Y ++ (M ++ (X ++ S)))
  | 0, i, P, X, M, Y, S, hX, hY, _, _ => by
    rw [List.length_eq_zero_iff] at hX hY; subst hX hY; rfl
  | k + 1, i, P, x :: X, M, y :: Y, S, hX, hY, ha, hb => by
    have e := swp_mid (P := P) (M := X ++ M) (S := Y ++ S) (x := x) (y := y) (i := a + i) (j := b + i) ha (by simp at hX ⊢; omega)
    have e1 : P ++ ((x :: X) ++ (M ++ ((y :: Y) ++ S))) = P ++ x :: ((X ++ M) ++ y :: (Y ++ S)) := by simp
    unfold swrF
    rw [e1, e]
    have := swrF_mid (a := a) (b := b) k (i + 1) (P ++ [y]) X (M ++ [x]) Y S (by simpa using hX) (by simpa using hY) (by simp; omega) (by simp; omega)
    have e2 : P ++ y :: ((X ++ M) ++ x :: (Y ++ S)) = (P ++ [y]) ++ (X ++ ((M ++ [x]) ++ (Y ++ S))) := by simp
    rw [e2, this]; simp
theorem swr_mid {a b n : Nat} {P X M Y S : List α} (hX : X.length = n) (hY : Y.length = n) (ha : a = P.length) (hb : b = P.length + n + M.length) :
    swr a b n (P ++ (X ++ (M ++ (Y ++ S)))) = P ++ (Y ++ (M ++ (X ++ S))) := swrF_mid n 0 P X M Y S hX hY (by omega) (by omega)
theorem rotF_mid {m : Nat} : ∀ (f i j : Nat) (P L R S : List α), i + j ≤ f → 0 < i → 0 < j → L.length = i → R.length = j → i ≤ m → m = P.length + i →
    rotF m f i j (P ++ (L ++ (R ++ S))) = P ++ (R ++ (L ++ S))
  | 0, i, j, P, L, R, S, hf, hi, hj, _, _, _, _ => by omega
  | f + 1, i, j, P, L, R, S, hf, hi, hj, hL, hR, him, hm => by
    unfold rotF
    split
    · rename_i h; subst h
      have := swr_mid (a := m - i) (b := m) (P := P) (X := L) (M := []) (Y := R) (S := S) hL hR (by omega) (by rw [List.length_nil]; omega)
      simpa using this
    · split
      · rename_i h1 h2
        have eL : L = L.take j ++ L.drop j := (List.take_append_drop ..).symm
        have e1 : P ++ (L ++ (R ++ S)) = P ++ (L.take j ++ (L.drop j ++ (R ++ S))) := by
          rw [← List.append_assoc (L.take j), List.take_append_drop]
        rw [e1, swr_mid (X := L.take j) (M := L.drop j) (Y := R) (by simp; omega) hR (by omega) (by simp; omega)]
        have := rotF_mid (m := m) f (i - j) j (P ++ R) (L.drop j) (L.take j) S (by omega) (by omega) hj (by simp; omega) (by simp; omega) (by omega) (by simp; omega)
        rw [show P ++ (R ++ (L.drop j ++ (L.take j ++ S))) = (P ++ R) ++ (L.drop j ++ (L.take j ++ S)) by simp, this]
        rw [List.append_assoc, ← List.append_assoc (L.take j), List.take_append_drop]
      · rename_i h1 h2
        have eR : R = R.take (j - i) ++ R.drop (j - i) := (List.take_append_drop ..).symm
        have e1 : P ++ (L ++ (R ++ S)) = P ++ (L ++ (R.take (j - i) ++ (R.drop (j - i) ++ S))) := by
          rw [← List.append_assoc (R.take (j - i)), List.take_append_drop]
        rw [e1, swr_mid (X := L) (M := R.take (j - i)) (Y := R.drop (j - i)) hL (by simp; omega) (by omega) (by simp; omega)]
        rw [rotF_mid (m := m) f i (j - i) P (R.drop (j - i)) (R.take (j - i)) (L ++ S) (by omega) hi (by omega) (by simp; omega) (by simp; omega) him hm]
        rw [← List.append_assoc (R.take (j - i)), List.take_append_drop]
theorem rotS_mid {a m b : Nat} {P L R S : List α} (h1 : 0 < L.length) (h2 : 0 < R.length) (ha : a = P.length) (hm : m = a + L.length) (hb : b = m + R.length) : rotS a m b (P ++ (L ++ (R ++ S))) = P ++ (R ++ (L ++ S)) := by
  unfold rotS
  exact rotF_mid _ _ _ P L R S (by omega) (by omega) (by omega) (by omega) (by omega) (by omega) (by omega)
theorem upF_mid : ∀ (k i : Nat) (P A C : List α) (x : α), A.length = k → i = P.length → upF k i (P ++ x :: (A ++ C)) = P ++ (A ++ x :: C)
  | 0, i, P, A, C, x, hA, _ => by rw [List.length_eq_zero_iff] at hA; subst hA; rfl
  | k + 1, i, P, y :: A, C, x, hA, hi => by
    unfold upF
    rw [show P ++ x :: ((y :: A) ++ C) = P ++ x :: y :: (A ++ C) by simp, swp_adj hi (by omega)]
    have := upF_mid k (i + 1) (P ++ [y]) A C x (by simpa using hA) (by simp; omega)
    rw [show P ++ y :: x :: (A ++ C) = (P ++ [y]) ++ x :: (A ++ C) by simp, this]; simp
theorem dnF_mid : ∀ (k i : Nat) (P A C : List α) (x : α), A.length = k → i = P.length + k → dnF k i (P ++ (A ++ x :: C)) = P ++ x :: (A ++ C)
  | 0, i, P, A, C, x, hA, _ => by rw [List.length_eq_zero_iff] at hA; subst hA; rfl
  | k + 1, i, P, A, C, x, hA, hi => by
    obtain ⟨A', y, rfl⟩ : ∃ A' y, A = A' ++ [y] := by
      rcases nil_or_snoc A with rfl | h
      · simp at hA
      · exact h
    have hA' : A'.length = k := by simpa using hA
    unfold dnF
    rw [show P ++ ((A' ++ [y]) ++ x :: C) = (P ++ A') ++ y :: x :: C by simp, swp_adj' (by simp; omega) (by simp; omega)]
    have := dnF_mid k (i - 1) P A' (y :: C) x hA' (by omega)
    rw [show (P ++ A') ++ x :: y :: C = P ++ (A' ++ x :: (y :: C)) by simp, this]; simp
end
theorem bsF_spec {p : Nat → Bool} : ∀ (f i j : Nat), j - i ≤ f → i ≤ j → (∀ x y, i ≤ x → x < y → y < j → p y = true → p x = true) →
    (∀ x, i ≤ x → x < bsF p f i j → p x = true) ∧ (∀ x, bsF p f i j ≤ x → x < j → p x = false)
  | 0, i, j, hf, h, hp => by
    have : i = j := by omega
    subst this
    exact ⟨fun x h1 h2 => by simp [bsF] at h2; omega, fun x h1 h2 => by simp [bsF] at h1; omega⟩
  | f + 1, i, j, hf, h, hp => by
    by_cases hij : i < j
    · cases hq : p ((i + j) / 2) with
      | true =>
        rw [bsF_t hij hq]
        obtain ⟨a1, a2⟩ := bsF_spec f ((i + j) / 2 + 1) j (by omega) (by omega) (fun x y h1 h2 h3 h4 => hp x y (by omega) h2 h3 h4)
        refine ⟨fun x h1 h2 => ?_, a2⟩
        rcases Nat.lt_trichotomy x ((i + j) / 2) with h | h | h
        · exact hp x _ h1 h (by omega) hq
        · rw [h]; exact hq
        · exact a1 x (by omega) h2
      | false =>
        rw [bsF_f hij hq]
        obtain ⟨a1, a2⟩ := bsF_spec f i ((i + j) / 2) (by omega) (by omega) (fun x y h1 h2 h3 h4 => hp x y h1 h2 (by omega) h4)
        refine ⟨a1, fun x h1 h2 => ?_⟩
        by_cases hx : x < (i + j) / 2
        · exact a2 x h1 hx
        · cases hpx : p x with
          | false => rfl
          | true =>
            rcases Nat.lt_or_ge ((i + j) / 2) x with h | h
            · have := hp _ x (by omega) h h2 hpx; rw [hq] at this; cases this
            · have : x = (i + j) / 2 := by omega
              rw [this, hq] at hpx; cases hpx
    · rw [bsF_end (by omega)]
      exact ⟨fun x h1 h2 => by omega, fun x h1 h2 => by omega⟩
theorem bsS_spec {p : Nat → Bool} {i j : Nat} (h : i ≤ j) (hp : ∀ x y, i ≤ x → x < y → y < j → p y = true → p x = true) :
    (∀ x, i ≤ x → x < bsS p i j → p x = true) ∧ (∀ x, bsS p i j ≤ x → x < j → p x = false) := bsF_spec _ i j (Nat.le_refl _) h hp
end Go.Proofs
