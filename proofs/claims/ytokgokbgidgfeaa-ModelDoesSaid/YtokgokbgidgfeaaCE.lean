/- Contracts of the program's functions and plain facts, for arguments as each lemma says. -/
import Derived.Test.YtokgokbgidgfeaaAwpD
import Derived.Test.YtokgokbgidgfeaaCA
import Derived.Test.YtokgokbgidgfeaaCB
import Derived.Test.YtokgokbgidgfeaaCD
import Derived.Test.YtokgokbgidgfeaaAwpC
set_option linter.all false
set_option maxHeartbeats 4000000
namespace Go.Proofs
open Go.Awp
theorem in42b (g : Gl) (o0 o1 o2 o3 : Awp.Obj) (a : Abs) (o : Op) (hgd : a.data.length = a.gens.length) (hn : o.name.size ≤ 2^40) (e : Nat) (he : 0 < e) (hf : kindS a o = -(e : Int)) : ∀ B S, CallsA Try.prog g B S ⟨8, true⟩ 42 [.ptr 7 0 0, .agg [.d (vI o.act), .d (vI o.ix), .d (vI o.gen), .d (vI o.n), .d (vI o.off), .d (rB o.b), .d (vS o.name)]] [o0, o1, o2, o3, .row 1 (a.gens.map vI), .row 1 (a.data.map oB), .row 3 (a.roots.map eRoot), .var 79 [.hdr 4 0 a.gens.length, .hdr 5 0 a.data.length, (.hdr 6 0 a.roots.length), .d (vI 0), .d (vI 0), .d (.v (.slice none 0 0))]]
    (fun x r => x = .fn (.func 80) [] [.ptr 9 0 0] ∧ r = [o0, o1, o2, o3, .row 1 (a.gens.map vI), .row 1 (a.data.map oB), .row 3 (a.roots.map eRoot), .var 79 [.hdr 4 0 a.gens.length, .hdr 5 0 a.data.length, (.hdr 6 0 a.roots.length), .d (vI 0), .d (vI 0), .d (.v (.slice none 0 0))], .var 31 [.d (vI o.act), .d (vI o.ix), .d (vI o.gen), .d (vI o.n), .d (vI o.off), .d (rB o.b), .d (vS o.name)], .var 39 [.d (vI e)]]) := by
 refine callsA_at Try.func42 rfl (Nat.le_of_ble_eq_true rfl) fun B S => ?_
 refine xU ?_
 iterate 2 refine xO ?_
 refine xG [0,3] ?_
 refine xO ?_
 refine xF [0,3,5] ?_
 refine W_seq (W_block ?_)
 refine xU ?_
 iterate 4 refine xO ?_
 refine xF [0,3,5,6] ?_
 refine W_cond rfl ?_ ?_
 · intro h6
   have k1 : o.act = 1 := by simpa using h6
   refine xU ?_
   iterate 3 refine xO ?_
   refine xF [4] ?_
   refine W_ret (endAt_ret (by simp [Try.f42]; exact .mk) ?_ ?_)
   · first | rfl | (exfalso; unfold kindS at hf <;> (repeat' split at hf) <;> first | (show (_ : Nat) = _; omega) | (exfalso; omega) | (exfalso; simp_all; done))
   first | (obtain rfl : e = 1 := by unfold kindS at hf <;> (repeat' split at hf) <;> first | (show (_ : Nat) = _; omega) | (exfalso; omega) | (exfalso; simp_all; done)
            rfl) | (obtain rfl : e = 3 := by unfold kindS at hf <;> (repeat' split at hf) <;> first | (show (_ : Nat) = _; omega) | (exfalso; omega) | (exfalso; simp_all; done)
                    rfl) | (obtain rfl : e = 8 := by unfold kindS at hf <;> (repeat' split at hf) <;> first | (show (_ : Nat) = _; omega) | (exfalso; omega) | (exfalso; simp_all; done)
                            rfl) | (exfalso; unfold kindS at hf <;> (repeat' split at hf) <;> first | (show (_ : Nat) = _; omega) | (exfalso; omega) | (exfalso; simp_all; done))
 intro h6
 have k1 : o.act ≠ 1 := by simpa using h6
 refine W_seq (xU ?_)
 iterate 4 refine xO ?_
 refine xF [0,3,5,12] ?_
 refine W_cond rfl ?_ ?_
 · intro h12
   have k2 : o.act = 7 := by simpa using h12
   refine W_skip ?_
   rintro -
   refine W_cond rfl ?_ ?_
   · intro h12'
     have k3 : o.act = 7 ∨ o.act = 8 := by simp at h12'; omega
     refine xU ?_
     iterate 3 refine xO ?_
     refine xF [4] ?_
     refine W_ret (endAt_ret (by simp [Try.f42]; exact .mk) ?_ ?_)
     · first | rfl | (exfalso; unfold kindS at hf <;> (repeat' split at hf) <;> first | (show (_ : Nat) = _; omega) | (exfalso; omega) | (exfalso; simp_all; done))
     first | (obtain rfl : e = 1 := by unfold kindS at hf <;> (repeat' split at hf) <;> first | (show (_ : Nat) = _; omega) | (exfalso; omega) | (exfalso; simp_all; done)
              rfl) | (obtain rfl : e = 3 := by unfold kindS at hf <;> (repeat' split at hf) <;> first | (show (_ : Nat) = _; omega) | (exfalso; omega) | (exfalso; simp_all; done)
                      rfl) | (obtain rfl : e = 8 := by unfold kindS at hf <;> (repeat' split at hf) <;> first | (show (_ : Nat) = _; omega) | (exfalso; omega) | (exfalso; simp_all; done)
                              rfl) | (exfalso; unfold kindS at hf <;> (repeat' split at hf) <;> first | (show (_ : Nat) = _; omega) | (exfalso; omega) | (exfalso; simp_all; done))
   intro h12'
   have k3 : ¬ (o.act = 7 ∨ o.act = 8) := by simp at h12'; omega
   refine W_seq (xU ?_)
   iterate 4 refine xO ?_
   refine xF [0,3,5,21] ?_
   refine W_cond rfl ?_ ?_
   · intro h21
     have k4 : o.act < 1 := by simpa using h21
     refine W_skip ?_
     rintro -
     refine W_cond rfl ?_ ?_
     · intro h21'
       have k4' : o.act < 1 ∨ 8 < o.act := by simp at h21'; omega
       refine xU ?_
       refine xO ?_
       refine run_inl0 rfl rfl rfl rfl (by simp; exact .mk) ⟨_, Try.func79, rfl, rfl⟩ (in79 g o0 o1 o2 o3 _ a 1) (.inr ⟨_, rfl⟩) ?_
       refine xO ?_
       refine xF [4] ?_
       refine W_ret (endAt_ret (by simp [Try.f42]; exact .mk) ?_ ?_)
       · first | rfl | (exfalso; unfold kindS at hf <;> (repeat' split at hf) <;> first | (show (_ : Nat) = _; omega) | (exfalso; omega) | (exfalso; simp_all; done))
       first | (obtain rfl : e = 1 := by unfold kindS at hf <;> (repeat' split at hf) <;> first | (show (_ : Nat) = _; omega) | (exfalso; omega) | (exfalso; simp_all; done)
                rfl) | (obtain rfl : e = 3 := by unfold kindS at hf <;> (repeat' split at hf) <;> first | (show (_ : Nat) = _; omega) | (exfalso; omega) | (exfalso; simp_all; done)
                        rfl) | (obtain rfl : e = 8 := by unfold kindS at hf <;> (repeat' split at hf) <;> first | (show (_ : Nat) = _; omega) | (exfalso; omega) | (exfalso; simp_all; done)
                                rfl) | (exfalso; unfold kindS at hf <;> (repeat' split at hf) <;> first | (show (_ : Nat) = _; omega) | (exfalso; omega) | (exfalso; simp_all; done))
     intro h21'
     have k4' : ¬ (o.act < 1 ∨ 8 < o.act) := by simp at h21'; omega
     refine xU ?_
     iterate 4 refine xO ?_
     iterate 2 (refine run_if rfl (by simp; exact .mk) rfl (by simp <;> omega) (fun hb => by simp; exact .mk) ?_)
     refine run_call rfl (by simp; exact .mk) rfl rfl (by simp) (by simp; exact .mk) (by simp [row_rows, Function.comp_def]; exact .mk) (fun hb => ct83 g _ hn) (by simp) (by simp; exact .mk) (by simp) ?_
     refine run_if rfl (by simp; exact .mk) rfl (by simp <;> omega) (fun hb => by simp; exact .mk) ?_
     refine xP ?_
     refine run_op1 rfl rfl rfl (by simp <;> omega) (by simp; exact .mk) ?_
     refine run_end [0,3,5,30] (by simp <;> omega) (by simp; exact .mk) ?_
     rintro -
     refine W_cond rfl ?_ ?_
     · intro h30
       have k5 : o.act = 6 ∧ nameS o.name = false := by simpa using h30
       refine xU ?_
       refine xO ?_
       refine run_inl0 rfl rfl rfl rfl (by simp; exact .mk) ⟨_, Try.func79, rfl, rfl⟩ (in79 g o0 o1 o2 o3 _ a 3) (.inr ⟨_, rfl⟩) ?_
       refine xO ?_
       refine xF [4] ?_
       refine W_ret (endAt_ret (by simp [Try.f42]; exact .mk) ?_ ?_)
       · first | rfl | (exfalso; unfold kindS at hf <;> (repeat' split at hf) <;> first | (show (_ : Nat) = _; omega) | (exfalso; omega) | (exfalso; simp_all; done))
       first | (obtain rfl : e = 1 := by unfold kindS at hf <;> (repeat' split at hf) <;> first | (show (_ : Nat) = _; omega) | (exfalso; omega) | (exfalso; simp_all; done)
                rfl) | (obtain rfl : e = 3 := by unfold kindS at hf <;> (repeat' split at hf) <;> first | (show (_ : Nat) = _; omega) | (exfalso; omega) | (exfalso; simp_all; done)
                        rfl) | (obtain rfl : e = 8 := by unfold kindS at hf <;> (repeat' split at hf) <;> first | (show (_ : Nat) = _; omega) | (exfalso; omega) | (exfalso; simp_all; done)
                                rfl) | (exfalso; unfold kindS at hf <;> (repeat' split at hf) <;> first | (show (_ : Nat) = _; omega) | (exfalso; omega) | (exfalso; simp_all; done))
     intro h30
     have k5 : ¬ (o.act = 6 ∧ nameS o.name = false) := by simpa using h30
     refine W_seq ?_
     refine W_regD (by kernel_rfl) [] 4 [0,1,2,3,4,5,6,7,8] (by decide +kernel) ?_
     iterate 6 refine xO ?_
     refine xC (ct84 g a _ _ hgd) ?_ (he := by simp [row_rows, Function.comp_def]; exact .mk)
     iterate 2 refine xO ?_
     refine xF [0,3,5,42] ?_
     refine W_cond rfl ?_ ?_
     · intro h42
       have k6 : goodS a o.ix o.gen = false := by simpa using h42
       refine xU ?_
       refine xO ?_
       refine run_inl0 rfl rfl rfl rfl (by simp; exact .mk) ⟨_, Try.func79, rfl, rfl⟩ (in79 g o0 o1 o2 o3 _ a 8) (.inr ⟨_, rfl⟩) ?_
       refine xO ?_
       refine xF [4] ?_
       refine W_ret (endAt_ret (by simp [Try.f42]; exact .mk) ?_ ?_)
       · first | rfl | (exfalso; unfold kindS at hf <;> (repeat' split at hf) <;> first | (show (_ : Nat) = _; omega) | (exfalso; omega) | (exfalso; simp_all; done))
       first | (obtain rfl : e = 1 := by unfold kindS at hf <;> (repeat' split at hf) <;> first | (show (_ : Nat) = _; omega) | (exfalso; omega) | (exfalso; simp_all; done)
                rfl) | (obtain rfl : e = 3 := by unfold kindS at hf <;> (repeat' split at hf) <;> first | (show (_ : Nat) = _; omega) | (exfalso; omega) | (exfalso; simp_all; done)
                        rfl) | (obtain rfl : e = 8 := by unfold kindS at hf <;> (repeat' split at hf) <;> first | (show (_ : Nat) = _; omega) | (exfalso; omega) | (exfalso; simp_all; done)
                                rfl) | (exfalso; unfold kindS at hf <;> (repeat' split at hf) <;> first | (show (_ : Nat) = _; omega) | (exfalso; omega) | (exfalso; simp_all; done))
     intro h42
     have k6 : ¬ goodS a o.ix o.gen = false := by simpa using h42
     refine xU ?_
     iterate 4 refine xO ?_
     refine xF [0,3,53] ?_
     refine W_cond rfl ?_ ?_
     · intro h53
       have k7 : o.act = 2 := by simpa using h53
       refine xU ?_
       iterate 3 refine xO ?_
       refine xF [4] ?_
       refine W_ret (endAt_ret (by simp [Try.f42]; exact .mk) ?_ ?_)
       · first | rfl | (exfalso; unfold kindS at hf <;> (repeat' split at hf) <;> first | (show (_ : Nat) = _; omega) | (exfalso; omega) | (exfalso; simp_all; done))
       first | (obtain rfl : e = 1 := by unfold kindS at hf <;> (repeat' split at hf) <;> first | (show (_ : Nat) = _; omega) | (exfalso; omega) | (exfalso; simp_all; done)
                rfl) | (obtain rfl : e = 3 := by unfold kindS at hf <;> (repeat' split at hf) <;> first | (show (_ : Nat) = _; omega) | (exfalso; omega) | (exfalso; simp_all; done)
                        rfl) | (obtain rfl : e = 8 := by unfold kindS at hf <;> (repeat' split at hf) <;> first | (show (_ : Nat) = _; omega) | (exfalso; omega) | (exfalso; simp_all; done)
                                rfl) | (exfalso; unfold kindS at hf <;> (repeat' split at hf) <;> first | (show (_ : Nat) = _; omega) | (exfalso; omega) | (exfalso; simp_all; done))
     intro h53
     have k7 : o.act ≠ 2 := by simpa using h53
     refine xU ?_
     iterate 4 refine xO ?_
     refine xF [0,3,59] ?_
     refine W_cond rfl ?_ ?_
     · intro h59
       have k8 : o.act = 3 := by simpa using h59
       refine xU ?_
       iterate 3 refine xO ?_
       refine xF [4] ?_
       refine W_ret (endAt_ret (by simp [Try.f42]; exact .mk) ?_ ?_)
       · first | rfl | (exfalso; unfold kindS at hf <;> (repeat' split at hf) <;> first | (show (_ : Nat) = _; omega) | (exfalso; omega) | (exfalso; simp_all; done))
       first | (obtain rfl : e = 1 := by unfold kindS at hf <;> (repeat' split at hf) <;> first | (show (_ : Nat) = _; omega) | (exfalso; omega) | (exfalso; simp_all; done)
                rfl) | (obtain rfl : e = 3 := by unfold kindS at hf <;> (repeat' split at hf) <;> first | (show (_ : Nat) = _; omega) | (exfalso; omega) | (exfalso; simp_all; done)
                        rfl) | (obtain rfl : e = 8 := by unfold kindS at hf <;> (repeat' split at hf) <;> first | (show (_ : Nat) = _; omega) | (exfalso; omega) | (exfalso; simp_all; done)
                                rfl) | (exfalso; unfold kindS at hf <;> (repeat' split at hf) <;> first | (show (_ : Nat) = _; omega) | (exfalso; omega) | (exfalso; simp_all; done))
     intro h59
     have k8 : o.act ≠ 3 := by simpa using h59
     refine xU ?_
     iterate 4 refine xO ?_
     refine xF [0,3,65] ?_
     refine W_cond rfl ?_ ?_
     · intro h65
       have k9 : o.act = 4 := by simpa using h65
       refine xU ?_
       iterate 3 refine xO ?_
       refine xF [4] ?_
       refine W_ret (endAt_ret (by simp [Try.f42]; exact .mk) ?_ ?_)
       · first | rfl | (exfalso; unfold kindS at hf <;> (repeat' split at hf) <;> first | (show (_ : Nat) = _; omega) | (exfalso; omega) | (exfalso; simp_all; done))
       first | (obtain rfl : e = 1 := by unfold kindS at hf <;> (repeat' split at hf) <;> first | (show (_ : Nat) = _; omega) | (exfalso; omega) | (exfalso; simp_all; done)
                rfl) | (obtain rfl : e = 3 := by unfold kindS at hf <;> (repeat' split at hf) <;> first | (show (_ : Nat) = _; omega) | (exfalso; omega) | (exfalso; simp_all; done)
                        rfl) | (obtain rfl : e = 8 := by unfold kindS at hf <;> (repeat' split at hf) <;> first | (show (_ : Nat) = _; omega) | (exfalso; omega) | (exfalso; simp_all; done)
                                rfl) | (exfalso; unfold kindS at hf <;> (repeat' split at hf) <;> first | (show (_ : Nat) = _; omega) | (exfalso; omega) | (exfalso; simp_all; done))
     intro h65
     have k9 : o.act ≠ 4 := by simpa using h65
     refine xU ?_
     iterate 4 refine xO ?_
     refine xF [0,71] ?_
     refine W_cond rfl ?_ ?_
     · intro h71
       have k10 : o.act = 5 := by simpa using h71
       refine xU ?_
       iterate 3 refine xO ?_
       refine xF [4] ?_
       refine W_ret (endAt_ret (by simp [Try.f42]; exact .mk) ?_ ?_)
       · first | rfl | (exfalso; unfold kindS at hf <;> (repeat' split at hf) <;> first | (show (_ : Nat) = _; omega) | (exfalso; omega) | (exfalso; simp_all; done))
       first | (obtain rfl : e = 1 := by unfold kindS at hf <;> (repeat' split at hf) <;> first | (show (_ : Nat) = _; omega) | (exfalso; omega) | (exfalso; simp_all; done)
                rfl) | (obtain rfl : e = 3 := by unfold kindS at hf <;> (repeat' split at hf) <;> first | (show (_ : Nat) = _; omega) | (exfalso; omega) | (exfalso; simp_all; done)
                        rfl) | (obtain rfl : e = 8 := by unfold kindS at hf <;> (repeat' split at hf) <;> first | (show (_ : Nat) = _; omega) | (exfalso; omega) | (exfalso; simp_all; done)
                                rfl) | (exfalso; unfold kindS at hf <;> (repeat' split at hf) <;> first | (show (_ : Nat) = _; omega) | (exfalso; omega) | (exfalso; simp_all; done))
     intro h71
     have k10 : o.act ≠ 5 := by simpa using h71
     refine W_skip ?_
     refine xT ?_
     iterate 3 refine xO ?_
     refine xF [4] ?_
     refine W_ret (endAt_ret (by simp [Try.f42]; exact .mk) ?_ ?_)
     · first | rfl | (exfalso; unfold kindS at hf <;> (repeat' split at hf) <;> first | (show (_ : Nat) = _; omega) | (exfalso; omega) | (exfalso; simp_all; done))
     first | (obtain rfl : e = 1 := by unfold kindS at hf <;> (repeat' split at hf) <;> first | (show (_ : Nat) = _; omega) | (exfalso; omega) | (exfalso; simp_all; done)
              rfl) | (obtain rfl : e = 3 := by unfold kindS at hf <;> (repeat' split at hf) <;> first | (show (_ : Nat) = _; omega) | (exfalso; omega) | (exfalso; simp_all; done)
                      rfl) | (obtain rfl : e = 8 := by unfold kindS at hf <;> (repeat' split at hf) <;> first | (show (_ : Nat) = _; omega) | (exfalso; omega) | (exfalso; simp_all; done)
                              rfl) | (exfalso; unfold kindS at hf <;> (repeat' split at hf) <;> first | (show (_ : Nat) = _; omega) | (exfalso; omega) | (exfalso; simp_all; done))
   intro h21
   have k4 : ¬ o.act < 1 := by simpa using h21
   refine W_reg rfl ?_
   iterate 4 refine xO ?_
   refine xF [0,3,5,21] ?_
   refine W_cond rfl ?_ ?_
   · intro h21'
     have k4' : o.act < 1 ∨ 8 < o.act := by simp at h21'; omega
     refine xU ?_
     refine xO ?_
     refine run_inl0 rfl rfl rfl rfl (by simp; exact .mk) ⟨_, Try.func79, rfl, rfl⟩ (in79 g o0 o1 o2 o3 _ a 1) (.inr ⟨_, rfl⟩) ?_
     refine xO ?_
     refine xF [4] ?_
     refine W_ret (endAt_ret (by simp [Try.f42]; exact .mk) ?_ ?_)
     · first | rfl | (exfalso; unfold kindS at hf <;> (repeat' split at hf) <;> first | (show (_ : Nat) = _; omega) | (exfalso; omega) | (exfalso; simp_all; done))
     first | (obtain rfl : e = 1 := by unfold kindS at hf <;> (repeat' split at hf) <;> first | (show (_ : Nat) = _; omega) | (exfalso; omega) | (exfalso; simp_all; done)
              rfl) | (obtain rfl : e = 3 := by unfold kindS at hf <;> (repeat' split at hf) <;> first | (show (_ : Nat) = _; omega) | (exfalso; omega) | (exfalso; simp_all; done)
                      rfl) | (obtain rfl : e = 8 := by unfold kindS at hf <;> (repeat' split at hf) <;> first | (show (_ : Nat) = _; omega) | (exfalso; omega) | (exfalso; simp_all; done)
                              rfl) | (exfalso; unfold kindS at hf <;> (repeat' split at hf) <;> first | (show (_ : Nat) = _; omega) | (exfalso; omega) | (exfalso; simp_all; done))
   intro h21'
   have k4' : ¬ (o.act < 1 ∨ 8 < o.act) := by simp at h21'; omega
   refine xU ?_
   iterate 4 refine xO ?_
   iterate 2 (refine run_if rfl (by simp; exact .mk) rfl (by simp <;> omega) (fun hb => by simp; exact .mk) ?_)
   refine run_call rfl (by simp; exact .mk) rfl rfl (by simp) (by simp; exact .mk) (by simp [row_rows, Function.comp_def]; exact .mk) (fun hb => ct83 g _ hn) (by simp) (by simp; exact .mk) (by simp) ?_
   refine run_if rfl (by simp; exact .mk) rfl (by simp <;> omega) (fun hb => by simp; exact .mk) ?_
   refine xP ?_
   refine run_op1 rfl rfl rfl (by simp <;> omega) (by simp; exact .mk) ?_
   refine run_end [0,3,5,30] (by simp <;> omega) (by simp; exact .mk) ?_
   rintro -
   refine W_cond rfl ?_ ?_
   · intro h30
     have k5 : o.act = 6 ∧ nameS o.name = false := by simpa using h30
     refine xU ?_
     refine xO ?_
     refine run_inl0 rfl rfl rfl rfl (by simp; exact .mk) ⟨_, Try.func79, rfl, rfl⟩ (in79 g o0 o1 o2 o3 _ a 3) (.inr ⟨_, rfl⟩) ?_
     refine xO ?_
     refine xF [4] ?_
     refine W_ret (endAt_ret (by simp [Try.f42]; exact .mk) ?_ ?_)
     · first | rfl | (exfalso; unfold kindS at hf <;> (repeat' split at hf) <;> first | (show (_ : Nat) = _; omega) | (exfalso; omega) | (exfalso; simp_all; done))
     first | (obtain rfl : e = 1 := by unfold kindS at hf <;> (repeat' split at hf) <;> first | (show (_ : Nat) = _; omega) | (exfalso; omega) | (exfalso; simp_all; done)
              rfl) | (obtain rfl : e = 3 := by unfold kindS at hf <;> (repeat' split at hf) <;> first | (show (_ : Nat) = _; omega) | (exfalso; omega) | (exfalso; simp_all; done)
                      rfl) | (obtain rfl : e = 8 := by unfold kindS at hf <;> (repeat' split at hf) <;> first | (show (_ : Nat) = _; omega) | (exfalso; omega) | (exfalso; simp_all; done)
                              rfl) | (exfalso; unfold kindS at hf <;> (repeat' split at hf) <;> first | (show (_ : Nat) = _; omega) | (exfalso; omega) | (exfalso; simp_all; done))
   intro h30
   have k5 : ¬ (o.act = 6 ∧ nameS o.name = false) := by simpa using h30
   refine W_seq ?_
   refine W_regD (by kernel_rfl) [] 4 [0,1,2,3,4,5,6,7,8] (by decide +kernel) ?_
   iterate 6 refine xO ?_
   refine xC (ct84 g a _ _ hgd) ?_ (he := by simp [row_rows, Function.comp_def]; exact .mk)
   iterate 2 refine xO ?_
   refine xF [0,3,5,42] ?_
   refine W_cond rfl ?_ ?_
   · intro h42
     have k6 : goodS a o.ix o.gen = false := by simpa using h42
     refine xU ?_
     refine xO ?_
     refine run_inl0 rfl rfl rfl rfl (by simp; exact .mk) ⟨_, Try.func79, rfl, rfl⟩ (in79 g o0 o1 o2 o3 _ a 8) (.inr ⟨_, rfl⟩) ?_
     refine xO ?_
     refine xF [4] ?_
     refine W_ret (endAt_ret (by simp [Try.f42]; exact .mk) ?_ ?_)
     · first | rfl | (exfalso; unfold kindS at hf <;> (repeat' split at hf) <;> first | (show (_ : Nat) = _; omega) | (exfalso; omega) | (exfalso; simp_all; done))
     first | (obtain rfl : e = 1 := by unfold kindS at hf <;> (repeat' split at hf) <;> first | (show (_ : Nat) = _; omega) | (exfalso; omega) | (exfalso; simp_all; done)
              rfl) | (obtain rfl : e = 3 := by unfold kindS at hf <;> (repeat' split at hf) <;> first | (show (_ : Nat) = _; omega) | (exfalso; omega) | (exfalso; simp_all; done)
                      rfl) | (obtain rfl : e = 8 := by unfold kindS at hf <;> (repeat' split at hf) <;> first | (show (_ : Nat) = _; omega) | (exfalso; omega) | (exfalso; simp_all; done)
                              rfl) | (exfalso; unfold kindS at hf <;> (repeat' split at hf) <;> first | (show (_ : Nat) = _; omega) | (exfalso; omega) | (exfalso; simp_all; done))
   intro h42
   have k6 : ¬ goodS a o.ix o.gen = false := by simpa using h42
   refine xU ?_
   iterate 4 refine xO ?_
   refine xF [0,3,53] ?_
   refine W_cond rfl ?_ ?_
   · intro h53
     have k7 : o.act = 2 := by simpa using h53
     refine xU ?_
     iterate 3 refine xO ?_
     refine xF [4] ?_
     refine W_ret (endAt_ret (by simp [Try.f42]; exact .mk) ?_ ?_)
     · first | rfl | (exfalso; unfold kindS at hf <;> (repeat' split at hf) <;> first | (show (_ : Nat) = _; omega) | (exfalso; omega) | (exfalso; simp_all; done))
     first | (obtain rfl : e = 1 := by unfold kindS at hf <;> (repeat' split at hf) <;> first | (show (_ : Nat) = _; omega) | (exfalso; omega) | (exfalso; simp_all; done)
              rfl) | (obtain rfl : e = 3 := by unfold kindS at hf <;> (repeat' split at hf) <;> first | (show (_ : Nat) = _; omega) | (exfalso; omega) | (exfalso; simp_all; done)
                      rfl) | (obtain rfl : e = 8 := by unfold kindS at hf <;> (repeat' split at hf) <;> first | (show (_ : Nat) = _; omega) | (exfalso; omega) | (exfalso; simp_all; done)
                              rfl) | (exfalso; unfold kindS at hf <;> (repeat' split at hf) <;> first | (show (_ : Nat) = _; omega) | (exfalso; omega) | (exfalso; simp_all; done))
   intro h53
   have k7 : o.act ≠ 2 := by simpa using h53
   refine xU ?_
   iterate 4 refine xO ?_
   refine xF [0,3,59] ?_
   refine W_cond rfl ?_ ?_
   · intro h59
     have k8 : o.act = 3 := by simpa using h59
     refine xU ?_
     iterate 3 refine xO ?_
     refine xF [4] ?_
     refine W_ret (endAt_ret (by simp [Try.f42]; exact .mk) ?_ ?_)
     · first | rfl | (exfalso; unfold kindS at hf <;> (repeat' split at hf) <;> first | (show (_ : Nat) = _; omega) | (exfalso; omega) | (exfalso; simp_all; done))
     first | (obtain rfl : e = 1 := by unfold kindS at hf <;> (repeat' split at hf) <;> first | (show (_ : Nat) = _; omega) | (exfalso; omega) | (exfalso; simp_all; done)
              rfl) | (obtain rfl : e = 3 := by unfold kindS at hf <;> (repeat' split at hf) <;> first | (show (_ : Nat) = _; omega) | (exfalso; omega) | (exfalso; simp_all; done)
                      rfl) | (obtain rfl : e = 8 := by unfold kindS at hf <;> (repeat' split at hf) <;> first | (show (_ : Nat) = _; omega) | (exfalso; omega) | (exfalso; simp_all; done)
                              rfl) | (exfalso; unfold kindS at hf <;> (repeat' split at hf) <;> first | (show (_ : Nat) = _; omega) | (exfalso; omega) | (exfalso; simp_all; done))
   intro h59
   have k8 : o.act ≠ 3 := by simpa using h59
   refine xU ?_
   iterate 4 refine xO ?_
   refine xF [0,3,65] ?_
   refine W_cond rfl ?_ ?_
   · intro h65
     have k9 : o.act = 4 := by simpa using h65
     refine xU ?_
     iterate 3 refine xO ?_
     refine xF [4] ?_
     refine W_ret (endAt_ret (by simp [Try.f42]; exact .mk) ?_ ?_)
     · first | rfl | (exfalso; unfold kindS at hf <;> (repeat' split at hf) <;> first | (show (_ : Nat) = _; omega) | (exfalso; omega) | (exfalso; simp_all; done))
     first | (obtain rfl : e = 1 := by unfold kindS at hf <;> (repeat' split at hf) <;> first | (show (_ : Nat) = _; omega) | (exfalso; omega) | (exfalso; simp_all; done)
              rfl) | (obtain rfl : e = 3 := by unfold kindS at hf <;> (repeat' split at hf) <;> first | (show (_ : Nat) = _; omega) | (exfalso; omega) | (exfalso; simp_all; done)
                      rfl) | (obtain rfl : e = 8 := by unfold kindS at hf <;> (repeat' split at hf) <;> first | (show (_ : Nat) = _; omega) | (exfalso; omega) | (exfalso; simp_all; done)
                              rfl) | (exfalso; unfold kindS at hf <;> (repeat' split at hf) <;> first | (show (_ : Nat) = _; omega) | (exfalso; omega) | (exfalso; simp_all; done))
   intro h65
   have k9 : o.act ≠ 4 := by simpa using h65
   refine xU ?_
   iterate 4 refine xO ?_
   refine xF [0,71] ?_
   refine W_cond rfl ?_ ?_
   · intro h71
     have k10 : o.act = 5 := by simpa using h71
     refine xU ?_
     iterate 3 refine xO ?_
     refine xF [4] ?_
     refine W_ret (endAt_ret (by simp [Try.f42]; exact .mk) ?_ ?_)
     · first | rfl | (exfalso; unfold kindS at hf <;> (repeat' split at hf) <;> first | (show (_ : Nat) = _; omega) | (exfalso; omega) | (exfalso; simp_all; done))
     first | (obtain rfl : e = 1 := by unfold kindS at hf <;> (repeat' split at hf) <;> first | (show (_ : Nat) = _; omega) | (exfalso; omega) | (exfalso; simp_all; done)
              rfl) | (obtain rfl : e = 3 := by unfold kindS at hf <;> (repeat' split at hf) <;> first | (show (_ : Nat) = _; omega) | (exfalso; omega) | (exfalso; simp_all; done)
                      rfl) | (obtain rfl : e = 8 := by unfold kindS at hf <;> (repeat' split at hf) <;> first | (show (_ : Nat) = _; omega) | (exfalso; omega) | (exfalso; simp_all; done)
                              rfl) | (exfalso; unfold kindS at hf <;> (repeat' split at hf) <;> first | (show (_ : Nat) = _; omega) | (exfalso; omega) | (exfalso; simp_all; done))
   intro h71
   have k10 : o.act ≠ 5 := by simpa using h71
   refine W_skip ?_
   refine xT ?_
   iterate 3 refine xO ?_
   refine xF [4] ?_
   refine W_ret (endAt_ret (by simp [Try.f42]; exact .mk) ?_ ?_)
   · first | rfl | (exfalso; unfold kindS at hf <;> (repeat' split at hf) <;> first | (show (_ : Nat) = _; omega) | (exfalso; omega) | (exfalso; simp_all; done))
   first | (obtain rfl : e = 1 := by unfold kindS at hf <;> (repeat' split at hf) <;> first | (show (_ : Nat) = _; omega) | (exfalso; omega) | (exfalso; simp_all; done)
            rfl) | (obtain rfl : e = 3 := by unfold kindS at hf <;> (repeat' split at hf) <;> first | (show (_ : Nat) = _; omega) | (exfalso; omega) | (exfalso; simp_all; done)
                    rfl) | (obtain rfl : e = 8 := by unfold kindS at hf <;> (repeat' split at hf) <;> first | (show (_ : Nat) = _; omega) | (exfalso; omega) | (exfalso; simp_all; done)
                            rfl) | (exfalso; unfold kindS at hf <;> (repeat' split at hf) <;> first | (show (_ : Nat) = _; omega) | (exfalso; omega) | (exfalso; simp_all; done))
 intro h12
 have k2 : o.act ≠ 7 := by simpa using h12
 refine W_reg rfl ?_
 iterate 4 refine xO ?_
 refine xF [0,3,5,12] ?_
 refine W_cond rfl ?_ ?_
 · intro h12'
   have k3 : o.act = 7 ∨ o.act = 8 := by simp at h12'; omega
   refine xU ?_
   iterate 3 refine xO ?_
   refine xF [4] ?_
   refine W_ret (endAt_ret (by simp [Try.f42]; exact .mk) ?_ ?_)
   · first | rfl | (exfalso; unfold kindS at hf <;> (repeat' split at hf) <;> first | (show (_ : Nat) = _; omega) | (exfalso; omega) | (exfalso; simp_all; done))
   first | (obtain rfl : e = 1 := by unfold kindS at hf <;> (repeat' split at hf) <;> first | (show (_ : Nat) = _; omega) | (exfalso; omega) | (exfalso; simp_all; done)
            rfl) | (obtain rfl : e = 3 := by unfold kindS at hf <;> (repeat' split at hf) <;> first | (show (_ : Nat) = _; omega) | (exfalso; omega) | (exfalso; simp_all; done)
                    rfl) | (obtain rfl : e = 8 := by unfold kindS at hf <;> (repeat' split at hf) <;> first | (show (_ : Nat) = _; omega) | (exfalso; omega) | (exfalso; simp_all; done)
                            rfl) | (exfalso; unfold kindS at hf <;> (repeat' split at hf) <;> first | (show (_ : Nat) = _; omega) | (exfalso; omega) | (exfalso; simp_all; done))
 intro h12'
 have k3 : ¬ (o.act = 7 ∨ o.act = 8) := by simp at h12'; omega
 refine W_seq (xU ?_)
 iterate 4 refine xO ?_
 refine xF [0,3,5,21] ?_
 refine W_cond rfl ?_ ?_
 · intro h21
   have k4 : o.act < 1 := by simpa using h21
   refine W_skip ?_
   rintro -
   refine W_cond rfl ?_ ?_
   · intro h21'
     have k4' : o.act < 1 ∨ 8 < o.act := by simp at h21'; omega
     refine xU ?_
     refine xO ?_
     refine run_inl0 rfl rfl rfl rfl (by simp; exact .mk) ⟨_, Try.func79, rfl, rfl⟩ (in79 g o0 o1 o2 o3 _ a 1) (.inr ⟨_, rfl⟩) ?_
     refine xO ?_
     refine xF [4] ?_
     refine W_ret (endAt_ret (by simp [Try.f42]; exact .mk) ?_ ?_)
     · first | rfl | (exfalso; unfold kindS at hf <;> (repeat' split at hf) <;> first | (show (_ : Nat) = _; omega) | (exfalso; omega) | (exfalso; simp_all; done))
     first | (obtain rfl : e = 1 := by unfold kindS at hf <;> (repeat' split at hf) <;> first | (show (_ : Nat) = _; omega) | (exfalso; omega) | (exfalso; simp_all; done)
              rfl) | (obtain rfl : e = 3 := by unfold kindS at hf <;> (repeat' split at hf) <;> first | (show (_ : Nat) = _; omega) | (exfalso; omega) | (exfalso; simp_all; done)
                      rfl) | (obtain rfl : e = 8 := by unfold kindS at hf <;> (repeat' split at hf) <;> first | (show (_ : Nat) = _; omega) | (exfalso; omega) | (exfalso; simp_all; done)
                              rfl) | (exfalso; unfold kindS at hf <;> (repeat' split at hf) <;> first | (show (_ : Nat) = _; omega) | (exfalso; omega) | (exfalso; simp_all; done))
   intro h21'
   have k4' : ¬ (o.act < 1 ∨ 8 < o.act) := by simp at h21'; omega
   refine xU ?_
   iterate 4 refine xO ?_
   iterate 2 (refine run_if rfl (by simp; exact .mk) rfl (by simp <;> omega) (fun hb => by simp; exact .mk) ?_)
   refine run_call rfl (by simp; exact .mk) rfl rfl (by simp) (by simp; exact .mk) (by simp [row_rows, Function.comp_def]; exact .mk) (fun hb => ct83 g _ hn) (by simp) (by simp; exact .mk) (by simp) ?_
   refine run_if rfl (by simp; exact .mk) rfl (by simp <;> omega) (fun hb => by simp; exact .mk) ?_
   refine xP ?_
   refine run_op1 rfl rfl rfl (by simp <;> omega) (by simp; exact .mk) ?_
   refine run_end [0,3,5,30] (by simp <;> omega) (by simp; exact .mk) ?_
   rintro -
   refine W_cond rfl ?_ ?_
   · intro h30
     have k5 : o.act = 6 ∧ nameS o.name = false := by simpa using h30
     refine xU ?_
     refine xO ?_
     refine run_inl0 rfl rfl rfl rfl (by simp; exact .mk) ⟨_, Try.func79, rfl, rfl⟩ (in79 g o0 o1 o2 o3 _ a 3) (.inr ⟨_, rfl⟩) ?_
     refine xO ?_
     refine xF [4] ?_
     refine W_ret (endAt_ret (by simp [Try.f42]; exact .mk) ?_ ?_)
     · first | rfl | (exfalso; unfold kindS at hf <;> (repeat' split at hf) <;> first | (show (_ : Nat) = _; omega) | (exfalso; omega) | (exfalso; simp_all; done))
     first | (obtain rfl : e = 1 := by unfold kindS at hf <;> (repeat' split at hf) <;> first | (show (_ : Nat) = _; omega) | (exfalso; omega) | (exfalso; simp_all; done)
              rfl) | (obtain rfl : e = 3 := by unfold kindS at hf <;> (repeat' split at hf) <;> first | (show (_ : Nat) = _; omega) | (exfalso; omega) | (exfalso; simp_all; done)
                      rfl) | (obtain rfl : e = 8 := by unfold kindS at hf <;> (repeat' split at hf) <;> first | (show (_ : Nat) = _; omega) | (exfalso; omega) | (exfalso; simp_all; done)
                              rfl) | (exfalso; unfold kindS at hf <;> (repeat' split at hf) <;> first | (show (_ : Nat) = _; omega) | (exfalso; omega) | (exfalso; simp_all; done))
   intro h30
   have k5 : ¬ (o.act = 6 ∧ nameS o.name = false) := by simpa using h30
   refine W_seq ?_
   refine W_regD (by kernel_rfl) [] 4 [0,1,2,3,4,5,6,7,8] (by decide +kernel) ?_
   iterate 6 refine xO ?_
   refine xC (ct84 g a _ _ hgd) ?_ (he := by simp [row_rows, Function.comp_def]; exact .mk)
   iterate 2 refine xO ?_
   refine xF [0,3,5,42] ?_
   refine W_cond rfl ?_ ?_
   · intro h42
     have k6 : goodS a o.ix o.gen = false := by simpa using h42
     refine xU ?_
     refine xO ?_
     refine run_inl0 rfl rfl rfl rfl (by simp; exact .mk) ⟨_, Try.func79, rfl, rfl⟩ (in79 g o0 o1 o2 o3 _ a 8) (.inr ⟨_, rfl⟩) ?_
     refine xO ?_
     refine xF [4] ?_
     refine W_ret (endAt_ret (by simp [Try.f42]; exact .mk) ?_ ?_)
     · first | rfl | (exfalso; unfold kindS at hf <;> (repeat' split at hf) <;> first | (show (_ : Nat) = _; omega) | (exfalso; omega) | (exfalso; simp_all; done))
     first | (obtain rfl : e = 1 := by unfold kindS at hf <;> (repeat' split at hf) <;> first | (show (_ : Nat) = _; omega) | (exfalso; omega) | (exfalso; simp_all; done)
              rfl) | (obtain rfl : e = 3 := by unfold kindS at hf <;> (repeat' split at hf) <;> first | (show (_ : Nat) = _; omega) | (exfalso; omega) | (exfalso; simp_all; done)
                      rfl) | (obtain rfl : e = 8 := by unfold kindS at hf <;> (repeat' split at hf) <;> first | (show (_ : Nat) = _; omega) | (exfalso; omega) | (exfalso; simp_all; done)
                              rfl) | (exfalso; unfold kindS at hf <;> (repeat' split at hf) <;> first | (show (_ : Nat) = _; omega) | (exfalso; omega) | (exfalso; simp_all; done))
   intro h42
   have k6 : ¬ goodS a o.ix o.gen = false := by simpa using h42
   refine xU ?_
   iterate 4 refine xO ?_
   refine xF [0,3,53] ?_
   refine W_cond rfl ?_ ?_
   · intro h53
     have k7 : o.act = 2 := by simpa using h53
     refine xU ?_
     iterate 3 refine xO ?_
     refine xF [4] ?_
     refine W_ret (endAt_ret (by simp [Try.f42]; exact .mk) ?_ ?_)
     · first | rfl | (exfalso; unfold kindS at hf <;> (repeat' split at hf) <;> first | (show (_ : Nat) = _; omega) | (exfalso; omega) | (exfalso; simp_all; done))
     first | (obtain rfl : e = 1 := by unfold kindS at hf <;> (repeat' split at hf) <;> first | (show (_ : Nat) = _; omega) | (exfalso; omega) | (exfalso; simp_all; done)
              rfl) | (obtain rfl : e = 3 := by unfold kindS at hf <;> (repeat' split at hf) <;> first | (show (_ : Nat) = _; omega) | (exfalso; omega) | (exfalso; simp_all; done)
                      rfl) | (obtain rfl : e = 8 := by unfold kindS at hf <;> (repeat' split at hf) <;> first | (show (_ : Nat) = _; omega) | (exfalso; omega) | (exfalso; simp_all; done)
                              rfl) | (exfalso; unfold kindS at hf <;> (repeat' split at hf) <;> first | (show (_ : Nat) = _; omega) | (exfalso; omega) | (exfalso; simp_all; done))
   intro h53
   have k7 : o.act ≠ 2 := by simpa using h53
   refine xU ?_
   iterate 4 refine xO ?_
   refine xF [0,3,59] ?_
   refine W_cond rfl ?_ ?_
   · intro h59
     have k8 : o.act = 3 := by simpa using h59
     refine xU ?_
     iterate 3 refine xO ?_
     refine xF [4] ?_
     refine W_ret (endAt_ret (by simp [Try.f42]; exact .mk) ?_ ?_)
     · first | rfl | (exfalso; unfold kindS at hf <;> (repeat' split at hf) <;> first | (show (_ : Nat) = _; omega) | (exfalso; omega) | (exfalso; simp_all; done))
     first | (obtain rfl : e = 1 := by unfold kindS at hf <;> (repeat' split at hf) <;> first | (show (_ : Nat) = _; omega) | (exfalso; omega) | (exfalso; simp_all; done)
              rfl) | (obtain rfl : e = 3 := by unfold kindS at hf <;> (repeat' split at hf) <;> first | (show (_ : Nat) = _; omega) | (exfalso; omega) | (exfalso; simp_all; done)
                      rfl) | (obtain rfl : e = 8 := by unfold kindS at hf <;> (repeat' split at hf) <;> first | (show (_ : Nat) = _; omega) | (exfalso; omega) | (exfalso; simp_all; done)
                              rfl) | (exfalso; unfold kindS at hf <;> (repeat' split at hf) <;> first | (show (_ : Nat) = _; omega) | (exfalso; omega) | (exfalso; simp_all; done))
   intro h59
   have k8 : o.act ≠ 3 := by simpa using h59
   refine xU ?_
   iterate 4 refine xO ?_
   refine xF [0,3,65] ?_
   refine W_cond rfl ?_ ?_
   · intro h65
     have k9 : o.act = 4 := by simpa using h65
     refine xU ?_
     iterate 3 refine xO ?_
     refine xF [4] ?_
     refine W_ret (endAt_ret (by simp [Try.f42]; exact .mk) ?_ ?_)
     · first | rfl | (exfalso; unfold kindS at hf <;> (repeat' split at hf) <;> first | (show (_ : Nat) = _; omega) | (exfalso; omega) | (exfalso; simp_all; done))
     first | (obtain rfl : e = 1 := by unfold kindS at hf <;> (repeat' split at hf) <;> first | (show (_ : Nat) = _; omega) | (exfalso; omega) | (exfalso; simp_all; done)
              rfl) | (obtain rfl : e = 3 := by unfold kindS at hf <;> (repeat' split at hf) <;> first | (show (_ : Nat) = _; omega) | (exfalso; omega) | (exfalso; simp_all; done)
                      rfl) | (obtain rfl : e = 8 := by unfold kindS at hf <;> (repeat' split at hf) <;> first | (show (_ : Nat) = _; omega) | (exfalso; omega) | (exfalso; simp_all; done)
                              rfl) | (exfalso; unfold kindS at hf <;> (repeat' split at hf) <;> first | (show (_ : Nat) = _; omega) | (exfalso; omega) | (exfalso; simp_all; done))
   intro h65
   have k9 : o.act ≠ 4 := by simpa using h65
   refine xU ?_
   iterate 4 refine xO ?_
   refine xF [0,71] ?_
   refine W_cond rfl ?_ ?_
   · intro h71
     have k10 : o.act = 5 := by simpa using h71
     refine xU ?_
     iterate 3 refine xO ?_
     refine xF [4] ?_
     refine W_ret (endAt_ret (by simp [Try.f42]; exact .mk) ?_ ?_)
     · first | rfl | (exfalso; unfold kindS at hf <;> (repeat' split at hf) <;> first | (show (_ : Nat) = _; omega) | (exfalso; omega) | (exfalso; simp_all; done))
     first | (obtain rfl : e = 1 := by unfold kindS at hf <;> (repeat' split at hf) <;> first | (show (_ : Nat) = _; omega) | (exfalso; omega) | (exfalso; simp_all; done)
              rfl) | (obtain rfl : e = 3 := by unfold kindS at hf <;> (repeat' split at hf) <;> first | (show (_ : Nat) = _; omega) | (exfalso; omega) | (exfalso; simp_all; done)
                      rfl) | (obtain rfl : e = 8 := by unfold kindS at hf <;> (repeat' split at hf) <;> first | (show (_ : Nat) = _; omega) | (exfalso; omega) | (exfalso; simp_all; done)
                              rfl) | (exfalso; unfold kindS at hf <;> (repeat' split at hf) <;> first | (show (_ : Nat) = _; omega) | (exfalso; omega) | (exfalso; simp_all; done))
   intro h71
   have k10 : o.act ≠ 5 := by simpa using h71
   refine W_skip ?_
   refine xT ?_
   iterate 3 refine xO ?_
   refine xF [4] ?_
   refine W_ret (endAt_ret (by simp [Try.f42]; exact .mk) ?_ ?_)
   · first | rfl | (exfalso; unfold kindS at hf <;> (repeat' split at hf) <;> first | (show (_ : Nat) = _; omega) | (exfalso; omega) | (exfalso; simp_all; done))
   first | (obtain rfl : e = 1 := by unfold kindS at hf <;> (repeat' split at hf) <;> first | (show (_ : Nat) = _; omega) | (exfalso; omega) | (exfalso; simp_all; done)
            rfl) | (obtain rfl : e = 3 := by unfold kindS at hf <;> (repeat' split at hf) <;> first | (show (_ : Nat) = _; omega) | (exfalso; omega) | (exfalso; simp_all; done)
                    rfl) | (obtain rfl : e = 8 := by unfold kindS at hf <;> (repeat' split at hf) <;> first | (show (_ : Nat) = _; omega) | (exfalso; omega) | (exfalso; simp_all; done)
                            rfl) | (exfalso; unfold kindS at hf <;> (repeat' split at hf) <;> first | (show (_ : Nat) = _; omega) | (exfalso; omega) | (exfalso; simp_all; done))
 intro h21
 have k4 : ¬ o.act < 1 := by simpa using h21
 refine W_reg rfl ?_
 iterate 4 refine xO ?_
 refine xF [0,3,5,21] ?_
 refine W_cond rfl ?_ ?_
 · intro h21'
   have k4' : o.act < 1 ∨ 8 < o.act := by simp at h21'; omega
   refine xU ?_
   refine xO ?_
   refine run_inl0 rfl rfl rfl rfl (by simp; exact .mk) ⟨_, Try.func79, rfl, rfl⟩ (in79 g o0 o1 o2 o3 _ a 1) (.inr ⟨_, rfl⟩) ?_
   refine xO ?_
   refine xF [4] ?_
   refine W_ret (endAt_ret (by simp [Try.f42]; exact .mk) ?_ ?_)
   · first | rfl | (exfalso; unfold kindS at hf <;> (repeat' split at hf) <;> first | (show (_ : Nat) = _; omega) | (exfalso; omega) | (exfalso; simp_all; done))
   first | (obtain rfl : e = 1 := by unfold kindS at hf <;> (repeat' split at hf) <;> first | (show (_ : Nat) = _; omega) | (exfalso; omega) | (exfalso; simp_all; done)
            rfl) | (obtain rfl : e = 3 := by unfold kindS at hf <;> (repeat' split at hf) <;> first | (show (_ : Nat) = _; omega) | (exfalso; omega) | (exfalso; simp_all; done)
                    rfl) | (obtain rfl : e = 8 := by unfold kindS at hf <;> (repeat' split at hf) <;> first | (show (_ : Nat) = _; omega) | (exfalso; omega) | (exfalso; simp_all; done)
                            rfl) | (exfalso; unfold kindS at hf <;> (repeat' split at hf) <;> first | (show (_ : Nat) = _; omega) | (exfalso; omega) | (exfalso; simp_all; done))
 intro h21'
 have k4' : ¬ (o.act < 1 ∨ 8 < o.act) := by simp at h21'; omega
 refine xU ?_
 iterate 4 refine xO ?_
 iterate 2 (refine run_if rfl (by simp; exact .mk) rfl (by simp <;> omega) (fun hb => by simp; exact .mk) ?_)
 refine run_call rfl (by simp; exact .mk) rfl rfl (by simp) (by simp; exact .mk) (by simp [row_rows, Function.comp_def]; exact .mk) (fun hb => ct83 g _ hn) (by simp) (by simp; exact .mk) (by simp) ?_
 refine run_if rfl (by simp; exact .mk) rfl (by simp <;> omega) (fun hb => by simp; exact .mk) ?_
 refine xP ?_
 refine run_op1 rfl rfl rfl (by simp <;> omega) (by simp; exact .mk) ?_
 refine run_end [0,3,5,30] (by simp <;> omega) (by simp; exact .mk) ?_
 rintro -
 refine W_cond rfl ?_ ?_
 · intro h30
   have k5 : o.act = 6 ∧ nameS o.name = false := by simpa using h30
   refine xU ?_
   refine xO ?_
   refine run_inl0 rfl rfl rfl rfl (by simp; exact .mk) ⟨_, Try.func79, rfl, rfl⟩ (in79 g o0 o1 o2 o3 _ a 3) (.inr ⟨_, rfl⟩) ?_
   refine xO ?_
   refine xF [4] ?_
   refine W_ret (endAt_ret (by simp [Try.f42]; exact .mk) ?_ ?_)
   · first | rfl | (exfalso; unfold kindS at hf <;> (repeat' split at hf) <;> first | (show (_ : Nat) = _; omega) | (exfalso; omega) | (exfalso; simp_all; done))
   first | (obtain rfl : e = 1 := by unfold kindS at hf <;> (repeat' split at hf) <;> first | (show (_ : Nat) = _; omega) | (exfalso; omega) | (exfalso; simp_all; done)
            rfl) | (obtain rfl : e = 3 := by unfold kindS at hf <;> (repeat' split at hf) <;> first | (show (_ : Nat) = _; omega) | (exfalso; omega) | (exfalso; simp_all; done)
                    rfl) | (obtain rfl : e = 8 := by unfold kindS at hf <;> (repeat' split at hf) <;> first | (show (_ : Nat) = _; omega) | (exfalso; omega) | (exfalso; simp_all; done)
                            rfl) | (exfalso; unfold kindS at hf <;> (repeat' split at hf) <;> first | (show (_ : Nat) = _; omega) | (exfalso; omega) | (exfalso; simp_all; done))
 intro h30
 have k5 : ¬ (o.act = 6 ∧ nameS o.name = false) := by simpa using h30
 refine W_seq ?_
 refine W_regD (by kernel_rfl) [] 4 [0,1,2,3,4,5,6,7,8] (by decide +kernel) ?_
 iterate 6 refine xO ?_
 refine xC (ct84 g a _ _ hgd) ?_ (he := by simp [row_rows, Function.comp_def]; exact .mk)
 iterate 2 refine xO ?_
 refine xF [0,3,5,42] ?_
 refine W_cond rfl ?_ ?_
 · intro h42
   have k6 : goodS a o.ix o.gen = false := by simpa using h42
   refine xU ?_
   refine xO ?_
   refine run_inl0 rfl rfl rfl rfl (by simp; exact .mk) ⟨_, Try.func79, rfl, rfl⟩ (in79 g o0 o1 o2 o3 _ a 8) (.inr ⟨_, rfl⟩) ?_
   refine xO ?_
   refine xF [4] ?_
   refine W_ret (endAt_ret (by simp [Try.f42]; exact .mk) ?_ ?_)
   · first | rfl | (exfalso; unfold kindS at hf <;> (repeat' split at hf) <;> first | (show (_ : Nat) = _; omega) | (exfalso; omega) | (exfalso; simp_all; done))
   first | (obtain rfl : e = 1 := by unfold kindS at hf <;> (repeat' split at hf) <;> first | (show (_ : Nat) = _; omega) | (exfalso; omega) | (exfalso; simp_all; done)
            rfl) | (obtain rfl : e = 3 := by unfold kindS at hf <;> (repeat' split at hf) <;> first | (show (_ : Nat) = _; omega) | (exfalso; omega) | (exfalso; simp_all; done)
                    rfl) | (obtain rfl : e = 8 := by unfold kindS at hf <;> (repeat' split at hf) <;> first | (show (_ : Nat) = _; omega) | (exfalso; omega) | (exfalso; simp_all; done)
                            rfl) | (exfalso; unfold kindS at hf <;> (repeat' split at hf) <;> first | (show (_ : Nat) = _; omega) | (exfalso; omega) | (exfalso; simp_all; done))
 intro h42
 have k6 : ¬ goodS a o.ix o.gen = false := by simpa using h42
 refine xU ?_
 iterate 4 refine xO ?_
 refine xF [0,3,53] ?_
 refine W_cond rfl ?_ ?_
 · intro h53
   have k7 : o.act = 2 := by simpa using h53
   refine xU ?_
   iterate 3 refine xO ?_
   refine xF [4] ?_
   refine W_ret (endAt_ret (by simp [Try.f42]; exact .mk) ?_ ?_)
   · first | rfl | (exfalso; unfold kindS at hf <;> (repeat' split at hf) <;> first | (show (_ : Nat) = _; omega) | (exfalso; omega) | (exfalso; simp_all; done))
   first | (obtain rfl : e = 1 := by unfold kindS at hf <;> (repeat' split at hf) <;> first | (show (_ : Nat) = _; omega) | (exfalso; omega) | (exfalso; simp_all; done)
            rfl) | (obtain rfl : e = 3 := by unfold kindS at hf <;> (repeat' split at hf) <;> first | (show (_ : Nat) = _; omega) | (exfalso; omega) | (exfalso; simp_all; done)
                    rfl) | (obtain rfl : e = 8 := by unfold kindS at hf <;> (repeat' split at hf) <;> first | (show (_ : Nat) = _; omega) | (exfalso; omega) | (exfalso; simp_all; done)
                            rfl) | (exfalso; unfold kindS at hf <;> (repeat' split at hf) <;> first | (show (_ : Nat) = _; omega) | (exfalso; omega) | (exfalso; simp_all; done))
 intro h53
 have k7 : o.act ≠ 2 := by simpa using h53
 refine xU ?_
 iterate 4 refine xO ?_
 refine xF [0,3,59] ?_
 refine W_cond rfl ?_ ?_
 · intro h59
   have k8 : o.act = 3 := by simpa using h59
   refine xU ?_
   iterate 3 refine xO ?_
   refine xF [4] ?_
   refine W_ret (endAt_ret (by simp [Try.f42]; exact .mk) ?_ ?_)
   · first | rfl | (exfalso; unfold kindS at hf <;> (repeat' split at hf) <;> first | (show (_ : Nat) = _; omega) | (exfalso; omega) | (exfalso; simp_all; done))
   first | (obtain rfl : e = 1 := by unfold kindS at hf <;> (repeat' split at hf) <;> first | (show (_ : Nat) = _; omega) | (exfalso; omega) | (exfalso; simp_all; done)
            rfl) | (obtain rfl : e = 3 := by unfold kindS at hf <;> (repeat' split at hf) <;> first | (show (_ : Nat) = _; omega) | (exfalso; omega) | (exfalso; simp_all; done)
                    rfl) | (obtain rfl : e = 8 := by unfold kindS at hf <;> (repeat' split at hf) <;> first | (show (_ : Nat) = _; omega) | (exfalso; omega) | (exfalso; simp_all; done)
                            rfl) | (exfalso; unfold kindS at hf <;> (repeat' split at hf) <;> first | (show (_ : Nat) = _; omega) | (exfalso; omega) | (exfalso; simp_all; done))
 intro h59
 have k8 : o.act ≠ 3 := by simpa using h59
 refine xU ?_
 iterate 4 refine xO ?_
 refine xF [0,3,65] ?_
 refine W_cond rfl ?_ ?_
 · intro h65
   have k9 : o.act = 4 := by simpa using h65
   refine xU ?_
   iterate 3 refine xO ?_
   refine xF [4] ?_
   refine W_ret (endAt_ret (by simp [Try.f42]; exact .mk) ?_ ?_)
   · first | rfl | (exfalso; unfold kindS at hf <;> (repeat' split at hf) <;> first | (show (_ : Nat) = _; omega) | (exfalso; omega) | (exfalso; simp_all; done))
   first | (obtain rfl : e = 1 := by unfold kindS at hf <;> (repeat' split at hf) <;> first | (show (_ : Nat) = _; omega) | (exfalso; omega) | (exfalso; simp_all; done)
            rfl) | (obtain rfl : e = 3 := by unfold kindS at hf <;> (repeat' split at hf) <;> first | (show (_ : Nat) = _; omega) | (exfalso; omega) | (exfalso; simp_all; done)
                    rfl) | (obtain rfl : e = 8 := by unfold kindS at hf <;> (repeat' split at hf) <;> first | (show (_ : Nat) = _; omega) | (exfalso; omega) | (exfalso; simp_all; done)
                            rfl) | (exfalso; unfold kindS at hf <;> (repeat' split at hf) <;> first | (show (_ : Nat) = _; omega) | (exfalso; omega) | (exfalso; simp_all; done))
 intro h65
 have k9 : o.act ≠ 4 := by simpa using h65
 refine xU ?_
 iterate 4 refine xO ?_
 refine xF [0,71] ?_
 refine W_cond rfl ?_ ?_
 · intro h71
   have k10 : o.act = 5 := by simpa using h71
   refine xU ?_
   iterate 3 refine xO ?_
   refine xF [4] ?_
   refine W_ret (endAt_ret (by simp [Try.f42]; exact .mk) ?_ ?_)
   · first | rfl | (exfalso; unfold kindS at hf <;> (repeat' split at hf) <;> first | (show (_ : Nat) = _; omega) | (exfalso; omega) | (exfalso; simp_all; done))
   first | (obtain rfl : e = 1 := by unfold kindS at hf <;> (repeat' split at hf) <;> first | (show (_ : Nat) = _; omega) | (exfalso; omega) | (exfalso; simp_all; done)
            rfl) | (obtain rfl : e = 3 := by unfold kindS at hf <;> (repeat' split at hf) <;> first | (show (_ : Nat) = _; omega) | (exfalso; omega) | (exfalso; simp_all; done)
                    rfl) | (obtain rfl : e = 8 := by unfold kindS at hf <;> (repeat' split at hf) <;> first | (show (_ : Nat) = _; omega) | (exfalso; omega) | (exfalso; simp_all; done)
                            rfl) | (exfalso; unfold kindS at hf <;> (repeat' split at hf) <;> first | (show (_ : Nat) = _; omega) | (exfalso; omega) | (exfalso; simp_all; done))
 intro h71
 have k10 : o.act ≠ 5 := by simpa using h71
 refine W_skip ?_
 refine xT ?_
 iterate 3 refine xO ?_
 refine xF [4] ?_
 refine W_ret (endAt_ret (by simp [Try.f42]; exact .mk) ?_ ?_)
 · first | rfl | (exfalso; unfold kindS at hf <;> (repeat' split at hf) <;> first | (show (_ : Nat) = _; omega) | (exfalso; omega) | (exfalso; simp_all; done))
 first | (obtain rfl : e = 1 := by unfold kindS at hf <;> (repeat' split at hf) <;> first | (show (_ : Nat) = _; omega) | (exfalso; omega) | (exfalso; simp_all; done)
          rfl) | (obtain rfl : e = 3 := by unfold kindS at hf <;> (repeat' split at hf) <;> first | (show (_ : Nat) = _; omega) | (exfalso; omega) | (exfalso; simp_all; done)
                  rfl) | (obtain rfl : e = 8 := by unfold kindS at hf <;> (repeat' split at hf) <;> first | (show (_ : Nat) = _; omega) | (exfalso; omega) | (exfalso; simp_all; done)
                          rfl) | (exfalso; unfold kindS at hf <;> (repeat' split at hf) <;> first | (show (_ : Nat) = _; omega) | (exfalso; omega) | (exfalso; simp_all; done))

open Go.Awp
theorem ct41 (g : Gl) (a : Abs) (ha : a.Ok) : CtAt Try.prog g 41 [eAbs a] (oAbs a) := by
 refine ctAt_of_W Try.func41 rfl rfl (Nat.le_of_ble_eq_true rfl) fun B S => ?_
 simp only [eAbs, List.map, argD_agg]
 refine xU ?_
 iterate 2 refine xO ?_
 refine xF [1,2] ?_
 refine W_seq ?_
 refine W_regD (by kernel_rfl) [] 4 [0,1,3,4,6,7,2,9,5,8,10,11,12,13,14] (by decide +kernel) ?_
 iterate 6 refine xO ?_
 refine xC (ct78 g _ ha.h1) ?_
 refine xO ?_
 refine run_inl0 rfl rfl rfl rfl (by simp; exact .mk) ⟨_, Try.func75, rfl, rfl⟩ (in75 g _ _ _ a.data ha.h2) (.inr ⟨_, rfl⟩) ?_
 refine xC (ct52 g _ ha.h3) ?_
 refine xO ?_ (h := by simp [splice]; exact .mk)
 refine xO ?_
 refine xO ?_ (h := by simp [splice]; exact .mk)
 refine xO ?_
 refine xO ?_ (h := by simp [splice]; exact .mk)
 refine xF [1,2] ?_
 refine W_seq (xU ?_)
 iterate 4 refine xO ?_
 refine xF [1,2,18,19] ?_
 refine W_block (W_rounds (fun m σ r => ∃ i : Nat, m = a.data.length - i ∧ i ≤ a.data.length ∧ σ = slots [(1, .ptr 0 0 0), (2, .ptr 1 0 0), (18, .d (vI a.data.length)), (19, .d (vI i))] ∧ r = [.var 26 [.hdr 2 0 a.gens.length, .hdr 4 0 a.data.length, .hdr 5 0 a.roots.length], .var 26 [.d (.v (.slice none 0 0)), .d (.v (.slice none 0 0)), .d (.v (.slice none 0 0))], .row 1 (a.gens.map vI), .dead, .row 1 (mixB i a.data), .row 3 (a.roots.map eRoot)]) a.data.length .refl ⟨0, by simp, by simp, rfl, by rw [mixB_zero]⟩ ?_)
 have q2 := ha.h2
 rintro m σ r ⟨i, rfl, hi, rfl, rfl⟩ _
 refine xU ?_
 refine xO ?_
 refine xF [1,2,18,19,20] ?_
 refine W_seq (W_cond rfl ?_ ?_)
 · intro h20
   have hi2 : i < a.data.length := by simpa using h20
   refine W_skip ?_
   rintro -
   refine W_seq (W_block ?_)
   refine xU ?_
   iterate 2 refine xO ?_
   refine xF [1,2,3,18,19] ?_
   refine W_regD (by kernel_rfl) [] 4 [0,1,2,3,4,5,6,7,8,9,10] (by decide +kernel) ?_
   iterate 6 refine xO ?_
   refine xO ?_ (h := by simp [hi2]; exact .mk)
   refine xO ?_ (h := by simp [-List.getElem?_map, mixB_get hi2]; exact .mk)
   refine xC (ct53 g _ (ha.h4 i hi2)) ?_
   refine xO ?_ (h := by simp [hi2]; exact .mk)
   refine xO ?_ (h := by simp [splice, -List.getElem?_map, mixB_get hi2, nrmL, nrm, putC]; exact .mk)
   refine xF [1,2,18,19] ?_
   refine W_reg rfl ?_
   iterate 2 refine xO ?_
   refine xE [1,2,18,19] ?_
   refine rounds_drop 6 [1,2,18,19] (by simp) (by simp) (by simp) ?_
   refine rounds_next (m' := a.data.length - (i+1)) (by omega) ⟨i+1, rfl, by omega, ?_, ?_⟩
   · rw [wrap64 (by omega) (by omega)]; rfl
   rw [← mixB_set hi2]; simp; rfl
 intro h20
 obtain rfl : i = a.data.length := by simp at h20; omega
 rw [mixB_all]
 refine W_exit (xT ?_)
 refine xO ?_
 refine xO ?_ (h := by simp [splice]; exact .mk)
 refine xF [2] ?_
 refine W_ret (xR (by simp [Try.f41]; exact .mk) ?_)
 simp [Try.f41, oAbs, ownR]

open Go.Awp
theorem ct14 (g : Gl) (a : Abs) (o : Op) (ha : a.Ok) (hn : o.name.size ≤ 2^40) (hob : o.b.length ≤ 2^40) : CtAt Try.prog g 14 [eAbs a, eOp o] (.tup [oAbs (doS a o).a, .agg [vI (doS a o).ix, vI (doS a o).gen, oB (doS a o).b], vI (doS a o).e]) := by
 refine ctAt_of_W Try.func14 rfl rfl (Nat.le_of_ble_eq_true rfl) fun B S => ?_
 simp only [eAbs, eOp, List.map, argD_agg]
 refine xU ?_
 iterate 5 refine xO ?_
 refine xF [2,3,4,5] ?_
 refine W_seq (xU ?_)
 refine xO ?_
 refine xC (ct25 g a ha) ?_ (hi := by simp [oAbs]; exact .mk)
 refine xO ?_
 refine xF [2,3,4,5,11] ?_
 refine W_cond rfl ?_ ?_
 · intro h11
   have hR : rightS a = false := by simpa using h11
   have hdo : doS a o = failS 1 := by simp [doS, hR]
   have hE : True := trivial
   refine xU ?_
   iterate 4 (refine xO ?_ (h := by simp [splice]; exact .mk))
   refine xO ?_
   refine xF [4,5,6] ?_
   refine W_ret (xR (by simp [Try.f14]; exact .mk) ?_)
   first | (simp [Try.f14, hdo, hE, failS, zAbs, oAbs, ownR]; done) | (simp [Try.f14, hdo, hE, failS, zAbs, oAbs, ownR, he0]; done) | (simp [Try.f14, hdo, hE, failS, zAbs, oAbs, ownR, he0, hE2]; done) | (exfalso; first | (simp at h24; done) | (simp at h24; omega))
 intro h11
 have hR : rightS a = true := by simpa using h11
 have hgd := (rightS_len hR).1
 refine W_skip ?_
 refine xT ?_
 refine xO ?_
 refine xC (ct41 g a ha) ?_ (hi := by simp [oAbs]; exact .mk)
 refine xO ?_ (h := by simp [splice]; exact .mk)
 iterate 2 refine xO ?_
 refine xF [3,4,5,7] ?_
 refine W_seq (W_seq ?_)
 rcases do_cases a o with hk | ⟨hk, hact⟩ | ⟨hk, hact⟩ | ⟨hk, hact⟩ | hk | hk | ⟨hk, hq⟩ | ⟨hk, hq⟩ | hk | ⟨e, he, hk⟩
 · skip
   have hE : effS a o = allocS a o.n := by simp [effS, hk]
   refine W_regD (by kernel_rfl) [4] 4 [0,1,3,2,4,5] (by decide +kernel) ?_
   iterate 3 refine xO ?_
   refine run_inl0 rfl rfl rfl rfl (by simp; exact .mk) ⟨_, Try.func42, rfl, rfl⟩ (in42g g (.var 26 [.d (rI a.gens), .d (rBB a.data), .d (rR a.roots)]) (.var 31 [.d (vI o.act), .d (vI o.ix), .d (vI o.gen), .d (vI o.n), .d (vI o.off), .d (rB o.b), .d (vS o.name)]) (.var 26 [.d (.v (.slice none 0 0)), .d (.v (.slice none 0 0)), .d (.v (.slice none 0 0))]) (.var 38 [.d (vI 0), .d (vI 0), .d (.v (.slice none 0 0))]) a o hgd hn 81 hk) (.inr ⟨_, rfl⟩) ?_
   refine run_inl0 rfl rfl rfl rfl (by simp; exact .mk) ⟨_, Try.func81, rfl, rfl⟩ (in81 g (.var 26 [.d (rI a.gens), .d (rBB a.data), .d (rR a.roots)]) (.var 31 [.d (vI o.act), .d (vI o.ix), .d (vI o.gen), .d (vI o.n), .d (vI o.off), .d (rB o.b), .d (vS o.name)]) (.var 26 [.d (.v (.slice none 0 0)), .d (.v (.slice none 0 0)), .d (.v (.slice none 0 0))]) (.var 38 [.d (vI 0), .d (vI 0), .d (.v (.slice none 0 0))]) (.var 31 [.d (vI o.act), .d (vI o.ix), .d (vI o.gen), .d (vI o.n), .d (vI o.off), .d (rB o.b), .d (vS o.name)]) a o (fun m => by simp) ha hgd) (.inl (by simp)) ?_
   refine xO ?_
   refine xG [4,5,7,8] ?_
   iterate 2 refine xO ?_
   refine xF [4,5,7,8,24] ?_
   refine W_cond rfl ?_ ?_
   · intro h24
     have hdo := doS_fail (o := o) hR (by rw [hE]; simpa using h24)
     refine xU ?_
     iterate 2 (refine xO ?_ (h := by simp [splice]; exact .mk))
     refine xO ?_
     iterate 2 (refine xO ?_ (h := by simp [splice]; exact .mk))
     refine xO ?_
     refine xF [4,5,6] ?_
     refine W_ret (xR (by simp [Try.f14]; exact .mk) ?_)
     first | (simp [Try.f14, hdo, hE, failS, zAbs, oAbs, ownR]; done) | (simp [Try.f14, hdo, hE, failS, zAbs, oAbs, ownR, he0]; done) | (simp [Try.f14, hdo, hE, failS, zAbs, oAbs, ownR, he0, hE2]; done) | (exfalso; first | (simp at h24; done) | (simp at h24; omega))
   intro h24
   have he0 : (effS a o).e = 0 := by rw [hE]; first | (simpa using h24; done) | exact hE2.2.2.2
   have hdo := doS_ok (o := o) hR he0
   rw [hE] at he0 hdo
   refine W_skip ?_
   rintro -
   refine W_seq ?_
   refine W_regD2 (hard := []) 7 8 (keepOk_lt (by decide)) (by kernel_rfl) 4 [0,1,2,3,4,5,6,7,8,9,10] [0,1,2,3,4,5,6,8,7,9,10] (by decide +kernel) (by decide +kernel) ?_ ?_
   · skip
     iterate 8 refine xO ?_
     iterate 2 (refine xO ?_ (h := by simp [splice]; exact .mk))
     refine xO ?_
     refine xF [4,5,6] ?_
     refine W_ret (xR (by simp [Try.f14]; exact .mk) ?_)
     first | (simp [Try.f14, hdo, hE, failS, zAbs, oAbs, ownR]; done) | (simp [Try.f14, hdo, hE, failS, zAbs, oAbs, ownR, he0]; done) | (simp [Try.f14, hdo, hE, failS, zAbs, oAbs, ownR, he0, hE2]; done) | (exfalso; first | (simp at h24; done) | (simp at h24; omega))
   skip
   iterate 7 refine xO ?_
   refine xO ?_ (h := by simp [splice]; exact .mk)
   refine xO ?_
   refine xO ?_ (h := by simp [splice]; exact .mk)
   refine xO ?_
   refine xF [4,5,6] ?_
   refine W_ret (xR (by simp [Try.f14]; exact .mk) ?_)
   first | (simp [Try.f14, hdo, hE, failS, zAbs, oAbs, ownR]; done) | (simp [Try.f14, hdo, hE, failS, zAbs, oAbs, ownR, he0]; done) | (simp [Try.f14, hdo, hE, failS, zAbs, oAbs, ownR, he0, hE2]; done) | (exfalso; first | (simp at h24; done) | (simp at h24; omega))
 · skip
   have hE : effS a o = rootS a o := by simp [effS, hk]
   have hE2 : rootS a o = ⟨{ a with roots := (setS a.roots o.name o.ix o.gen).1 }, 0, 0, [], (setS a.roots o.name o.ix o.gen).2⟩ := by simp [rootS, hact]
   rw [hE2] at hE
   refine W_regD (by kernel_rfl) [4] 4 [0,1,3,2,4,5] (by decide +kernel) ?_
   iterate 3 refine xO ?_
   refine run_inl0 rfl rfl rfl rfl (by simp; exact .mk) ⟨_, Try.func42, rfl, rfl⟩ (in42g g (.var 26 [.d (rI a.gens), .d (rBB a.data), .d (rR a.roots)]) (.var 31 [.d (vI o.act), .d (vI o.ix), .d (vI o.gen), .d (vI o.n), .d (vI o.off), .d (rB o.b), .d (vS o.name)]) (.var 26 [.d (.v (.slice none 0 0)), .d (.v (.slice none 0 0)), .d (.v (.slice none 0 0))]) (.var 38 [.d (vI 0), .d (vI 0), .d (.v (.slice none 0 0))]) a o hgd hn 82 hk) (.inr ⟨_, rfl⟩) ?_
   refine run_inl0 rfl rfl rfl rfl (by simp; exact .mk) ⟨_, Try.func82, rfl, rfl⟩ (in82s g (.var 26 [.d (rI a.gens), .d (rBB a.data), .d (rR a.roots)]) (.var 31 [.d (vI o.act), .d (vI o.ix), .d (vI o.gen), .d (vI o.n), .d (vI o.off), .d (rB o.b), .d (vS o.name)]) (.var 26 [.d (.v (.slice none 0 0)), .d (.v (.slice none 0 0)), .d (.v (.slice none 0 0))]) (.var 38 [.d (vI 0), .d (vI 0), .d (.v (.slice none 0 0))]) (.var 31 [.d (vI o.act), .d (vI o.ix), .d (vI o.gen), .d (vI o.n), .d (vI o.off), .d (rB o.b), .d (vS o.name)]) a o (fun m => by simp) ha hact ⟨ha.h3, ha.h5⟩ hn) (.inl (by simp)) ?_
   refine xO ?_
   refine xG [4,5,7,8] ?_
   iterate 2 refine xO ?_
   refine xF [4,5,7,8,24] ?_
   refine W_cond rfl ?_ ?_
   · intro h24
     have hdo := doS_fail (o := o) hR (by rw [hE]; simpa using h24)
     refine xU ?_
     iterate 2 (refine xO ?_ (h := by simp [splice]; exact .mk))
     refine xO ?_
     iterate 2 (refine xO ?_ (h := by simp [splice]; exact .mk))
     refine xO ?_
     refine xF [4,5,6] ?_
     refine W_ret (xR (by simp [Try.f14]; exact .mk) ?_)
     first | (simp [Try.f14, hdo, hE, failS, zAbs, oAbs, ownR]; done) | (simp [Try.f14, hdo, hE, failS, zAbs, oAbs, ownR, he0]; done) | (simp [Try.f14, hdo, hE, failS, zAbs, oAbs, ownR, he0, hE2]; done) | (exfalso; first | (simp at h24; done) | (simp at h24; omega))
   intro h24
   have he0 : (effS a o).e = 0 := by rw [hE]; first | (simpa using h24; done) | exact hE2.2.2.2
   have hdo := doS_ok (o := o) hR he0
   rw [hE] at he0 hdo
   refine W_skip ?_
   rintro -
   refine W_seq ?_
   refine W_regD2 (hard := []) 7 8 (keepOk_lt (by decide)) (by kernel_rfl) 4 [0,1,2,3,4,5,6,7,8,9,10] [0,1,2,3,4,5,6,8,7,9,10] (by decide +kernel) (by decide +kernel) ?_ ?_
   · skip
     iterate 8 refine xO ?_
     iterate 2 (refine xO ?_ (h := by simp [splice]; exact .mk))
     refine xO ?_
     refine xF [4,5,6] ?_
     refine W_ret (xR (by simp [Try.f14]; exact .mk) ?_)
     first | (simp [Try.f14, hdo, hE, failS, zAbs, oAbs, ownR]; done) | (simp [Try.f14, hdo, hE, failS, zAbs, oAbs, ownR, he0]; done) | (simp [Try.f14, hdo, hE, failS, zAbs, oAbs, ownR, he0, hE2]; done) | (exfalso; first | (simp at h24; done) | (simp at h24; omega))
   skip
   iterate 7 refine xO ?_
   refine xO ?_ (h := by simp [splice]; exact .mk)
   refine xO ?_
   refine xO ?_ (h := by simp [splice]; exact .mk)
   refine xO ?_
   refine xF [4,5,6] ?_
   refine W_ret (xR (by simp [Try.f14]; exact .mk) ?_)
   first | (simp [Try.f14, hdo, hE, failS, zAbs, oAbs, ownR]; done) | (simp [Try.f14, hdo, hE, failS, zAbs, oAbs, ownR, he0]; done) | (simp [Try.f14, hdo, hE, failS, zAbs, oAbs, ownR, he0, hE2]; done) | (exfalso; first | (simp at h24; done) | (simp at h24; omega))
 · skip
   have hE : effS a o = rootS a o := by simp [effS, hk]
   have hE2 : rootS a o = ⟨a, (getS a.roots o.name).1, (getS a.roots o.name).2.1, [], (getS a.roots o.name).2.2⟩ := by simp [rootS, hact]
   rw [hE2] at hE
   refine W_regD (by kernel_rfl) [4] 4 [0,1,3,2,4,5] (by decide +kernel) ?_
   iterate 3 refine xO ?_
   refine run_inl0 rfl rfl rfl rfl (by simp; exact .mk) ⟨_, Try.func42, rfl, rfl⟩ (in42g g (.var 26 [.d (rI a.gens), .d (rBB a.data), .d (rR a.roots)]) (.var 31 [.d (vI o.act), .d (vI o.ix), .d (vI o.gen), .d (vI o.n), .d (vI o.off), .d (rB o.b), .d (vS o.name)]) (.var 26 [.d (.v (.slice none 0 0)), .d (.v (.slice none 0 0)), .d (.v (.slice none 0 0))]) (.var 38 [.d (vI 0), .d (vI 0), .d (.v (.slice none 0 0))]) a o hgd hn 82 hk) (.inr ⟨_, rfl⟩) ?_
   refine run_inl0 rfl rfl rfl rfl (by simp; exact .mk) ⟨_, Try.func82, rfl, rfl⟩ (in82g g (.var 26 [.d (rI a.gens), .d (rBB a.data), .d (rR a.roots)]) (.var 31 [.d (vI o.act), .d (vI o.ix), .d (vI o.gen), .d (vI o.n), .d (vI o.off), .d (rB o.b), .d (vS o.name)]) (.var 26 [.d (.v (.slice none 0 0)), .d (.v (.slice none 0 0)), .d (.v (.slice none 0 0))]) (.var 38 [.d (vI 0), .d (vI 0), .d (.v (.slice none 0 0))]) (.var 31 [.d (vI o.act), .d (vI o.ix), .d (vI o.gen), .d (vI o.n), .d (vI o.off), .d (rB o.b), .d (vS o.name)]) a o (fun m => by simp) ha hact ⟨ha.h3, ha.h5⟩ hn) (.inl (by simp)) ?_
   refine xO ?_
   refine xG [4,5,7,8] ?_
   iterate 2 refine xO ?_
   refine xF [4,5,7,8,24] ?_
   refine W_cond rfl ?_ ?_
   · intro h24
     have hdo := doS_fail (o := o) hR (by rw [hE]; simpa using h24)
     refine xU ?_
     iterate 2 (refine xO ?_ (h := by simp [splice]; exact .mk))
     refine xO ?_
     iterate 2 (refine xO ?_ (h := by simp [splice]; exact .mk))
     refine xO ?_
     refine xF [4,5,6] ?_
     refine W_ret (xR (by simp [Try.f14]; exact .mk) ?_)
     first | (simp [Try.f14, hdo, hE, failS, zAbs, oAbs, ownR]; done) | (simp [Try.f14, hdo, hE, failS, zAbs, oAbs, ownR, he0]; done) | (simp [Try.f14, hdo, hE, failS, zAbs, oAbs, ownR, he0, hE2]; done) | (exfalso; first | (simp at h24; done) | (simp at h24; omega))
   intro h24
   have he0 : (effS a o).e = 0 := by rw [hE]; first | (simpa using h24; done) | exact hE2.2.2.2
   have hdo := doS_ok (o := o) hR he0
   rw [hE] at he0 hdo
   refine W_skip ?_
   rintro -
   refine W_seq ?_
   refine W_regD2 (hard := []) 7 8 (keepOk_lt (by decide)) (by kernel_rfl) 4 [0,1,2,3,4,5,6,7,8,9,10] [0,1,2,3,4,5,6,8,7,9,10] (by decide +kernel) (by decide +kernel) ?_ ?_
   · skip
     iterate 8 refine xO ?_
     iterate 2 (refine xO ?_ (h := by simp [splice]; exact .mk))
     refine xO ?_
     refine xF [4,5,6] ?_
     refine W_ret (xR (by simp [Try.f14]; exact .mk) ?_)
     first | (simp [Try.f14, hdo, hE, failS, zAbs, oAbs, ownR]; done) | (simp [Try.f14, hdo, hE, failS, zAbs, oAbs, ownR, he0]; done) | (simp [Try.f14, hdo, hE, failS, zAbs, oAbs, ownR, he0, hE2]; done) | (exfalso; first | (simp at h24; done) | (simp at h24; omega))
   skip
   iterate 7 refine xO ?_
   refine xO ?_ (h := by simp [splice]; exact .mk)
   refine xO ?_
   refine xO ?_ (h := by simp [splice]; exact .mk)
   refine xO ?_
   refine xF [4,5,6] ?_
   refine W_ret (xR (by simp [Try.f14]; exact .mk) ?_)
   first | (simp [Try.f14, hdo, hE, failS, zAbs, oAbs, ownR]; done) | (simp [Try.f14, hdo, hE, failS, zAbs, oAbs, ownR, he0]; done) | (simp [Try.f14, hdo, hE, failS, zAbs, oAbs, ownR, he0, hE2]; done) | (exfalso; first | (simp at h24; done) | (simp at h24; omega))
 · skip
   have hE : effS a o = rootS a o := by simp [effS, hk]
   have hE2 : rootS a o = ⟨{ a with roots := (dropS a.roots o.name).1 }, 0, 0, [], (dropS a.roots o.name).2⟩ := by simp [rootS, hact]
   rw [hE2] at hE
   refine W_regD (by kernel_rfl) [4] 4 [0,1,3,2,4,5] (by decide +kernel) ?_
   iterate 3 refine xO ?_
   refine run_inl0 rfl rfl rfl rfl (by simp; exact .mk) ⟨_, Try.func42, rfl, rfl⟩ (in42g g (.var 26 [.d (rI a.gens), .d (rBB a.data), .d (rR a.roots)]) (.var 31 [.d (vI o.act), .d (vI o.ix), .d (vI o.gen), .d (vI o.n), .d (vI o.off), .d (rB o.b), .d (vS o.name)]) (.var 26 [.d (.v (.slice none 0 0)), .d (.v (.slice none 0 0)), .d (.v (.slice none 0 0))]) (.var 38 [.d (vI 0), .d (vI 0), .d (.v (.slice none 0 0))]) a o hgd hn 82 hk) (.inr ⟨_, rfl⟩) ?_
   refine run_inl0 rfl rfl rfl rfl (by simp; exact .mk) ⟨_, Try.func82, rfl, rfl⟩ (in82d g (.var 26 [.d (rI a.gens), .d (rBB a.data), .d (rR a.roots)]) (.var 31 [.d (vI o.act), .d (vI o.ix), .d (vI o.gen), .d (vI o.n), .d (vI o.off), .d (rB o.b), .d (vS o.name)]) (.var 26 [.d (.v (.slice none 0 0)), .d (.v (.slice none 0 0)), .d (.v (.slice none 0 0))]) (.var 38 [.d (vI 0), .d (vI 0), .d (.v (.slice none 0 0))]) (.var 31 [.d (vI o.act), .d (vI o.ix), .d (vI o.gen), .d (vI o.n), .d (vI o.off), .d (rB o.b), .d (vS o.name)]) a o (fun m => by simp) ha hact ⟨ha.h3, ha.h5⟩ hn) (.inl (by simp)) ?_
   refine xO ?_
   refine xG [4,5,7,8] ?_
   iterate 2 refine xO ?_
   refine xF [4,5,7,8,24] ?_
   refine W_cond rfl ?_ ?_
   · intro h24
     have hdo := doS_fail (o := o) hR (by rw [hE]; simpa using h24)
     refine xU ?_
     iterate 2 (refine xO ?_ (h := by simp [splice]; exact .mk))
     refine xO ?_
     iterate 2 (refine xO ?_ (h := by simp [splice]; exact .mk))
     refine xO ?_
     refine xF [4,5,6] ?_
     refine W_ret (xR (by simp [Try.f14]; exact .mk) ?_)
     first | (simp [Try.f14, hdo, hE, failS, zAbs, oAbs, ownR]; done) | (simp [Try.f14, hdo, hE, failS, zAbs, oAbs, ownR, he0]; done) | (simp [Try.f14, hdo, hE, failS, zAbs, oAbs, ownR, he0, hE2]; done) | (exfalso; first | (simp at h24; done) | (simp at h24; omega))
   intro h24
   have he0 : (effS a o).e = 0 := by rw [hE]; first | (simpa using h24; done) | exact hE2.2.2.2
   have hdo := doS_ok (o := o) hR he0
   rw [hE] at he0 hdo
   refine W_skip ?_
   rintro -
   refine W_seq ?_
   refine W_regD2 (hard := []) 7 8 (keepOk_lt (by decide)) (by kernel_rfl) 4 [0,1,2,3,4,5,6,7,8,9,10] [0,1,2,3,4,5,6,8,7,9,10] (by decide +kernel) (by decide +kernel) ?_ ?_
   · skip
     iterate 8 refine xO ?_
     iterate 2 (refine xO ?_ (h := by simp [splice]; exact .mk))
     refine xO ?_
     refine xF [4,5,6] ?_
     refine W_ret (xR (by simp [Try.f14]; exact .mk) ?_)
     first | (simp [Try.f14, hdo, hE, failS, zAbs, oAbs, ownR]; done) | (simp [Try.f14, hdo, hE, failS, zAbs, oAbs, ownR, he0]; done) | (simp [Try.f14, hdo, hE, failS, zAbs, oAbs, ownR, he0, hE2]; done) | (exfalso; first | (simp at h24; done) | (simp at h24; omega))
   skip
   iterate 7 refine xO ?_
   refine xO ?_ (h := by simp [splice]; exact .mk)
   refine xO ?_
   refine xO ?_ (h := by simp [splice]; exact .mk)
   refine xO ?_
   refine xF [4,5,6] ?_
   refine W_ret (xR (by simp [Try.f14]; exact .mk) ?_)
   first | (simp [Try.f14, hdo, hE, failS, zAbs, oAbs, ownR]; done) | (simp [Try.f14, hdo, hE, failS, zAbs, oAbs, ownR, he0]; done) | (simp [Try.f14, hdo, hE, failS, zAbs, oAbs, ownR, he0, hE2]; done) | (exfalso; first | (simp at h24; done) | (simp at h24; omega))
 · skip
   obtain ⟨k, hix, hk2, hk3, hk4⟩ := goodS_nat (kindS_good (a := a) (o := o) (by omega))
   have hkd : k < a.data.length := by omega
   have hsl := rightS_slot hR hk2
   have hte : o.ix.toNat = k := by omega
   have hE : effS a o = freeS a k := by simp [effS, hk, hte]
   refine W_regD (by kernel_rfl) [4] 4 [0,1,3,2,4,5] (by decide +kernel) ?_
   iterate 3 refine xO ?_
   refine run_inl0 rfl rfl rfl rfl (by simp; exact .mk) ⟨_, Try.func42, rfl, rfl⟩ (in42g g (.var 26 [.d (rI a.gens), .d (rBB a.data), .d (rR a.roots)]) (.var 31 [.d (vI o.act), .d (vI o.ix), .d (vI o.gen), .d (vI o.n), .d (vI o.off), .d (rB o.b), .d (vS o.name)]) (.var 26 [.d (.v (.slice none 0 0)), .d (.v (.slice none 0 0)), .d (.v (.slice none 0 0))]) (.var 38 [.d (vI 0), .d (vI 0), .d (.v (.slice none 0 0))]) a o hgd hn 85 hk) (.inr ⟨_, rfl⟩) ?_
   refine run_inl0 rfl rfl rfl rfl (by simp; exact .mk) ⟨_, Try.func85, rfl, rfl⟩ (in85 g (.var 26 [.d (rI a.gens), .d (rBB a.data), .d (rR a.roots)]) (.var 31 [.d (vI o.act), .d (vI o.ix), .d (vI o.gen), .d (vI o.n), .d (vI o.off), .d (rB o.b), .d (vS o.name)]) (.var 26 [.d (.v (.slice none 0 0)), .d (.v (.slice none 0 0)), .d (.v (.slice none 0 0))]) (.var 38 [.d (vI 0), .d (vI 0), .d (.v (.slice none 0 0))]) (.var 31 [.d (vI o.act), .d (vI o.ix), .d (vI o.gen), .d (vI o.n), .d (vI o.off), .d (rB o.b), .d (vS o.name)]) a o (fun m => by simp) ha k hix hkd hk2 ⟨hsl.1, hsl.2.1⟩) (.inl (by simp)) ?_
   refine xO ?_
   refine xG [4,5,7,8] ?_
   iterate 2 refine xO ?_
   refine xF [4,5,7,8,24] ?_
   refine W_cond rfl ?_ ?_
   · intro h24
     have hdo := doS_fail (o := o) hR (by rw [hE]; simpa using h24)
     refine xU ?_
     iterate 2 (refine xO ?_ (h := by simp [splice]; exact .mk))
     refine xO ?_
     iterate 2 (refine xO ?_ (h := by simp [splice]; exact .mk))
     refine xO ?_
     refine xF [4,5,6] ?_
     refine W_ret (xR (by simp [Try.f14]; exact .mk) ?_)
     first | (simp [Try.f14, hdo, hE, failS, zAbs, oAbs, ownR]; done) | (simp [Try.f14, hdo, hE, failS, zAbs, oAbs, ownR, he0]; done) | (simp [Try.f14, hdo, hE, failS, zAbs, oAbs, ownR, he0, hE2]; done) | (exfalso; first | (simp at h24; done) | (simp at h24; omega))
   intro h24
   have he0 : (effS a o).e = 0 := by rw [hE]; first | (simpa using h24; done) | exact hE2.2.2.2
   have hdo := doS_ok (o := o) hR he0
   rw [hE] at he0 hdo
   refine W_skip ?_
   rintro -
   refine W_seq ?_
   refine W_regD2 (hard := []) 7 8 (keepOk_lt (by decide)) (by kernel_rfl) 4 [0,1,2,3,4,5,6,7,8,9,10] [0,1,2,3,4,5,6,8,7,9,10] (by decide +kernel) (by decide +kernel) ?_ ?_
   · skip
     iterate 8 refine xO ?_
     iterate 2 (refine xO ?_ (h := by simp [splice]; exact .mk))
     refine xO ?_
     refine xF [4,5,6] ?_
     refine W_ret (xR (by simp [Try.f14]; exact .mk) ?_)
     first | (simp [Try.f14, hdo, hE, failS, zAbs, oAbs, ownR]; done) | (simp [Try.f14, hdo, hE, failS, zAbs, oAbs, ownR, he0]; done) | (simp [Try.f14, hdo, hE, failS, zAbs, oAbs, ownR, he0, hE2]; done) | (exfalso; first | (simp at h24; done) | (simp at h24; omega))
   skip
   iterate 7 refine xO ?_
   refine xO ?_ (h := by simp [splice]; exact .mk)
   refine xO ?_
   refine xO ?_ (h := by simp [splice]; exact .mk)
   refine xO ?_
   refine xF [4,5,6] ?_
   refine W_ret (xR (by simp [Try.f14]; exact .mk) ?_)
   first | (simp [Try.f14, hdo, hE, failS, zAbs, oAbs, ownR]; done) | (simp [Try.f14, hdo, hE, failS, zAbs, oAbs, ownR, he0]; done) | (simp [Try.f14, hdo, hE, failS, zAbs, oAbs, ownR, he0, hE2]; done) | (exfalso; first | (simp at h24; done) | (simp at h24; omega))
 · skip
   obtain ⟨k, hix, hk2, hk3, hk4⟩ := goodS_nat (kindS_good (a := a) (o := o) (by omega))
   have hkd : k < a.data.length := by omega
   have hsl := rightS_slot hR hk2
   have hte : o.ix.toNat = k := by omega
   have hE : effS a o = resizeS a k o.n := by simp [effS, hk, hte]
   refine W_regD (by kernel_rfl) [4] 4 [0,1,3,2,4,5] (by decide +kernel) ?_
   iterate 3 refine xO ?_
   refine run_inl0 rfl rfl rfl rfl (by simp; exact .mk) ⟨_, Try.func42, rfl, rfl⟩ (in42g g (.var 26 [.d (rI a.gens), .d (rBB a.data), .d (rR a.roots)]) (.var 31 [.d (vI o.act), .d (vI o.ix), .d (vI o.gen), .d (vI o.n), .d (vI o.off), .d (rB o.b), .d (vS o.name)]) (.var 26 [.d (.v (.slice none 0 0)), .d (.v (.slice none 0 0)), .d (.v (.slice none 0 0))]) (.var 38 [.d (vI 0), .d (vI 0), .d (.v (.slice none 0 0))]) a o hgd hn 86 hk) (.inr ⟨_, rfl⟩) ?_
   refine run_inl0 rfl rfl rfl rfl (by simp; exact .mk) ⟨_, Try.func86, rfl, rfl⟩ (in86 g (.var 26 [.d (rI a.gens), .d (rBB a.data), .d (rR a.roots)]) (.var 31 [.d (vI o.act), .d (vI o.ix), .d (vI o.gen), .d (vI o.n), .d (vI o.off), .d (rB o.b), .d (vS o.name)]) (.var 26 [.d (.v (.slice none 0 0)), .d (.v (.slice none 0 0)), .d (.v (.slice none 0 0))]) (.var 38 [.d (vI 0), .d (vI 0), .d (.v (.slice none 0 0))]) (.var 31 [.d (vI o.act), .d (vI o.ix), .d (vI o.gen), .d (vI o.n), .d (vI o.off), .d (rB o.b), .d (vS o.name)]) a o (fun m => by simp) ha k hix hkd (by omega)) (.inl (by simp)) ?_
   refine xO ?_
   refine xG [4,5,7,8] ?_
   iterate 2 refine xO ?_
   refine xF [4,5,7,8,24] ?_
   refine W_cond rfl ?_ ?_
   · intro h24
     have hdo := doS_fail (o := o) hR (by rw [hE]; simpa using h24)
     refine xU ?_
     iterate 2 (refine xO ?_ (h := by simp [splice]; exact .mk))
     refine xO ?_
     iterate 2 (refine xO ?_ (h := by simp [splice]; exact .mk))
     refine xO ?_
     refine xF [4,5,6] ?_
     refine W_ret (xR (by simp [Try.f14]; exact .mk) ?_)
     first | (simp [Try.f14, hdo, hE, failS, zAbs, oAbs, ownR]; done) | (simp [Try.f14, hdo, hE, failS, zAbs, oAbs, ownR, he0]; done) | (simp [Try.f14, hdo, hE, failS, zAbs, oAbs, ownR, he0, hE2]; done) | (exfalso; first | (simp at h24; done) | (simp at h24; omega))
   intro h24
   have he0 : (effS a o).e = 0 := by rw [hE]; first | (simpa using h24; done) | exact hE2.2.2.2
   have hdo := doS_ok (o := o) hR he0
   rw [hE] at he0 hdo
   refine W_skip ?_
   rintro -
   refine W_seq ?_
   refine W_regD2 (hard := []) 7 8 (keepOk_lt (by decide)) (by kernel_rfl) 4 [0,1,2,3,4,5,6,7,8,9,10] [0,1,2,3,4,5,6,8,7,9,10] (by decide +kernel) (by decide +kernel) ?_ ?_
   · skip
     iterate 8 refine xO ?_
     iterate 2 (refine xO ?_ (h := by simp [splice]; exact .mk))
     refine xO ?_
     refine xF [4,5,6] ?_
     refine W_ret (xR (by simp [Try.f14]; exact .mk) ?_)
     first | (simp [Try.f14, hdo, hE, failS, zAbs, oAbs, ownR]; done) | (simp [Try.f14, hdo, hE, failS, zAbs, oAbs, ownR, he0]; done) | (simp [Try.f14, hdo, hE, failS, zAbs, oAbs, ownR, he0, hE2]; done) | (exfalso; first | (simp at h24; done) | (simp at h24; omega))
   skip
   iterate 7 refine xO ?_
   refine xO ?_ (h := by simp [splice]; exact .mk)
   refine xO ?_
   refine xO ?_ (h := by simp [splice]; exact .mk)
   refine xO ?_
   refine xF [4,5,6] ?_
   refine W_ret (xR (by simp [Try.f14]; exact .mk) ?_)
   first | (simp [Try.f14, hdo, hE, failS, zAbs, oAbs, ownR]; done) | (simp [Try.f14, hdo, hE, failS, zAbs, oAbs, ownR, he0]; done) | (simp [Try.f14, hdo, hE, failS, zAbs, oAbs, ownR, he0, hE2]; done) | (exfalso; first | (simp at h24; done) | (simp at h24; omega))
 · skip
   obtain ⟨k, hix, hk2, hk3, hk4⟩ := goodS_nat (kindS_good (a := a) (o := o) (by omega))
   have hkd : k < a.data.length := by omega
   have hsl := rightS_slot hR hk2
   have hte : o.ix.toNat = k := by omega
   rw [hte] at hq
   have hE : effS a o = readS a k o.off o.n := by simp [effS, hk, hte]
   have hE2 : (readS a k o.off o.n).a = a ∧ (readS a k o.off o.n).ix = 0 ∧ (readS a k o.off o.n).gen = 0 ∧ (readS a k o.off o.n).e = 0 := by simp [readS, hq]
   refine W_regD (by kernel_rfl) [4] 4 [0,1,3,2,4,5] (by decide +kernel) ?_
   iterate 3 refine xO ?_
   refine run_inl0 rfl rfl rfl rfl (by simp; exact .mk) ⟨_, Try.func42, rfl, rfl⟩ (in42g g (.var 26 [.d (rI a.gens), .d (rBB a.data), .d (rR a.roots)]) (.var 31 [.d (vI o.act), .d (vI o.ix), .d (vI o.gen), .d (vI o.n), .d (vI o.off), .d (rB o.b), .d (vS o.name)]) (.var 26 [.d (.v (.slice none 0 0)), .d (.v (.slice none 0 0)), .d (.v (.slice none 0 0))]) (.var 38 [.d (vI 0), .d (vI 0), .d (.v (.slice none 0 0))]) a o hgd hn 87 hk) (.inr ⟨_, rfl⟩) ?_
   refine run_inl0 rfl rfl rfl rfl (by simp; exact .mk) ⟨_, Try.func87, rfl, rfl⟩ (in87 g (.var 26 [.d (rI a.gens), .d (rBB a.data), .d (rR a.roots)]) (.var 31 [.d (vI o.act), .d (vI o.ix), .d (vI o.gen), .d (vI o.n), .d (vI o.off), .d (rB o.b), .d (vS o.name)]) (.var 26 [.d (.v (.slice none 0 0)), .d (.v (.slice none 0 0)), .d (.v (.slice none 0 0))]) (.var 38 [.d (vI 0), .d (vI 0), .d (.v (.slice none 0 0))]) (.var 31 [.d (vI o.act), .d (vI o.ix), .d (vI o.gen), .d (vI o.n), .d (vI o.off), .d (rB o.b), .d (vS o.name)]) a o (fun m => by simp) ha k hix hkd (by omega) hq) (.inl (by simp)) ?_
   refine xO ?_
   refine xG [4,5,7,8] ?_
   iterate 2 refine xO ?_
   refine xF [4,5,7,8,24] ?_
   refine W_cond rfl ?_ ?_
   · intro h24
     have hdo := doS_fail (o := o) hR (by rw [hE]; simpa using h24)
     refine xU ?_
     iterate 2 (refine xO ?_ (h := by simp [splice]; exact .mk))
     refine xO ?_
     iterate 2 (refine xO ?_ (h := by simp [splice]; exact .mk))
     refine xO ?_
     refine xF [4,5,6] ?_
     refine W_ret (xR (by simp [Try.f14]; exact .mk) ?_)
     first | (simp [Try.f14, hdo, hE, failS, zAbs, oAbs, ownR]; done) | (simp [Try.f14, hdo, hE, failS, zAbs, oAbs, ownR, he0]; done) | (simp [Try.f14, hdo, hE, failS, zAbs, oAbs, ownR, he0, hE2]; done) | (exfalso; first | (simp at h24; done) | (simp at h24; omega))
   intro h24
   have he0 : (effS a o).e = 0 := by rw [hE]; first | (simpa using h24; done) | exact hE2.2.2.2
   have hdo := doS_ok (o := o) hR he0
   rw [hE] at he0 hdo
   refine W_skip ?_
   rintro -
   refine W_seq ?_
   refine W_regD2 (hard := []) 7 8 (keepOk_lt (by decide)) (by kernel_rfl) 4 [0,1,2,3,4,5,6,7,8,9,10] [0,1,2,3,4,5,6,8,7,9,10] (by decide +kernel) (by decide +kernel) ?_ ?_
   · skip
     iterate 8 refine xO ?_
     iterate 2 (refine xO ?_ (h := by simp [splice]; exact .mk))
     refine xO ?_
     refine xF [4,5,6] ?_
     refine W_ret (xR (by simp [Try.f14]; exact .mk) ?_)
     first | (simp [Try.f14, hdo, hE, failS, zAbs, oAbs, ownR]; done) | (simp [Try.f14, hdo, hE, failS, zAbs, oAbs, ownR, he0]; done) | (simp [Try.f14, hdo, hE, failS, zAbs, oAbs, ownR, he0, hE2]; done) | (exfalso; first | (simp at h24; done) | (simp at h24; omega))
   skip
   iterate 7 refine xO ?_
   refine xO ?_ (h := by simp [splice]; exact .mk)
   refine xO ?_
   refine xO ?_ (h := by simp [splice]; exact .mk)
   refine xO ?_
   refine xF [4,5,6] ?_
   refine W_ret (xR (by simp [Try.f14]; exact .mk) ?_)
   first | (simp [Try.f14, hdo, hE, failS, zAbs, oAbs, ownR]; done) | (simp [Try.f14, hdo, hE, failS, zAbs, oAbs, ownR, he0]; done) | (simp [Try.f14, hdo, hE, failS, zAbs, oAbs, ownR, he0, hE2]; done) | (exfalso; first | (simp at h24; done) | (simp at h24; omega))
 · skip
   obtain ⟨k, hix, hk2, hk3, hk4⟩ := goodS_nat (kindS_good (a := a) (o := o) (by omega))
   have hkd : k < a.data.length := by omega
   have hsl := rightS_slot hR hk2
   have hte : o.ix.toNat = k := by omega
   rw [hte] at hq
   have hE : effS a o = ⟨a, 0, 0, [], 1⟩ := by simp [effS, hk, hte, readS, hq]
   refine W_regD (by kernel_rfl) [4] 4 [0,1,3,2,4,5] (by decide +kernel) ?_
   iterate 3 refine xO ?_
   refine run_inl0 rfl rfl rfl rfl (by simp; exact .mk) ⟨_, Try.func42, rfl, rfl⟩ (in42g g (.var 26 [.d (rI a.gens), .d (rBB a.data), .d (rR a.roots)]) (.var 31 [.d (vI o.act), .d (vI o.ix), .d (vI o.gen), .d (vI o.n), .d (vI o.off), .d (rB o.b), .d (vS o.name)]) (.var 26 [.d (.v (.slice none 0 0)), .d (.v (.slice none 0 0)), .d (.v (.slice none 0 0))]) (.var 38 [.d (vI 0), .d (vI 0), .d (.v (.slice none 0 0))]) a o hgd hn 87 hk) (.inr ⟨_, rfl⟩) ?_
   refine run_inl0 rfl rfl rfl rfl (by simp; exact .mk) ⟨_, Try.func87, rfl, rfl⟩ (in87f g (.var 26 [.d (rI a.gens), .d (rBB a.data), .d (rR a.roots)]) (.var 31 [.d (vI o.act), .d (vI o.ix), .d (vI o.gen), .d (vI o.n), .d (vI o.off), .d (rB o.b), .d (vS o.name)]) (.var 26 [.d (.v (.slice none 0 0)), .d (.v (.slice none 0 0)), .d (.v (.slice none 0 0))]) (.var 38 [.d (vI 0), .d (vI 0), .d (.v (.slice none 0 0))]) (.var 31 [.d (vI o.act), .d (vI o.ix), .d (vI o.gen), .d (vI o.n), .d (vI o.off), .d (rB o.b), .d (vS o.name)]) a o (fun m => by simp) ha k hix hkd (by omega) hq) (.inl (by simp)) ?_
   refine xO ?_
   refine xG [4,5,7,8] ?_
   iterate 2 refine xO ?_
   refine xF [4,5,7,8,24] ?_
   refine W_cond rfl ?_ ?_
   · intro h24
     have hdo := doS_fail (o := o) hR (by rw [hE]; simpa using h24)
     refine xU ?_
     iterate 2 (refine xO ?_ (h := by simp [splice]; exact .mk))
     refine xO ?_
     iterate 2 (refine xO ?_ (h := by simp [splice]; exact .mk))
     refine xO ?_
     refine xF [4,5,6] ?_
     refine W_ret (xR (by simp [Try.f14]; exact .mk) ?_)
     first | (simp [Try.f14, hdo, hE, failS, zAbs, oAbs, ownR]; done) | (simp [Try.f14, hdo, hE, failS, zAbs, oAbs, ownR, he0]; done) | (simp [Try.f14, hdo, hE, failS, zAbs, oAbs, ownR, he0, hE2]; done) | (exfalso; first | (simp at h24; done) | (simp at h24; omega))
   intro h24
   have he0 : (effS a o).e = 0 := by rw [hE]; first | (simpa using h24; done) | exact hE2.2.2.2
   have hdo := doS_ok (o := o) hR he0
   rw [hE] at he0 hdo
   refine W_skip ?_
   rintro -
   refine W_seq ?_
   refine W_regD2 (hard := []) 7 8 (keepOk_lt (by decide)) (by kernel_rfl) 4 [0,1,2,3,4,5,6,7,8,9,10] [0,1,2,3,4,5,6,8,7,9,10] (by decide +kernel) (by decide +kernel) ?_ ?_
   · skip
     iterate 8 refine xO ?_
     iterate 2 (refine xO ?_ (h := by simp [splice]; exact .mk))
     refine xO ?_
     refine xF [4,5,6] ?_
     refine W_ret (xR (by simp [Try.f14]; exact .mk) ?_)
     first | (simp [Try.f14, hdo, hE, failS, zAbs, oAbs, ownR]; done) | (simp [Try.f14, hdo, hE, failS, zAbs, oAbs, ownR, he0]; done) | (simp [Try.f14, hdo, hE, failS, zAbs, oAbs, ownR, he0, hE2]; done) | (exfalso; first | (simp at h24; done) | (simp at h24; omega))
   skip
   iterate 7 refine xO ?_
   refine xO ?_ (h := by simp [splice]; exact .mk)
   refine xO ?_
   refine xO ?_ (h := by simp [splice]; exact .mk)
   refine xO ?_
   refine xF [4,5,6] ?_
   refine W_ret (xR (by simp [Try.f14]; exact .mk) ?_)
   first | (simp [Try.f14, hdo, hE, failS, zAbs, oAbs, ownR]; done) | (simp [Try.f14, hdo, hE, failS, zAbs, oAbs, ownR, he0]; done) | (simp [Try.f14, hdo, hE, failS, zAbs, oAbs, ownR, he0, hE2]; done) | (exfalso; first | (simp at h24; done) | (simp at h24; omega))
 · skip
   obtain ⟨k, hix, hk2, hk3, hk4⟩ := goodS_nat (kindS_good (a := a) (o := o) (by omega))
   have hkd : k < a.data.length := by omega
   have hsl := rightS_slot hR hk2
   have hte : o.ix.toNat = k := by omega
   have hE : effS a o = writeS a k o.off o.b := by simp [effS, hk, hte]
   refine W_regDK rfl (by kernel_rfl) [1004] 4 [0,1,3,2,4,5] (by decide +kernel) ?_
   iterate 3 refine xO ?_
   refine run_inl0 rfl rfl rfl rfl (by simp; exact .mk) ⟨_, Try.func42, rfl, rfl⟩ (in42g g (.var 26 [.d (rI a.gens), .d (rBB a.data), .d (rR a.roots)]) (.var 31 [.d (vI o.act), .d (vI o.ix), .d (vI o.gen), .d (vI o.n), .d (vI o.off), .d (rB o.b), .d (vS o.name)]) (.var 26 [.d (.v (.slice none 0 0)), .d (.v (.slice none 0 0)), .d (.v (.slice none 0 0))]) (.var 38 [.d (vI 0), .d (vI 0), .d (.v (.slice none 0 0))]) a o hgd hn 88 hk) (.inr ⟨_, rfl⟩) ?_
   refine run_inlK rfl rfl rfl rfl (by simp; exact .mk) ⟨_, Try.func88, rfl, rfl⟩ (fixS_put (by simp) (fixS_put (by simp) (fixS_put (by simp) (fixS_put (by simp) (fixS_slots (by simp)))))) (in88 g (.var 26 [.d (rI a.gens), .d (rBB a.data), .d (rR a.roots)]) (.var 31 [.d (vI o.act), .d (vI o.ix), .d (vI o.gen), .d (vI o.n), .d (vI o.off), .d (rB o.b), .d (vS o.name)]) (.var 26 [.d (.v (.slice none 0 0)), .d (.v (.slice none 0 0)), .d (.v (.slice none 0 0))]) (.var 38 [.d (vI 0), .d (vI 0), .d (.v (.slice none 0 0))]) (.var 31 [.d (vI o.act), .d (vI o.ix), .d (vI o.gen), .d (vI o.n), .d (vI o.off), .d (rB o.b), .d (vS o.name)]) a o (fun m => by simp) ha k hix hkd (by omega) (by simp) hob _ rfl) (by simp) (by decide) ?_
   refine xO ?_
   refine xG [4,5,7,8] ?_
   iterate 2 refine xO ?_
   refine xF [4,5,7,8,24] ?_
   refine W_cond rfl ?_ ?_
   · intro h24
     have hdo := doS_fail (o := o) hR (by rw [hE]; simpa using h24)
     refine xU ?_
     iterate 2 (refine xO ?_ (h := by simp [splice]; exact .mk))
     refine xO ?_
     iterate 2 (refine xO ?_ (h := by simp [splice]; exact .mk))
     refine xO ?_
     refine xF [4,5,6] ?_
     refine W_ret (xR (by simp [Try.f14]; exact .mk) ?_)
     first | (simp [Try.f14, hdo, hE, failS, zAbs, oAbs, ownR]; done) | (simp [Try.f14, hdo, hE, failS, zAbs, oAbs, ownR, he0]; done) | (simp [Try.f14, hdo, hE, failS, zAbs, oAbs, ownR, he0, hE2]; done) | (exfalso; first | (simp at h24; done) | (simp at h24; omega))
   intro h24
   have he0 : (effS a o).e = 0 := by rw [hE]; first | (simpa using h24; done) | exact hE2.2.2.2
   have hdo := doS_ok (o := o) hR he0
   rw [hE] at he0 hdo
   refine W_skip ?_
   rintro -
   refine W_seq ?_
   refine W_regD2 (hard := []) 7 8 (keepOk_lt (by decide)) (by kernel_rfl) 4 [0,1,2,3,4,5,6,7,8,9,10] [0,1,2,3,4,5,6,8,7,9,10] (by decide +kernel) (by decide +kernel) ?_ ?_
   · skip
     iterate 8 refine xO ?_
     iterate 2 (refine xO ?_ (h := by simp [splice]; exact .mk))
     refine xO ?_
     refine xF [4,5,6] ?_
     refine W_ret (xR (by simp [Try.f14]; exact .mk) ?_)
     first | (simp [Try.f14, hdo, hE, failS, zAbs, oAbs, ownR]; done) | (simp [Try.f14, hdo, hE, failS, zAbs, oAbs, ownR, he0]; done) | (simp [Try.f14, hdo, hE, failS, zAbs, oAbs, ownR, he0, hE2]; done) | (exfalso; first | (simp at h24; done) | (simp at h24; omega))
   skip
   iterate 7 refine xO ?_
   refine xO ?_ (h := by simp [splice]; exact .mk)
   refine xO ?_
   refine xO ?_ (h := by simp [splice]; exact .mk)
   refine xO ?_
   refine xF [4,5,6] ?_
   refine W_ret (xR (by simp [Try.f14]; exact .mk) ?_)
   first | (simp [Try.f14, hdo, hE, failS, zAbs, oAbs, ownR]; done) | (simp [Try.f14, hdo, hE, failS, zAbs, oAbs, ownR, he0]; done) | (simp [Try.f14, hdo, hE, failS, zAbs, oAbs, ownR, he0, hE2]; done) | (exfalso; first | (simp at h24; done) | (simp at h24; omega))
 skip
 have hE : effS a o = ⟨a, 0, 0, [], e⟩ := by
  have h1 : kindS a o ≠ 81 ∧ kindS a o ≠ 82 ∧ kindS a o ≠ 85 ∧ kindS a o ≠ 86 ∧ kindS a o ≠ 87 ∧ kindS a o ≠ 88 := by omega
  unfold effS
  rw [if_neg h1.1, if_neg h1.2.1, if_neg h1.2.2.1, if_neg h1.2.2.2.1, if_neg h1.2.2.2.2.1, if_neg h1.2.2.2.2.2, hk]
  simp
 refine W_regD (by kernel_rfl) [4] 4 [0,1,3,2,4,5] (by decide +kernel) ?_
 iterate 3 refine xO ?_
 refine run_inl0 rfl rfl rfl rfl (by simp; exact .mk) ⟨_, Try.func42, rfl, rfl⟩ (in42b g (.var 26 [.d (rI a.gens), .d (rBB a.data), .d (rR a.roots)]) (.var 31 [.d (vI o.act), .d (vI o.ix), .d (vI o.gen), .d (vI o.n), .d (vI o.off), .d (rB o.b), .d (vS o.name)]) (.var 26 [.d (.v (.slice none 0 0)), .d (.v (.slice none 0 0)), .d (.v (.slice none 0 0))]) (.var 38 [.d (vI 0), .d (vI 0), .d (.v (.slice none 0 0))]) a o hgd hn e he hk) (.inr ⟨_, rfl⟩) ?_
 refine run_inl0 rfl rfl rfl rfl (by simp; exact .mk) ⟨_, Try.func80, rfl, rfl⟩ (in80 g (.var 26 [.d (rI a.gens), .d (rBB a.data), .d (rR a.roots)]) (.var 31 [.d (vI o.act), .d (vI o.ix), .d (vI o.gen), .d (vI o.n), .d (vI o.off), .d (rB o.b), .d (vS o.name)]) (.var 26 [.d (.v (.slice none 0 0)), .d (.v (.slice none 0 0)), .d (.v (.slice none 0 0))]) (.var 38 [.d (vI 0), .d (vI 0), .d (.v (.slice none 0 0))]) (.var 31 [.d (vI o.act), .d (vI o.ix), .d (vI o.gen), .d (vI o.n), .d (vI o.off), .d (rB o.b), .d (vS o.name)]) a o e (fun m => by simp)) (.inl (by simp)) ?_
 refine xO ?_
 refine xG [4,5,7,8] ?_
 iterate 2 refine xO ?_
 refine xF [4,5,7,8,24] ?_
 refine W_cond rfl ?_ ?_
 · intro h24
   have hdo := doS_fail (o := o) hR (by rw [hE]; simpa using h24)
   refine xU ?_
   iterate 2 (refine xO ?_ (h := by simp [splice]; exact .mk))
   refine xO ?_
   iterate 2 (refine xO ?_ (h := by simp [splice]; exact .mk))
   refine xO ?_
   refine xF [4,5,6] ?_
   refine W_ret (xR (by simp [Try.f14]; exact .mk) ?_)
   first | (simp [Try.f14, hdo, hE, failS, zAbs, oAbs, ownR]; done) | (simp [Try.f14, hdo, hE, failS, zAbs, oAbs, ownR, he0]; done) | (simp [Try.f14, hdo, hE, failS, zAbs, oAbs, ownR, he0, hE2]; done) | (exfalso; first | (simp at h24; done) | (simp at h24; omega))
 intro h24
 have he0 : (effS a o).e = 0 := by rw [hE]; first | (simpa using h24; done) | exact hE2.2.2.2
 have hdo := doS_ok (o := o) hR he0
 rw [hE] at he0 hdo
 refine W_skip ?_
 rintro -
 refine W_seq ?_
 refine W_regD2 (hard := []) 7 8 (keepOk_lt (by decide)) (by kernel_rfl) 4 [0,1,2,3,4,5,6,7,8,9,10] [0,1,2,3,4,5,6,8,7,9,10] (by decide +kernel) (by decide +kernel) ?_ ?_
 · skip
   iterate 8 refine xO ?_
   iterate 2 (refine xO ?_ (h := by simp [splice]; exact .mk))
   refine xO ?_
   refine xF [4,5,6] ?_
   refine W_ret (xR (by simp [Try.f14]; exact .mk) ?_)
   first | (simp [Try.f14, hdo, hE, failS, zAbs, oAbs, ownR]; done) | (simp [Try.f14, hdo, hE, failS, zAbs, oAbs, ownR, he0]; done) | (simp [Try.f14, hdo, hE, failS, zAbs, oAbs, ownR, he0, hE2]; done) | (exfalso; first | (simp at h24; done) | (simp at h24; omega))
 skip
 iterate 7 refine xO ?_
 refine xO ?_ (h := by simp [splice]; exact .mk)
 refine xO ?_
 refine xO ?_ (h := by simp [splice]; exact .mk)
 refine xO ?_
 refine xF [4,5,6] ?_
 refine W_ret (xR (by simp [Try.f14]; exact .mk) ?_)
 first | (simp [Try.f14, hdo, hE, failS, zAbs, oAbs, ownR]; done) | (simp [Try.f14, hdo, hE, failS, zAbs, oAbs, ownR, he0]; done) | (simp [Try.f14, hdo, hE, failS, zAbs, oAbs, ownR, he0, hE2]; done) | (exfalso; first | (simp at h24; done) | (simp at h24; omega))

open Go.Awp
theorem ct40 (g : Gl) : CtAt Try.prog g 40 [] (oAbs A0) := by
 refine ctAt_of_W Try.func40 rfl rfl (Nat.le_of_ble_eq_true rfl) fun B S => ?_
 refine W_seq ?_
 refine W_reg rfl ?_
 refine xO ?_ (h := by simp; exact .mk)
 refine run_end [0] (by simp) (by simp; exact .mk) ?_
 rintro -
 refine W_seq ?_
 refine W_regDS (hard := []) [0,1,2] (keepOk_lt (by decide)) (by kernel_rfl) 4 [[0,1,2,3,4], [0,2,1,3,4], [1,0,2,3,4], [1,2,0,3,4], [2,0,1,3,4], [2,1,0,3,4]] (by decide +kernel) ⟨?_, ?_, ?_, ?_, ?_, ?_, trivial⟩
 · skip
   iterate 3 (refine xO ?_ (h := by simp; exact .mk))
   iterate 2 (refine xO ?_ (h := by simp [splice]; exact .mk))
   refine run_end [0] (by simp) (by simp; exact .mk) ?_
   rintro -
   refine W_ret (end_ret (by simp [Try.f40]; exact .mk) (by simp; exact .mk) ?_ (by simp))
   simp [Try.f40, oAbs, A0, ownR, eRoot, zRoot]
 · skip
   iterate 3 (refine xO ?_ (h := by simp; exact .mk))
   iterate 2 (refine xO ?_ (h := by simp [splice]; exact .mk))
   refine run_end [0] (by simp) (by simp; exact .mk) ?_
   rintro -
   refine W_ret (end_ret (by simp [Try.f40]; exact .mk) (by simp; exact .mk) ?_ (by simp))
   simp [Try.f40, oAbs, A0, ownR, eRoot, zRoot]
 · skip
   iterate 3 (refine xO ?_ (h := by simp; exact .mk))
   iterate 2 (refine xO ?_ (h := by simp [splice]; exact .mk))
   refine run_end [0] (by simp) (by simp; exact .mk) ?_
   rintro -
   refine W_ret (end_ret (by simp [Try.f40]; exact .mk) (by simp; exact .mk) ?_ (by simp))
   simp [Try.f40, oAbs, A0, ownR, eRoot, zRoot]
 · skip
   iterate 3 (refine xO ?_ (h := by simp; exact .mk))
   iterate 2 (refine xO ?_ (h := by simp [splice]; exact .mk))
   refine run_end [0] (by simp) (by simp; exact .mk) ?_
   rintro -
   refine W_ret (end_ret (by simp [Try.f40]; exact .mk) (by simp; exact .mk) ?_ (by simp))
   simp [Try.f40, oAbs, A0, ownR, eRoot, zRoot]
 · skip
   iterate 3 (refine xO ?_ (h := by simp; exact .mk))
   iterate 2 (refine xO ?_ (h := by simp [splice]; exact .mk))
   refine run_end [0] (by simp) (by simp; exact .mk) ?_
   rintro -
   refine W_ret (end_ret (by simp [Try.f40]; exact .mk) (by simp; exact .mk) ?_ (by simp))
   simp [Try.f40, oAbs, A0, ownR, eRoot, zRoot]
 skip
 iterate 3 (refine xO ?_ (h := by simp; exact .mk))
 iterate 2 (refine xO ?_ (h := by simp [splice]; exact .mk))
 refine run_end [0] (by simp) (by simp; exact .mk) ?_
 rintro -
 refine W_ret (end_ret (by simp [Try.f40]; exact .mk) (by simp; exact .mk) ?_ (by simp))
 simp [Try.f40, oAbs, A0, ownR, eRoot, zRoot]

theorem ct10 (g : Gl) (a : Abs) : CtAt Try.prog g 10 [eAbs a] (.v (.bool (fewS a))) := by
 refine ctAt_of_W Try.func10 rfl rfl (Nat.le_of_ble_eq_true rfl) fun B S => ?_
 simp only [eAbs, List.map, argD_agg]
 refine W_seq ?_
 refine W_reg rfl ?_
 iterate 2 (refine xO ?_ (h := by simp; exact .mk))
 refine run_end [1] (by simp) (by simp; exact .mk) ?_
 rintro -
 refine W_seq (W_seq ?_)
 refine W_reg rfl ?_
 refine xO ?_ (h := by simp; exact .mk)
 refine run_end [1,3] (by simp) (by simp; exact .mk) ?_
 rintro -
 refine W_block (W_rounds (fun m σ r => ∃ i : Nat, m = 100 - i ∧ i ≤ min a.data.length 100 ∧ (∀ j, j < i → decide (((nth a.data j).length : Int) ≤ 4096) = true) ∧ σ = slots [(1, .ptr 0 0 0), (3, .d (vI i))] ∧ r = [.var 26 [.d (rI a.gens), .d (rBB a.data), .d (rR a.roots)]]) 100 .refl ⟨0, by simp, by simp, by simp, rfl, rfl⟩ ?_)
 rintro m σ r ⟨i, rfl, hi, hinv, rfl, rfl⟩ _
 refine W_seq (W_seq ?_)
 refine W_reg rfl ?_
 iterate 2 (refine xO ?_ (h := by simp; exact .mk))
 refine xO ?_ (h := by simp [eRoot]; exact .mk)
 iterate 3 (refine xO ?_ (h := by simp; exact .mk))
 iterate 2 (refine run_if rfl (by simp; exact .mk) rfl (by simp <;> omega) (fun hb => by simp; exact .mk) ?_)
 refine run_pick rfl (by simp; exact .mk) rfl rfl (by simp) (by simp; exact .mk) (by simp; exact .mk) (by simp; exact .mk) ?_
 refine run_end [1,3,13] (by simp <;> omega) (by simp; exact .mk) ?_
 rintro -
 refine W_cond rfl ?_ ?_
 · intro h13
   have h1 : i < a.data.length ∧ i < 100 := by simp at h13; omega
   have h2 := h1.1
   refine W_skip ?_
   rintro -
   refine W_seq (W_block ?_)
   refine W_seq ?_
   refine W_reg rfl ?_
   refine xO ?_ (h := by simp; exact .mk)
   refine xO ?_ (h := by simp [eRoot]; exact .mk)
   refine xO ?_ (h := by simp; exact .mk)
   refine xO ?_ (h := by simp [eRoot, h2]; exact .mk)
   refine xO ?_ (h := by simp [eRoot]; exact .mk)
   iterate 2 (refine xO ?_ (h := by simp; exact .mk))
   refine run_end [1,3,22] (by simp) (by simp; exact .mk) ?_
   rintro -
   refine W_cond rfl ?_ ?_
   · intro h22
     have hr : fewS a = false := by
      have : (List.range (min a.data.length 100)).all (fun i => decide (((nth a.data i).length : Int) ≤ 4096)) = false := all_bad (i := i) (by omega) (by simpa using h22)
      simp [fewS, this]
     refine W_seq ?_
     refine W_reg rfl ?_
     refine xO ?_ (h := by simp; exact .mk)
     refine run_end [2] (by simp) (by simp; exact .mk) ?_
     rintro -
     refine W_ret (end_ret (by simp [Try.f10]; exact .mk) (by simp; exact .mk) ?_ (by simp))
     simp [Try.f10, hr, Bool.and_assoc]
   intro h22
   refine W_skip ?_
   rintro -
   refine W_reg rfl ?_
   iterate 3 (refine xO ?_ (h := by simp; exact .mk))
   refine run_end [1,3] (by simp) (by simp; exact .mk) ?_
   refine rounds_kill [1,3] ?_
   refine rounds_next (m' := 100 - (i+1)) (by omega) ⟨i+1, rfl, by omega, ?_, ?_, rfl⟩
   · intro j hj
     rcases Nat.lt_succ_iff_lt_or_eq.1 hj with hj | rfl
     · exact hinv j hj
     simpa using h22
   rw [wrap64 (by omega) (by omega)]; rfl
 intro h13
 have hi2 : i = min a.data.length 100 := by simp at h13; omega
 have hA : (List.range (min a.data.length 100)).all (fun i => decide (((nth a.data i).length : Int) ≤ 4096)) = true := all_good (fun j hj => hinv j (by omega))
 clear hinv hi hi2 h13
 refine W_exit ?_
 rintro -
 refine W_seq (W_seq ?_)
 refine W_reg rfl ?_
 refine xO ?_ (h := by simp; exact .mk)
 refine run_end [1,4] (by simp) (by simp; exact .mk) ?_
 rintro -
 refine W_block (W_rounds (fun m σ r => ∃ i : Nat, m = 100 - i ∧ i ≤ min a.roots.length 100 ∧ (∀ j, j < i → decide (((nth a.roots j).name.size : Int) ≤ 1024) = true) ∧ σ = slots [(1, .ptr 0 0 0), (4, .d (vI i))] ∧ r = [.var 26 [.d (rI a.gens), .d (rBB a.data), .d (rR a.roots)]]) 100 .refl ⟨0, by simp, by simp, by simp, rfl, rfl⟩ ?_)
 rintro m σ r ⟨i, rfl, hi, hinv, rfl, rfl⟩ _
 refine W_seq (W_seq ?_)
 refine W_reg rfl ?_
 iterate 2 (refine xO ?_ (h := by simp; exact .mk))
 refine xO ?_ (h := by simp [eRoot]; exact .mk)
 iterate 3 (refine xO ?_ (h := by simp; exact .mk))
 iterate 2 (refine run_if rfl (by simp; exact .mk) rfl (by simp <;> omega) (fun hb => by simp; exact .mk) ?_)
 refine run_pick rfl (by simp; exact .mk) rfl rfl (by simp) (by simp; exact .mk) (by simp; exact .mk) (by simp; exact .mk) ?_
 refine run_end [1,4,31] (by simp <;> omega) (by simp; exact .mk) ?_
 rintro -
 refine W_cond rfl ?_ ?_
 · intro h31
   have h1 : i < a.roots.length ∧ i < 100 := by simp at h31; omega
   have h2 := h1.1
   refine W_skip ?_
   rintro -
   refine W_seq (W_block ?_)
   refine W_seq ?_
   refine W_reg rfl ?_
   refine xO ?_ (h := by simp; exact .mk)
   refine xO ?_ (h := by simp [eRoot]; exact .mk)
   refine xO ?_ (h := by simp; exact .mk)
   refine xO ?_ (h := by simp [eRoot, *]; exact .mk)
   refine xO ?_ (h := by simp; exact .mk)
   refine xO ?_ (h := by simp [eRoot]; exact .mk)
   iterate 2 (refine xO ?_ (h := by simp; exact .mk))
   refine run_end [1,4,41] (by simp) (by simp; exact .mk) ?_
   rintro -
   refine W_cond rfl ?_ ?_
   · intro h41
     have hr : fewS a = false := by
      have : (List.range (min a.roots.length 100)).all (fun i => decide (((nth a.roots i).name.size : Int) ≤ 1024)) = false := all_bad (i := i) (by omega) (by simpa using h41)
      simp [fewS, hA, this]
     refine W_seq ?_
     refine W_reg rfl ?_
     refine xO ?_ (h := by simp; exact .mk)
     refine run_end [2] (by simp) (by simp; exact .mk) ?_
     rintro -
     refine W_ret (end_ret (by simp [Try.f10]; exact .mk) (by simp; exact .mk) ?_ (by simp))
     simp [Try.f10, hr, Bool.and_assoc]
   intro h41
   refine W_skip ?_
   rintro -
   refine W_reg rfl ?_
   iterate 3 (refine xO ?_ (h := by simp; exact .mk))
   refine run_end [1,4] (by simp) (by simp; exact .mk) ?_
   refine rounds_kill [1,4] ?_
   refine rounds_next (m' := 100 - (i+1)) (by omega) ⟨i+1, rfl, by omega, ?_, ?_, rfl⟩
   · intro j hj
     rcases Nat.lt_succ_iff_lt_or_eq.1 hj with hj | rfl
     · exact hinv j hj
     simpa using h41
   rw [wrap64 (by omega) (by omega)]; rfl
 intro h31
 have hi2 : i = min a.roots.length 100 := by simp at h31; omega
 have hB : (List.range (min a.roots.length 100)).all (fun i => decide (((nth a.roots i).name.size : Int) ≤ 1024)) = true := all_good (fun j hj => hinv j (by omega))
 have hr : fewS a = (decide ((a.data.length : Int) ≤ 60) && (decide ((a.gens.length : Int) ≤ 60) && decide ((a.roots.length : Int) ≤ 60))) := by simp [fewS, hA, hB]
 refine W_exit ?_
 rintro -
 refine W_seq ?_
 refine W_reg rfl ?_
 refine xO ?_ (h := by simp; exact .mk)
 refine xO ?_ (h := by simp [eRoot]; exact .mk)
 iterate 3 (refine xO ?_ (h := by simp; exact .mk))
 refine run_if rfl (by simp; exact .mk) rfl (by simp <;> omega) (fun hb => by simp; exact .mk) ?_
 refine run_if rfl (by simp; exact .mk) rfl (by simp <;> omega) (fun hb => by simp [eRoot]; exact .mk) ?_
 iterate 2 (refine run_if rfl (by simp; exact .mk) rfl (by simp <;> omega) (fun hb => by simp; exact .mk) ?_)
 refine run_pick rfl (by simp; exact .mk) rfl rfl (by simp) (by simp; exact .mk) (by simp; exact .mk) (by simp; exact .mk) ?_
 refine run_op1 rfl rfl rfl (by simp <;> omega) (by simp; exact .mk) ?_
 refine run_if rfl (by simp; exact .mk) rfl (by simp <;> omega) (fun hb => by simp; exact .mk) ?_
 refine run_if rfl (by simp; exact .mk) rfl (by simp <;> omega) (fun hb => by simp [eRoot]; exact .mk) ?_
 iterate 2 (refine run_if rfl (by simp; exact .mk) rfl (by simp <;> omega) (fun hb => by simp; exact .mk) ?_)
 refine run_pick rfl (by simp; exact .mk) rfl rfl (by simp) (by simp; exact .mk) (by simp; exact .mk) (by simp; exact .mk) ?_
 refine run_op1 rfl rfl rfl (by simp <;> omega) (by simp; exact .mk) ?_
 refine run_end [2] (by simp <;> omega) (by simp; exact .mk) ?_
 rintro -
 refine W_ret (end_ret (by simp [Try.f10]; exact .mk) (by simp; exact .mk) ?_ (by simp))
 simp [Try.f10, hr, Bool.and_assoc]

open Go.Awp
theorem ct9 (g : Gl) : CtAt Try.prog g 9 [] (.v (.bool true)) := by
 refine ctAt_of_W Try.func9 rfl rfl (Nat.le_of_ble_eq_true rfl) fun B S => ?_
  
 refine W_seq ?_
 refine W_reg rfl ?_
 refine xO ?_ (h := by simp; exact .mk)
 refine run_end [] (by simp) (by simp; exact .mk) ?_
 rintro -
 refine W_seq ?_
 refine W_reg rfl ?_
 refine xC (ct40 g) ?_ (he := by simp [row_rows, Function.comp_def]; exact .mk) (hi := by simp [oAbs]; exact .mk)
 refine xO ?_ (h := by simp [splice]; exact .mk)
 refine run_call0 rfl rfl rfl rfl (by simp; exact .mk) (by simp [row_rows, Function.comp_def]; exact .mk) (by have := ct14 g A0 (O 1 4 0 []) (by exact ⟨by decide, by decide, by decide, by decide, by decide⟩) (by decide) (by decide); rw [d1] at this; exact this) (by simp) (by simp [oAbs]; exact .mk) ?_
 iterate 6 (refine xO ?_ (h := by simp; exact .mk))
 iterate 2 (refine xO ?_ (h := by simp [splice]; exact .mk))
 refine xO ?_ (h := by simp; exact .mk)
 refine run_end [1,2,3] (by simp) (by simp; exact .mk) ?_
 rintro -
 refine W_seq ?_
 refine W_reg rfl ?_
 iterate 2 (refine xO ?_ (h := by simp; exact .mk))
 refine xO ?_ (h := by simp [splice]; exact .mk)
 refine run_call0 rfl rfl rfl rfl (by simp; exact .mk) (by simp [row_rows, Function.comp_def]; exact .mk) (by have := ct14 g A1 (O 5 0 1 [7]) (by exact ⟨by decide, by decide, by decide, by decide, by decide⟩) (by decide) (by decide); rw [d2] at this; exact this) (by simp) (by simp [oAbs]; exact .mk) ?_
 iterate 6 (refine xO ?_ (h := by simp; exact .mk))
 iterate 2 (refine xO ?_ (h := by simp [splice]; exact .mk))
 refine xO ?_ (h := by simp; exact .mk)
 refine run_end [2,3,4,6] (by simp) (by simp; exact .mk) ?_
 rintro -
 refine W_seq ?_
 refine W_reg rfl ?_
 refine xO ?_ (h := by simp; exact .mk)
 refine xO ?_ (h := by simp [splice]; exact .mk)
 refine run_call0 rfl rfl rfl rfl (by simp; exact .mk) (by simp [row_rows, Function.comp_def]; exact .mk) (by have := ct14 g A2 (O 4 4 0 []) (by exact ⟨by decide, by decide, by decide, by decide, by decide⟩) (by decide) (by decide); rw [d3] at this; exact this) (by simp) (by simp [oAbs]; exact .mk) ?_
 iterate 6 (refine xO ?_ (h := by simp; exact .mk))
 iterate 2 (refine xO ?_ (h := by simp [splice]; exact .mk))
 refine xO ?_ (h := by simp; exact .mk)
 refine run_end [2,3,4,6,8,9] (by simp) (by simp; exact .mk) ?_
 rintro -
 refine W_seq ?_
 refine W_reg rfl ?_
 refine xO ?_ (h := by simp; exact .mk)
 refine xO ?_ (h := by simp [splice]; exact .mk)
 refine run_call0 rfl rfl rfl rfl (by simp; exact .mk) (by simp [row_rows, Function.comp_def]; exact .mk) (by have := ct14 g A2 (O 2 0 0 []) (by exact ⟨by decide, by decide, by decide, by decide, by decide⟩) (by decide) (by decide); rw [d4] at this; exact this) (by simp) (by simp [oAbs]; exact .mk) ?_
 iterate 6 (refine xO ?_ (h := by simp; exact .mk))
 iterate 2 (refine xO ?_ (h := by simp [splice]; exact .mk))
 refine xO ?_ (h := by simp; exact .mk)
 refine run_end [2,3,6,8,9,10,12] (by simp) (by simp; exact .mk) ?_
 rintro -
 refine W_seq ?_
 refine W_reg rfl ?_
 refine xO ?_ (h := by simp; exact .mk)
 refine xO ?_ (h := by simp [splice]; exact .mk)
 refine run_call0 rfl rfl rfl rfl (by simp; exact .mk) (by simp [row_rows, Function.comp_def]; exact .mk) (by have := ct14 g A3 (O 4 0 0 []) (by exact ⟨by decide, by decide, by decide, by decide, by decide⟩) (by decide) (by decide); rw [d5] at this; exact this) (by simp) (by simp [oAbs]; exact .mk) ?_
 iterate 6 (refine xO ?_ (h := by simp; exact .mk))
 iterate 2 (refine xO ?_ (h := by simp [splice]; exact .mk))
 refine xO ?_ (h := by simp; exact .mk)
 refine run_end [2,3,6,8,9,10,12,15] (by simp) (by simp; exact .mk) ?_
 rintro -
 refine W_seq ?_
 refine W_reg rfl ?_
 refine xO ?_ (h := by simp; exact .mk)
 refine xO ?_ (h := by simp [splice]; exact .mk)
 refine run_call0 rfl rfl rfl rfl (by simp; exact .mk) (by simp [row_rows, Function.comp_def]; exact .mk) (by have := ct14 g A3 (O 1 1 0 []) (by exact ⟨by decide, by decide, by decide, by decide, by decide⟩) (by decide) (by decide); rw [d6] at this; exact this) (by simp) (by simp [oAbs]; exact .mk) ?_
 iterate 6 (refine xO ?_ (h := by simp; exact .mk))
 iterate 2 (refine xO ?_ (h := by simp [splice]; exact .mk))
 refine xO ?_ (h := by simp; exact .mk)
 refine run_end [2,3,6,8,9,12,15,17,18] (by simp) (by simp; exact .mk) ?_
 rintro -
 refine W_seq ?_
 refine W_reg rfl ?_
 iterate 3 (refine xO ?_ (h := by simp; exact .mk))
 iterate 2 (refine run_if rfl (by simp; exact .mk) rfl (by simp <;> omega) (fun hb => by simp; exact .mk) ?_)
 refine run_if rfl (by simp; exact .mk) rfl (by simp <;> omega) (fun hb => by simp [splice]; exact .mk) ?_
 refine run_if rfl (by simp; exact .mk) rfl (by simp <;> omega) (fun hb => by simp; exact .mk) ?_
 refine run_pick rfl (by simp; exact .mk) rfl rfl (by simp) (by simp; exact .mk) (by simp; exact .mk) (by simp; exact .mk) ?_
 refine run_op1 rfl rfl rfl (by simp <;> omega) (by simp; exact .mk) ?_
 iterate 2 (refine run_if rfl (by simp; exact .mk) rfl (by simp <;> omega) (fun hb => by simp; exact .mk) ?_)
 refine run_pick rfl (by simp; exact .mk) rfl rfl (by simp) (by simp; exact .mk) (by simp; exact .mk) (by simp; exact .mk) ?_
 refine run_op1 rfl rfl rfl (by simp <;> omega) (by simp; exact .mk) ?_
 iterate 2 (refine run_if rfl (by simp; exact .mk) rfl (by simp <;> omega) (fun hb => by simp; exact .mk) ?_)
 refine run_pick rfl (by simp; exact .mk) rfl rfl (by simp) (by simp; exact .mk) (by simp; exact .mk) (by simp; exact .mk) ?_
 refine run_op1 rfl rfl rfl (by simp <;> omega) (by simp; exact .mk) ?_
 iterate 2 (refine run_if rfl (by simp; exact .mk) rfl (by simp <;> omega) (fun hb => by simp; exact .mk) ?_)
 refine run_if rfl (by simp; exact .mk) rfl (by simp <;> omega) (fun hb => by simp [conv_h4]; exact .mk) ?_
 refine run_if rfl (by simp; exact .mk) rfl (by simp <;> omega) (fun hb => by simp; exact .mk) ?_
 refine run_pick rfl (by simp; exact .mk) rfl rfl (by simp) (by simp; exact .mk) (by simp; exact .mk) (by simp; exact .mk) ?_
 refine run_op1 rfl rfl rfl (by simp <;> omega) (by simp; exact .mk) ?_
 iterate 2 (refine run_if rfl (by simp; exact .mk) rfl (by simp <;> omega) (fun hb => by simp; exact .mk) ?_)
 refine run_pick rfl (by simp; exact .mk) rfl rfl (by simp) (by simp; exact .mk) (by simp; exact .mk) (by simp; exact .mk) ?_
 refine run_op1 rfl rfl rfl (by simp <;> omega) (by simp; exact .mk) ?_
 iterate 2 (refine run_if rfl (by simp; exact .mk) rfl (by simp <;> omega) (fun hb => by simp; exact .mk) ?_)
 refine run_pick rfl (by simp; exact .mk) rfl rfl (by simp) (by simp; exact .mk) (by simp; exact .mk) (by simp; exact .mk) ?_
 refine run_op1 rfl rfl rfl (by simp <;> omega) (by simp; exact .mk) ?_
 iterate 2 (refine run_if rfl (by simp; exact .mk) rfl (by simp <;> omega) (fun hb => by simp; exact .mk) ?_)
 refine run_pick rfl (by simp; exact .mk) rfl rfl (by simp) (by simp; exact .mk) (by simp; exact .mk) (by simp; exact .mk) ?_
 refine run_op1 rfl rfl rfl (by simp <;> omega) (by simp; exact .mk) ?_
 iterate 2 (refine run_if rfl (by simp; exact .mk) rfl (by simp <;> omega) (fun hb => by simp; exact .mk) ?_)
 refine run_if rfl (by simp; exact .mk) rfl (by simp <;> omega) (fun hb => by simp [splice]; exact .mk) ?_
 refine run_if rfl (by simp; exact .mk) rfl (by simp <;> omega) (fun hb => by simp; exact .mk) ?_
 refine run_pick rfl (by simp; exact .mk) rfl rfl (by simp) (by simp; exact .mk) (by simp; exact .mk) (by simp; exact .mk) ?_
 refine run_op1 rfl rfl rfl (by simp <;> omega) (by simp; exact .mk) ?_
 refine run_end [0] (by simp <;> omega) (by simp; exact .mk) ?_
 rintro -
 refine W_ret (end_ret (by simp [Try.f9]; exact .mk) (by simp; exact .mk) ?_ (by simp))
 simp [Try.f9, failS]

end Go.Proofs
