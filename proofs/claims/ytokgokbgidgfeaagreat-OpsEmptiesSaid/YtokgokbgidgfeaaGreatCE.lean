/- Contracts of the program's functions, each against a plain function over lists and numbers (it answers what that one answers, for arguments of at most 2^40 elements where a lemma says so), and plain facts about these. -/
import Derived.Test.YtokgokbgidgfeaaGreatAwpD
import Derived.Test.YtokgokbgidgfeaaGreatCA
import Derived.Test.YtokgokbgidgfeaaGreatAwpC
import Derived.Test.YtokgokbgidgfeaaGreatCC
import Derived.Test.YtokgokbgidgfeaaGreatCD
set_option linter.all false
set_option maxHeartbeats 4000000
namespace Go.Proofs
open Go.Awp
theorem ct101 (g : Gl) (x y : List UInt8) : CtAt Tryz.prog g 101 [rB x, rB y] (.v (.bool ((str x).toList == (str y).toList))) := by
 refine ctAt_of_W Tryz.func101 rfl rfl (Nat.le_of_ble_eq_true rfl) fun B S => ?_
 refine xU ?_
 refine xO ?_
 refine xE [0,1] ?_
 refine xT ?_
 refine xO ?_
 refine xO ?_ (h := by simp [conv_rB]; exact .mk)
 refine xO ?_
 refine xO ?_ (h := by simp [conv_rB]; exact .mk)
 iterate 2 refine xO ?_
 refine xE [4] fun _ => ?_
 refine W_ret ?_
 refine xR (by simp [Tryz.f101]; exact .mk) ?_
 simp [Tryz.f101]

theorem ct128 (g : Gl) (x y : List Int) (hx : x.length ≤ 2^40) : CtAt Tryz.prog g 128 [rI x, rI y] (.v (.bool (sameL (fun a b => a == b) x y))) := by
 refine ctAt_of_W Tryz.func128 rfl rfl (Nat.le_of_ble_eq_true rfl) fun B S => ?_
 refine xU ?_
 refine xO ?_
 refine xE [0,1] fun _ => ?_
 refine W_seq ?_
 refine xU ?_
 iterate 5 refine xO ?_
 refine xE [0,1,10] fun _ => ?_
 refine W_cond rfl ?_ ?_
 · intro h10
   have hr : sameL (fun a b => a == b) x y = false := sameL_len (by simp at h10; omega)
   refine xU ?_
   refine xO ?_
   refine xE [4] fun _ => ?_
   refine W_ret ?_
   refine xR (by simp [Tryz.f128]; exact .mk) ?_
   simp [Tryz.f128, hr]
 intro h10
 have hxy : x.length = y.length := by simp at h10; omega
 refine W_skip ?_
 rintro -
 refine W_seq ?_
 refine xU ?_
 iterate 3 refine xO ?_
 refine xE [0,1,12,13] fun _ => ?_
 refine W_block ?_
 refine W_rounds (fun m σ o => ∃ i : Nat, m = x.length - i ∧ i ≤ x.length ∧ (∀ j, j < i → (fun a b => a == b) (nth x j) (nth y j) = true) ∧ σ = slots [(0, .d (rI x)), (1, .d (rI y)), (12, .d (vI x.length)), (13, .d (vI i))] ∧ o = []) x.length .refl ⟨0, by simp, by simp, by simp, rfl, rfl⟩ ?_
 rintro m σ o ⟨i, rfl, hi, hinv, rfl, rfl⟩ _
 refine xU ?_
 refine xO ?_
 refine xE [0,1,12,13,14] fun _ => ?_
 refine W_seq ?_
 refine W_cond rfl ?_ ?_
 · intro h14
   have h2 : i < x.length := by simpa using h14
   have h3 : i < y.length := by omega
   refine W_skip ?_
   rintro -
   refine W_seq ?_
   refine W_block ?_
   refine xU ?_
   iterate 2 refine xO ?_
   refine xE [0,1,5,12,13] fun _ => ?_
   refine W_seq ?_
   refine W_regD (by kernel_rfl) [] 4 [0,1,2,3,4,5,6,7,8] (by decide +kernel) ?_
   iterate 2 refine xO ?_
   refine xO ?_ (h := by simp [*]; exact .mk)
   iterate 3 refine xO ?_
   refine xO ?_ (h := by simp [*]; exact .mk)
   iterate 2 refine xO ?_
   refine xE [0,1,12,13,24] fun _ => ?_
   refine W_cond rfl ?_ ?_
   · intro h24
     have hr : sameL (fun a b => a == b) x y = false := sameL_bad h2 (by simpa using h24)
     refine xU ?_
     refine xO ?_
     refine xE [4] fun _ => ?_
     refine W_ret ?_
     refine xR (by simp [Tryz.f128]; exact .mk) ?_
     simp [Tryz.f128, hr]
   intro h24
   refine W_skip ?_
   rintro -
   refine W_reg rfl ?_
   iterate 2 refine xO ?_
   refine xE [0,1,12,13] ?_
   refine rounds_kill [0,1,12,13] ?_
   refine rounds_next (m' := x.length - (i+1)) (by omega) ⟨i+1, rfl, by omega, ?_, ?_, rfl⟩
   · intro j hj
     rcases Nat.lt_succ_iff_lt_or_eq.1 hj with hj | rfl
     · exact hinv j hj
     simpa using h24
   rw [wrap64 (by omega) (by omega)]; rfl
 intro h14
 have hr : sameL (fun a b => a == b) x y = true := sameL_good hxy (fun j hj => hinv j (by simp at h14; omega))
 refine W_exit ?_
 refine xT ?_
 refine xO ?_
 refine xE [4] fun _ => ?_
 refine W_ret ?_
 refine xR (by simp [Tryz.f128]; exact .mk) ?_
 simp [Tryz.f128, hr]

theorem ct99 (g : Gl) (x y : List Root) (hx : x.length ≤ 2^40) : CtAt Tryz.prog g 99 [rR x, rR y] (.v (.bool (sameL sameRoot x y))) := by
 refine ctAt_of_W Tryz.func99 rfl rfl (Nat.le_of_ble_eq_true rfl) fun B S => ?_
 refine xU ?_
 refine xO ?_
 refine xE [0,1] fun _ => ?_
 refine W_seq ?_
 refine xU ?_
 iterate 5 refine xO ?_
 refine xE [0,1,10] fun _ => ?_
 refine W_cond rfl ?_ ?_
 · intro h10
   have hr : sameL sameRoot x y = false := sameL_len (by simp at h10; omega)
   refine xU ?_
   refine xO ?_
   refine xE [4] fun _ => ?_
   refine W_ret ?_
   refine xR (by simp [Tryz.f99]; exact .mk) ?_
   simp [Tryz.f99, hr]
 intro h10
 have hxy : x.length = y.length := by simp at h10; omega
 refine W_skip ?_
 rintro -
 refine W_seq ?_
 refine xU ?_
 iterate 3 refine xO ?_
 refine xE [0,1,12,13] fun _ => ?_
 refine W_block ?_
 refine W_rounds (fun m σ o => ∃ i : Nat, m = x.length - i ∧ i ≤ x.length ∧ (∀ j, j < i → sameRoot (nth x j) (nth y j) = true) ∧ σ = slots [(0, .d (rR x)), (1, .d (rR y)), (12, .d (vI x.length)), (13, .d (vI i))] ∧ o = []) x.length .refl ⟨0, by simp, by simp, by simp, rfl, rfl⟩ ?_
 rintro m σ o ⟨i, rfl, hi, hinv, rfl, rfl⟩ _
 refine xU ?_
 refine xO ?_
 refine xE [0,1,12,13,14] fun _ => ?_
 refine W_seq ?_
 refine W_cond rfl ?_ ?_
 · intro h14
   have h2 : i < x.length := by simpa using h14
   have h3 : i < y.length := by omega
   refine W_skip ?_
   rintro -
   refine W_seq ?_
   refine W_block ?_
   refine xU ?_
   iterate 2 refine xO ?_
   refine xE [0,1,5,12,13] fun _ => ?_
   refine W_seq ?_
   refine W_regD (by kernel_rfl) [] 4 [0,1,2,3,4,5,6,7,8] (by decide +kernel) ?_
   iterate 2 refine xO ?_
   refine xO ?_ (h := by simp [eRoot, *]; exact .mk)
   refine xO ?_ (h := by simp [eRoot]; exact .mk)
   iterate 2 refine xO ?_
   refine xO ?_ (h := by simp [eRoot, *]; exact .mk)
   refine xO ?_ (h := by simp [eRoot]; exact .mk)
   refine xO ?_
   refine xE [0,1,12,13,24] fun _ => ?_
   refine W_cond rfl ?_ ?_
   · intro h24
     have hr : sameL sameRoot x y = false := sameL_bad h2 (by simp [sameRoot] at h24 ⊢; grind)
     refine xU ?_
     refine xO ?_
     refine xE [4] fun _ => ?_
     refine W_ret ?_
     refine xR (by simp [Tryz.f99]; exact .mk) ?_
     simp [Tryz.f99, hr]
   intro h24
   refine W_skip ?_
   rintro -
   refine W_reg rfl ?_
   iterate 2 refine xO ?_
   refine xE [0,1,12,13] ?_
   refine rounds_kill [0,1,12,13] ?_
   refine rounds_next (m' := x.length - (i+1)) (by omega) ⟨i+1, rfl, by omega, ?_, ?_, rfl⟩
   · intro j hj
     rcases Nat.lt_succ_iff_lt_or_eq.1 hj with hj | rfl
     · exact hinv j hj
     simp [sameRoot] at h24 ⊢; grind
   rw [wrap64 (by omega) (by omega)]; rfl
 intro h14
 have hr : sameL sameRoot x y = true := sameL_good hxy (fun j hj => hinv j (by simp at h14; omega))
 refine W_exit ?_
 refine xT ?_
 refine xO ?_
 refine xE [4] fun _ => ?_
 refine W_ret ?_
 refine xR (by simp [Tryz.f99]; exact .mk) ?_
 simp [Tryz.f99, hr]

theorem in100 (g : Gl) (objs : List Awp.Obj) (x y : List (List UInt8)) (hx : x.length ≤ 2^40) : ∀ B S, CallsA Tryz.prog g B S ⟨objs.length, true⟩ 100 [.d (rBB x), .d (rBB y), .fn (.func 101) [] []] objs
    (fun a o => a = .d (.v (.bool (sameL (fun a b => (str a).toList == (str b).toList) x y))) ∧ o = objs) := by
 refine callsA_at Tryz.func100 rfl (Nat.le_of_ble_eq_true rfl) fun B S => ?_
 refine xU ?_
 refine xO ?_
 refine xE [0,1,2] fun _ => ?_
 refine W_seq ?_
 refine xU ?_
 iterate 5 refine xO ?_
 refine xE [0,1,2,14] fun _ => ?_
 refine W_cond rfl ?_ ?_
 · intro h14
   have hr : sameL (fun a b => (str a).toList == (str b).toList) x y = false := sameL_len (by simp at h14; omega)
   refine xU ?_
   refine xO ?_
   refine xE [6] fun _ => ?_
   refine W_ret ?_
   refine endAt_ret (by simp [Tryz.f100]; exact .mk) ?_ ?_
   · simp [hr]
   rfl
 intro h14
 have hxy : x.length = y.length := by simp at h14; omega
 refine W_skip ?_
 rintro -
 refine W_seq ?_
 refine xU ?_
 iterate 3 refine xO ?_
 refine xE [1,2,15,16,17] fun _ => ?_
 refine W_block ?_
 refine W_rounds (fun m σ o => ∃ i : Nat, m = x.length - i ∧ i ≤ x.length ∧ (∀ j, j < i → (fun a b => (str a).toList == (str b).toList) (nth x j) (nth y j) = true) ∧ σ = slots [(1, .d (rBB y)), (2, .fn (.func 101) [] []), (15, .d (rBB x)), (16, .d (vI x.length)), (17, .d (vI i))] ∧ o = objs) x.length .refl ⟨0, by simp, by simp, by simp, rfl, rfl⟩ ?_
 rintro m σ o ⟨i, rfl, hi, hinv, rfl, rfl⟩ _
 refine xU ?_
 refine xO ?_
 refine xE [1,2,15,16,17,18] fun _ => ?_
 refine W_seq ?_
 refine W_cond rfl ?_ ?_
 · intro h18
   have h2 : i < x.length := by simpa using h18
   have h3 : i < y.length := by omega
   refine W_skip ?_
   rintro -
   refine W_seq ?_
   refine W_block ?_
   refine xU ?_
   refine xO ?_
   refine xO ?_ (h := by simp [*]; exact .mk)
   iterate 3 refine xO ?_
   refine xE [1,2,7,8,15,16,17] ?_
   refine xT ?_
   iterate 2 refine xO ?_
   refine xO ?_ (h := by simp [*]; exact .mk)
   iterate 2 refine xO ?_
   refine xE [1,2,8,9,15,16,17] ?_
   refine xT ?_
   iterate 3 refine xO ?_
   refine xC (ct101 g _ _) ?_
   refine xO ?_
   refine xE [1,2,15,16,17,30] fun _ => ?_
   refine W_cond rfl ?_ ?_
   · intro h30
     have hr : sameL (fun a b => (str a).toList == (str b).toList) x y = false := sameL_bad h2 (by simpa using h30)
     refine xU ?_
     refine xO ?_
     refine xE [6] fun _ => ?_
     refine W_ret ?_
     refine endAt_ret (by simp [Tryz.f100]; exact .mk) ?_ ?_
     · simp [hr]
     rfl
   intro h30
   refine W_skip ?_
   rintro -
   refine W_reg rfl ?_
   iterate 2 refine xO ?_
   refine xE [1,2,15,16,17] ?_
   refine rounds_kill [1,2,15,16,17] ?_
   refine rounds_next (m' := x.length - (i+1)) (by omega) ⟨i+1, rfl, by omega, ?_, ?_, rfl⟩
   · intro j hj
     rcases Nat.lt_succ_iff_lt_or_eq.1 hj with hj | rfl
     · exact hinv j hj
     simpa using h30
   rw [wrap64 (by omega) (by omega)]; rfl
 intro h18
 have hr : sameL (fun a b => (str a).toList == (str b).toList) x y = true := sameL_good hxy (fun j hj => hinv j (by simp at h18; omega))
 refine W_exit ?_
 refine xT ?_
 refine xO ?_
 refine xE [6] fun _ => ?_
 refine W_ret ?_
 refine endAt_ret (by simp [Tryz.f100]; exact .mk) ?_ ?_
 · simp [hr]
 rfl

theorem ct61 (g : Gl) (a b : Abs) (ha : a.Ok) : CtAt Tryz.prog g 61 [eAbs a, eAbs b] (.v (.bool (sameAbs a b))) := by
 refine ctAt_of_W Tryz.func61 rfl rfl (Nat.le_of_ble_eq_true rfl) fun B S => ?_
 simp only [eAbs, List.map, argD_agg]
 refine xU ?_
 iterate 3 refine xO ?_
 refine xE [2,3] ?_
 refine xT ?_
 iterate 4 refine xO ?_
 refine xC (ct128 g _ _ ha.h1) ?_
 refine xO ?_
 iterate 4 refine xI ?_
 refine run_inlG rfl (by simp; exact .mk) rfl rfl (by simp) (by simp; exact .mk) ⟨_, Tryz.func100, rfl, rfl⟩ (fun hb => in100 g _ _ _ ha.h2) ?_
 refine xP ?_
 refine xB ?_
 iterate 4 refine xI ?_
 refine run_call rfl (by simp; exact .mk) rfl rfl (by simp) (by simp; exact .mk) (by simp; exact .mk) (fun hb => ct99 g _ _ ha.h3) (by simp) (by simp; exact .mk) (by simp) ?_
 refine xP ?_
 refine xB ?_
 refine xE [4] fun _ => ?_
 refine W_ret ?_
 refine xR (by simp [Tryz.f61]; exact .mk) ?_
 simp [Tryz.f61, sameAbs, Bool.and_assoc]

open Go.Awp
theorem ct183 (g : Gl) (l : List Int) (hl : l.length ≤ 2^40) : CtAt Tryz.prog g 183 [rI l] (oI l) := by
 refine ctAt_of_W Tryz.func183 rfl rfl (Nat.le_of_ble_eq_true rfl) fun B S => ?_
 refine xU ?_
 refine xO ?_
 refine xE [0] fun _ => ?_
 refine W_seq ?_
 refine W_seq ?_
 refine W_region rfl (WR_cut (hard := []) [0] [1] ?_)
 refine xO ?_
 refine xE [0,3] ?_
 refine WR_nilcmp rfl rfl rfl (.inl rfl) rfl ⟨_, Tryz.underlying33⟩ (by simp; rfl) ?_
 intro nb hnb
 refine WR_run (hard := []) ?_
 refine xE [0,4] fun _ => ?_
 refine W_cond rfl ?_ ?_
 · intro h4
   have hl0 : l = [] := List.eq_nil_of_length_eq_zero (hnb (by simpa using h4))
   subst hl0
   refine xU ?_
   refine xO ?_
   refine xE [2] fun _ => ?_
   refine W_ret ?_
   refine xR (by simp [Tryz.f183]; exact .mk) ?_
   simp [Tryz.f183, ownR]
 intro h4
 refine W_skip ?_
 rintro -
 refine W_seq ?_
 have e1 : l.length * 32 ≤ 140737488355328 := by omega
 have e2 : l.length ≤ 140737488355328 := by omega
 have e3 : l.length * 8 ≤ 140737488355328 := by omega
 refine W_reg rfl ?_
 iterate 2 refine xO ?_
 refine xO ?_ (h := by simp [rows, e1, e2, e3]; exact .mk)
 refine xO ?_
 refine xE [2] fun _ => ?_
 refine W_ret ?_
 refine xR (by simp [Tryz.f183]; exact .mk) ?_
 simp [Tryz.f183, ownR]

theorem ct77 (g : Gl) (l : List Root) (hl : l.length ≤ 2^40) : CtAt Tryz.prog g 77 [rR l] (oR l) := by
 refine ctAt_of_W Tryz.func77 rfl rfl (Nat.le_of_ble_eq_true rfl) fun B S => ?_
 refine xU ?_
 refine xO ?_
 refine xE [0] fun _ => ?_
 refine W_seq ?_
 refine W_seq ?_
 refine W_region rfl (WR_cut (hard := []) [0] [1] ?_)
 refine xO ?_
 refine xE [0,3] ?_
 refine WR_nilcmp rfl rfl rfl (.inl rfl) rfl ⟨_, Tryz.underlying25⟩ (by simp; rfl) ?_
 intro nb hnb
 refine WR_run (hard := []) ?_
 refine xE [0,4] fun _ => ?_
 refine W_cond rfl ?_ ?_
 · intro h4
   have hl0 : l = [] := List.eq_nil_of_length_eq_zero (hnb (by simpa using h4))
   subst hl0
   refine xU ?_
   refine xO ?_
   refine xE [2] fun _ => ?_
   refine W_ret ?_
   refine xR (by simp [Tryz.f77]; exact .mk) ?_
   simp [Tryz.f77, ownR]
 intro h4
 refine W_skip ?_
 rintro -
 refine W_seq ?_
 have e1 : l.length * 32 ≤ 140737488355328 := by omega
 have e2 : l.length ≤ 140737488355328 := by omega
 have e3 : l.length * 8 ≤ 140737488355328 := by omega
 refine W_reg rfl ?_
 iterate 2 refine xO ?_
 refine xO ?_ (h := by simp [rows, e1, e2, e3]; exact .mk)
 refine xO ?_
 refine xE [2] fun _ => ?_
 refine W_ret ?_
 refine xR (by simp [Tryz.f77]; exact .mk) ?_
 simp [Tryz.f77, ownR]

theorem ct79 (g : Gl) (l : List UInt8) (hl : l.length ≤ 2^40) : CtAt Tryz.prog g 79 [rB l] (oB l) := by
 refine ctAt_of_W Tryz.func79 rfl rfl (Nat.le_of_ble_eq_true rfl) fun B S => ?_
 refine xU ?_
 refine xO ?_
 refine xE [0] fun _ => ?_
 refine W_seq ?_
 refine W_seq ?_
 refine W_region rfl (WR_cut (hard := []) [0] [1] ?_)
 refine xO ?_
 refine xE [0,3] ?_
 refine WR_nilcmp rfl rfl rfl (.inl rfl) rfl ⟨_, Tryz.underlying71⟩ (by simp; rfl) ?_
 intro nb hnb
 refine WR_run (hard := []) ?_
 refine xE [0,4] fun _ => ?_
 refine W_cond rfl ?_ ?_
 · intro h4
   have hl0 : l = [] := List.eq_nil_of_length_eq_zero (hnb (by simpa using h4))
   subst hl0
   refine xU ?_
   refine xO ?_
   refine xE [2] fun _ => ?_
   refine W_ret ?_
   refine xR (by simp [Tryz.f79]; exact .mk) ?_
   simp [Tryz.f79, ownR]
 intro h4
 refine W_skip ?_
 rintro -
 refine W_seq ?_
 have e1 : l.length * 32 ≤ 140737488355328 := by omega
 have e2 : l.length ≤ 140737488355328 := by omega
 have e3 : l.length * 8 ≤ 140737488355328 := by omega
 refine W_reg rfl ?_
 iterate 2 refine xO ?_
 refine xO ?_ (h := by simp [rows, e1, e2, e3]; exact .mk)
 refine xO ?_
 refine xE [2] fun _ => ?_
 refine W_ret ?_
 refine xR (by simp [Tryz.f79]; exact .mk) ?_
 simp [Tryz.f79, ownR]

open Go.Awp
theorem ct243 (g : Gl) (l : List Root) (k : Nat) (r : Root) (hl : l.length ≤ 2^40) (hk : k < l.length) : CtAt Tryz.prog g 243 [rR l, vI k, eRoot r] (oR (l.set k r)) := by
 refine ctAt_of_W Tryz.func243 rfl rfl (Nat.le_of_ble_eq_true rfl) fun B S => ?_
 simp only [eRoot, List.map, argD_agg]
 refine xU ?_
 iterate 2 refine xO ?_
 refine xE [0,1,5] ?_
 refine xT ?_
 refine xO ?_
 refine xC (ct77 g _ hl) ?_
 refine xO ?_
 refine xE [1,5,7] ?_
 refine xT ?_
 iterate 3 refine xO ?_
 refine xO ?_ (h := by simp [hk]; exact .mk)
 refine xO ?_ (h := by simp [splice, hk, nrmL, nrm, putC, eRoot]; exact .mk)
 refine xE [7] ?_
 refine xT ?_
 iterate 2 refine xO ?_
 refine xE [6] fun _ => ?_
 refine W_ret ?_
 refine xR (by simp [Tryz.f243]; exact .mk) ?_
 simp [Tryz.f243, ownR, List.map_set, eRoot]

theorem ct242 (g : Gl) (l : List Root) (nm : ByteArray) (hl : RootsOk l) (hn : nm.size ≤ 2^40) : CtAt Tryz.prog g 242 [rR l, vS nm] (.tup [vI (findS l nm).1, vI (findS l nm).2]) := by
 refine ctAt_of_W Tryz.func242 rfl rfl (Nat.le_of_ble_eq_true rfl) fun B S => ?_
 refine xU ?_
 iterate 2 refine xO ?_
 refine xE [0,1] fun _ => ?_
 refine W_seq ?_
 refine W_block ?_
 refine xU ?_
 refine xO ?_
 refine xC (ct140 g _ hl.h1 hl.h2) ?_
 iterate 2 refine xO ?_
 refine xE [0,1,6] fun _ => ?_
 refine W_cond rfl ?_ ?_
 · intro h6
   have hr : rootsS l = false := by simpa using h6
   refine xU ?_
   iterate 2 refine xO ?_
   refine xE [4,5] fun _ => ?_
   refine W_ret ?_
   refine xR (by simp [Tryz.f242]; exact .mk) ?_
   simp [Tryz.f242, findS, *]
 intro h6
 have hr : rootsS l = true := by simpa using h6
 refine xU ?_
 refine xO ?_
 refine xC (ct188 g _ hn) ?_
 iterate 2 refine xO ?_
 refine xE [0,1,10] fun _ => ?_
 refine W_cond rfl ?_ ?_
 · intro h10
   have hr2 : nameS nm = false := by simpa using h10
   refine xU ?_
   iterate 2 refine xO ?_
   refine xE [4,5] fun _ => ?_
   refine W_ret ?_
   refine xR (by simp [Tryz.f242]; exact .mk) ?_
   simp [Tryz.f242, findS, *]
 intro h10
 have hr2 : nameS nm = true := by simpa using h10
 refine W_skip ?_
 refine xT ?_
 iterate 2 refine xO ?_
 refine xC (ct198 g _ _ hl.h1) ?_
 iterate 2 refine xO ?_
 refine xE [4,5] fun _ => ?_
 refine W_ret ?_
 refine xR (by simp [Tryz.f242]; exact .mk) ?_
 simp [Tryz.f242, findS, *]

theorem ct222 (g : Gl) (l : List Root) (nm : ByteArray) (hl : RootsOk l) (hn : nm.size ≤ 2^40) : CtAt Tryz.prog g 222 [rR l, vS nm] (.tup [oR (dropS l nm).1, vI (dropS l nm).2]) := by
 refine ctAt_of_W Tryz.func222 rfl rfl (Nat.le_of_ble_eq_true rfl) fun B S => ?_
 refine xU ?_
 iterate 2 refine xO ?_
 refine xE [0,1] ?_
 refine xT ?_
 iterate 2 refine xO ?_
 refine xC (ct242 g _ _ hl hn) ?_
 iterate 5 refine xO ?_
 refine xE [0,6,7] fun _ => ?_
 refine W_seq ?_
 refine W_block ?_
 refine xU ?_
 iterate 3 refine xO ?_
 refine xE [0,6,7,14] fun _ => ?_
 refine W_cond rfl ?_ ?_
 · intro h14
   have hr : (findS l nm).2 ≠ 0 := by simpa using h14
   refine xU ?_
   iterate 3 refine xO ?_
   refine xE [4,5] fun _ => ?_
   refine W_ret ?_
   refine xR (by simp [Tryz.f222]; exact .mk) ?_
   simp [Tryz.f222, dropS, ownR, List.map_set, *]
 intro h14
 have hr : (findS l nm).2 = 0 := by simpa using h14
 refine xU ?_
 iterate 3 refine xO ?_
 refine xE [0,6,18] fun _ => ?_
 refine W_cond rfl ?_ ?_
 · intro h18
   have hr2 : (findS l nm).1 < 0 := by simpa using h18
   refine xU ?_
   iterate 2 refine xO ?_
   refine xE [4,5] fun _ => ?_
   refine W_ret ?_
   refine xR (by simp [Tryz.f222]; exact .mk) ?_
   simp [Tryz.f222, dropS, ownR, List.map_set, *]
 intro h18
 have hr2 : 0 ≤ (findS l nm).1 := by simpa using h18
 obtain ⟨k, hk, hkl⟩ := findS_nat hl hr hr2
 have hk0 : ¬ ((k : Int) < 0) := by omega
 refine W_skip ?_
 refine xT ?_
 iterate 2 refine xO ?_
 refine xO ?_ (h := by simp [splice]; exact .mk)
 refine run_call0 rfl rfl rfl rfl (by simp; exact .mk) (by simp; exact .mk) (by have := ct243 g l k zRoot hl.h1 hkl; rw [← hk] at this; exact this) (by simp) (by simp; exact .mk) ?_
 iterate 2 refine xO ?_
 refine xE [4,5] fun _ => ?_
 refine W_ret ?_
 refine xR (by simp [Tryz.f222]; exact .mk) ?_
 simp [Tryz.f222, dropS, ownR, List.map_set, *]

theorem ct221 (g : Gl) (l : List Root) (nm : ByteArray) (hl : RootsOk l) (hn : nm.size ≤ 2^40) : CtAt Tryz.prog g 221 [rR l, vS nm] (.tup [.agg [vI (getS l nm).1, vI (getS l nm).2.1], vI (getS l nm).2.2]) := by
 refine ctAt_of_W Tryz.func221 rfl rfl (Nat.le_of_ble_eq_true rfl) fun B S => ?_
 refine xU ?_
 iterate 2 refine xO ?_
 refine xE [0,1,4] ?_
 refine xT ?_
 iterate 2 refine xO ?_
 refine xC (ct242 g _ _ hl hn) ?_
 iterate 5 refine xO ?_
 refine xE [0,4,6,7] fun _ => ?_
 refine W_seq ?_
 refine W_block ?_
 refine xU ?_
 iterate 3 refine xO ?_
 refine xE [0,4,6,7,14] fun _ => ?_
 refine W_cond rfl ?_ ?_
 · intro h14
   have hr : (findS l nm).2 ≠ 0 := by simpa using h14
   refine xU ?_
   refine xO ?_ (h := by simp [splice]; exact .mk)
   refine xO ?_
   refine xO ?_ (h := by simp [splice]; exact .mk)
   refine xO ?_
   refine xE [4,5] fun _ => ?_
   refine W_ret ?_
   refine xR (by simp [Tryz.f221]; exact .mk) ?_
   simp [Tryz.f221, getS, *]
 intro h14
 have hr : (findS l nm).2 = 0 := by simpa using h14
 refine xU ?_
 iterate 3 refine xO ?_
 refine xE [0,4,6,19] fun _ => ?_
 refine W_cond rfl ?_ ?_
 · intro h19
   have hr2 : (findS l nm).1 < 0 := by simpa using h19
   refine xU ?_
   iterate 2 (refine xO ?_ (h := by simp [splice]; exact .mk))
   refine xO ?_
   refine xE [4,5] fun _ => ?_
   refine W_ret ?_
   refine xR (by simp [Tryz.f221]; exact .mk) ?_
   simp [Tryz.f221, getS, *]
 intro h19
 have hr2 : 0 ≤ (findS l nm).1 := by simpa using h19
 obtain ⟨k, hk, hkl⟩ := findS_nat hl hr hr2
 have hk0 : ¬ ((k : Int) < 0) := by omega
 refine W_skip ?_
 refine xT ?_
 iterate 2 refine xO ?_
 refine xO ?_ (h := by simp [eRoot, hk, hkl]; exact .mk)
 refine xO ?_
 refine xO ?_ (h := by simp [eRoot]; exact .mk)
 refine xO ?_ (h := by simp [splice]; exact .mk)
 refine xO ?_
 refine xE [4,5] fun _ => ?_
 refine W_ret ?_
 refine xR (by simp [Tryz.f221]; exact .mk) ?_
 simp [Tryz.f221, getS, *]

open Go.Awp
theorem ct220 (g : Gl) (l : List Root) (nm : ByteArray) (ix gn : Int) (hl : RootsOk l) (hn : nm.size ≤ 2^40) : CtAt Tryz.prog g 220 [rR l, vS nm, .agg [vI ix, vI gn]] (.tup [oR (setS l nm ix gn).1, vI (setS l nm ix gn).2]) := by
 refine ctAt_of_W Tryz.func220 rfl rfl (Nat.le_of_ble_eq_true rfl) fun B S => ?_
 refine xU ?_
 iterate 3 refine xO ?_
 refine xE [0,1,5] ?_
 refine xT ?_
 iterate 2 refine xO ?_
 refine xC (ct242 g _ _ hl hn) ?_
 iterate 5 refine xO ?_
 refine xE [0,1,5,8,9] fun _ => ?_
 refine W_seq ?_
 refine W_block ?_
 refine xU ?_
 iterate 3 refine xO ?_
 refine xE [0,1,5,8,9,16] fun _ => ?_
 refine W_cond rfl ?_ ?_
 · intro h16
   have hr : (findS l nm).2 ≠ 0 := by simpa using h16
   have hr5 : setS l nm ix gn = ([], (findS l nm).2) := by simp [setS, hr]
   refine xU ?_
   iterate 3 refine xO ?_
   refine xE [6,7] fun _ => ?_
   refine W_ret ?_
   refine xR (by simp [Tryz.f220]; exact .mk) ?_
   simp [Tryz.f220, hr5, ownR, List.map_set]
 intro h16
 have hr : (findS l nm).2 = 0 := by simpa using h16
 refine xU ?_
 refine xO ?_
 refine xC (ct197 g _ _) ?_
 iterate 2 refine xO ?_
 refine xE [0,1,5,8,20] fun _ => ?_
 refine W_cond rfl ?_ ?_
 · intro h20
   have hr2 : handleS ix gn = false := by simpa using h20
   have hr5 : setS l nm ix gn = ([], 1) := by simp [setS, hr, hr2]
   refine xU ?_
   iterate 2 refine xO ?_
   refine xE [6,7] fun _ => ?_
   refine W_ret ?_
   refine xR (by simp [Tryz.f220]; exact .mk) ?_
   simp [Tryz.f220, hr5, ownR, List.map_set]
 intro h20
 have hr2 : handleS ix gn = true := by simpa using h20
 refine W_skip ?_
 rintro -
 refine W_seq ?_
 refine xU ?_
 iterate 2 refine xO ?_
 refine xE [0,1,5,8,25] fun _ => ?_
 refine W_cond rfl ?_ ?_
 · intro h25
   have hr3 : (findS l nm).1 < 0 := by simpa using h25
   refine W_reg rfl ?_
   refine xO ?_
   refine xC (ct198 g _ _ hl.h1) ?_
   refine xO ?_
   refine xE [0,1,5,8] fun _ => ?_
   refine W_seq ?_
   refine xU ?_
   iterate 2 refine xO ?_
   refine xE [0,1,5,8,29] fun _ => ?_
   refine W_cond rfl ?_ ?_
   · intro h29
     have hr4 : slotS l nm < 0 := by unfold slotS; split <;> (simp at h29; omega)
     have hr5 : setS l nm ix gn = ([], 9) := by simp [setS, hr, hr2, hr4]
     refine xU ?_
     iterate 2 refine xO ?_
     refine xE [6,7] fun _ => ?_
     refine W_ret ?_
     refine xR (by simp [Tryz.f220]; exact .mk) ?_
     simp [Tryz.f220, hr5, ownR, List.map_set]
   intro h29
   have hr4 : 0 ≤ slotS l nm := by unfold slotS; split <;> (simp at h29; omega)
   obtain ⟨k, hk, hkl⟩ := slotS_nat hl hr hr4
   have hk0 : ¬ ((k : Int) < 0) := by omega
   have hr5 : setS l nm ix gn = (l.set k ⟨nm, ix, gn⟩, 0) := by simp [setS, hr, hr2, hk, hk0]
   simp only [slotS, hr3, if_true, if_false] at hk
   refine W_skip ?_
   refine xT ?_
   iterate 4 refine xO ?_
   refine xO ?_ (h := by simp [splice]; exact .mk)
   refine run_call0 rfl rfl rfl rfl (by simp; exact .mk) (by simp; exact .mk) (by have := ct243 g l k ⟨nm, ix, gn⟩ hl.h1 hkl; rw [← hk] at this; exact this) (by simp) (by simp; exact .mk) ?_
   iterate 2 refine xO ?_
   refine xE [6,7] fun _ => ?_
   refine W_ret ?_
   refine xR (by simp [Tryz.f220]; exact .mk) ?_
   simp [Tryz.f220, hr5, ownR, List.map_set]
 intro h25
 have hr3 : ¬ (findS l nm).1 < 0 := by simpa using h25
 refine W_skip ?_
 rintro -
 refine W_seq ?_
 refine xU ?_
 iterate 2 refine xO ?_
 refine xE [0,1,5,8,29] fun _ => ?_
 refine W_cond rfl ?_ ?_
 · intro h29
   have hr4 : slotS l nm < 0 := by unfold slotS; split <;> (simp at h29; omega)
   have hr5 : setS l nm ix gn = ([], 9) := by simp [setS, hr, hr2, hr4]
   refine xU ?_
   iterate 2 refine xO ?_
   refine xE [6,7] fun _ => ?_
   refine W_ret ?_
   refine xR (by simp [Tryz.f220]; exact .mk) ?_
   simp [Tryz.f220, hr5, ownR, List.map_set]
 intro h29
 have hr4 : 0 ≤ slotS l nm := by unfold slotS; split <;> (simp at h29; omega)
 obtain ⟨k, hk, hkl⟩ := slotS_nat hl hr hr4
 have hk0 : ¬ ((k : Int) < 0) := by omega
 have hr5 : setS l nm ix gn = (l.set k ⟨nm, ix, gn⟩, 0) := by simp [setS, hr, hr2, hk, hk0]
 simp only [slotS, hr3, if_true, if_false] at hk
 refine W_skip ?_
 refine xT ?_
 iterate 4 refine xO ?_
 refine xO ?_ (h := by simp [splice]; exact .mk)
 refine run_call0 rfl rfl rfl rfl (by simp; exact .mk) (by simp; exact .mk) (by have := ct243 g l k ⟨nm, ix, gn⟩ hl.h1 hkl; rw [← hk] at this; exact this) (by simp) (by simp; exact .mk) ?_
 iterate 2 refine xO ?_
 refine xE [6,7] fun _ => ?_
 refine W_ret ?_
 refine xR (by simp [Tryz.f220]; exact .mk) ?_
 simp [Tryz.f220, hr5, ownR, List.map_set]

open Go.Awp
theorem in78 (g : Gl) (o0 o1 o2 : Awp.Obj) (l : List (List UInt8)) (hl : l.length ≤ 2^40) : ∀ B S, CallsA Tryz.prog g B S ⟨3, true⟩ 78 [.d (rBB l)] [o0, o1, o2]
    (fun x r => x = .hdr 4 0 l.length ∧ r = [o0, o1, o2, .dead, .row 1 (l.map rB)]) := by
 refine callsA_at Tryz.func78 rfl (Nat.le_of_ble_eq_true rfl) fun B S => ?_
 refine xU ?_
 refine xO ?_
 refine xE [0] fun _ => ?_
 refine W_seq ?_
 refine W_seq ?_
 refine W_region rfl (WR_cut (hard := []) [0] [1] ?_)
 refine xO ?_
 refine xE [0,3] ?_
 refine WR_nilcmp rfl rfl rfl (.inl rfl) rfl ⟨_, Tryz.underlying26⟩ (by simp; rfl) ?_
 intro nb hnb
 refine WR_run (hard := []) ?_
 refine xE [0,4] fun _ => ?_
 refine W_cond rfl ?_ ?_
 · intro h4
   have hl0 : l = [] := List.eq_nil_of_length_eq_zero (hnb (by simpa using h4))
   subst hl0
   refine xU ?_
   refine xO ?_
   refine xE [2] ?_
   refine then_weak Weak.pad ?_
   refine then_weak (s2 := slots [(2, .hdr 4 0 0), (2, .d (.v (.slice none 0 0)))]) (objs2 := [o0, o1, o2, .dead, .row 1 []]) (Weak.nilRow 2 1 rfl) ?_
   rintro -
   refine W_ret ?_
   refine endAt_ret (by simp [Tryz.f78]; exact .mk) ?_ ?_
   · simp
   simp
 intro h4
 refine W_skip ?_
 rintro -
 refine W_seq ?_
 have e1 : l.length * 24 ≤ 140737488355328 := by omega
 have e2 : l.length ≤ 140737488355328 := by omega
 refine W_reg rfl ?_
 iterate 2 refine xO ?_
 refine xO ?_ (h := by simp [rows, e1, e2]; exact .mk)
 refine xO ?_
 refine xE [2] fun _ => ?_
 refine W_ret ?_
 refine endAt_ret (by simp [Tryz.f78]; exact .mk) ?_ ?_
 · simp
 simp

open Go.Awp
@[simp] theorem eqOk23 : eqOk Tryz.prog 23 = true := by kernel_rfl
def sameShape (a b : Shape) : Bool := a.pages == b.pages && (a.slots == b.slots && (a.roots == b.roots && a.room == b.room))
def sameSlot (a b : Slot) : Bool := a.gen == b.gen && (a.live == b.live && (a.two == b.two && (a.at_ == b.at_ && a.len == b.len)))
def sameB (x y : List (List UInt8)) : Bool := sameL (fun x y => (str x).toList == (str y).toList) x y
def sameStt (a b : Stt) : Bool := sameShape a.sh b.sh && (a.mode == b.mode && (a.base == b.base && (sameL sameSlot a.slots b.slots && (sameL sameRoot a.roots b.roots && sameB a.data b.data))))

theorem sameStt_refl (a : Stt) : sameStt a a = true := by
 simp only [sameStt, sameB, sameShape]
 rw [sameL_refl (fun s => by simp [sameSlot]), sameL_refl (fun s => by simp [sameRoot]), sameL_refl (fun s => by simp)]
 simp
def okMode (mode : Int) : Bool := decide (mode = 1 ∨ mode = 2)
def newR (sh : Shape) (mode : Int) : Stt × Int := if shapeS sh && okMode mode then (firstStt sh mode, 0) else (zStt, 1)
set_option maxRecDepth 4000
open Go.Awp
theorem ct98 (g : Gl) (x y : List Slot) (hx : x.length ≤ 2^40) : CtAt Tryz.prog g 98 [rSl x, rSl y] (.v (.bool (sameL sameSlot x y))) := by
 refine ctAt_of_W Tryz.func98 rfl rfl (Nat.le_of_ble_eq_true rfl) fun B S => ?_
 refine xU ?_
 refine xO ?_
 refine xE [0,1] fun _ => ?_
 refine W_seq ?_
 refine xU ?_
 iterate 5 refine xO ?_
 refine xE [0,1,10] fun _ => ?_
 refine W_cond rfl ?_ ?_
 · intro h10
   have hr : sameL sameSlot x y = false := sameL_len (by simp at h10; omega)
   refine xU ?_
   refine xO ?_
   refine xE [4] fun _ => ?_
   refine W_ret ?_
   refine xR (by simp [Tryz.f98]; exact .mk) ?_
   simp [Tryz.f98, hr]
 intro h10
 have hxy : x.length = y.length := by simp at h10; omega
 refine W_skip ?_
 rintro -
 refine W_seq ?_
 refine xU ?_
 iterate 3 refine xO ?_
 refine xE [0,1,12,13] fun _ => ?_
 refine W_block ?_
 refine W_rounds (fun m σ o => ∃ i : Nat, m = x.length - i ∧ i ≤ x.length ∧ (∀ j, j < i → sameSlot (nth x j) (nth y j) = true) ∧ σ = slots [(0, .d (rSl x)), (1, .d (rSl y)), (12, .d (vI x.length)), (13, .d (vI i))] ∧ o = []) x.length .refl ⟨0, by simp, by simp, by simp, rfl, rfl⟩ ?_
 rintro m σ o ⟨i, rfl, hi, hinv, rfl, rfl⟩ _
 refine xU ?_
 refine xO ?_
 refine xE [0,1,12,13,14] fun _ => ?_
 refine W_seq ?_
 refine W_cond rfl ?_ ?_
 · intro h14
   have h2 : i < x.length := by simpa using h14
   have h3 : i < y.length := by omega
   refine W_skip ?_
   rintro -
   refine W_seq ?_
   refine W_block ?_
   refine xU ?_
   iterate 2 refine xO ?_
   refine xE [0,1,5,12,13] fun _ => ?_
   refine W_seq ?_
   refine W_regD (by kernel_rfl) [] 4 [0,1,2,3,4,5,6,7,8] (by decide +kernel) ?_
   iterate 2 refine xO ?_
   refine xO ?_ (h := by simp [eSlot, *]; exact .mk)
   refine xO ?_ (h := by simp [eSlot]; exact .mk)
   iterate 2 refine xO ?_
   refine xO ?_ (h := by simp [eSlot, *]; exact .mk)
   refine xO ?_ (h := by simp [eSlot]; exact .mk)
   refine xO ?_
   refine xE [0,1,12,13,24] fun _ => ?_
   refine W_cond rfl ?_ ?_
   · intro h24
     have hr : sameL sameSlot x y = false := sameL_bad h2 (by simp [sameSlot] at h24 ⊢; grind)
     refine xU ?_
     refine xO ?_
     refine xE [4] fun _ => ?_
     refine W_ret ?_
     refine xR (by simp [Tryz.f98]; exact .mk) ?_
     simp [Tryz.f98, hr]
   intro h24
   refine W_skip ?_
   rintro -
   refine W_reg rfl ?_
   iterate 2 refine xO ?_
   refine xE [0,1,12,13] ?_
   refine rounds_kill [0,1,12,13] ?_
   refine rounds_next (m' := x.length - (i+1)) (by omega) ⟨i+1, rfl, by omega, ?_, ?_, rfl⟩
   · intro j hj
     rcases Nat.lt_succ_iff_lt_or_eq.1 hj with hj | rfl
     · exact hinv j hj
     simp [sameSlot] at h24 ⊢; grind
   rw [wrap64 (by omega) (by omega)]; rfl
 intro h14
 have hr : sameL sameSlot x y = true := sameL_good hxy (fun j hj => hinv j (by simp at h14; omega))
 refine W_exit ?_
 refine xT ?_
 refine xO ?_
 refine xE [4] fun _ => ?_
 refine W_ret ?_
 refine xR (by simp [Tryz.f98]; exact .mk) ?_
 simp [Tryz.f98, hr]

theorem ct76 (g : Gl) (l : List Slot) (hl : l.length ≤ 2^40) : CtAt Tryz.prog g 76 [rSl l] (oSl l) := by
 refine ctAt_of_W Tryz.func76 rfl rfl (Nat.le_of_ble_eq_true rfl) fun B S => ?_
 refine xU ?_
 refine xO ?_
 refine xE [0] fun _ => ?_
 refine W_seq ?_
 refine W_seq ?_
 refine W_region rfl (WR_cut (hard := []) [0] [1] ?_)
 refine xO ?_
 refine xE [0,3] ?_
 refine WR_nilcmp rfl rfl rfl (.inl rfl) rfl ⟨_, Tryz.underlying24⟩ (by simp; rfl) ?_
 intro nb hnb
 refine WR_run (hard := []) ?_
 refine xE [0,4] fun _ => ?_
 refine W_cond rfl ?_ ?_
 · intro h4
   have hl0 : l = [] := List.eq_nil_of_length_eq_zero (hnb (by simpa using h4))
   subst hl0
   refine xU ?_
   refine xO ?_
   refine xE [2] fun _ => ?_
   refine W_ret ?_
   refine xR (by simp [Tryz.f76]; exact .mk) ?_
   simp [Tryz.f76, ownR]
 intro h4
 refine W_skip ?_
 rintro -
 refine W_seq ?_
 have e1 : l.length * 32 ≤ 140737488355328 := by omega
 have e2 : l.length ≤ 140737488355328 := by omega
 refine W_reg rfl ?_
 iterate 2 refine xO ?_
 refine xO ?_ (h := by simp [rows, e1, e2]; exact .mk)
 refine xO ?_
 refine xE [2] fun _ => ?_
 refine W_ret ?_
 refine xR (by simp [Tryz.f76]; exact .mk) ?_
 simp [Tryz.f76, ownR]

theorem in78q (g : Gl) (o0 o1 o2 o3 : Awp.Obj) (l : List (List UInt8)) (hl : l.length ≤ 2^40) : ∀ B S, CallsA Tryz.prog g B S ⟨4, true⟩ 78 [.d (rBB l)] [o0, o1, o2, o3]
    (fun x r => x = .hdr 5 0 l.length ∧ r = [o0, o1, o2, o3, .dead, .row 1 (l.map rB)]) := by
 refine callsA_at Tryz.func78 rfl (Nat.le_of_ble_eq_true rfl) fun B S => ?_
 refine xU ?_
 refine xO ?_
 refine xE [0] fun _ => ?_
 refine W_seq ?_
 refine W_seq ?_
 refine W_region rfl (WR_cut (hard := []) [0] [1] ?_)
 refine xO ?_
 refine xE [0,3] ?_
 refine WR_nilcmp rfl rfl rfl (.inl rfl) rfl ⟨_, Tryz.underlying26⟩ (by simp; rfl) ?_
 intro nb hnb
 refine WR_run (hard := []) ?_
 refine xE [0,4] fun _ => ?_
 refine W_cond rfl ?_ ?_
 · intro h4
   have hl0 : l = [] := List.eq_nil_of_length_eq_zero (hnb (by simpa using h4))
   subst hl0
   refine xU ?_
   refine xO ?_
   refine xE [2] ?_
   refine then_weak Weak.pad ?_
   refine then_weak (s2 := slots [(2, .hdr 5 0 0), (2, .d (.v (.slice none 0 0)))]) (objs2 := [o0, o1, o2, o3, .dead, .row 1 []]) (Weak.nilRow 2 1 rfl) ?_
   rintro -
   refine W_ret ?_
   refine endAt_ret (by simp [Tryz.f78]; exact .mk) ?_ ?_
   · simp
   simp
 intro h4
 refine W_skip ?_
 rintro -
 refine W_seq ?_
 have e1 : l.length * 24 ≤ 140737488355328 := by omega
 have e2 : l.length ≤ 140737488355328 := by omega
 refine W_reg rfl ?_
 iterate 2 refine xO ?_
 refine xO ?_ (h := by simp [rows, e1, e2]; exact .mk)
 refine xO ?_
 refine xE [2] fun _ => ?_
 refine W_ret ?_
 refine endAt_ret (by simp [Tryz.f78]; exact .mk) ?_ ?_
 · simp
 simp

theorem ct34 (g : Gl) (s t : Stt) (hs : s.Ok) : CtAt Tryz.prog g 34 [eStt s, eStt t] (.v (.bool (sameStt s t))) := by
 refine ctAt_of_W Tryz.func34 rfl rfl (Nat.le_of_ble_eq_true rfl) fun B S => ?_
 simp only [eStt, List.map, argD_agg]
 refine xU ?_
 iterate 3 refine xO ?_
 refine xE [2,3] ?_
 refine xT ?_
 iterate 6 refine xO ?_
 iterate 5 refine xI ?_
 refine xP ?_
 refine xB ?_
 iterate 5 refine xI ?_
 refine xP ?_
 refine xB ?_
 refine xE [2,3,5] ?_
 refine xT ?_
 iterate 2 refine xO ?_
 iterate 4 refine xI ?_
 refine run_call rfl (by simp; exact .mk) rfl rfl (by simp) (by simp; exact .mk) (by simp; exact .mk) (fun hb => ct98 g _ _ hs.h1) (by simp) (by simp; exact .mk) (by simp) ?_
 refine xP ?_
 refine xB ?_
 iterate 4 refine xI ?_
 refine run_call rfl (by simp; exact .mk) rfl rfl (by simp) (by simp; exact .mk) (by simp; exact .mk) (fun hb => ct99 g _ _ hs.h2) (by simp) (by simp; exact .mk) (by simp) ?_
 refine xP ?_
 refine xB ?_
 iterate 4 refine xI ?_
 refine run_inlG rfl (by simp; exact .mk) rfl rfl (by simp) (by simp; exact .mk) ⟨_, Tryz.func100, rfl, rfl⟩ (fun hb => in100 g _ _ _ hs.h3) ?_
 refine xP ?_
 refine xB ?_
 refine xE [4] fun _ => ?_
 refine W_ret ?_
 refine xR (by simp [Tryz.f34]; exact .mk) ?_
 simp [Tryz.f34, sameShape, sameStt, sameB, Bool.and_assoc]

theorem ct24 (g : Gl) (s : Stt) (hs : s.Ok) : CtAt Tryz.prog g 24 [eStt s] (oStt s) := by
 refine ctAt_of_W Tryz.func24 rfl rfl (Nat.le_of_ble_eq_true rfl) fun B S => ?_
 simp only [eStt, List.map, argD_agg]
 refine xU ?_
 iterate 2 refine xO ?_
 refine xE [1,2] fun _ => ?_
 refine W_seq ?_
 refine W_regD (by kernel_rfl) [] 4 [0,1,3,4,6,7,2,9,5,8,10,11,12,13,14] (by decide +kernel) ?_
 iterate 6 refine xO ?_
 refine xC (ct76 g _ hs.h1) ?_
 refine xO ?_
 refine xC (ct77 g _ hs.h2) ?_
 refine run_inl0 rfl rfl rfl rfl (by simp; exact .mk) ⟨_, Tryz.func78, rfl, rfl⟩ (in78q g _ _ _ _ s.data hs.h3) (.inr ⟨_, rfl⟩) ?_
 refine xO ?_ (h := by simp [splice]; exact .mk)
 refine xO ?_
 refine xO ?_ (h := by simp [splice]; exact .mk)
 refine xO ?_
 refine xO ?_ (h := by simp [splice]; exact .mk)
 refine xE [1,2] fun _ => ?_
 refine W_seq ?_
 refine xU ?_
 iterate 4 refine xO ?_
 refine xE [1,2,18,19] fun _ => ?_
 refine W_block ?_
 refine W_rounds (fun m σ r => ∃ i : Nat, m = s.data.length - i ∧ i ≤ s.data.length ∧ σ = slots [(1, .ptr 0 0 0), (2, .ptr 1 0 0), (18, .d (vI s.data.length)), (19, .d (vI i))] ∧ r = [.var 28 [.d (vI s.sh.pages), .d (vI s.sh.slots), .d (vI s.sh.roots), .d (vI s.sh.room), .d (vI s.mode), .d (vI s.base), .hdr 2 0 s.slots.length, .hdr 3 0 s.roots.length, .hdr 5 0 s.data.length], .var 28 [.d (vI 0), .d (vI 0), .d (vI 0), .d (vI 0), .d (vI 0), .d (vI 0), .d (.v (.slice none 0 0)), .d (.v (.slice none 0 0)), .d (.v (.slice none 0 0))], .row 5 (s.slots.map eSlot), .row 3 (s.roots.map eRoot), .dead, .row 1 (mixB i s.data)]) s.data.length .refl ⟨0, by simp, by simp, rfl, by rw [mixB_zero]⟩ ?_
 have q2 := hs.h3
 rintro m σ r ⟨i, rfl, hi, rfl, rfl⟩ _
 refine xU ?_
 refine xO ?_
 refine xE [1,2,18,19,20] fun _ => ?_
 refine W_seq ?_
 refine W_cond rfl ?_ ?_
 · intro h20
   have hi2 : i < s.data.length := by simpa using h20
   refine W_skip ?_
   rintro -
   refine W_seq ?_
   refine W_block ?_
   refine xU ?_
   iterate 2 refine xO ?_
   refine xE [1,2,3,18,19] fun _ => ?_
   refine W_regD (by kernel_rfl) [] 4 [0,1,2,3,4,5,6,7,8,9,10] (by decide +kernel) ?_
   iterate 6 refine xO ?_
   refine xO ?_ (h := by simp [hi2]; exact .mk)
   refine xO ?_ (h := by simp [-List.getElem?_map, mixB_get hi2]; exact .mk)
   refine xC (ct79 g _ (hs.h4 i hi2)) ?_
   refine xO ?_ (h := by simp [hi2]; exact .mk)
   refine xO ?_ (h := by simp [splice, -List.getElem?_map, mixB_get hi2, nrmL, nrm, putC]; exact .mk)
   refine xE [1,2,18,19] fun _ => ?_
   refine W_reg rfl ?_
   iterate 2 refine xO ?_
   refine xE [1,2,18,19] ?_
   refine rounds_drop 6 [1,2,18,19] (by simp) (by simp [boxA, AV.cells, AV.isCell]) (by simp [boxA, AV.cells, AV.isCell]) ?_
   refine rounds_next (m' := s.data.length - (i+1)) (by omega) ⟨i+1, rfl, by omega, ?_, ?_⟩
   · rw [wrap64 (by omega) (by omega)]; rfl
   rw [← mixB_set hi2]; simp; rfl
 intro h20
 obtain rfl : i = s.data.length := by simp at h20; omega
 rw [mixB_all]
 refine W_exit ?_
 refine xT ?_
 refine xO ?_
 refine xO ?_ (h := by simp [splice]; exact .mk)
 refine xE [2] fun _ => ?_
 refine W_ret ?_
 refine end_ret (by simp [Tryz.f24]; exact .mk) (by simp; exact .mk) ?_ (by simp [oStt])
 simp [Tryz.f24, oStt, ownR]

open Go.Awp
def liveT (l : List Slot) (k : Int) : Bool := decide (0 ≤ k) && (decide (k < l.length) && (nth l k.toNat).live)
def liveS (s : Stt) (k : Int) : Bool := sttS s && liveT s.slots k
def goneS (x : Slot) : Slot := ⟨if 65535 < x.gen + 1 then 65535 else x.gen + 1, false, false, 0, 0⟩
def freeT (l : List Slot) (k : Int) : List Slot × Int := if tableS l = true ∧ liveT l k = true then (l.set k.toNat (goneS (nth l k.toNat)), 0) else ([], 1)
def atS (x : Slot) (two : Bool) (at_ : Int) : Slot := { x with two := two, at_ := at_ }
def layAt (s : Stt) (k : Nat) (two : Bool) (at_ : Int) : Stt := { s with slots := s.slots.set k (atS (nth s.slots k) two at_) }
theorem liveT_nat {l : List Slot} {k : Int} (h : liveT l k = true) : ∃ n : Nat, k = n ∧ n < l.length ∧ (nth l n).live = true := by
 simp only [liveT, Bool.and_eq_true, decide_eq_true_eq] at h
 obtain ⟨h1, h2, h3⟩ := h
 exact ⟨k.toNat, by omega, by omega, h3⟩
theorem rowsS_len {s : Stt} (h : rowsS s = true) : s.data.length = s.slots.length := by
 simp only [rowsS, Bool.and_eq_true, decide_eq_true_eq] at h; exact h.1.2.2
theorem sttS_rowsS {s : Stt} (h : sttS s = true) : rowsS s = true := (sttS_iff.1 h).2.1
theorem liveS_nat {s : Stt} {k : Int} (h : liveS s k = true) : ∃ n : Nat, k = n ∧ n < s.slots.length ∧ (nth s.slots n).live = true ∧ n < s.data.length ∧ ∀ i, i < s.slots.length → -2^40 ≤ (nth s.slots i).gen ∧ (nth s.slots i).gen ≤ 2^40 := by
 simp only [liveS, Bool.and_eq_true] at h
 obtain ⟨n, h1, h2, h3⟩ := liveT_nat h.2
 have hr := sttS_rowsS h.1
 refine ⟨n, h1, h2, h3, by rw [rowsS_len hr]; exact h2, fun i hi => ?_⟩
 have := tableS_slot (rowsS_t hr) i hi
 unfold slotS1 at this
 split at this
 · cases this
 · omega
theorem liveS_free {s : Stt} {n : Nat} (h : liveS s n = true) : freeT s.slots n = (s.slots.set n (goneS (nth s.slots n)), 0) := by
 simp only [liveS, Bool.and_eq_true] at h
 unfold freeT
 rw [if_pos ⟨rowsS_t (sttS_rowsS h.1), h.2⟩]; rfl
def takeAt (s : Stt) (n : Nat) : Stt := { s with slots := s.slots.set n (goneS (nth s.slots n)), data := s.data.set n [] }
def takeS (s : Stt) (k : Int) : Stt × Int := if liveS s k = true then (takeAt s k.toNat, 0) else (zStt, 1)
def moveS (s : Stt) (k : Int) (two : Bool) (at_ : Int) : Stt × Int := if liveS s k = true then (if sttS (layAt s k.toNat two at_) = true then (layAt s k.toNat two at_, 0) else (zStt, 10)) else (zStt, 1)
theorem layAt_ok {s : Stt} {n : Nat} {two : Bool} {at_ : Int} (h : s.Ok) : (layAt s n two at_).Ok := ⟨by simpa [layAt] using h.h1, h.h2, h.h3, h.h4, h.h5⟩
def tookS (x : Slot) (gen : Int) : Slot := { x with live := true, gen := gen }
def takeT (l : List Slot) (x : Slot) : List Slot × (Int × Int) × Int := if tableS l = true then (match nextS l with
  | none => ([], (0, 0), 9)
  | some k => if slotS1 (tookS x (nth l k).gen) = true then (l.set k (tookS x (nth l k).gen), ((k : Int), (nth l k).gen), 0) else ([], (0, 0), 1)) else ([], (0, 0), 1)
open Go.Awp
theorem ct111 (g : Gl) (s : Stt) (hs : s.Ok) (k : Int) : CtAt Tryz.prog g 111 [eStt s, vI k] (.v (.bool (liveS s k))) := by
 refine ctAt_of_W Tryz.func111 rfl rfl (Nat.le_of_ble_eq_true rfl) fun B S => ?_
 simp only [eStt, List.map, argD_agg, argD_v]
 refine xU ?_
 iterate 2 refine xO ?_
 refine xE [1,2] ?_
 refine xT ?_
 refine xO ?_ (h := by simp [eSlot]; exact .mk)
 refine xC (ct32 g s hs) ?_
 refine xO ?_
 iterate 2 refine xI ?_
 refine xP ?_
 refine xB ?_
 iterate 2 refine xI ?_
 refine run_if rfl (by simp; exact .mk) rfl (by simp <;> first | omega | grind) (fun hb => by simp [eSlot]; exact .mk) ?_
 iterate 2 refine xI ?_
 refine xP ?_
 refine xB ?_
 refine xI ?_
 refine run_if rfl (by simp; exact .mk) rfl (by simp <;> first | omega | grind) (fun hb => by simp [eSlot]; exact .mk) ?_
 refine xI ?_
 refine run_if rfl (by simp; exact .mk) rfl (by simp <;> first | omega | grind) (fun hb => by simp at hb; simp [show 0 ≤ k ∧ k < s.slots.length from by omega]; exact .mk) ?_
 refine xI ?_
 refine run_if rfl (by simp; exact .mk) rfl (by simp <;> first | omega | grind) (fun hb => by simp [eSlot]; exact .mk) ?_
 refine xP ?_
 refine xB ?_
 refine xE [4] fun _ => ?_
 refine W_ret ?_
 refine xR (by simp [Tryz.f111]; exact .mk) ?_
 simp [Tryz.f111, liveS, liveT, Bool.and_assoc]

theorem ct112 (g : Gl) (l : List Slot) (hl : l.length ≤ 2^40) (k : Int) (hg : ∀ i, i < l.length → -2^40 ≤ (nth l i).gen ∧ (nth l i).gen ≤ 2^40) : CtAt Tryz.prog g 112 [rSl l, vI k] (.tup [oSl (freeT l k).1, vI (freeT l k).2]) := by
 refine ctAt_of_W Tryz.func112 rfl rfl (Nat.le_of_ble_eq_true rfl) fun B S => ?_
 refine xU ?_
 iterate 2 refine xO ?_
 refine xE [0,1] fun _ => ?_
 refine W_seq ?_
 refine xU ?_
 refine xO ?_
 refine xC (ct139 g l hl) ?_
 iterate 2 refine xO ?_
 iterate 2 refine xI ?_
 refine xP ?_
 refine xB ?_
 iterate 4 refine xI ?_
 refine xP ?_
 refine xB ?_
 iterate 2 refine xI ?_
 refine run_if rfl (by simp; exact .mk) rfl (by simp <;> first | omega | grind) (fun hb => by simp at hb; simp [show 0 ≤ k ∧ k < l.length from by omega]; exact .mk) ?_
 refine xI ?_
 refine run_if rfl (by simp; exact .mk) rfl (by simp <;> first | omega | grind) (fun hb => by simp [eSlot]; exact .mk) ?_
 refine xI ?_
 refine xP ?_
 refine xE [0,1,27] fun _ => ?_
 refine W_cond rfl ?_ ?_
 · intro h27
   have hr : freeT l k = ([], 1) := by unfold freeT; rw [if_neg]; intro h; simp [liveT] at h h27; grind
   refine xU ?_
   iterate 2 refine xO ?_
   refine xE [4,5] fun _ => ?_
   refine W_ret ?_
   refine xR (by simp [Tryz.f112]; exact .mk) ?_
   simp [Tryz.f112, hr, ownR]
 intro h27
 have hlv : tableS l = true ∧ liveT l k = true := by simp [liveT] at h27 ⊢; grind
 obtain ⟨n, rfl, hn, hnl⟩ := liveT_nat hlv.2
 have hr : freeT l n = (l.set n (goneS (nth l n)), 0) := by unfold freeT; rw [if_pos hlv]; rfl
 obtain ⟨g1, g2⟩ := hg n hn
 have e1 : IntKind.i64.wrap ((nth l n).gen + 1) = (nth l n).gen + 1 := wrap64 (by omega) (by omega)
 refine W_skip ?_
 refine xT ?_
 iterate 2 refine xO ?_
 refine xO ?_ (h := by simp [eSlot, hn]; exact .mk)
 refine xO ?_
 refine xO ?_ (h := by simp [eSlot]; exact .mk)
 refine xO ?_ (h := by simp [e1]; exact .mk)
 iterate 2 refine xO ?_
 refine xE [0,1,6] ?_
 refine xT ?_
 iterate 3 refine xO ?_
 refine xO ?_ (h := by simp [splice]; exact .mk)
 refine run_call0 rfl rfl rfl rfl (by simp; exact .mk) (by simp; exact .mk) (by have := ct162 g l n (goneS (nth l n)) hl hn; exact this) (by simp) (by simp; exact .mk) ?_
 iterate 2 refine xO ?_
 refine xE [4,5] fun _ => ?_
 refine W_ret ?_
 refine xR (by simp [Tryz.f112]; exact .mk) ?_
 simp [Tryz.f112, hr, ownR]

theorem ct113 (g : Gl) (s : Stt) (hs : s.Ok) (k : Nat) (two : Bool) (at_ : Int) (hk : k < s.slots.length) : CtAt Tryz.prog g 113 [eStt s, vI k, vT two, vI at_] (oStt (layAt s k two at_)) := by
 refine ctAt_of_W Tryz.func113 rfl rfl (Nat.le_of_ble_eq_true rfl) fun B S => ?_
 simp only [eStt, List.map, argD_agg, argD_v]
 refine xU ?_
 iterate 2 refine xO ?_
 refine xE [1,2,3,4,8] ?_
 refine xT ?_
 refine xO ?_ (h := by simp [eSlot]; exact .mk)
 refine xC (ct24 g s hs) ?_ (hi := by simp [oStt]; exact .mk)
 refine xO ?_
 refine xO ?_ (h := by simp [splice]; exact .mk)
 refine xE [1,2,3,8,9] fun _ => ?_
 refine W_seq ?_
 refine W_regD2 (hard := []) 4 10 (keepOk_lt (by decide)) (by kernel_rfl) 4 [0,1,2,3,4,5,6,7,8,9,10,11,12,13] [0,1,2,3,5,6,7,8,9,10,4,11,12,13] (by decide +kernel) (by decide +kernel) ?_ ?_
 · skip
   refine xO ?_
   refine xO ?_ (h := by simp [eSlot]; exact .mk)
   iterate 2 refine xO ?_
   refine xO ?_ (h := by simp [eSlot]; exact .mk)
   iterate 3 refine xO ?_
   refine xO ?_ (h := by simp [eSlot, hk]; exact .mk)
   refine xO ?_
   refine xO ?_ (h := by simp [splice, hk, nrmL, nrm, putC, eSlot, splice]; exact .mk)
   refine xO ?_ (h := by simp [eSlot, hk]; exact .mk)
   refine xO ?_
   refine xO ?_ (h := by simp [splice, hk, nrmL, nrm, putC, eSlot, splice]; exact .mk)
   refine xE [8,9] ?_
   refine xT ?_
   refine xO ?_ (h := by simp [eSlot]; exact .mk)
   refine xO ?_ (h := by simp [splice]; exact .mk)
   refine xE [8] fun _ => ?_
   refine W_ret ?_
   refine end_ret (by simp [Tryz.f113]; exact .mk) (by simp; exact .mk) ?_ (by simp [oStt])
   simp [Tryz.f113, oStt, ownR, layAt, List.map_set]
   rw [nth_eq hk]; rfl
 skip
 refine xO ?_
 refine xO ?_ (h := by simp [eSlot]; exact .mk)
 iterate 5 refine xO ?_
 refine xO ?_ (h := by simp [eSlot, hk]; exact .mk)
 refine xO ?_
 refine xO ?_ (h := by simp [splice, hk, nrmL, nrm, putC, eSlot, splice]; exact .mk)
 refine xO ?_ (h := by simp [eSlot]; exact .mk)
 refine xO ?_ (h := by simp [eSlot, hk]; exact .mk)
 refine xO ?_
 refine xO ?_ (h := by simp [splice, hk, nrmL, nrm, putC, eSlot, splice]; exact .mk)
 refine xE [8,9] ?_
 refine xT ?_
 refine xO ?_ (h := by simp [eSlot]; exact .mk)
 refine xO ?_ (h := by simp [splice]; exact .mk)
 refine xE [8] fun _ => ?_
 refine W_ret ?_
 refine end_ret (by simp [Tryz.f113]; exact .mk) (by simp; exact .mk) ?_ (by simp [oStt])
 simp [Tryz.f113, oStt, ownR, layAt, List.map_set]
 rw [nth_eq hk]; rfl

theorem ct43 (g : Gl) (s : Stt) (hs : s.Ok) (k : Int) : CtAt Tryz.prog g 43 [eStt s, vI k] (.tup [oStt (takeS s k).1, vI (takeS s k).2]) := by
 refine ctAt_of_W Tryz.func43 rfl rfl (Nat.le_of_ble_eq_true rfl) fun B S => ?_
 simp only [eStt, List.map, argD_agg, argD_v]
 refine xU ?_
 iterate 3 refine xO ?_
 refine xE [1,2,4] fun _ => ?_
 refine W_seq ?_
 refine xU ?_
 refine xO ?_ (h := by simp [eSlot]; exact .mk)
 refine xO ?_
 refine xC (ct111 g s hs k) ?_ (hi := by simp [oStt]; exact .mk)
 refine xO ?_
 refine xE [1,2,4,10] fun _ => ?_
 refine W_cond rfl ?_ ?_
 · intro h10
   have hr : takeS s k = (zStt, 1) := by unfold takeS; rw [if_neg (by simpa using h10)]
   refine xU ?_
   iterate 2 (refine xO ?_ (h := by simp [splice]; exact .mk))
   refine xO ?_
   refine xE [4,5] fun _ => ?_
   refine W_ret ?_
   refine end_ret (by simp [Tryz.f43]; exact .mk) (by simp; exact .mk) ?_ (by simp [oStt])
   simp [Tryz.f43, hr, oStt, zStt, ownR, takeAt, List.map_set]
   try exact ⟨rfl, rfl⟩
 intro h10
 have hlv : liveS s k = true := by simpa using h10
 obtain ⟨n, rfl, hn, hnl, hnd, hg⟩ := liveS_nat hlv
 have hr : takeS s n = (takeAt s n, 0) := by unfold takeS; rw [if_pos hlv]; rfl
 have hf : freeT s.slots n = (s.slots.set n (goneS (nth s.slots n)), 0) := liveS_free hlv
 refine W_skip ?_
 refine xT ?_
 refine xO ?_ (h := by simp [eSlot]; exact .mk)
 refine xC (ct24 g s hs) ?_ (hi := by simp [oStt]; exact .mk)
 refine xO ?_
 refine xO ?_ (h := by simp [splice]; exact .mk)
 refine xE [1,2,4,6] ?_
 refine xT ?_
 refine xO ?_
 refine xO ?_ (h := by simp [eSlot]; exact .mk)
 refine xO ?_
 refine run_call0 rfl rfl rfl rfl (by simp; exact .mk) (by simp; exact .mk) (by have := ct112 g s.slots hs.h1 n hg; rw [hf] at this; exact this) (by simp) (by simp [oStt]; exact .mk) ?_
 iterate 4 refine xO ?_
 refine xO ?_ (h := by simp [splice]; exact .mk)
 refine xE [1,4,6] ?_
 refine xT ?_
 refine xO ?_
 refine xO ?_ (h := by simp [eSlot]; exact .mk)
 refine xO ?_
 refine xO ?_ (h := by simp [eSlot, hnd]; exact .mk)
 refine xO ?_ (h := by simp [splice, hnd, nrmL, nrm, putC]; exact .mk)
 refine xE [4,6] ?_
 refine xT ?_
 refine xO ?_ (h := by simp [eSlot]; exact .mk)
 refine xO ?_ (h := by simp [splice]; exact .mk)
 refine xO ?_
 refine xE [4,5] fun _ => ?_
 refine W_ret ?_
 refine end_ret (by simp [Tryz.f43]; exact .mk) (by simp; exact .mk) ?_ (by simp [oStt])
 simp [Tryz.f43, hr, oStt, zStt, ownR, takeAt, List.map_set]
 try exact ⟨rfl, rfl⟩

open Go.Awp
theorem ct110 (g : Gl) (l : List Slot) (hl : l.length ≤ 2^40) (x : Slot) : CtAt Tryz.prog g 110 [rSl l, eSlot x] (.tup [oSl (takeT l x).1, .agg [vI (takeT l x).2.1.1, vI (takeT l x).2.1.2], vI (takeT l x).2.2]) := by
 refine ctAt_of_W Tryz.func110 rfl rfl (Nat.le_of_ble_eq_true rfl) fun B S => ?_
 simp only [eSlot, List.map, argD_agg]
 refine xU ?_
 iterate 4 refine xO ?_
 refine xE [0,3,5] fun _ => ?_
 refine W_seq ?_
 refine xU ?_
 refine xO ?_
 refine xC (ct139 g l hl) ?_
 refine xO ?_
 refine xE [0,3,5,11] fun _ => ?_
 refine W_cond rfl ?_ ?_
 · intro h11
   have hr : takeT l x = ([], (0, 0), 1) := by unfold takeT; rw [if_neg (by simpa using h11)]
   refine xU ?_
   refine xO ?_ (h := by simp [splice]; exact .mk)
   refine xO ?_
   refine xO ?_ (h := by simp [splice]; exact .mk)
   refine xO ?_
   refine xE [4,5,6] fun _ => ?_
   refine W_ret ?_
   refine xR (by simp [Tryz.f110]; exact .mk) ?_
   first | (simp [Tryz.f110, hr, ownR, List.map_set]; done) | simp [Tryz.f110, hr, ownR, List.map_set, hk]
 intro h11
 have ht : tableS l = true := by simpa using h11
 refine W_skip ?_
 refine xT ?_
 refine xO ?_
 refine xC (ct109 g l hl) ?_
 iterate 5 refine xO ?_
 refine xE [0,3,5,7,8] fun _ => ?_
 refine W_seq ?_
 refine xU ?_
 iterate 2 refine xO ?_
 refine xE [0,3,5,7,19] fun _ => ?_
 refine W_cond rfl ?_ ?_
 · intro h19
   have hn : nextS l = none := by simpa using h19
   have hr : takeT l x = ([], (0, 0), 9) := by unfold takeT; rw [if_pos ht, hn]
   refine xU ?_
   refine xO ?_ (h := by simp [splice]; exact .mk)
   refine xO ?_
   refine xO ?_ (h := by simp [splice]; exact .mk)
   refine xO ?_
   refine xE [4,5,6] fun _ => ?_
   refine W_ret ?_
   refine xR (by simp [Tryz.f110]; exact .mk) ?_
   first | (simp [Tryz.f110, hr, ownR, List.map_set]; done) | simp [Tryz.f110, hr, ownR, List.map_set, hk]
 intro h19
 obtain ⟨k, hk⟩ : ∃ k, nextS l = some k := Option.isSome_iff_exists.1 (by simpa using h19)
 obtain ⟨hkl, _, _⟩ := nextS_spec hk
 have hkk : (((nextS l).getD 0 : Nat) : Int) = k := by rw [hk]; rfl
 refine W_skip ?_
 rintro -
 refine W_seq ?_
 refine W_regDT (hard := []) [2,3,4,6] (keepOk_lt (by decide)) (by kernel_rfl) 4 [[0,1,2,3,4,5,6,7,8], [0,1,2,3,5,6,4,7,8], [0,1,2,5,6,3,4,7,8], [0,1,5,6,2,3,4,7,8]] (by decide +kernel) ⟨?_, ?_, ?_, ?_, trivial⟩
 · skip
   iterate 2 refine xO ?_
   refine xO ?_ (h := by simp [eSlot, hk, hkl]; exact .mk)
   refine xO ?_
   refine xO ?_ (h := by simp [eSlot]; exact .mk)
   refine xO ?_
   refine xO ?_ (h := by simp [splice, nrmL, nrm, putC, splice]; exact .mk)
   refine xO ?_
   refine xO ?_ (h := by simp [splice, nrmL, nrm, putC, splice]; exact .mk)
   refine xE [0,3,5,7] fun _ => ?_
   refine W_seq ?_
   refine xU ?_
   refine xO ?_ (h := by simp [eSlot]; exact .mk)
   refine run_call0 rfl rfl rfl rfl (by simp; exact .mk) (by simp; exact .mk) (by have := ct161 g (tookS x (nth l k).gen); exact this) (by simp) (by simp; exact .mk) ?_
   refine xO ?_
   refine xE [0,3,5,7,30] fun _ => ?_
   refine W_cond rfl ?_ ?_
   · intro h30
     have hr : takeT l x = ([], (0, 0), 1) := by unfold takeT; rw [if_pos ht, hk]; simp only; rw [if_neg (by simpa using h30)]
     refine xU ?_
     refine xO ?_ (h := by simp [splice]; exact .mk)
     refine xO ?_
     refine xO ?_ (h := by simp [splice]; exact .mk)
     refine xO ?_
     refine xE [4,5,6] fun _ => ?_
     refine W_ret ?_
     refine xR (by simp [Tryz.f110]; exact .mk) ?_
     first | (simp [Tryz.f110, hr, ownR, List.map_set]; done) | simp [Tryz.f110, hr, ownR, List.map_set, hk]
   intro h30
   have hr : takeT l x = (l.set k (tookS x (nth l k).gen), ((k : Int), (nth l k).gen), 0) := by unfold takeT; rw [if_pos ht, hk]; simp only; rw [if_pos (by simpa using h30)]
   refine W_skip ?_
   rintro -
   refine W_seq ?_
   refine W_regD (by kernel_rfl) [] 4 [0,1,2,4,5,6,7,3,8,9,10] (by decide +kernel) ?_
   iterate 2 refine xO ?_
   refine xO ?_ (h := by simp [eSlot]; exact .mk)
   iterate 2 refine xO ?_
   refine xO ?_ (h := by simp [eSlot]; exact .mk)
   refine xO ?_ (h := by simp [splice]; exact .mk)
   refine run_call0 rfl rfl rfl rfl (by simp; exact .mk) (by simp; exact .mk) (by have := ct162 g l k (tookS x (nth l k).gen) hl hkl; rw [← hkk] at this; exact this) (by simp) (by simp; exact .mk) ?_
   refine xO ?_
   refine xO ?_ (h := by simp [splice]; exact .mk)
   refine xO ?_
   refine xE [4,5,6] fun _ => ?_
   refine W_ret ?_
   refine xR (by simp [Tryz.f110]; exact .mk) ?_
   first | (simp [Tryz.f110, hr, ownR, List.map_set]; done) | simp [Tryz.f110, hr, ownR, List.map_set, hk]
 · skip
   iterate 2 refine xO ?_
   refine xO ?_ (h := by simp [eSlot, hk, hkl]; exact .mk)
   iterate 2 refine xO ?_
   refine xO ?_ (h := by simp [splice, nrmL, nrm, putC, splice]; exact .mk)
   refine xO ?_ (h := by simp [eSlot]; exact .mk)
   refine xO ?_
   refine xO ?_ (h := by simp [splice, nrmL, nrm, putC, splice]; exact .mk)
   refine xE [0,3,5,7] fun _ => ?_
   refine W_seq ?_
   refine xU ?_
   refine xO ?_ (h := by simp [eSlot]; exact .mk)
   refine run_call0 rfl rfl rfl rfl (by simp; exact .mk) (by simp; exact .mk) (by have := ct161 g (tookS x (nth l k).gen); exact this) (by simp) (by simp; exact .mk) ?_
   refine xO ?_
   refine xE [0,3,5,7,30] fun _ => ?_
   refine W_cond rfl ?_ ?_
   · intro h30
     have hr : takeT l x = ([], (0, 0), 1) := by unfold takeT; rw [if_pos ht, hk]; simp only; rw [if_neg (by simpa using h30)]
     refine xU ?_
     refine xO ?_ (h := by simp [splice]; exact .mk)
     refine xO ?_
     refine xO ?_ (h := by simp [splice]; exact .mk)
     refine xO ?_
     refine xE [4,5,6] fun _ => ?_
     refine W_ret ?_
     refine xR (by simp [Tryz.f110]; exact .mk) ?_
     first | (simp [Tryz.f110, hr, ownR, List.map_set]; done) | simp [Tryz.f110, hr, ownR, List.map_set, hk]
   intro h30
   have hr : takeT l x = (l.set k (tookS x (nth l k).gen), ((k : Int), (nth l k).gen), 0) := by unfold takeT; rw [if_pos ht, hk]; simp only; rw [if_pos (by simpa using h30)]
   refine W_skip ?_
   rintro -
   refine W_seq ?_
   refine W_regD (by kernel_rfl) [] 4 [0,1,2,4,5,6,7,3,8,9,10] (by decide +kernel) ?_
   iterate 2 refine xO ?_
   refine xO ?_ (h := by simp [eSlot]; exact .mk)
   iterate 2 refine xO ?_
   refine xO ?_ (h := by simp [eSlot]; exact .mk)
   refine xO ?_ (h := by simp [splice]; exact .mk)
   refine run_call0 rfl rfl rfl rfl (by simp; exact .mk) (by simp; exact .mk) (by have := ct162 g l k (tookS x (nth l k).gen) hl hkl; rw [← hkk] at this; exact this) (by simp) (by simp; exact .mk) ?_
   refine xO ?_
   refine xO ?_ (h := by simp [splice]; exact .mk)
   refine xO ?_
   refine xE [4,5,6] fun _ => ?_
   refine W_ret ?_
   refine xR (by simp [Tryz.f110]; exact .mk) ?_
   first | (simp [Tryz.f110, hr, ownR, List.map_set]; done) | simp [Tryz.f110, hr, ownR, List.map_set, hk]
 · skip
   iterate 2 refine xO ?_
   refine xO ?_ (h := by simp [eSlot, hk, hkl]; exact .mk)
   refine xO ?_
   refine xO ?_ (h := by simp [splice, nrmL, nrm, putC, splice]; exact .mk)
   refine xO ?_
   refine xO ?_ (h := by simp [eSlot]; exact .mk)
   refine xO ?_
   refine xO ?_ (h := by simp [splice, nrmL, nrm, putC, splice]; exact .mk)
   refine xE [0,3,5,7] fun _ => ?_
   refine W_seq ?_
   refine xU ?_
   refine xO ?_ (h := by simp [eSlot]; exact .mk)
   refine run_call0 rfl rfl rfl rfl (by simp; exact .mk) (by simp; exact .mk) (by have := ct161 g (tookS x (nth l k).gen); exact this) (by simp) (by simp; exact .mk) ?_
   refine xO ?_
   refine xE [0,3,5,7,30] fun _ => ?_
   refine W_cond rfl ?_ ?_
   · intro h30
     have hr : takeT l x = ([], (0, 0), 1) := by unfold takeT; rw [if_pos ht, hk]; simp only; rw [if_neg (by simpa using h30)]
     refine xU ?_
     refine xO ?_ (h := by simp [splice]; exact .mk)
     refine xO ?_
     refine xO ?_ (h := by simp [splice]; exact .mk)
     refine xO ?_
     refine xE [4,5,6] fun _ => ?_
     refine W_ret ?_
     refine xR (by simp [Tryz.f110]; exact .mk) ?_
     first | (simp [Tryz.f110, hr, ownR, List.map_set]; done) | simp [Tryz.f110, hr, ownR, List.map_set, hk]
   intro h30
   have hr : takeT l x = (l.set k (tookS x (nth l k).gen), ((k : Int), (nth l k).gen), 0) := by unfold takeT; rw [if_pos ht, hk]; simp only; rw [if_pos (by simpa using h30)]
   refine W_skip ?_
   rintro -
   refine W_seq ?_
   refine W_regD (by kernel_rfl) [] 4 [0,1,2,4,5,6,7,3,8,9,10] (by decide +kernel) ?_
   iterate 2 refine xO ?_
   refine xO ?_ (h := by simp [eSlot]; exact .mk)
   iterate 2 refine xO ?_
   refine xO ?_ (h := by simp [eSlot]; exact .mk)
   refine xO ?_ (h := by simp [splice]; exact .mk)
   refine run_call0 rfl rfl rfl rfl (by simp; exact .mk) (by simp; exact .mk) (by have := ct162 g l k (tookS x (nth l k).gen) hl hkl; rw [← hkk] at this; exact this) (by simp) (by simp; exact .mk) ?_
   refine xO ?_
   refine xO ?_ (h := by simp [splice]; exact .mk)
   refine xO ?_
   refine xE [4,5,6] fun _ => ?_
   refine W_ret ?_
   refine xR (by simp [Tryz.f110]; exact .mk) ?_
   first | (simp [Tryz.f110, hr, ownR, List.map_set]; done) | simp [Tryz.f110, hr, ownR, List.map_set, hk]
 skip
 iterate 3 refine xO ?_
 refine xO ?_ (h := by simp [splice, nrmL, nrm, putC, splice]; exact .mk)
 refine xO ?_ (h := by simp [eSlot, hk, hkl]; exact .mk)
 refine xO ?_
 refine xO ?_ (h := by simp [eSlot]; exact .mk)
 refine xO ?_
 refine xO ?_ (h := by simp [splice, nrmL, nrm, putC, splice]; exact .mk)
 refine xE [0,3,5,7] fun _ => ?_
 refine W_seq ?_
 refine xU ?_
 refine xO ?_ (h := by simp [eSlot]; exact .mk)
 refine run_call0 rfl rfl rfl rfl (by simp; exact .mk) (by simp; exact .mk) (by have := ct161 g (tookS x (nth l k).gen); exact this) (by simp) (by simp; exact .mk) ?_
 refine xO ?_
 refine xE [0,3,5,7,30] fun _ => ?_
 refine W_cond rfl ?_ ?_
 · intro h30
   have hr : takeT l x = ([], (0, 0), 1) := by unfold takeT; rw [if_pos ht, hk]; simp only; rw [if_neg (by simpa using h30)]
   refine xU ?_
   refine xO ?_ (h := by simp [splice]; exact .mk)
   refine xO ?_
   refine xO ?_ (h := by simp [splice]; exact .mk)
   refine xO ?_
   refine xE [4,5,6] fun _ => ?_
   refine W_ret ?_
   refine xR (by simp [Tryz.f110]; exact .mk) ?_
   first | (simp [Tryz.f110, hr, ownR, List.map_set]; done) | simp [Tryz.f110, hr, ownR, List.map_set, hk]
 intro h30
 have hr : takeT l x = (l.set k (tookS x (nth l k).gen), ((k : Int), (nth l k).gen), 0) := by unfold takeT; rw [if_pos ht, hk]; simp only; rw [if_pos (by simpa using h30)]
 refine W_skip ?_
 rintro -
 refine W_seq ?_
 refine W_regD (by kernel_rfl) [] 4 [0,1,2,4,5,6,7,3,8,9,10] (by decide +kernel) ?_
 iterate 2 refine xO ?_
 refine xO ?_ (h := by simp [eSlot]; exact .mk)
 iterate 2 refine xO ?_
 refine xO ?_ (h := by simp [eSlot]; exact .mk)
 refine xO ?_ (h := by simp [splice]; exact .mk)
 refine run_call0 rfl rfl rfl rfl (by simp; exact .mk) (by simp; exact .mk) (by have := ct162 g l k (tookS x (nth l k).gen) hl hkl; rw [← hkk] at this; exact this) (by simp) (by simp; exact .mk) ?_
 refine xO ?_
 refine xO ?_ (h := by simp [splice]; exact .mk)
 refine xO ?_
 refine xE [4,5,6] fun _ => ?_
 refine W_ret ?_
 refine xR (by simp [Tryz.f110]; exact .mk) ?_
 first | (simp [Tryz.f110, hr, ownR, List.map_set]; done) | simp [Tryz.f110, hr, ownR, List.map_set, hk]

theorem ct108 (g : Gl) (e : Int) : CtAt Tryz.prog g 108 [vI e] (.tup [oStt zStt, .agg [vI 0, vI 0], vI e]) := by
 refine ctAt_of_W Tryz.func108 rfl rfl (Nat.le_of_ble_eq_true rfl) fun B S => ?_
 refine xU ?_
 iterate 3 refine xO ?_
 refine xE [0,2,3] ?_
 refine xT ?_
 iterate 2 (refine xO ?_ (h := by simp [splice]; exact .mk))
 refine xO ?_
 iterate 2 (refine xO ?_ (h := by simp [splice]; exact .mk))
 refine xO ?_
 refine xE [2,3,4] fun _ => ?_
 refine W_ret ?_
 refine xR (by simp [Tryz.f108]; exact .mk) ?_
 simp [Tryz.f108, oStt, zStt, ownR]

open Go.Awp
def betterS (p q : Int × Int) : Bool := decide (p.2 < q.2) || (decide (p.2 = q.2) && decide (p.1 < q.1))
def bestStep (size : Int) (o : Option (Int × Int)) (p : Int × Int) : Option (Int × Int) := if decide (size ≤ p.2) && (!o.isSome || betterS p (o.getD (0, 0))) then some p else o
def bestS (l : List (Int × Int)) (size : Int) : Option (Int × Int) := l.foldl (bestStep size) none
theorem bestS_step {l : List (Int × Int)} {size : Int} {i : Nat} (h : i < l.length) : bestS (l.take (i + 1)) size = bestStep size (bestS (l.take i) size) (nth l i) := by
 rw [take_succ h, bestS, List.foldl_append]; rfl
open Go.Awp
theorem ct235 (g : Gl) (p q : Int × Int) : CtAt Tryz.prog g 235 [eObj p, eObj q] (.v (.bool (betterS p q))) := by
 refine ctAt_of_W Tryz.func235 rfl rfl (Nat.le_of_ble_eq_true rfl) fun B S => ?_
 simp only [eObj, List.map, argD_agg]
 refine xU ?_
 iterate 3 refine xO ?_
 refine xE [2,3] ?_
 refine xT ?_
 iterate 6 refine xO ?_
 iterate 11 refine xI ?_
 iterate 2 refine xP ?_
 refine xB ?_
 refine xE [4] fun _ => ?_
 refine W_ret ?_
 refine xR (by simp [Tryz.f235]; exact .mk) ?_
 first | (simp [Tryz.f235, betterS]; done) | (simp [Tryz.f235, betterS] at *; grind)

theorem ct206 (g : Gl) (l : List (Int × Int)) (hl : l.length ≤ 2^40) (size : Int) : CtAt Tryz.prog g 206 [rO l, vI size] (.tup [eObj ((bestS l size).getD (0, 0)), .v (.bool (bestS l size).isSome)]) := by
 refine ctAt_of_W Tryz.func206 rfl rfl (Nat.le_of_ble_eq_true rfl) fun B S => ?_
 refine xU ?_
 iterate 2 refine xO ?_
 refine xE [0,1,4,5] fun _ => ?_
 refine W_seq ?_
 refine xU ?_
 iterate 3 refine xO ?_
 refine xE [1,4,5,8,9,10] fun _ => ?_
 refine W_block ?_
 refine W_rounds (fun m σ o => ∃ i : Nat, m = l.length - i ∧ i ≤ l.length ∧ σ = slots [(1, .d (vI size)), (4, .ptr 0 0 0), (5, .d (vT (bestS (l.take i) size).isSome)), (8, .d (rO l)), (9, .d (vI l.length)), (10, .d (vI i))] ∧ o = [.var 115 [.d (vI ((bestS (l.take i) size).getD (0, 0)).1), .d (vI ((bestS (l.take i) size).getD (0, 0)).2)]]) l.length .refl ⟨0, by simp, by simp, by simp; rfl, rfl⟩ ?_
 rintro m σ o ⟨i, rfl, hi, rfl, rfl⟩ _
 refine xU ?_
 refine xO ?_
 refine xE [1,4,5,8,9,10,11] fun _ => ?_
 refine W_seq ?_
 refine W_cond rfl ?_ ?_
 · intro h11
   have hi2 : i < l.length := by simpa using h11
   have hst := bestS_step (size := size) hi2
   refine W_skip ?_
   rintro -
   refine W_seq ?_
   refine W_block ?_
   refine xU ?_
   refine xO ?_ (h := by simp [eObj, *]; exact .mk)
   refine xO ?_ (h := by simp [eObj]; exact .mk)
   refine xO ?_
   refine xO ?_ (h := by simp [splice]; exact .mk)
   refine xE [1,4,5,7,8,9,10] fun _ => ?_
   refine W_seq ?_
   rcases hb : bestS (l.take i) size with _ | b
   · skip
     rw [hb] at hst
     refine W_reg rfl ?_
     refine xO ?_
     refine xO ?_ (h := by simp [eObj]; exact .mk)
     iterate 3 refine xO ?_
     iterate 3 refine xI ?_
     iterate 2 (refine run_if rfl (by simp; exact .mk) rfl (by simp <;> first | omega | grind) (fun hb => by simp [eObj]; exact .mk) ?_)
     refine run_call rfl (by simp; exact .mk) rfl rfl (by simp) (by simp; exact .mk) (by simp; exact .mk) (fun hb => by have := ct235 g (nth l i) (0, 0); exact this) (by simp) (by simp; exact .mk) (by simp) ?_
     iterate 2 refine xP ?_
     refine xE [1,4,5,7,8,9,10,26] fun _ => ?_
     refine W_cond rfl ?_ ?_
     · intro h26
       have hs : bestS (l.take (i + 1)) size = some (nth l i) := by rw [hst, bestStep, if_pos (by simp at h26 ⊢; grind)]
       refine W_reg rfl ?_
       refine xO ?_ (h := by simp [eObj]; exact .mk)
       refine xO ?_ (h := by simp [splice]; exact .mk)
       refine xO ?_
       refine xE [1,4,5,8,9,10] fun _ => ?_
       refine W_reg rfl ?_
       iterate 2 refine xO ?_
       refine xE [1,4,5,8,9,10] ?_
       refine rounds_drop 1 [1,4,5,8,9,10] (by simp) (by simp [boxA, AV.cells, AV.isCell]) (by simp [boxA, AV.cells, AV.isCell]) ?_
       refine rounds_next (m' := l.length - (i+1)) (by omega) ⟨i+1, rfl, by omega, ?_, ?_⟩
       · rw [wrap64 (by omega) (by omega), hs]; first | rfl | (rw [hb]; rfl)
       rw [hs]; first | rfl | (rw [hb]; rfl)
     intro h26
     have hs : bestS (l.take (i + 1)) size = (bestS (l.take i) size) := by rw [hb, hst, bestStep, if_neg (by simp at h26 ⊢; grind)]
     refine W_skip ?_
     rintro -
     refine W_reg rfl ?_
     iterate 2 refine xO ?_
     refine xE [1,4,5,8,9,10] ?_
     refine rounds_drop 1 [1,4,5,8,9,10] (by simp) (by simp [boxA, AV.cells, AV.isCell]) (by simp [boxA, AV.cells, AV.isCell]) ?_
     refine rounds_next (m' := l.length - (i+1)) (by omega) ⟨i+1, rfl, by omega, ?_, ?_⟩
     · rw [wrap64 (by omega) (by omega), hs]; first | rfl | (rw [hb]; rfl)
     rw [hs]; first | rfl | (rw [hb]; rfl)
   skip
   rw [hb] at hst
   refine W_reg rfl ?_
   refine xO ?_
   refine xO ?_ (h := by simp [eObj]; exact .mk)
   iterate 3 refine xO ?_
   iterate 3 refine xI ?_
   iterate 2 (refine run_if rfl (by simp; exact .mk) rfl (by simp <;> first | omega | grind) (fun hb => by simp [eObj]; exact .mk) ?_)
   refine run_call rfl (by simp; exact .mk) rfl rfl (by simp) (by simp; exact .mk) (by simp; exact .mk) (fun hb => by have := ct235 g (nth l i) b; exact this) (by simp) (by simp; exact .mk) (by simp) ?_
   iterate 2 refine xP ?_
   refine xE [1,4,5,7,8,9,10,26] fun _ => ?_
   refine W_cond rfl ?_ ?_
   · intro h26
     have hs : bestS (l.take (i + 1)) size = some (nth l i) := by rw [hst, bestStep, if_pos (by simp at h26 ⊢; grind)]
     refine W_reg rfl ?_
     refine xO ?_ (h := by simp [eObj]; exact .mk)
     refine xO ?_ (h := by simp [splice]; exact .mk)
     refine xO ?_
     refine xE [1,4,5,8,9,10] fun _ => ?_
     refine W_reg rfl ?_
     iterate 2 refine xO ?_
     refine xE [1,4,5,8,9,10] ?_
     refine rounds_drop 1 [1,4,5,8,9,10] (by simp) (by simp [boxA, AV.cells, AV.isCell]) (by simp [boxA, AV.cells, AV.isCell]) ?_
     refine rounds_next (m' := l.length - (i+1)) (by omega) ⟨i+1, rfl, by omega, ?_, ?_⟩
     · rw [wrap64 (by omega) (by omega), hs]; first | rfl | (rw [hb]; rfl)
     rw [hs]; first | rfl | (rw [hb]; rfl)
   intro h26
   have hs : bestS (l.take (i + 1)) size = (bestS (l.take i) size) := by rw [hb, hst, bestStep, if_neg (by simp at h26 ⊢; grind)]
   refine W_skip ?_
   rintro -
   refine W_reg rfl ?_
   iterate 2 refine xO ?_
   refine xE [1,4,5,8,9,10] ?_
   refine rounds_drop 1 [1,4,5,8,9,10] (by simp) (by simp [boxA, AV.cells, AV.isCell]) (by simp [boxA, AV.cells, AV.isCell]) ?_
   refine rounds_next (m' := l.length - (i+1)) (by omega) ⟨i+1, rfl, by omega, ?_, ?_⟩
   · rw [wrap64 (by omega) (by omega), hs]; first | rfl | (rw [hb]; rfl)
   rw [hs]; first | rfl | (rw [hb]; rfl)
 intro h11
 obtain rfl : i = l.length := by simp at h11; omega
 rw [List.take_length]
 refine W_exit ?_
 refine xT ?_
 refine xO ?_ (h := by simp [eObj]; exact .mk)
 refine xO ?_
 refine xO ?_ (h := by simp [splice]; exact .mk)
 refine xO ?_
 refine xE [4,5] fun _ => ?_
 refine W_ret ?_
 refine xR (by simp [Tryz.f206]; exact .mk) ?_
 simp [Tryz.f206, eObj]

open Go.Awp
def cellsS (c : Int) : Int × Int := if c < 0 ∨ 6 ≤ c then (0, 1) else ((28 : Int).tdiv (nth wordsL c.toNat), 0)
def cellS (c k : Int) : Int × Int := if c < 0 ∨ 6 ≤ c ∨ k < 0 ∨ (cellsS c).1 ≤ k then (0, 1) else (4 + k * nth wordsL c.toNat, 0)
theorem wordsL_b {k : Nat} (h : k < 6) : nth wordsL k = 2 ∨ nth wordsL k = 3 ∨ nth wordsL k = 5 ∨ nth wordsL k = 7 ∨ nth wordsL k = 10 ∨ nth wordsL k = 15 := wordsL_k h
def gapE (a b : Int) : List (Int × Int) := if a < b then [(a, b - a)] else []
def gapsF (to : Int) : Int → List (Int × Int) → List (Int × Int)
 | a, [] => gapE a to
 | a, p :: l => gapE a p.1 ++ gapsF to (p.1 + p.2) l
theorem gapE_len {a b : Int} : (gapE a b).length ≤ 1 := by unfold gapE; split <;> simp
theorem gapsF_drop {to a : Int} {l : List (Int × Int)} {i : Nat} (h : i < l.length) : gapsF to a (l.drop i) = gapE a (nth l i).1 ++ gapsF to ((nth l i).1 + (nth l i).2) (l.drop (i + 1)) := by
 rw [List.drop_eq_getElem_cons h, nth_eq h]; rfl
open Go.Awp
theorem ct238 (g : Gl) (c : Int) : CtAt Tryz.prog g 238 [vI c] (.tup [vI (cellsS c).1, vI (cellsS c).2]) := by
 refine ctAt_of_W Tryz.func238 rfl rfl (Nat.le_of_ble_eq_true rfl) fun B S => ?_
 refine xU ?_
 iterate 2 refine xO ?_
 refine xE [0] ?_
 refine xT ?_
 refine xO ?_
 refine xC (ct248 g c) ?_
 iterate 5 refine xO ?_
 refine xE [4,5] fun _ => ?_
 refine W_seq ?_
 refine xU ?_
 iterate 2 refine xO ?_
 refine xE [4,5,12] fun _ => ?_
 refine W_cond rfl ?_ ?_
 · intro h12
   have hc : c < 0 ∨ 6 ≤ c := Classical.byContradiction fun q => by simp [q] at h12
   have hr : cellsS c = (0, 1) := by unfold cellsS; rw [if_pos hc]
   refine xU ?_
   iterate 3 refine xO ?_
   refine xE [2,3] fun _ => ?_
   refine W_ret ?_
   refine xR (by simp [Tryz.f238]; exact .mk) ?_
   simp [Tryz.f238, hr, hc]
 intro h12
 have hc : ¬ (c < 0 ∨ 6 ≤ c) := by intro q; simp [q] at h12
 have hr : cellsS c = ((28 : Int).tdiv (nth wordsL c.toNat), 0) := by unfold cellsS; rw [if_neg hc]
 have hw := wordsL_b (k := c.toNat) (by omega)
 have hw0 : nth wordsL c.toNat ≠ 0 := by omega
 have e1 : IntKind.i64.wrap ((28 : Int).tdiv (nth wordsL c.toNat)) = (28 : Int).tdiv (nth wordsL c.toNat) := by rcases hw with h | h | h | h | h | h <;> rw [h] <;> decide
 refine W_skip ?_
 refine xT ?_
 refine xO ?_
 refine xO ?_ (h := by simp [hc, hw0, e1]; exact .mk)
 iterate 2 refine xO ?_
 refine xE [2,3] fun _ => ?_
 refine W_ret ?_
 refine xR (by simp [Tryz.f238]; exact .mk) ?_
 simp [Tryz.f238, hr, hc]

theorem ct239 (g : Gl) (c k : Int) : CtAt Tryz.prog g 239 [vI c, vI k] (.tup [vI (cellS c k).1, vI (cellS c k).2]) := by
 refine ctAt_of_W Tryz.func239 rfl rfl (Nat.le_of_ble_eq_true rfl) fun B S => ?_
 refine xU ?_
 iterate 2 refine xO ?_
 refine xE [0,1] ?_
 refine xT ?_
 refine xO ?_
 refine xC (ct238 g c) ?_ (hi := by simp [impAs_vI]; exact .mk)
 iterate 5 refine xO ?_
 refine xE [0,1,6,7] fun _ => ?_
 refine W_seq ?_
 refine xU ?_
 iterate 3 refine xO ?_
 iterate 2 refine xI ?_
 refine xP ?_
 refine xB ?_
 iterate 3 refine xI ?_
 refine xP ?_
 refine xE [0,1,23] fun _ => ?_
 refine W_cond rfl ?_ ?_
 · intro h23
   have hc : c < 0 ∨ 6 ≤ c ∨ k < 0 ∨ (cellsS c).1 ≤ k := by by_cases q : c < 0 ∨ 6 ≤ c <;> simp [cellsS, q] at h23 ⊢ <;> omega
   have hr : cellS c k = (0, 1) := by unfold cellS; rw [if_pos hc]
   refine xU ?_
   iterate 2 refine xO ?_
   refine xE [4,5] fun _ => ?_
   refine W_ret ?_
   refine xR (by simp [Tryz.f239]; exact .mk) ?_
   simp [Tryz.f239, hr]
 intro h23
 have hc : ¬ (c < 0 ∨ 6 ≤ c ∨ k < 0 ∨ (cellsS c).1 ≤ k) := by by_cases q : c < 0 ∨ 6 ≤ c <;> simp [cellsS, q] at h23 ⊢ <;> omega
 have hr : cellS c k = (4 + k * nth wordsL c.toNat, 0) := by unfold cellS; rw [if_neg hc]
 obtain ⟨m, rfl⟩ : ∃ m : Nat, c = m := ⟨c.toNat, by omega⟩
 have hm : m < 6 := by omega
 have hml : m < wordsL.length := hm
 have hw := wordsL_b hm
 have hk : 0 ≤ k ∧ k < 28 := by
  have h1 : k < (cellsS m).1 := by omega
  have h2 : (cellsS m).1 = (28 : Int).tdiv (nth wordsL m) := by unfold cellsS; rw [if_neg (by omega)]; rfl
  rw [h2] at h1
  rcases hw with h | h | h | h | h | h <;> rw [h] at h1 <;> simp at h1 <;> omega
 have e1 : IntKind.i64.wrap (k * nth wordsL m) = k * nth wordsL m := by rcases hw with h | h | h | h | h | h <;> rw [h] <;> exact wrap64 (by omega) (by omega)
 have e2 : IntKind.i64.wrap (4 + k * nth wordsL m) = 4 + k * nth wordsL m := by rcases hw with h | h | h | h | h | h <;> rw [h] <;> exact wrap64 (by omega) (by omega)
 refine W_skip ?_
 refine xT ?_
 refine xO ?_
 refine xC (ct237 g) ?_ (hi := by simp [impAs_vI]; exact .mk)
 refine xO ?_
 refine xO ?_ (h := by simp [indexA, partA, Ty.agg, -List.getElem?_map, map_get hml, show (m : Int) < 6 from by omega]; exact .mk)
 refine xO ?_ (h := by simp [e1]; exact .mk)
 refine xO ?_ (h := by simp [e1, e2]; exact .mk)
 iterate 2 refine xO ?_
 refine xE [4,5] fun _ => ?_
 refine W_ret ?_
 refine xR (by simp [Tryz.f239]; exact .mk) ?_
 simp [Tryz.f239, hr]

open Go.Awp
theorem in234t (g : Gl) (a b : Int) (o : Awp.Obj) (L : List (Int × Int)) (hL : L.length ≤ 2^40) (hab : -2^60 ≤ b - a ∧ b - a ≤ 2^60) (hlt : a < b) : ∀ B S, CallsA Tryz.prog g B S ⟨3, true⟩ 234 [.d (vI a), .d (vI b), .ptr 0 0 0] [.var 113 [.hdr 1 0 L.length], .row 2 (L.map eObj), o]
    (fun x r => x = .tup [] ∧ r = [.var 113 [.hdr 4 0 (L.length + 1)], .dead, o, .row 2 [eObj (a, b - a)], .row 2 ((L ++ [(a, b - a)]).map eObj)]) := by
 refine callsA_at Tryz.func234 rfl (Nat.le_of_ble_eq_true rfl) fun B S => ?_
 have e1 : IntKind.i64.wrap (b - a) = b - a := wrap64 (by omega) (by omega)
 have e2 : (L.length + 1) * 16 ≤ 140737488355328 := by omega
 have e3 : L.length ≤ 140737488355327 := by omega
 refine xU ?_
 iterate 3 refine xO ?_
 refine xE [0,1,2,7] fun _ => ?_
 refine W_cond rfl ?_ ?_
 · intro h7
   refine W_reg rfl ?_
   iterate 4 refine xO ?_
   refine xO ?_ (h := by simp [e1]; exact .mk)
   refine xO ?_ (h := by simp [splice]; exact .mk)
   refine xO ?_
   refine xO ?_ (h := by simp [rows, e2, e3]; exact .mk)
   refine xO ?_ (h := by simp [splice]; exact .mk)
   refine xE [] ?_
   refine endAt_normal (by simp [Tryz.f234]; exact .mk) ?_ ?_
   · simp
   simp [eObj]
 intro h7
 simp at h7; omega

theorem in234f (g : Gl) (a b : Int) (o : Awp.Obj) (L : List (Int × Int)) (hL : L.length ≤ 2^40) (hab : -2^60 ≤ b - a ∧ b - a ≤ 2^60) (hlt : ¬ a < b) : ∀ B S, CallsA Tryz.prog g B S ⟨3, true⟩ 234 [.d (vI a), .d (vI b), .ptr 0 0 0] [.var 113 [.hdr 1 0 L.length], .row 2 (L.map eObj), o]
    (fun x r => x = .tup [] ∧ r = [.var 113 [.hdr 1 0 L.length], .row 2 (L.map eObj), o]) := by
 refine callsA_at Tryz.func234 rfl (Nat.le_of_ble_eq_true rfl) fun B S => ?_
 have e1 : IntKind.i64.wrap (b - a) = b - a := wrap64 (by omega) (by omega)
 have e2 : (L.length + 1) * 16 ≤ 140737488355328 := by omega
 have e3 : L.length ≤ 140737488355327 := by omega
 refine xU ?_
 iterate 3 refine xO ?_
 refine xE [0,1,2,7] fun _ => ?_
 refine W_cond rfl ?_ ?_
 · intro h7
   simp at h7; omega
 intro h7
 refine W_skip ?_
 refine endAt_normal (by simp [Tryz.f234]; exact .mk) ?_ ?_
 · simp
 simp [eObj]

theorem in234u (g : Gl) (a b : Int) (L : List (Int × Int)) (hL : L.length ≤ 2^40) (hab : -2^60 ≤ b - a ∧ b - a ≤ 2^60) (hlt : a < b) : ∀ B S, CallsA Tryz.prog g B S ⟨2, true⟩ 234 [.d (vI a), .d (vI b), .ptr 0 0 0] [.var 113 [.hdr 1 0 L.length], .row 2 (L.map eObj)]
    (fun x r => x = .tup [] ∧ r = [.var 113 [.hdr 3 0 (L.length + 1)], .dead, .row 2 [eObj (a, b - a)], .row 2 ((L ++ [(a, b - a)]).map eObj)]) := by
 refine callsA_at Tryz.func234 rfl (Nat.le_of_ble_eq_true rfl) fun B S => ?_
 have e1 : IntKind.i64.wrap (b - a) = b - a := wrap64 (by omega) (by omega)
 have e2 : (L.length + 1) * 16 ≤ 140737488355328 := by omega
 have e3 : L.length ≤ 140737488355327 := by omega
 refine xU ?_
 iterate 3 refine xO ?_
 refine xE [0,1,2,7] fun _ => ?_
 refine W_cond rfl ?_ ?_
 · intro h7
   refine W_reg rfl ?_
   iterate 4 refine xO ?_
   refine xO ?_ (h := by simp [e1]; exact .mk)
   refine xO ?_ (h := by simp [splice]; exact .mk)
   refine xO ?_
   refine xO ?_ (h := by simp [rows, e2, e3]; exact .mk)
   refine xO ?_ (h := by simp [splice]; exact .mk)
   refine xE [] ?_
   refine endAt_normal (by simp [Tryz.f234]; exact .mk) ?_ ?_
   · simp
   simp [eObj]
 intro h7
 simp at h7; omega

theorem in234g (g : Gl) (a b : Int) (L : List (Int × Int)) (hL : L.length ≤ 2^40) (hab : -2^60 ≤ b - a ∧ b - a ≤ 2^60) (hlt : ¬ a < b) : ∀ B S, CallsA Tryz.prog g B S ⟨2, true⟩ 234 [.d (vI a), .d (vI b), .ptr 0 0 0] [.var 113 [.hdr 1 0 L.length], .row 2 (L.map eObj)]
    (fun x r => x = .tup [] ∧ r = [.var 113 [.hdr 1 0 L.length], .row 2 (L.map eObj)]) := by
 refine callsA_at Tryz.func234 rfl (Nat.le_of_ble_eq_true rfl) fun B S => ?_
 have e1 : IntKind.i64.wrap (b - a) = b - a := wrap64 (by omega) (by omega)
 have e2 : (L.length + 1) * 16 ≤ 140737488355328 := by omega
 have e3 : L.length ≤ 140737488355327 := by omega
 refine xU ?_
 iterate 3 refine xO ?_
 refine xE [0,1,2,7] fun _ => ?_
 refine W_cond rfl ?_ ?_
 · intro h7
   simp at h7; omega
 intro h7
 refine W_skip ?_
 refine endAt_normal (by simp [Tryz.f234]; exact .mk) ?_ ?_
 · simp
 simp [eObj]

theorem in142g (g : Gl) (fr to : Int) (l : List (Int × Int)) (hl : l.length ≤ 2^39) (hG : gapsS fr to l = true) : ∀ B S, CallsA Tryz.prog g B S ⟨1, true⟩ 142 [.d (vI fr), .d (vI to), .d (rO l), .fn (.func 234) [] [.ptr 0 0 0]] [.var 113 [.d (.v (.slice none 0 0))]]
    (fun x r => x = .d (.v (.bool true)) ∧ r = [.var 113 [.hdr 1 0 (gapsF to fr l).length], .row 2 ((gapsF to fr l).map eObj)]) := by
 refine callsA_at Tryz.func142 rfl (Nat.le_of_ble_eq_true rfl) fun B S => ?_
 have hH : 0 ≤ fr ∧ fr ≤ to ∧ to ≤ 2048 ∧ fr.tmod 4 = 0 ∧ to.tmod 4 = 0 := by simp [gapsS, gapsHead] at hG; omega
 have hr0 : gapsOk to fr l = true := by simp [gapsS] at hG; exact hG.2
 refine xU ?_
 refine xO ?_
 refine xE [0,1,2,3] fun _ => ?_
 refine W_seq ?_
 refine xU ?_
 iterate 3 refine xO ?_
 iterate 3 refine xI ?_
 refine xP ?_
 refine xB ?_
 iterate 2 refine xI ?_
 refine xP ?_
 refine xB ?_
 refine xI ?_
 refine run_call rfl (by simp; exact .mk) rfl rfl (by simp) (by simp; exact .mk) (by simp; exact .mk) (fun hb => ct201 g fr) (by simp) (by simp; exact .mk) (by simp) ?_
 refine xI ?_
 refine xP ?_
 refine xB ?_
 refine xI ?_
 refine run_call rfl (by simp; exact .mk) rfl rfl (by simp) (by simp; exact .mk) (by simp; exact .mk) (fun hb => ct201 g to) (by simp) (by simp; exact .mk) (by simp) ?_
 refine xI ?_
 refine xP ?_
 refine xE [0,1,2,3,32] fun _ => ?_
 refine W_cond rfl ?_ ?_
 · intro h32
   simp at h32; omega
 intro h32
 refine W_skip ?_
 refine xT ?_
 iterate 2 refine xO ?_
 refine xE [1,2,3,9] fun _ => ?_
 refine W_seq ?_
 refine xU ?_
 iterate 3 refine xO ?_
 refine xE [1,3,9,34,35,36] fun _ => ?_
 refine W_block ?_
 refine W_rounds (fun m σ o => ∃ (i : Nat) (a : Int) (L : List (Int × Int)), m = l.length - i ∧ i ≤ l.length ∧ 0 ≤ a ∧ a ≤ to ∧ gapsOk to a (l.drop i) = true ∧ gapsF to fr l = L ++ gapsF to a (l.drop i) ∧ L.length ≤ i ∧ σ = slots [(1, .d (vI to)), (3, .fn (.func 234) [] [.ptr 0 0 0]), (9, .d (vI a)), (34, .d (rO l)), (35, .d (vI l.length)), (36, .d (vI i))] ∧ o = [.var 113 [.hdr 1 0 L.length], .row 2 (L.map eObj)]) l.length (Weak.nilCell 0 0 2 rfl rfl) ⟨0, fr, [], by simp, by simp, by omega, by omega, by simpa using hr0, by simp, by simp, rfl, rfl⟩ ?_
 rintro m σ o ⟨i, a, L, rfl, hi, ha0, ha1, hinv, hgl, hLi, rfl, rfl⟩ _
 refine xU ?_
 refine xO ?_
 refine xE [1,3,9,34,35,36,37] fun _ => ?_
 refine W_seq ?_
 refine W_cond rfl ?_ ?_
 · intro h37
   have hi2 : i < l.length := by simpa using h37
   rw [gapsOk_drop hi2] at hinv
   have hb : gapBad to a (nth l i) = false := by simp at hinv; exact hinv.1
   have hb2 : a ≤ (nth l i).1 ∧ (nth l i).1 ≤ to ∧ 4 ≤ (nth l i).2 ∧ (nth l i).2 ≤ to - (nth l i).1 := by simp [gapBad] at hb; omega
   have hb3 : (nth l i).1.tmod 4 = 0 ∧ (nth l i).2.tmod 4 = 0 := by simp [gapBad] at hb; omega
   have w1 : IntKind.i64.wrap (to - (nth l i).1) = to - (nth l i).1 := wrap64 (by omega) (by omega)
   have w2 : IntKind.i64.wrap ((nth l i).1 + (nth l i).2) = (nth l i).1 + (nth l i).2 := wrap64 (by omega) (by omega)
   rw [gapsF_drop hi2] at hgl
   refine W_skip ?_
   rintro -
   refine W_seq ?_
   refine W_block ?_
   refine xU ?_
   refine xO ?_ (h := by simp [eObj, *]; exact .mk)
   refine xO ?_ (h := by simp [eObj]; exact .mk)
   refine xO ?_
   refine xO ?_ (h := by simp [splice]; exact .mk)
   refine xE [1,3,9,11,34,35,36] fun _ => ?_
   refine W_seq ?_
   refine W_block ?_
   refine W_seq ?_
   refine xU ?_
   refine xO ?_
   refine xO ?_ (h := by simp [eObj]; exact .mk)
   iterate 3 refine xO ?_
   refine xE [1,3,9,11,34,35,36,40] fun _ => ?_
   refine W_cond rfl ?_ ?_
   · intro h40
     exfalso
     first | (simp [eObj] at h40; omega) | (simp [eObj, hb3] at h40)
   intro h40
   refine xU ?_
   refine xO ?_
   refine xO ?_ (h := by simp [eObj]; exact .mk)
   iterate 3 refine xO ?_
   refine xE [1,3,9,11,34,35,36,40] fun _ => ?_
   refine W_cond rfl ?_ ?_
   · intro h40'
     exfalso
     first | (simp [eObj] at h40'; omega) | (simp [eObj, hb3] at h40')
   intro h40'
   refine xU ?_
   refine xO ?_
   refine xO ?_ (h := by simp [eObj]; exact .mk)
   iterate 2 refine xO ?_
   refine xE [1,3,9,11,34,35,36,40] fun _ => ?_
   refine W_cond rfl ?_ ?_
   · intro h40''
     exfalso
     first | (simp [eObj] at h40''; omega) | (simp [eObj, hb3] at h40'')
   intro h40''
   refine xU ?_
   refine xO ?_
   refine xO ?_ (h := by simp [eObj]; exact .mk)
   iterate 2 refine xO ?_
   refine xO ?_ (h := by simp [eObj]; exact .mk)
   refine xO ?_ (h := by simp [w1]; exact .mk)
   iterate 2 refine xO ?_
   refine xE [1,3,9,11,34,35,36,40] fun _ => ?_
   refine W_cond rfl ?_ ?_
   · intro h40'''
     exfalso
     first | (simp [eObj] at h40'''; omega) | (simp [eObj, hb3] at h40''')
   intro h40'''
   refine xU ?_
   refine xO ?_
   refine xO ?_ (h := by simp [eObj]; exact .mk)
   refine xC (ct201 g _) ?_
   iterate 2 refine xO ?_
   refine xE [1,3,9,11,34,35,36,40] fun _ => ?_
   refine W_cond rfl ?_ ?_
   · intro h40''''
     exfalso
     first | (simp [eObj] at h40''''; omega) | (simp [eObj, hb3] at h40'''')
   intro h40''''
   refine W_reg rfl ?_
   refine xO ?_
   refine xO ?_ (h := by simp [eObj]; exact .mk)
   refine xC (ct201 g _) ?_
   iterate 2 refine xO ?_
   refine xE [1,3,9,11,34,35,36,40] fun _ => ?_
   refine W_cond rfl ?_ ?_
   · intro h40'''''
     exfalso
     first | (simp [eObj] at h40'''''; omega) | (simp [eObj, hb3] at h40''''')
   intro h40'''''
   refine W_skip ?_
   rintro -
   refine W_seq ?_
   by_cases hlt : a < (nth l i).1
   · skip
     skip
     refine W_reg rfl ?_
     iterate 3 refine xO ?_
     refine xO ?_ (h := by simp [eObj]; exact .mk)
     refine run_inl0 rfl rfl rfl rfl (by simp; exact .mk) ⟨_, Tryz.func234, rfl, rfl⟩ (in234t g a (nth l i).1 _ L (by omega) (by omega) hlt) (.inl (by simp)) ?_
     refine xE [1,3,11,34,35,36] fun _ => ?_
     refine W_reg rfl ?_
     refine xO ?_
     refine xO ?_ (h := by simp [eObj]; exact .mk)
     refine xO ?_
     refine xO ?_ (h := by simp [eObj]; exact .mk)
     refine xO ?_ (h := by simp [w2]; exact .mk)
     refine xO ?_
     refine xE [1,3,9,34,35,36] fun _ => ?_
     refine W_reg rfl ?_
     iterate 2 refine xO ?_
     refine xE [1,3,9,34,35,36] ?_
     refine rounds_kill [1,3,9,34,35,36] ?_
     refine rounds_swap 1 4 1 (by decide) (by simp) (by decide) rfl rfl ?_
     refine rounds_drop 2 [1,3,9,34,35,36] (by decide) (by rfl) (by rfl) ?_
     refine rounds_next (m' := l.length - (i+1)) (by omega) ⟨i+1, (nth l i).1 + (nth l i).2, L ++ [(a, (nth l i).1 - a)], rfl, by omega, by omega, by omega, by simp at hinv; exact hinv.2, by rw [hgl, gapE, if_pos hlt]; simp, by simp; omega, ?_, ?_⟩
     · rw [wrap64 (by omega) (by omega)]; simp; try rfl
     simp [eObj]; try rfl
   skip
   skip
   refine W_reg rfl ?_
   iterate 3 refine xO ?_
   refine xO ?_ (h := by simp [eObj]; exact .mk)
   refine run_inl0 rfl rfl rfl rfl (by simp; exact .mk) ⟨_, Tryz.func234, rfl, rfl⟩ (in234f g a (nth l i).1 _ L (by omega) (by omega) hlt) (.inl (by simp)) ?_
   refine xE [1,3,11,34,35,36] fun _ => ?_
   refine W_reg rfl ?_
   refine xO ?_
   refine xO ?_ (h := by simp [eObj]; exact .mk)
   refine xO ?_
   refine xO ?_ (h := by simp [eObj]; exact .mk)
   refine xO ?_ (h := by simp [w2]; exact .mk)
   refine xO ?_
   refine xE [1,3,9,34,35,36] fun _ => ?_
   refine W_reg rfl ?_
   iterate 2 refine xO ?_
   refine xE [1,3,9,34,35,36] ?_
   refine rounds_kill [1,3,9,34,35,36] ?_
   refine rounds_drop 2 [1,3,9,34,35,36] (by decide) (by rfl) (by rfl) ?_
   refine rounds_next (m' := l.length - (i+1)) (by omega) ⟨i+1, (nth l i).1 + (nth l i).2, L, rfl, by omega, by omega, by omega, by simp at hinv; exact hinv.2, by rw [hgl, gapE, if_neg hlt]; simp, by omega, ?_, rfl⟩
   rw [wrap64 (by omega) (by omega)]; rfl
 intro h37
 obtain rfl : i = l.length := by simp at h37; omega
 rw [List.drop_length] at hgl
 refine W_exit ?_
 rintro -
 refine W_seq ?_
 by_cases hlt : a < to
 · skip
   skip
   refine W_reg rfl ?_
   iterate 3 refine xO ?_
   refine run_inl0 rfl rfl rfl rfl (by simp; exact .mk) ⟨_, Tryz.func234, rfl, rfl⟩ (in234u g a to L (by omega) (by omega) hlt) (.inl (by simp)) ?_
   refine xE [] ?_
   refine then_weak (Weak.perm [0,3,2,1] [0,3,2,1] rfl rfl rfl) ?_
   refine xT ?_
   refine xO ?_
   refine xE [8] fun _ => ?_
   refine W_ret ?_
   refine endAt_drop 2 (by simp [Tryz.f142]; exact .mk) ?_ ?_ (by simp) (by first | rfl | simp) (by first | rfl | simp)
   · rfl
   first | (simp [hgl, gapsF, gapE, hlt]; done) | (simp [hgl, gapsF, gapE, hlt, eObj]; try rfl)
 skip
 skip
 refine W_reg rfl ?_
 iterate 3 refine xO ?_
 refine run_inl0 rfl rfl rfl rfl (by simp; exact .mk) ⟨_, Tryz.func234, rfl, rfl⟩ (in234g g a to L (by omega) (by omega) hlt) (.inl (by simp)) ?_
 refine xE [] ?_
 refine xT ?_
 refine xO ?_
 refine xE [8] fun _ => ?_
 refine W_ret ?_
 refine endAt_drop 2 (by simp [Tryz.f142]; exact .mk) ?_ ?_ (by simp) (by first | rfl | simp) (by first | rfl | simp)
 · rfl
 first | (simp [hgl, gapsF, gapE, hlt]; done) | (simp [hgl, gapsF, gapE, hlt, eObj]; try rfl)

open Go.Awp
theorem gapsF_mem {to : Int} : ∀ {l : List (Int × Int)} {a : Int}, gapsOk to a l = true → ∀ g ∈ gapsF to a l, a ≤ g.1 ∧ 0 < g.2 ∧ g.1 + g.2 ≤ to ∧ (∀ p ∈ l, disjI g p)
 | [], a, _, g, hg => by
  simp only [gapsF, gapE] at hg
  split at hg
  · rcases List.mem_singleton.1 hg with rfl
    exact ⟨by simp, by simp; omega, by show a + (to - a) ≤ to; omega, fun p hp => by cases hp⟩
  · cases hg
 | p :: l, a, h, g, hg => by
  have hp := gapsOk_pair h
  obtain ⟨h1, h2, h3⟩ := hp.2 p (by simp)
  have hh := h
  simp only [gapsOk, Bool.and_eq_true] at hh
  have hl := (gapsOk_pair hh.2).2
  simp only [gapsF, List.mem_append] at hg
  rcases hg with hg | hg
  · simp only [gapE] at hg
    split at hg
    · rcases List.mem_singleton.1 hg with rfl
      refine ⟨by simp, by simp; omega, by show a + (p.1 - a) ≤ to; omega, fun q hq => ?_⟩
      rcases List.mem_cons.1 hq with rfl | hq
      · exact .inl (by show a + (q.1 - a) ≤ q.1; omega)
      · exact .inl (by have := hl q hq; show a + (p.1 - a) ≤ q.1; omega)
    · cases hg
  · obtain ⟨g1, g2, g3, g4⟩ := gapsF_mem hh.2 g hg
    refine ⟨by omega, g2, g3, fun q hq => ?_⟩
    rcases List.mem_cons.1 hq with rfl | hq
    · exact .inr (by omega)
    · exact g4 q hq
theorem quad_iff {a : Int} (h : 0 ≤ a) : a.tmod 4 = 0 ↔ a % 4 = 0 := by rw [Int.tmod_eq_emod_of_nonneg h]
theorem gapBad_f {to a : Int} {p : Int × Int} (h : gapBad to a p = false) : a ≤ p.1 ∧ p.1 ≤ to ∧ 4 ≤ p.2 ∧ p.2 ≤ to - p.1 ∧ p.1.tmod 4 = 0 ∧ p.2.tmod 4 = 0 := by
 simp only [gapBad, decide_eq_false_iff_not, not_or, Decidable.not_not] at h
 omega
theorem gapsF_quad {to : Int} : ∀ {l : List (Int × Int)} {a : Int}, gapsOk to a l = true → 0 ≤ a → a % 4 = 0 → ∀ g ∈ gapsF to a l, g.1 % 4 = 0
 | [], a, _, _, h4, g, hg => by
  simp only [gapsF, gapE] at hg
  split at hg
  · rcases List.mem_singleton.1 hg with rfl; exact h4
  · cases hg
 | p :: l, a, h, h0, h4, g, hg => by
  simp only [gapsOk, Bool.and_eq_true, Bool.not_eq_true'] at h
  obtain ⟨b1, b2, b3, b4, b5, b6⟩ := gapBad_f h.1
  rw [quad_iff (by omega)] at b5 b6
  simp only [gapsF, List.mem_append] at hg
  rcases hg with hg | hg
  · simp only [gapE] at hg
    split at hg
    · rcases List.mem_singleton.1 hg with rfl; exact h4
    · cases hg
  · exact gapsF_quad h.2 (by omega) (by omega) g hg
theorem bestS_fold {size : Int} : ∀ (l : List (Int × Int)) (o : Option (Int × Int)), (∀ b, o = some b → size ≤ b.2) →
    (∀ b, l.foldl (bestStep size) o = some b → (b ∈ l ∨ o = some b) ∧ size ≤ b.2) ∧ (l.foldl (bestStep size) o = none → o = none ∧ ∀ p ∈ l, p.2 < size)
 | [], o, h => ⟨fun b hb => ⟨.inr hb, h b hb⟩, fun hn => ⟨hn, fun p hp => by cases hp⟩⟩
 | p :: l, o, h => by
  have hs : ∀ b, bestStep size o p = some b → size ≤ b.2 := by
   intro b hb
   unfold bestStep at hb
   split at hb
   · rename_i hc; cases hb; simp at hc; exact hc.1
   · exact h b hb
  obtain ⟨i1, i2⟩ := bestS_fold l (bestStep size o p) hs
  refine ⟨fun b hb => ?_, fun hn => ?_⟩
  · obtain ⟨j1, j2⟩ := i1 b hb
    refine ⟨?_, j2⟩
    rcases j1 with j1 | j1
    · exact .inl (List.mem_cons_of_mem _ j1)
    · unfold bestStep at j1
      split at j1
      · cases j1; exact .inl (by simp)
      · exact .inr j1
  · obtain ⟨j1, j2⟩ := i2 hn
    unfold bestStep at j1
    split at j1
    · cases j1
    · rename_i hc
      refine ⟨j1, fun q hq => ?_⟩
      rcases List.mem_cons.1 hq with rfl | hq
      · subst j1; simp at hc; exact hc
      · exact j2 q hq
theorem bestS_some {l : List (Int × Int)} {size : Int} {b : Int × Int} (h : bestS l size = some b) : b ∈ l ∧ size ≤ b.2 := by
 obtain ⟨h1, h2⟩ := (bestS_fold l none (by simp)).1 b h
 exact ⟨by simpa using h1, h2⟩
theorem spans_all {R : Int × Int → Prop} {l : List Slot} : (∀ p ∈ spansS l, R p) ↔ ∀ i, i < l.length → isOne (nth l i) = true → R ((nth l i).at_, (needS (nth l i).len).1) := by
 rw [show (∀ i, i < l.length → isOne (nth l i) = true → R ((nth l i).at_, (needS (nth l i).len).1)) ↔ ∀ b ∈ onesR l, R (spanOf b) from (onesR_all (R := fun b => R (spanOf b))).symm]
 simp only [spansS, onesS, List.mem_map]
 constructor
 · intro h b hb; exact h _ ⟨b, (stS_perm (lt := ltB) _).mem_iff.2 hb, rfl⟩
 · rintro h p ⟨b, hb, rfl⟩; exact h b ((stS_perm (lt := ltB) _).mem_iff.1 hb)
def oneS (s : Stt) (n : Int) : Option Int := if (needS n).2 ≠ 0 then none else (bestS (gapsF (s.sh.pages * 32) (s.base * 32) (spansS s.slots)) (needS n).1).map (·.1)
theorem needS_ok {n : Int} (h : 1 ≤ n ∧ n ≤ 2048) : (needS n).2 = 0 := by unfold needS; rw [if_neg (by omega)]
theorem one_some {s : Stt} {n a : Int} (h : sttS s = true) (hn : 1 ≤ n ∧ n ≤ 2048) (ho : oneS s n = some a) : s.base * 32 ≤ a ∧ a.tmod 4 = 0 ∧ a + (needS n).1 ≤ s.sh.pages * 32 ∧
    ∀ i, i < s.slots.length → isOne (nth s.slots i) = true → disjI (a, (needS n).1) ((nth s.slots i).at_, (needS (nth s.slots i).len).1) := by
 unfold oneS at ho
 rw [if_neg (by simp [needS_ok hn])] at ho
 obtain ⟨g, hg, rfl⟩ := Option.map_eq_some_iff.1 ho
 obtain ⟨h1, h2⟩ := bestS_some hg
 have hG := sttS_gaps h
 simp only [gapsS, Bool.and_eq_true] at hG
 have hb := superS_b (sttS_super h)
 obtain ⟨g1, g2, g3, g4⟩ := gapsF_mem hG.2 g h1
 have q := gapsF_quad hG.2 (by omega) (by omega) g h1
 refine ⟨g1, (quad_iff (by omega)).2 q, by omega, ?_⟩
 refine (spans_all (R := fun p => disjI (g.1, (needS n).1) p)).1 fun p hp => ?_
 rcases g4 p hp with r | r
 · exact .inl (by show g.1 + (needS n).1 ≤ p.1; omega)
 · exact .inr r
end Go.Proofs
