/- Contracts of the program's functions and plain facts, for arguments as each lemma says. -/
import Derived.Test.YtokgokbgidgfeaaGreatCE
import Derived.Test.YtokgokbgidgfeaaGreatAwpD
import Derived.Test.YtokgokbgidgfeaaGreatCD
set_option linter.all false
set_option maxHeartbeats 4000000
set_option maxRecDepth 4000
namespace Go.Proofs
open Go.Awp
theorem ct203 (g : Gl) (s : ByteArray) (hs : 0 < s.size) : CtAt Tryz.prog g 203 [vS s] (.tup [vI (runeR s).1, vI (runeR s).2]) := by
 refine ctAt_of_W Tryz.func203 rfl rfl (Nat.le_of_ble_eq_true rfl) fun B S => ?_
 have wb : ∀ k, IntKind.i64.wrap (bt s k : Int) = bt s k := fun k => wrap64 (by have := bt_lt s k; omega) (by have := bt_lt s k; omega)
 have hb0 := bt_lt s 0
 refine xU ?_
 iterate 2 refine xO ?_
 refine xG [0] ?_
 iterate 3 refine xO ?_
 refine xG [0,4] ?_
 refine xO ?_
 refine xO ?_ (h := by simp [indexA, hs, btF3 (k := 0) hs]; exact .mk)
 refine xO ?_ (h := by simp [convA, isIntTy, wb]; exact .mk)
 refine xO ?_
 refine xF [0,4,5] ?_
 refine W_seq (xU ?_)
 iterate 2 refine xO ?_
 refine xF [0,4,5,16] ?_
 refine W_cond rfl ?_ ?_
 · intro h16
   have hr : runeR s = ((bt s 0 : Int), 1) := by unfold runeR; rw [if_pos (by simp at h16; omega)]
   refine xU ?_
   iterate 3 refine xO ?_
   refine xF [2,3] ?_
   refine W_ret (xR (by simp [Tryz.f203]; exact .mk) ?_)
   simp [Tryz.f203, hr]
 intro h16
 have h0 : ¬ bt s 0 < 128 := by simp at h16; omega
 obtain ⟨k, le, ba, e⟩ : ∃ k le ba, clsN (bt s 0) = (k, le, ba) := ⟨_, _, _, rfl⟩
 have hcc := clsN_cases (bt s 0)
 rw [e] at hcc
 simp only [Prod.mk.injEq] at hcc
 refine W_skip ?_
 refine xT ?_
 refine xO ?_
 refine xG [0,4,5,6] ?_
 refine xO ?_
 refine xF [0,4,5,6,7] ?_
 refine W_seq (xU ?_)
 iterate 3 refine xO ?_
 iterate 2 refine xI ?_
 refine xP ?_
 refine xF [0,4,5,6,7,23] ?_
 refine W_joinW ([(0, .d (vS s)), (4, .d (vI s.size)), (5, .d (vI ((bt s 0 : Int) - ba))), (6, .d (vI k)), (7, .d (vI le))]) ([]) ?_ ?_
 · skip
   refine W_cond rfl ?_ ?_
   · intro h23
     obtain ⟨rfl, rfl, rfl⟩ : k = 2 ∧ le = 128 ∧ ba = 192 := by simp at h23; omega
     have w1 : IntKind.i64.wrap ((bt s 0 : Int) - 192) = (bt s 0 : Int) - 192 := wrap64 (by omega) (by omega)
     refine xU ?_
     refine xO ?_
     refine xG [0,4,5,6] ?_
     refine xO ?_
     refine xF [0,4,5,6,7] ?_
     refine W_reg rfl ?_
     refine xO ?_
     refine xO ?_ (h := by simp [w1]; exact .mk)
     refine xO ?_
     refine xE [0,4,5,6,7] ?_
     exact ⟨rfl, Weak.kills [0,4,5,6,7] (by simp)⟩
   intro h23
   refine xU ?_
   iterate 3 refine xO ?_
   iterate 2 refine xI ?_
   refine xP ?_
   refine xF [0,4,5,6,7,31] ?_
   refine W_cond rfl ?_ ?_
   · intro h31
     obtain ⟨rfl, rfl, rfl⟩ : k = 3 ∧ le = 2048 ∧ ba = 224 := by simp at h31; omega
     have w1 : IntKind.i64.wrap ((bt s 0 : Int) - 224) = (bt s 0 : Int) - 224 := wrap64 (by omega) (by omega)
     refine xU ?_
     refine xO ?_
     refine xG [0,4,5,6] ?_
     refine xO ?_
     refine xF [0,4,5,6,7] ?_
     refine W_reg rfl ?_
     refine xO ?_
     refine xO ?_ (h := by simp [w1]; exact .mk)
     refine xO ?_
     refine xE [0,4,5,6,7] ?_
     exact ⟨rfl, Weak.kills [0,4,5,6,7] (by simp)⟩
   intro h31
   refine xU ?_
   iterate 3 refine xO ?_
   iterate 2 refine xI ?_
   refine xP ?_
   refine xF [0,4,5,6,7,39] ?_
   refine W_cond rfl ?_ ?_
   · intro h39
     obtain ⟨rfl, rfl, rfl⟩ : k = 4 ∧ le = 65536 ∧ ba = 240 := by simp at h39; omega
     have w1 : IntKind.i64.wrap ((bt s 0 : Int) - 240) = (bt s 0 : Int) - 240 := wrap64 (by omega) (by omega)
     refine xU ?_
     refine xO ?_
     refine xG [0,4,5,6] ?_
     refine xO ?_
     refine xF [0,4,5,6,7] ?_
     refine W_reg rfl ?_
     refine xO ?_
     refine xO ?_ (h := by simp [w1]; exact .mk)
     refine xO ?_
     refine xE [0,4,5,6,7] ?_
     exact ⟨rfl, Weak.kills [0,4,5,6,7] (by simp)⟩
   intro h39
   obtain ⟨rfl, rfl, rfl⟩ : k = 0 ∧ le = 0 ∧ ba = 0 := by simp at *; omega
   refine W_skip ?_
   exact ⟨rfl, Weak.kills [0,4,5,6,7] (by simp)⟩
 rintro -
 refine W_seq (xU ?_)
 iterate 3 refine xO ?_
 iterate 3 refine xI ?_
 refine xP ?_
 refine xF [0,5,6,7,48] ?_
 refine W_cond rfl ?_ ?_
 · intro h48
   have hr : runeR s = (0, 0) := by unfold runeR; rw [if_neg h0, if_pos (by rw [e]; simp at h48; omega)]
   refine xU ?_
   iterate 2 refine xO ?_
   refine xF [2,3] ?_
   refine W_ret (xR (by simp [Tryz.f203]; exact .mk) ?_)
   simp [Tryz.f203, hr]
 intro h48
 have hk : k ≠ 0 ∧ k ≤ s.size := by simp at h48; omega
 have hr0 := runeR_k h0 e hk.1
 rw [if_neg (by omega)] at hr0
 have hk4 : 2 ≤ k ∧ k ≤ 4 ∧ (ba : Int) ≤ bt s 0 ∧ (bt s 0 : Int) - ba < 32 := by omega
 obtain ⟨a, ha⟩ : ∃ a : Int, a = (bt s 0 : Int) - ba := ⟨_, rfl⟩
 rw [← ha] at hr0 hk4 ⊢
 refine W_skip ?_
 rintro -
 refine W_seq (xU ?_)
 refine xO ?_
 refine xF [0,5,6,7,8] ?_
 refine W_block (W_rounds (fun m σ o => ∃ j : Nat, m = k - (j + 1) ∧ j + 1 ≤ k ∧ (∀ t, t < j → contB (bt s (t + 1)) = true) ∧ (0 ≤ accR s a j ∧ accR s a j < 32 * 64 ^ j) ∧ σ = slots [(0, .d (vS s)), (5, .d (vI (accR s a j))), (6, .d (vI k)), (7, .d (vI le)), (8, .d (vI ((j + 1 : Nat) : Int)))] ∧ o = []) (k - 1) .refl ⟨0, by simp, by omega, by simp, ⟨by show 0 ≤ a; omega, by show a < 32; omega⟩, rfl, rfl⟩ ?_)
 rintro m σ o ⟨j, rfl, hj, hinv, hab, rfl, rfl⟩ _
 have hpw : (64 : Int) ^ j ≤ 64 ^ 3 := by exact_mod_cast Nat.pow_le_pow_right (by decide : 0 < 64) (by omega : j ≤ 3)
 refine W_seq (xU ?_)
 iterate 3 refine xO ?_
 refine xF [0,5,6,7,8,51] ?_
 refine W_cond rfl ?_ ?_
 · intro h51
   have hj2 : j + 1 < k := by simp at h51; omega
   have hj3 : j + 1 < s.size := by omega
   have hj4 : (j : Int) + 1 < s.size := by omega
   have hj5 : (0 : Int) ≤ (j : Int) + 1 := by omega
   have hj6 : ((j : Int) + 1).toNat = j + 1 := by omega
   have hbj := bt_lt s (j + 1)
   refine W_skip ?_
   rintro -
   refine W_seq (W_block ?_)
   refine xU ?_
   iterate 2 refine xO ?_
   refine xO ?_ (h := by simp [indexA, hj3, hj4, hj5, hj6, btF3 hj3]; exact .mk)
   refine xO ?_ (h := by simp [convA, isIntTy, wb]; exact .mk)
   refine xO ?_
   refine xF [0,5,6,7,8,9] ?_
   refine W_seq (xU ?_)
   iterate 3 refine xO ?_
   iterate 2 refine xI ?_
   refine xP ?_
   refine xF [0,5,6,7,8,9,63] ?_
   refine W_cond rfl ?_ ?_
   · intro h63
     have hr : runeR s = (0, 0) := by
      rw [hr0, if_neg]
      rw [all_bad (i := j) (by omega) (by simp [contB]; simp at h63; omega)]; simp
     refine xU ?_
     iterate 2 refine xO ?_
     refine xF [2,3] ?_
     refine W_ret (xR (by simp [Tryz.f203]; exact .mk) ?_)
     simp [Tryz.f203, hr]
   intro h63
   have hct : contB (bt s (j + 1)) = true := by simp [contB]; simp at h63; omega
   have hcb : 128 ≤ bt s (j + 1) ∧ bt s (j + 1) < 192 := by simpa [contB] using hct
   have w1 : IntKind.i64.wrap (accR s a j * 64) = accR s a j * 64 := wrap64 (by omega) (by omega)
   have w2 : IntKind.i64.wrap (accR s a j * 64 + bt s (j + 1)) = accR s a j * 64 + bt s (j + 1) := wrap64 (by omega) (by omega)
   have w3 : IntKind.i64.wrap (accR s a j * 64 + bt s (j + 1) - 128) = accR s a j * 64 + bt s (j + 1) - 128 := wrap64 (by omega) (by omega)
   refine W_skip ?_
   rintro -
   refine W_reg rfl ?_
   refine xO ?_
   refine xO ?_ (h := by simp [w1]; exact .mk)
   refine xO ?_
   refine xO ?_ (h := by simp [w2]; exact .mk)
   refine xO ?_ (h := by simp [w3]; exact .mk)
   refine xO ?_
   refine xF [0,5,6,7,8] ?_
   refine W_reg rfl ?_
   iterate 3 refine xO ?_
   refine xE [0,5,6,7,8] ?_
   refine rounds_kill [0,5,6,7,8] ?_
   refine rounds_next (m' := k - (j+1+1)) (by omega) ⟨j+1, rfl, by omega, ?_, ?_, ?_, rfl⟩
   · intro t ht
     rcases Nat.lt_succ_iff_lt_or_eq.1 ht with ht | rfl
     · exact hinv t ht
     exact hct
   · have : accR s a (j + 1) = accR s a j * 64 + bt s (j + 1) - 128 := rfl
     have hp : (64 : Int) ^ (j + 1) = 64 ^ j * 64 := Int.pow_succ 64 j
     omega
   rw [wrap64 (by omega) (by omega)]; rfl
 intro h51
 obtain rfl : k = j + 1 := by simp at h51; omega
 have hall : (List.range (j + 1 - 1)).all (fun i => contB (bt s (i + 1))) = true := all_good (fun t ht => hinv t (by omega))
 rw [if_pos hall, Nat.add_sub_cancel] at hr0
 refine W_exit ?_
 rintro -
 refine W_seq (xU ?_)
 iterate 4 refine xO ?_
 iterate 2 refine xI ?_
 refine xP ?_
 refine xB ?_
 iterate 5 refine xI ?_
 iterate 2 refine xP ?_
 refine xF [5,6,83] ?_
 refine W_cond rfl ?_ ?_
 · intro h83
   have hr : runeR s = (0, 0) := by rw [hr0, if_pos]; simp [badR]; simp at h83; grind
   refine xU ?_
   iterate 2 refine xO ?_
   refine xF [2,3] ?_
   refine W_ret (xR (by simp [Tryz.f203]; exact .mk) ?_)
   simp [Tryz.f203, hr]
 intro h83
 have hr : runeR s = (accR s a j, ((j + 1 : Nat) : Int)) := by rw [hr0, if_neg]; simp [badR]; simp at h83; grind
 refine W_skip ?_
 refine xT ?_
 iterate 4 refine xO ?_
 refine xF [2,3] ?_
 refine W_ret (xR (by simp [Tryz.f203]; exact .mk) ?_)
 simp [Tryz.f203, hr]

theorem ct146 (g : Gl) (s : ByteArray) : CtAt Tryz.prog g 146 [vS s] (.v (.bool (nameS s))) := by
 refine ctAt_of_W Tryz.func146 rfl rfl (Nat.le_of_ble_eq_true rfl) fun B S => ?_
 refine xU ?_
 refine xO ?_
 refine xF [0] ?_
 refine W_seq (xU ?_)
 iterate 4 refine xO ?_
 iterate 3 refine xI ?_
 refine xP ?_
 refine xF [0,12] ?_
 refine W_cond rfl ?_ ?_
 · intro h12
   have hr : nameS s = false := nameS_long (by simp at h12; omega)
   refine xU ?_
   refine xO ?_
   refine xF [2] ?_
   refine W_ret (xR (by simp [Tryz.f146]; exact .mk) ?_)
   simp [Tryz.f146, hr]
 intro h12
 have hsz : 1 ≤ s.size ∧ s.size ≤ 16 := by simp at h12; omega
 have hr0 := nameS_short hsz
 refine W_skip ?_
 rintro -
 refine W_seq (W_block ?_)
 refine W_rounds (fun m σ o => ∃ t : ByteArray, m = t.size ∧ runesOk s 0 = runesOk t 0 ∧ σ = slots [(0, .d (vS t))] ∧ o = []) s.size (Weak.kills [0] rfl) ⟨s, rfl, rfl, rfl, rfl⟩ ?_
 rintro m σ o ⟨t, rfl, hro, rfl, rfl⟩ _
 refine W_seq (xU ?_)
 iterate 3 refine xO ?_
 refine xF [0,15] ?_
 refine W_cond rfl ?_ ?_
 · intro h15
   have ht0 : 0 < t.size := by simp at h15; omega
   obtain ⟨s1, s2⟩ := runesOk_step ht0
   refine W_skip ?_
   rintro -
   refine W_block (xU ?_)
   refine xO ?_
   refine xC (ct203 g t ht0) ?_
   iterate 5 refine xO ?_
   refine xF [0,3,4] ?_
   refine W_seq (xU ?_)
   iterate 3 refine xO ?_
   iterate 2 refine xI ?_
   refine xP ?_
   refine xB ?_
   iterate 5 refine xI ?_
   iterate 2 refine xP ?_
   refine xB ?_
   iterate 2 refine xI ?_
   refine xP ?_
   refine xF [0,4,38] ?_
   refine W_cond rfl ?_ ?_
   · intro h38
     have hr : nameS s = false := by rw [hr0, hro]; apply s1; simp [mayS]; simp at h38; grind
     refine xU ?_
     refine xO ?_
     refine xF [2] ?_
     refine W_ret (xR (by simp [Tryz.f146]; exact .mk) ?_)
     simp [Tryz.f146, hr]
   intro h38
   obtain ⟨w, w1, w2, w3, w4⟩ := s2 (by simp at h38; grind) (by simp [mayS]; simp at h38; grind)
   have w5 : (w : Int) ≤ t.size := by omega
   refine W_skip ?_
   rintro -
   refine W_reg rfl ?_
   iterate 2 refine xO ?_
   refine xO ?_ (h := by simp [sliceA, optA, w1, w3, w5]; exact .mk)
   refine xO ?_
   refine xE [0] ?_
   refine rounds_kill [0] ?_
   refine rounds_next (m' := (t.extract w t.size).size) (by have q1 : 0 < w := w2; have q2 : w ≤ t.size := w3; rw [ByteArray.size_extract, Nat.min_self]; omega) ⟨t.extract w t.size, rfl, by rw [hro, w4], rfl, rfl⟩
 intro h15
 have hz : ¬ 0 < t.size := by have q := of_decide_eq_false h15; omega
 have hr : nameS s = true := by
  rw [hr0, hro]
  conv => lhs; rw [runesOk]
  exact if_neg hz
 refine W_exit (xT ?_)
 refine xO ?_
 refine xF [2] ?_
 refine W_ret (xR (by simp [Tryz.f146]; exact .mk) ?_)
 simp [Tryz.f146, hr]

theorem ct147 (g : Gl) (a b : Int) : CtAt Tryz.prog g 147 [.agg [vI a, vI b]] (.v (.bool (handleS a b))) := by
 refine ctAt_of_W Tryz.func147 rfl rfl (Nat.le_of_ble_eq_true rfl) fun B S => ?_
 simp only [List.map, argD_agg]
 refine xU ?_
 iterate 2 refine xO ?_
 refine xG [1] ?_
 iterate 4 refine xO ?_
 iterate 3 refine xI ?_
 refine xP ?_
 refine xB ?_
 iterate 3 refine xI ?_
 refine xP ?_
 refine xB ?_
 iterate 3 refine xI ?_
 refine xP ?_
 refine xB ?_
 refine xF [2] ?_
 refine W_ret (xR (by simp [Tryz.f147]; exact .mk) ?_)
 first | (simp [Tryz.f147, handleS, Bool.and_assoc]; done) | (simp [Tryz.f147, handleS, Bool.and_assoc]; grind)

theorem ct148 (g : Gl) (l : List Root) (nm : ByteArray) (hl : l.length ≤ 2^40) : CtAt Tryz.prog g 148 [rR l, vS nm] (vI (firstS l nm)) := by
 refine ctAt_of_W Tryz.func148 rfl rfl (Nat.le_of_ble_eq_true rfl) fun B S => ?_
 refine xU ?_
 refine xO ?_
 refine xF [0,1] ?_
 refine W_seq (xU ?_)
 refine xO ?_
 refine xF [0,1,5] ?_
 refine W_block (W_rounds (fun m σ o => ∃ i : Nat, m = l.length - i ∧ i ≤ l.length ∧ (∀ j, j < i → ((nth l j).name.toList == nm.toList) = false) ∧ σ = slots [(0, .d (rR l)), (1, .d (vS nm)), (5, .d (vI i))] ∧ o = []) l.length .refl ⟨0, by simp, by simp, by simp, rfl, rfl⟩ ?_)
 rintro m σ o ⟨i, rfl, hi, hinv, rfl, rfl⟩ _
 refine W_seq (xU ?_)
 iterate 4 refine xO ?_
 refine xF [0,1,5,9] ?_
 refine W_cond rfl ?_ ?_
 · intro h9
   have hi2 : i < l.length := by simpa using h9
   refine W_skip ?_
   rintro -
   refine W_seq (W_block ?_)
   refine xU ?_
   iterate 2 refine xO ?_
   refine xO ?_ (h := by simp [eRoot, hi2]; exact .mk)
   refine xO ?_
   refine xO ?_ (h := by simp [-List.getElem?_map, map_get hi2, eRoot]; exact .mk)
   iterate 2 refine xO ?_
   refine xF [0,1,5,18] ?_
   refine W_cond rfl ?_ ?_
   · intro h18
     have hr := firstS_at hi2 hinv h18
     refine xU ?_
     iterate 2 refine xO ?_
     refine xF [4] ?_
     refine W_ret (xR (by simp [Tryz.f148]; exact .mk) ?_)
     simp [Tryz.f148, hr]
   intro h18
   refine W_skip ?_
   rintro -
   refine W_reg rfl ?_
   iterate 3 refine xO ?_
   refine xE [0,1,5] ?_
   refine rounds_kill [0,1,5] ?_
   refine rounds_next (m' := l.length - (i+1)) (by omega) ⟨i+1, rfl, by omega, ?_, ?_, rfl⟩
   · intro j hj
     rcases Nat.lt_succ_iff_lt_or_eq.1 hj with hj | rfl
     · exact hinv j hj
     exact h18
   rw [wrap64 (by omega) (by omega)]; rfl
 intro h9
 have hr := firstS_none (l := l) (nm := nm) (fun j hj => hinv j (by simp at h9; omega))
 refine W_exit (xT ?_)
 refine xO ?_
 refine xF [4] ?_
 refine W_ret (xR (by simp [Tryz.f148]; exact .mk) ?_)
 simp [Tryz.f148, hr]

theorem ct94 (g : Gl) (l : List Root) (hl : l.length ≤ 2^40) : CtAt Tryz.prog g 94 [rR l] (.v (.bool (rootsS l))) := by
 refine ctAt_of_W Tryz.func94 rfl rfl (Nat.le_of_ble_eq_true rfl) fun B S => ?_
 refine xU ?_
 refine xO ?_
 refine xG [0] ?_
 refine xO ?_ (h := by simp [splice]; exact .mk)
 refine xO ?_
 refine xO ?_ (h := by simp [splice]; exact .mk)
 refine xF [0,3] ?_
 refine W_seq (xU ?_)
 refine xO ?_
 refine xF [0,3,4] ?_
 refine W_block (W_rounds (fun m σ o => ∃ i : Nat, m = l.length - i ∧ i ≤ l.length ∧ (∀ j, j < i → rootOk l j = true) ∧ σ = slots [(0, .d (rR l)), (3, .ptr 0 0 0), (4, .d (vI i))] ∧ o = [.var 50 [.d (vI 0), .d (vI 0)]]) l.length .refl ⟨0, by simp, by simp, by simp, rfl, rfl⟩ ?_)
 rintro m σ o ⟨i, rfl, hi, hinv, rfl, rfl⟩ _
 refine W_seq (xU ?_)
 iterate 4 refine xO ?_
 refine xF [0,3,4,11] ?_
 refine W_cond rfl ?_ ?_
 · intro h11
   have hi2 : i < l.length := by simpa using h11
   refine W_skip ?_
   rintro -
   refine W_seq (W_block ?_)
   refine W_seq (xU ?_)
   iterate 2 refine xO ?_
   refine xO ?_ (h := by simp [eRoot, hi2]; exact .mk)
   refine xO ?_
   refine xO ?_ (h := by simp [-List.getElem?_map, map_get hi2, eRoot]; exact .mk)
   refine xO ?_
   refine xF [0,3,4,19] ?_
   refine W_cond rfl ?_ ?_
   · intro h19
     have hz0 : (nth l i).name.toList = [] := by simpa using h19
     have hz : ((nth l i).name.toList == (⟨#[]⟩ : ByteArray).toList) = true := by rw [hz0, toList_eq]; rfl
     refine W_seq (W_seq ?_)
     refine W_regD (by kernel_rfl) [] 4 [0,1,2,3,4,5,6] (by decide +kernel) ?_
     iterate 2 refine xO ?_
     refine xO ?_ (h := by simp [eRoot, hi2]; exact .mk)
     refine xO ?_
     refine xO ?_ (h := by simp [-List.getElem?_map, map_get hi2, eRoot]; exact .mk)
     refine xO ?_ (h := by simp [eRoot]; exact .mk)
     refine xO ?_
     refine xF [0,3,4,26] ?_
     refine W_cond rfl ?_ ?_
     · intro h26
       have hr : rootsS l = false := roots_bad hi2 (by
         have hn : nameS (nth l i).name = false := by unfold nameS; rw [hz0]; simp
         unfold rootOk isZero; rw [hn, hz]; simp at h26; simp; grind)
       refine xU ?_
       refine xO ?_
       refine xF [2] ?_
       refine W_ret (xR (by simp [Tryz.f94]; exact .mk) ?_)
       first | (simp [Tryz.f94, hr]; done) | (simp [Tryz.f94, hr, newOk]; grind)
     intro h26
     have hok : rootOk l i = true := by unfold rootOk isZero; rw [hz]; simp at h26; simp; grind
     refine W_skip ?_
     rintro -
     refine W_exit ?_
     rintro -
     refine W_reg rfl ?_
     iterate 3 refine xO ?_
     refine xE [0,3,4] ?_
     refine rounds_kill [0,3,4] ?_
     refine rounds_next (m' := l.length - (i+1)) (by omega) ⟨i+1, rfl, by omega, ?_, ?_, rfl⟩
     · intro j hj
       rcases Nat.lt_succ_iff_lt_or_eq.1 hj with hj | rfl
       · exact hinv j hj
       exact hok
     rw [wrap64 (by omega) (by omega)]; rfl
   intro h19
   have hz : ((nth l i).name.toList == (⟨#[]⟩ : ByteArray).toList) = false := by
    have hz0 : (nth l i).name.toList ≠ [] := by simpa using h19
    rw [toList_eq ⟨#[]⟩]; simpa using hz0
   refine W_skip ?_
   refine xT ?_
   iterate 2 refine xO ?_
   refine xO ?_ (h := by simp [eRoot, hi2]; exact .mk)
   refine xO ?_
   refine xO ?_ (h := by simp [-List.getElem?_map, map_get hi2, eRoot]; exact .mk)
   refine xC (ct146 g (nth l i).name) ?_
   refine xO ?_
   refine xG [0,3,4,5] ?_
   iterate 2 refine xO ?_
   refine xO ?_ (h := by simp [eRoot, hi2]; exact .mk)
   refine xO ?_
   refine xO ?_ (h := by simp [-List.getElem?_map, map_get hi2, eRoot]; exact .mk)
   refine xC (ct147 g (nth l i).ix (nth l i).gen) ?_
   refine xO ?_
   refine xF [0,3,4,5,6] ?_
   refine W_seq ?_
   refine W_regD (by kernel_rfl) [] 4 [0,1,2,3,4,5,6,7,8,9,10,11,12,13,14,15,16,17] (by decide +kernel) ?_
   iterate 3 refine xO ?_
   iterate 2 refine xI ?_
   refine xP ?_
   refine xB ?_
   iterate 2 refine xI ?_
   refine run_if rfl (by simp; exact .mk) rfl (by simp <;> first | omega | grind) (fun hb => by simp [optA, hi2, Nat.le_of_lt hi2]; exact .mk) ?_
   iterate 2 refine xI ?_
   refine run_if rfl (by simp; exact .mk) rfl (by simp <;> first | omega | grind) (fun hb => by simp [eRoot, hi2]; exact .mk) ?_
   refine xI ?_
   refine run_if rfl (by simp; exact .mk) rfl (by simp <;> first | omega | grind) (fun hb => by simp [-List.getElem?_map, map_get hi2, eRoot]; exact .mk) ?_
   refine run_call rfl (by simp; exact .mk) rfl rfl (by simp) (by simp; exact .mk) (by simp; exact .mk) (fun hb => ct148 g (l.take i) (nth l i).name (by simp; omega)) (by simp) (by simp; exact .mk) (by simp) ?_
   refine xI ?_
   refine xP ?_
   refine xF [0,3,4,56] ?_
   refine W_cond rfl ?_ ?_
   · intro h56
     have hr : rootsS l = false := roots_bad hi2 (by unfold rootOk isZero; rw [hz]; simp at h56; simp; grind)
     refine xU ?_
     refine xO ?_
     refine xF [2] ?_
     refine W_ret (xR (by simp [Tryz.f94]; exact .mk) ?_)
     first | (simp [Tryz.f94, hr]; done) | (simp [Tryz.f94, hr, newOk]; grind)
   intro h56
   have hok : rootOk l i = true := by unfold rootOk isZero; rw [hz]; simp at h56; simp; grind
   refine W_skip ?_
   rintro -
   refine W_reg rfl ?_
   iterate 3 refine xO ?_
   refine xE [0,3,4] ?_
   refine rounds_kill [0,3,4] ?_
   refine rounds_next (m' := l.length - (i+1)) (by omega) ⟨i+1, rfl, by omega, ?_, ?_, rfl⟩
   · intro j hj
     rcases Nat.lt_succ_iff_lt_or_eq.1 hj with hj | rfl
     · exact hinv j hj
     exact hok
   rw [wrap64 (by omega) (by omega)]; rfl
 intro h11
 have hr : rootsS l = newOk l.length := roots_good (fun j hj => hinv j (by simp at h11; omega))
 refine W_exit (xT ?_)
 iterate 4 refine xO ?_
 iterate 3 refine xI ?_
 refine xP ?_
 refine xB ?_
 iterate 4 refine xI ?_
 refine xP ?_
 refine xB ?_
 refine xF [2] ?_
 refine W_ret (xR (by simp [Tryz.f94]; exact .mk) ?_)
 first | (simp [Tryz.f94, hr]; done) | (simp [Tryz.f94, hr, newOk]; grind)

open Go.Awp
theorem kindsR_is {pages : Int} {l : List (Int × Int)} : (kindsR pages l).2 = (laidS pages l).isSome := by
 unfold kindsR; cases laidS pages l <;> rfl
theorem insI_t {l : List Slot} {i : Nat} (h : isOne (nth l i) = true) : insI l (i + 1) = insR (insI l i) (blkAt l i) := by
 conv => lhs; unfold insI
 rw [if_pos h]
theorem insI_f {l : List Slot} {i : Nat} (h : isOne (nth l i) = false) : insI l (i + 1) = insI l i := by
 conv => lhs; unfold insI
 rw [if_neg (by simp [h])]
def ordF (mode : Int) : List Bool := if mode = 1 then [false] else if mode = 2 then [true] else if mode = 3 then [true, false] else if mode = 4 then [false, true] else []
def firstO (s : Stt) (n : Int) : List Bool → Option (Bool × Int)
 | [] => none
 | b :: l => (tryR s n b).or (firstO s n l)
theorem twos_bound {s : Stt} (h : tableS s.slots = true) : ∀ i, i < (twosO s.slots).length → (nth (twosO s.slots) i).1 ≤ 2^62 := fun i hi => by
 have := twosO_le h i hi; omega
open Go.Awp
theorem ct29 (g : Gl) (s : Stt) (hs : s.Ok) : CtAt Tryz.prog g 29 [eStt s] (oBk (onesS s.slots)) := by
 refine ctAt_of_W Tryz.func29 rfl rfl (Nat.le_of_ble_eq_true rfl) fun B S => ?_
 simp only [eStt, List.map, argD_agg, argD_v]
 have q0 := hs.h1
 refine xU ?_
 iterate 2 refine xO ?_
 refine xG [1] ?_
 refine xO ?_
 refine xF [1,3] ?_
 refine W_seq (xU ?_)
 refine xO ?_
 refine xF [1,3,4] ?_
 refine W_block (W_rounds (fun m σ o => ∃ i : Nat, m = s.slots.length - i ∧ i ≤ s.slots.length ∧ σ = slots [(1, .ptr 0 0 0), (3, .hdr 1 0 (insI s.slots i).length), (4, .d (vI i))] ∧ o = [.var 28 [.d (vI s.sh.pages), .d (vI s.sh.slots), .d (vI s.sh.roots), .d (vI s.sh.room), .d (vI s.mode), .d (vI s.base), .d (rSl s.slots), .d (rR s.roots), .d (rBB s.data)], .row 3 ((insI s.slots i).map eBlk)]) s.slots.length (Weak.trans (Weak.nilRow 3 3 rfl) (Weak.kills [1,3,4] rfl) (fun _ _ _ h1 h2 => by rw [← h1.len]; exact h2)) ⟨0, by simp, by simp, by simp [insI], by simp [insI]⟩ ?_)
 rintro m σ o ⟨i, rfl, hi, rfl, rfl⟩ _
 have hle := insI_len (l := s.slots) (i := i)
 obtain ⟨L, hL⟩ : ∃ L, L = insI s.slots i := ⟨_, rfl⟩
 rw [← hL] at hle ⊢
 refine W_seq (xU ?_)
 iterate 2 refine xO ?_
 refine xO ?_ (h := by simp [eBlk]; exact .mk)
 iterate 2 refine xO ?_
 refine xF [1,3,4,14] ?_
 refine W_cond rfl ?_ ?_
 · intro h14
   have hi2 : i < s.slots.length := by simpa using h14
   refine W_skip ?_
   rintro -
   refine W_seq (W_block ?_)
   refine xU ?_
   refine xO ?_
   refine xO ?_ (h := by simp [eBlk]; exact .mk)
   refine xO ?_
   refine xO ?_ (h := by simp [eBlk, hi2]; exact .mk)
   refine xO ?_ (h := by simp [-List.getElem?_map, map_get hi2, eSlot]; exact .mk)
   refine xO ?_
   refine xO ?_ (h := by simp [splice]; exact .mk)
   refine xF [1,3,4,5] ?_
   refine W_seq (xU ?_)
   refine xO ?_
   refine xO ?_ (h := by simp [eBlk]; exact .mk)
   iterate 2 refine xO ?_
   refine xI ?_
   refine run_if rfl (by simp; exact .mk) rfl (by simp <;> first | omega | grind) (fun hb => by simp [eBlk]; exact .mk) ?_
   refine xP ?_
   refine xF [1,3,4,5,28] ?_
   refine W_cond rfl ?_ ?_
   · intro h28
     have h2 : isOne (nth s.slots i) = false := by simp [isOne]; simp at h28; grind
     have hI : insI s.slots (i + 1) = L := by rw [hL]; exact insI_f h2
     refine W_exit ?_
     rintro -
     refine W_reg rfl ?_
     iterate 3 refine xO ?_
     refine xE [1,3,4] ?_
     refine rounds_kill [1,3,4] ?_
     first
     | (refine rounds_kills [1,3,4] rfl ?_
        refine rounds_drop 2 [1,3,4] (by decide) (by rfl) (by rfl) ?_
        refine rounds_next (m' := s.slots.length - (i+1)) (by omega) ⟨i+1, rfl, by omega, ?_, ?_⟩
        · rw [wrap64 (by omega) (by omega), hI]; rfl
        rw [hI]; rfl)
     | (refine rounds_kills [1,3,4] rfl ?_
        refine rounds_swap 1 6 1 (by decide) (by simp) (by decide) rfl rfl ?_
        refine rounds_drop 2 [1,3,4] (by decide) (by rfl) (by rfl) ?_
        refine rounds_next (m' := s.slots.length - (i+1)) (by omega) ⟨i+1, rfl, by omega, ?_, ?_⟩
        · rw [wrap64 (by omega) (by omega), hI]; simp [em, e12]
        rw [hI, List.map_append, List.map_cons, List.map_take, List.map_drop, htk, List.append_cons (List.take k (L.map eBlk)) (eBlk (blkAt s.slots i)) (List.drop k (L.map eBlk))]; simp [eBlk, blkAt]; rfl)
   intro h28
   have h2 : isOne (nth s.slots i) = true := by simp [isOne]; simp at h28; grind
   have hI : insI s.slots (i + 1) = insR L (blkAt s.slots i) := by rw [hL]; exact insI_t h2
   refine W_skip ?_
   refine xT ?_
   refine xO ?_
   refine xO ?_ (h := by simp [eBlk]; exact .mk)
   refine xC (ct87 g (nth s.slots i).len) ?_
   iterate 5 refine xO ?_
   refine xG [1,3,4,5,6] ?_
   refine xO ?_
   refine xF [1,3,4,5,6,8] ?_
   refine W_seq (W_block ?_)
   refine W_rounds (fun m σ o => ∃ k : Nat, m = L.length - k ∧ k ≤ L.length ∧ (∀ j, j < k → (nth L j).at_ ≤ (nth s.slots i).at_) ∧ σ = slots [(1, .ptr 0 0 0), (3, .hdr 1 0 L.length), (4, .d (vI i)), (5, .ptr 2 0 0), (6, .d (vI (needS (nth s.slots i).len).1)), (8, .d (vI k))] ∧ o = [.var 28 [.d (vI s.sh.pages), .d (vI s.sh.slots), .d (vI s.sh.roots), .d (vI s.sh.room), .d (vI s.mode), .d (vI s.base), .d (rSl s.slots), .d (rR s.roots), .d (rBB s.data)], .row 3 (L.map eBlk), .var 92 [.d (vI (nth s.slots i).gen), .d (vT (nth s.slots i).live), .d (vT (nth s.slots i).two), .d (vI (nth s.slots i).at_), .d (vI (nth s.slots i).len)]]) L.length .refl ⟨0, by simp, by simp, by simp, rfl, rfl⟩ ?_
   rintro m σ o ⟨k, rfl, hk, hinv2, rfl, rfl⟩ _
   refine W_seq (W_seq ?_)
   refine W_regD (by kernel_rfl) [] 4 [0,1,2,3,4,5,6,7,8,9,10,11,12,13] (by decide +kernel) ?_
   iterate 5 refine xO ?_
   iterate 2 refine xI ?_
   refine run_if rfl (by simp; exact .mk) rfl (by simp <;> first | omega | grind) (fun hb => by simp at hb; simp [hb]; exact .mk) ?_
   refine xI ?_
   refine run_if rfl (by simp; exact .mk) rfl (by simp <;> first | omega | grind) (fun hb => by simp at hb; simp [-List.getElem?_map, map_get hb, eBlk]; exact .mk) ?_
   refine xI ?_
   refine run_if rfl (by simp; exact .mk) rfl (by simp <;> first | omega | grind) (fun hb => by simp [eBlk]; exact .mk) ?_
   refine xI ?_
   refine xP ?_
   refine xF [1,3,4,5,6,8,48] ?_
   refine W_cond rfl ?_ ?_
   · intro h48
     have hk2 : k < L.length ∧ (nth L k).at_ ≤ (nth s.slots i).at_ := by simpa using h48
     refine W_skip ?_
     rintro -
     refine W_block ?_
     refine W_reg rfl ?_
     iterate 3 refine xO ?_
     refine xE [1,3,4,5,6,8] ?_
     refine rounds_kill [1,3,4,5,6,8] ?_
     refine rounds_next (m' := L.length - (k+1)) (by omega) ⟨k+1, rfl, by omega, ?_, ?_, rfl⟩
     · intro t ht
       rcases Nat.lt_succ_iff_lt_or_eq.1 ht with ht | rfl
       · exact hinv2 t ht
       exact hk2.2
     rw [wrap64 (by omega) (by omega)]; rfl
   intro h48
   have hk3 : k < L.length → (nth s.slots i).at_ < (nth L k).at_ := by simp at h48; omega
   rw [insR_at (b := blkAt s.slots i) hk hinv2 hk3] at hI
   have e1 : (L.length + 1) * 24 ≤ 140737488355328 := by omega
   have e2 : L.length ≤ 140737488355327 := by omega
   have e3 : k * 24 ≤ 140737488355328 := by omega
   have e4 : k ≤ 140737488355328 := by omega
   have e5 : (k + 1) * 24 ≤ 140737488355328 := by omega
   have e6 : k ≤ 140737488355327 := by omega
   have e7 : (k + 1 + (L.length - k)) * 24 ≤ 140737488355328 := by omega
   have e8 : k + 1 + (L.length - k) ≤ 140737488355328 := by omega
   have em : min k L.length = k := by omega
   have e9 : (L.length - k) * 24 ≤ 140737488355328 := by omega
   have e10 : (k : Int) ≤ L.length := by omega
   have e11 : ¬ L.length < k + (L.length - k) := by omega
   have e12 : k + 1 + (L.length - k) = k + (L.length - k + 1) := by omega
   have htk : List.take (L.length - k) (List.drop k (L.map eBlk)) = List.drop k (L.map eBlk) := List.take_of_length_le (by simp)
   have hn1 : ∀ x, x ∈ List.take k (L.map eBlk) → x.noOwn = true := fun x hx => by obtain ⟨b, _, rfl⟩ := List.mem_map.1 (List.mem_of_mem_take hx); simp
   have hn2 : ∀ x, x ∈ List.drop k (L.map eBlk) → x.noOwn = true := fun x hx => by obtain ⟨b, _, rfl⟩ := List.mem_map.1 (List.mem_of_mem_drop hx); simp
   have hn3 : ∀ x, x ∈ List.take (L.length - k) (List.drop k (L.map eBlk)) → x.noOwn = true := fun x hx => hn2 x (List.mem_of_mem_take hx)
   refine W_exit (xT ?_)
   refine xO ?_
   refine xG [1,3,4,5,6,8,9] ?_
   iterate 3 refine xO ?_
   refine xO ?_ (h := by simp [optA, hk, e10]; exact .mk)
   refine xO ?_ (h := by simp [rows, em, e3, e4, Nat.not_lt.2 hk, if_pos hn1]; exact .mk)
   refine xO ?_
   refine xG [1,3,4,5,6,8,9] ?_
   iterate 2 refine xO ?_
   refine xO ?_ (h := by simp [eBlk]; exact .mk)
   iterate 2 refine xO ?_
   refine xO ?_ (h := by simp [splice]; exact .mk)
   refine xO ?_
   refine xO ?_ (h := by simp [rows, em, e5, e6]; exact .mk)
   refine xO ?_
   refine xF [1,3,4,8,9] ?_
   refine W_reg rfl ?_
   iterate 3 refine xO ?_
   refine xO ?_ (h := by simp [optA, hk, e10]; exact .mk)
   refine xO ?_ (h := by simp [rows, em, e7, e8, e9, e11, Nat.not_lt.2 hk, if_pos hn2, if_pos hn3]; exact .mk)
   refine xO ?_
   refine xF [1,3,4] ?_
   refine W_reg rfl ?_
   iterate 3 refine xO ?_
   refine xE [1,3,4] ?_
   refine rounds_kill [1,3,4] ?_
   first
   | (refine rounds_kills [1,3,4] rfl ?_
      refine rounds_drop 2 [1,3,4] (by decide) (by rfl) (by rfl) ?_
      refine rounds_next (m' := s.slots.length - (i+1)) (by omega) ⟨i+1, rfl, by omega, ?_, ?_⟩
      · rw [wrap64 (by omega) (by omega), hI]; rfl
      rw [hI]; rfl)
   | (refine rounds_kills [1,3,4] rfl ?_
      refine rounds_swap 1 6 1 (by decide) (by simp) (by decide) rfl rfl ?_
      refine rounds_drop 2 [1,3,4] (by decide) (by rfl) (by rfl) ?_
      refine rounds_next (m' := s.slots.length - (i+1)) (by omega) ⟨i+1, rfl, by omega, ?_, ?_⟩
      · rw [wrap64 (by omega) (by omega), hI]; simp [em, e12]
      rw [hI, List.map_append, List.map_cons, List.map_take, List.map_drop, htk, List.append_cons (List.take k (L.map eBlk)) (eBlk (blkAt s.slots i)) (List.drop k (L.map eBlk))]; simp [eBlk, blkAt]; rfl)
 intro h14
 obtain rfl : i = s.slots.length := by simp at h14; omega
 rw [insI_onesS] at hL
 subst hL
 refine W_exit (xT ?_)
 iterate 2 refine xO ?_
 refine xF [2] ?_
 refine W_ret (xR (by simp [Tryz.f29]; exact .mk) ?_)
 simp [Tryz.f29, ownR]; try rfl

theorem ct33 (g : Gl) (s : Stt) (hs : s.Ok) : CtAt Tryz.prog g 33 [eStt s] (.v (.bool (sttS s))) := by
 refine ctAt_of_W Tryz.func33 rfl rfl (Nat.le_of_ble_eq_true rfl) fun B S => ?_
 simp only [eStt, List.map, argD_agg, argD_v]
 have q0 := hs.h1
 refine xU ?_
 iterate 2 refine xO ?_
 refine xG [1] ?_
 iterate 6 refine xO ?_
 refine xC (ct92 g s.sh s.mode s.base) ?_
 refine xO ?_
 refine xG [1,3] ?_
 iterate 2 refine xO ?_
 refine xC (ct93 g s.slots hs.h1) ?_
 refine xO ?_
 refine xG [1,3,4] ?_
 iterate 2 refine xO ?_
 refine xC (ct94 g s.roots hs.h2) ?_
 refine xO ?_
 refine xF [1,3,4,5] ?_
 refine W_seq (xU ?_)
 iterate 3 refine xO ?_
 iterate 2 refine xI ?_
 refine xP ?_
 refine xB ?_
 iterate 2 refine xI ?_
 refine xP ?_
 refine xB ?_
 iterate 7 refine xI ?_
 refine xP ?_
 refine xB ?_
 iterate 7 refine xI ?_
 refine xP ?_
 refine xB ?_
 iterate 7 refine xI ?_
 refine xP ?_
 refine xF [1,62] ?_
 refine W_cond rfl ?_ ?_
 · intro h62
   have hr : sttS s = false := by
    cases hz : sttS s with
    | false => rfl
    | true =>
     exfalso
     obtain ⟨⟨z1, z2, z3⟩, _, _, z4, _⟩ := rowsS_iff.1 (sttS_rowsS hz)
     have z5 := sttS_super hz
     have z6 := sttS_rows hz
     simp [z1, z2, z3, z4, z5, z6] at h62
   refine xU ?_
   refine xO ?_
   refine xF [2] ?_
   refine W_ret (xR (by simp [Tryz.f33]; exact .mk) ?_)
   first | (simp [Tryz.f33, hr]; done) | (cases b1 <;> cases b2 <;> by_cases m1 : s.mode = 1 <;> by_cases m2 : s.mode = 2 <;> simp [Tryz.f33, hr1, modeOk, hsl, m1, m2] <;> (rw [Bool.beq_eq_decide_eq]; simp))
 intro h62
 have hh : superS s.sh s.mode s.base = true ∧ tableS s.slots = true ∧ rootsS s.roots = true ∧ (s.slots.length : Int) = s.sh.slots ∧ (s.roots.length : Int) = s.sh.roots ∧ s.data.length = s.slots.length := by simp at h62; grind
 obtain ⟨z1, z2, z3, z4, z5, z6⟩ := hh
 have hr0 : sttS s = ((List.range s.slots.length).all (lenOk s) && ((laidS s.base (twosO s.slots)).isSome && (gapsS (s.base * 32) (s.sh.pages * 32) (spansS s.slots) && modeOk s))) := by simp [sttS, rowsS, z1, z2, z3, z4, z5, z6]
 refine W_skip ?_
 rintro -
 refine W_seq (xU ?_)
 refine xO ?_
 refine xF [1,6] ?_
 refine W_block (W_rounds (fun m σ o => ∃ i : Nat, m = s.slots.length - i ∧ i ≤ s.slots.length ∧ (∀ j, j < i → lenOk s j = true) ∧ σ = slots [(1, .ptr 0 0 0), (6, .d (vI i))] ∧ o = [.var 28 [.d (vI s.sh.pages), .d (vI s.sh.slots), .d (vI s.sh.roots), .d (vI s.sh.room), .d (vI s.mode), .d (vI s.base), .d (rSl s.slots), .d (rR s.roots), .d (rBB s.data)]]) s.slots.length .refl ⟨0, by simp, by simp, by simp, rfl, rfl⟩ ?_)
 rintro m σ o ⟨i, rfl, hi, hinv, rfl, rfl⟩ _
 refine W_seq (xU ?_)
 iterate 5 refine xO ?_
 refine xF [1,6,67] ?_
 refine W_cond rfl ?_ ?_
 · intro h67
   have hi2 : i < s.slots.length := by simpa using h67
   have hi3 : i < s.data.length := by omega
   refine W_skip ?_
   rintro -
   refine W_seq (W_block ?_)
   refine W_seq ?_
   refine W_regD (by kernel_rfl) [] 4 [0,1,2,3,4,5,6,7,8,9,10,11,12] (by decide +kernel) ?_
   iterate 3 refine xO ?_
   refine xO ?_ (h := by simp [hi3]; exact .mk)
   refine xO ?_ (h := by simp [-List.getElem?_map, map_get hi3]; exact .mk)
   iterate 4 refine xO ?_
   refine xO ?_ (h := by simp [hi2]; exact .mk)
   refine xO ?_
   refine xO ?_ (h := by simp [-List.getElem?_map, map_get hi2, eSlot]; exact .mk)
   refine xO ?_
   refine xF [1,6,82] ?_
   refine W_cond rfl ?_ ?_
   · intro h82
     have hr : sttS s = false := by rw [hr0, all_bad hi2 (by simp [lenOk]; simpa using h82)]; rfl
     refine xU ?_
     refine xO ?_
     refine xF [2] ?_
     refine W_ret (xR (by simp [Tryz.f33]; exact .mk) ?_)
     first | (simp [Tryz.f33, hr]; done) | (cases b1 <;> cases b2 <;> by_cases m1 : s.mode = 1 <;> by_cases m2 : s.mode = 2 <;> simp [Tryz.f33, hr1, modeOk, hsl, m1, m2] <;> (rw [Bool.beq_eq_decide_eq]; simp))
   intro h82
   have hok : lenOk s i = true := by simp [lenOk]; simpa using h82
   refine W_skip ?_
   rintro -
   refine W_reg rfl ?_
   iterate 3 refine xO ?_
   refine xE [1,6] ?_
   refine rounds_kill [1,6] ?_
   refine rounds_next (m' := s.slots.length - (i+1)) (by omega) ⟨i+1, rfl, by omega, ?_, ?_, rfl⟩
   · intro j hj
     rcases Nat.lt_succ_iff_lt_or_eq.1 hj with hj | rfl
     · exact hinv j hj
     exact hok
   rw [wrap64 (by omega) (by omega)]; rfl
 intro h67
 have hr1 : sttS s = ((laidS s.base (twosO s.slots)).isSome && (gapsS (s.base * 32) (s.sh.pages * 32) (spansS s.slots) && modeOk s)) := by rw [hr0, all_good (fun j hj => hinv j (by simp at h67; omega))]; rfl
 have hb := superS_b z1
 have w1 : IntKind.i64.wrap (32 * s.base) = s.base * 32 := (wrap64 (by omega) (by omega)).trans (Int.mul_comm _ _)
 have w2 : IntKind.i64.wrap (32 * s.sh.pages) = s.sh.pages * 32 := (wrap64 (by omega) (by omega)).trans (Int.mul_comm _ _)
 have hT := tableS_len z2
 have hol := onesS_len (l := s.slots)
 have htl := twosO_len (l := s.slots)
 have hsl : (spansS s.slots).length = (onesS s.slots).length := by simp [spansS]
 have c96 := ct96 g (onesS s.slots) (by omega)
 rw [show (onesS s.slots).map spanOf = spansS s.slots from rfl] at c96
 have c97 := ct97 g s.base (twosO s.slots) (by omega) (twos_bound z2)
 rw [kindsR_is] at c97
 have c95 := ct95 g (s.base * 32) (s.sh.pages * 32) (spansS s.slots) (by omega)
 obtain ⟨b1, hb1⟩ : ∃ b, b = (laidS s.base (twosO s.slots)).isSome := ⟨_, rfl⟩
 obtain ⟨b2, hb2⟩ : ∃ b, b = gapsS (s.base * 32) (s.sh.pages * 32) (spansS s.slots) := ⟨_, rfl⟩
 rw [← hb1] at c97 hr1
 rw [← hb2] at c95 hr1
 refine W_exit (xT ?_)
 refine xO ?_
 refine xC (ct29 g s hs) ?_
 refine xO ?_
 refine xG [1,7] ?_
 refine xO ?_
 refine xC (ct23 g s hs) ?_
 iterate 5 refine xO ?_
 refine xF [1,7,8] ?_
 refine W_seq ?_
 refine W_regD (by kernel_rfl) [] 4 [0,1,2,3,4,5,6,7,8,9,10] (by decide +kernel) ?_
 iterate 2 refine xO ?_
 refine xO ?_ (h := by simp [w1]; exact .mk)
 iterate 3 refine xO ?_
 refine xO ?_ (h := by simp [w2]; exact .mk)
 refine xO ?_
 refine xC (c96) ?_
 refine xC (c95) ?_
 refine xO ?_
 refine xG [1,7,8,10] ?_
 iterate 3 refine xO ?_
 refine xC (c97) ?_
 iterate 5 refine xO ?_
 refine xG [1,7,8,10,12] ?_
 iterate 2 refine xO ?_
 refine xI ?_
 refine xP ?_
 refine xB ?_
 iterate 7 refine xI ?_
 iterate 2 refine xP ?_
 refine xB ?_
 iterate 7 refine xI ?_
 iterate 2 refine xP ?_
 refine xB ?_
 refine xF [2] ?_
 refine W_ret (xR (by simp [Tryz.f33]; exact .mk) ?_)
 first | (simp [Tryz.f33, hr]; done) | (cases b1 <;> cases b2 <;> by_cases m1 : s.mode = 1 <;> by_cases m2 : s.mode = 2 <;> simp [Tryz.f33, hr1, modeOk, hsl, m1, m2] <;> (rw [Bool.beq_eq_decide_eq]; simp))

open Go.Awp
open Go.Awp
theorem in67 (g : Gl) (os tl : List Awp.Obj) (xs : List (List UInt8)) (ho : objsFix os = true) (ht : objsFix tl = true) (hlo : objsLt (os.length + 1 + tl.length) os = true) (hlt : objsLt (os.length + 1 + tl.length) tl = true) (hl : xs.length ≤ 2^40) : ∀ B S, CallsA Tryz.prog g B S ⟨(os ++ Awp.Obj.row 1 (xs.map oB) :: tl).length, false⟩ 67 [.hdr os.length 0 xs.length] (os ++ .row 1 (xs.map oB) :: tl) (fun x r => x = .dead ∧ r = os ++ .dead :: tl) := by
 refine callsA_at Tryz.func67 rfl (Nat.le_of_ble_eq_true rfl) fun B S => ?_
 refine W_nest os.length (xs := xs.map oB) (by simp) (fun x hx => ?_) fun L0 hL0 hall0 => ?_
 · obtain ⟨b, _, rfl⟩ := List.mem_map.1 hx
   exact ⟨b.map fun b => .int .u8 b.toNat, by simp [ownR]⟩
 rw [show (os ++ Awp.Obj.row 1 (xs.map oB) :: tl).set os.length (.nest L0) = os ++ .nest L0 :: tl from by simp]
 have hL1 : L0.length = xs.length := by simpa using hL0
 have hrow0 : ∀ j, j < xs.length → ∃ l c f, L0[j]? = some (.row l c f) := fun j hj => by
  have hj2 : j < L0.length := by omega
  have := List.all_eq_true.1 hall0 L0[j] (List.getElem_mem hj2)
  rw [List.getElem?_eq_getElem hj2]
  cases hq : L0[j] with
  | row l c f => exact ⟨l, c, f, rfl⟩
  | raw v => rw [hq] at this; cases this
 refine xU ?_
 refine xO ?_
 refine xF [0] ?_
 refine W_seq (xU ?_)
 refine xO ?_
 refine xF [0,3] ?_
 refine W_block (W_rounds (fun m σ o => ∃ (i : Nat) (T : List Awp.Obj) (L : List NE), m = xs.length - i ∧ i ≤ xs.length ∧ ((∃ ds, tl ++ ds = T) ∧ objsFix T = true ∧ L.length = xs.length ∧ (∀ j, j < xs.length → ∃ l c f, L[j]? = some (.row l c f))) ∧ (∀ j, j < i → ∃ l c, L[j]? = some (.row l c true)) ∧ σ = slots [(0, .hdr os.length 0 xs.length), (3, .d (vI i))] ∧ o = os ++ .nest L :: T) xs.length .refl ⟨0, tl, L0, by simp, by simp, ⟨⟨[], by simp⟩, ht, hL1, hrow0⟩, by simp, rfl, rfl⟩ ?_)
 rintro m σ o ⟨i, T, L, rfl, hi, ⟨⟨ds, hTd⟩, hT, hLl, hrow⟩, hfull, rfl, rfl⟩ _
 refine W_seq (xU ?_)
 iterate 4 refine xO ?_
 refine xF [0,3,12] ?_
 refine W_cond rfl ?_ ?_
 · intro h12
   have hi2 : i < xs.length := by simpa using h12
   refine W_skip ?_
   rintro -
   refine W_seq (W_block ?_)
   refine W_seq ?_
   obtain ⟨len, cap, full, hLi⟩ := hrow i (by omega)
   refine W_nopen os.length i (L := L) (len := len) (cap := cap) (full := full) rfl (by simp) hLi (by simp) (by simp [fix_append, ho, hT]) fun zs hz1 hz2 hlc hcm => ?_
   rw [show (os ++ Awp.Obj.nest L :: T).set os.length (.nhole i (os ++ Awp.Obj.nest L :: T).length len L) ++ [.grow cap zs] = os ++ .nhole i (os.length + (T.length + 1)) len L :: (T ++ [.grow cap zs]) from by simp]
   have hcb : (cap : Int) ≤ cap := Int.le_refl _
   refine W_regD (by kernel_rfl) [] 4 [0,1,2,3,4,5,6,7,8,9,10] (by decide +kernel) ?_
   iterate 2 refine xO ?_
   refine xO ?_ (h := by simp [hi2]; exact .mk)
   iterate 3 refine xO ?_
   refine xO ?_ (h := by simp [hi2]; exact .mk)
   iterate 2 refine xO ?_
   refine xO ?_ (h := by simp [optA, *]; exact .mk)
   refine xO ?_
   refine xG [0,3,4] ?_
   refine xO ?_
   refine xF [0,3,4,5] ?_
   refine W_block (W_rounds (fun m σ o => ∃ (k : Nat) (zs : List Int), m = cap - k ∧ k ≤ cap ∧ k ≤ zs.length ∧ zs.length ≤ cap ∧ σ = slots [(0, .hdr os.length 0 xs.length), (3, .d (vI i)), (4, .hdr (os.length + (T.length + 1)) 0 cap), (5, .d (vI k))] ∧ o = os ++ .nhole i (os.length + (T.length + 1)) len L :: (T ++ [.grow cap zs])) cap .refl ⟨0, zs, by simp, by simp, by simp, by cases full <;> simp_all, by simp, by simp⟩ ?_)
   clear hz1 hz2
   rintro m σ o ⟨k, zs, rfl, hk, hkz, hzc, rfl, rfl⟩ _
   refine W_seq (xU ?_)
   iterate 4 refine xO ?_
   refine xF [0,3,4,5,28] ?_
   refine W_cond rfl ?_ ?_
   · intro h28
     have hk2 : k < cap := by simpa using h28
     refine W_skip ?_
     rintro -
     refine W_seq (W_block ?_)
     refine W_reg rfl ?_
     iterate 4 refine xO ?_
     refine xO ?_ (h := by simp [convA]; exact .mk)
     refine xO ?_ (h := by simp [hk2]; exact .mk)
     refine xO ?_ (h := by simp [splice, hk2, hkz, isIntTy]; exact .mk)
     refine xF [0,3,4,5] ?_
     refine W_reg rfl ?_
     iterate 3 refine xO ?_
     refine xE [0,3,4,5] ?_
     refine rounds_kill [0,3,4,5] ?_
     refine rounds_next (m' := cap - (k+1)) (by omega) ⟨k+1, _, rfl, by omega, ?_, ?_, ?_, rfl⟩
     · simp; omega
     · simp; omega
     rw [wrap64 (by have := hcm; simp [maxLen] at this; omega) (by have := hcm; simp [maxLen] at this; omega)]; rfl
   intro h28
   have hkc : k = cap := by simp at h28; omega
   have hzl : zs.length = cap := by omega
   refine W_exit ?_
   rintro -
   refine W_reg rfl ?_
   iterate 3 refine xO ?_
   refine xE [0,3] ?_
   refine rounds_kill [0,3] ?_
   refine rounds_kills [0,3] rfl ?_
   refine rounds_weak (Weak.nclose os.length (i := i) (r' := os.length + (T.length + 1)) (len := len) (c := cap) (L := L) (zs := zs) true (by simp) (by simp) (fun _ => hzl)) ?_
   refine rounds_next (m' := xs.length - (i+1)) (by omega) ⟨i+1, T ++ [.dead], L.set i (.row len cap true), rfl, by omega, ⟨⟨ds ++ [.dead], by rw [← hTd, List.append_assoc]⟩, by simp [fix_append, hT], by simpa using hLl, fun j hj => ?_⟩, fun j hj => ?_, ?_, by simp⟩
   · by_cases e : i = j
     · subst e; exact ⟨len, cap, true, by simp [hLl, hj]⟩
     obtain ⟨a, b, c, h⟩ := hrow j hj
     exact ⟨a, b, c, by rw [List.getElem?_set_ne e]; exact h⟩
   · by_cases e : i = j
     · subst e; exact ⟨len, cap, by simp [hLl, hi2]⟩
     obtain ⟨a, b, h⟩ := hfull j (by omega)
     exact ⟨a, b, by rw [List.getElem?_set_ne e]; exact h⟩
   rw [wrap64 (by omega) (by omega)]; rfl
 intro h12
 have hii : i = xs.length := by simp at h12; omega
 rw [hii] at hfull
 clear hi hii
 refine W_exit ?_
 rintro -
 refine W_seq (xU ?_)
 refine xO ?_
 refine xF [0,6] ?_
 refine W_block (W_rounds (fun m σ o => ∃ (i : Nat) (T : List Awp.Obj) (L : List NE), m = xs.length - i ∧ i ≤ xs.length ∧ ((∃ ds, tl ++ ds = T) ∧ objsFix T = true ∧ L.length = xs.length ∧ (∀ j, j < xs.length → ∃ l c f, L[j]? = some (.row l c f))) ∧ (∀ j, j < xs.length → ∃ l c, L[j]? = some (.row l c true)) ∧ σ = slots [(0, .hdr os.length 0 xs.length), (6, .d (vI i))] ∧ o = os ++ .nest L :: T) xs.length .refl ⟨0, T, L, by simp, by simp, ⟨⟨ds, hTd⟩, hT, hLl, hrow⟩, hfull, rfl, rfl⟩ ?_)
 rintro m σ o ⟨i, T, L, rfl, hi, ⟨⟨ds, hTd⟩, hT, hLl, hrow⟩, hfull, rfl, rfl⟩ _
 refine W_seq (xU ?_)
 iterate 4 refine xO ?_
 refine xF [0,6,40] ?_
 refine W_cond rfl ?_ ?_
 · intro h40
   have hi2 : i < xs.length := by simpa using h40
   refine W_skip ?_
   rintro -
   refine W_seq (W_block ?_)
   refine W_seq ?_
   obtain ⟨len, cap, hLi⟩ := hfull i (by omega)
   refine W_nopen os.length i (L := L) (len := len) (cap := cap) (full := true) rfl (by simp) hLi (by simp) (by simp [fix_append, ho, hT]) fun zs hz1 hz2 hlc hcm => ?_
   rw [show (os ++ Awp.Obj.nest L :: T).set os.length (.nhole i (os ++ Awp.Obj.nest L :: T).length len L) ++ [.grow cap zs] = os ++ .nhole i (os.length + (T.length + 1)) len L :: (T ++ [.grow cap zs]) from by simp]
   have hcb : (cap : Int) ≤ cap := Int.le_refl _
   refine W_regD (by kernel_rfl) [] 4 [0,1,2,3,4,5,6,7,8,9,10] (by decide +kernel) ?_
   iterate 2 refine xO ?_
   refine xO ?_ (h := by simp [hi2]; exact .mk)
   iterate 3 refine xO ?_
   refine xO ?_ (h := by simp [hi2]; exact .mk)
   iterate 2 refine xO ?_
   refine xO ?_ (h := by simp [optA, *]; exact .mk)
   refine xO ?_
   refine xG [0,6,7] ?_
   refine xO ?_
   refine xF [0,6,7,8] ?_
   refine W_block ?_
   have hzl : zs.length = cap := hz1 rfl
   refine W_rounds (fun m σ o => ∃ (k : Nat), m = cap - k ∧ k ≤ cap ∧ σ = slots [(0, .hdr os.length 0 xs.length), (6, .d (vI i)), (7, .hdr (os.length + (T.length + 1)) 0 cap), (8, .d (vI k))] ∧ o = os ++ .nhole i (os.length + (T.length + 1)) len L :: (T ++ [.grow cap zs])) cap .refl ⟨0, by simp, by simp, by simp, by simp⟩ ?_
   rintro m σ o ⟨k, rfl, hk, rfl, rfl⟩ _
   refine W_seq (xU ?_)
   iterate 4 refine xO ?_
   refine xF [0,6,7,8,56] ?_
   refine W_cond rfl ?_ ?_
   · intro h56
     have hk2 : k < cap := by simpa using h56
     have hk3 : k < zs.length := by omega
     refine W_skip ?_
     rintro -
     refine W_seq (W_block ?_)
     refine xU ?_
     iterate 2 refine xO ?_
     refine xO ?_ (h := by simp [hk2]; exact .mk)
     refine xO ?_ (h := by simp [hk3]; exact .mk)
     iterate 2 refine xO ?_
     refine xO ?_ (h := by simp [convA, isIntTy]; exact .mk)
     refine xO ?_
     refine xF [0,6,7,8,66] ?_
     refine W_cond rfl ?_ ?_
     · intro h66
       refine W_weak (s2 := slots []) (objs2 := os ++ .dead :: (T ++ [.grow cap zs])) (Weak.trans (Weak.kills [] rfl) (by have := Weak.objDead (B := B) (S := S) (n := Tryz.f67.ntmps) (fl := ⟨(os ++ Awp.Obj.row 1 (xs.map oB) :: tl).length, false⟩) (s := slots []) (objs := os ++ .nhole i (os.length + (T.length + 1)) len L :: (T ++ [.grow cap zs])) os.length; simpa using this) (fun _ _ _ h1 h2 => by rw [← h1.len]; exact h2)) ?_
       obtain ⟨dd, hdd⟩ : ∃ dd, T ++ [.grow cap zs] = tl ++ dd := ⟨ds ++ [.grow cap zs], by rw [← hTd]; simp⟩
       rw [hdd]
       refine xU ?_
       refine xO ?_
       refine xF [] ?_
       refine W_ret ?_
       exact endAt_tail os tl dd (by simp [Tryz.f67]; exact .mk) rfl rfl (by simp; omega) rfl rfl hlo hlt
     intro h66
     refine W_skip ?_
     rintro -
     refine W_reg rfl ?_
     iterate 3 refine xO ?_
     refine xE [0,6,7,8] ?_
     refine rounds_kill [0,6,7,8] ?_
     refine rounds_next (m' := cap - (k+1)) (by omega) ⟨k+1, rfl, by omega, ?_, rfl⟩
     rw [wrap64 (by have := hcm; simp [maxLen] at this; omega) (by have := hcm; simp [maxLen] at this; omega)]; rfl
   intro h56
   refine W_exit ?_
   rintro -
   refine W_reg rfl ?_
   iterate 3 refine xO ?_
   refine xE [0,6] ?_
   refine rounds_kill [0,6] ?_
   refine rounds_kills [0,6] rfl ?_
   refine rounds_weak (Weak.nclose os.length (i := i) (r' := os.length + (T.length + 1)) (len := len) (c := cap) (L := L) (zs := zs) true (by simp) (by simp) (fun _ => hzl)) ?_
   refine rounds_next (m' := xs.length - (i+1)) (by omega) ⟨i+1, T ++ [.dead], L.set i (.row len cap true), rfl, by omega, ⟨⟨ds ++ [.dead], by rw [← hTd, List.append_assoc]⟩, by simp [fix_append, hT], by simpa using hLl, fun j hj => ?_⟩, fun j hj => ?_, ?_, by simp⟩
   · by_cases e : i = j
     · subst e; exact ⟨len, cap, true, by simp [hLl, hj]⟩
     obtain ⟨a, b, c, h⟩ := hrow j hj
     exact ⟨a, b, c, by rw [List.getElem?_set_ne e]; exact h⟩
   · by_cases e : i = j
     · subst e; exact ⟨len, cap, by simp [hLl, hj]⟩
     obtain ⟨a, b, h⟩ := hfull j (by omega)
     exact ⟨a, b, by rw [List.getElem?_set_ne e]; exact h⟩
   rw [wrap64 (by omega) (by omega)]; rfl
 intro h40
 refine W_weak (s2 := slots []) (objs2 := os ++ .dead :: T) (Weak.trans (Weak.kills [] rfl) (by have := Weak.objDead (B := B) (S := S) (n := Tryz.f67.ntmps) (fl := ⟨(os ++ Awp.Obj.row 1 (xs.map oB) :: tl).length, false⟩) (s := slots []) (objs := os ++ .nest L :: T) os.length; simpa using this) (fun _ _ _ h1 h2 => by rw [← h1.len]; exact h2)) ?_
 obtain ⟨dd, hdd⟩ : ∃ dd, T = tl ++ dd := ⟨ds, hTd.symm⟩
 rw [hdd]
 refine W_exit (xT ?_)
 refine xO ?_
 refine xF [] ?_
 refine W_ret ?_
 exact endAt_tail os tl dd (by simp [Tryz.f67]; exact .mk) rfl rfl (by simp; omega) rfl rfl hlo hlt

open Go.Awp
theorem in26 (g : Gl) (os tl : List Awp.Obj) (s : Stt) (hs : s.Ok) (ho : objsFix os = true) (ht : objsFix tl = true) (hlo : objsLt (os.length + 3 + tl.length) os = true) (hlt : objsLt (os.length + 3 + tl.length) tl = true) : ∀ B S, CallsA Tryz.prog g B S ⟨(os ++ Awp.Obj.row 5 (s.slots.map eSlot) :: .row 3 (s.roots.map eRoot) :: .row 1 (s.data.map oB) :: tl).length, false⟩ 26 [.agg [.d (vI s.sh.pages), .d (vI s.sh.slots), .d (vI s.sh.roots), .d (vI s.sh.room), .d (vI s.mode), .d (vI s.base), .hdr os.length 0 s.slots.length, .hdr (os.length + 1) 0 s.roots.length, .hdr (os.length + 2) 0 s.data.length]] (os ++ Awp.Obj.row 5 (s.slots.map eSlot) :: .row 3 (s.roots.map eRoot) :: .row 1 (s.data.map oB) :: tl) (fun x r => x = .tup [] ∧ r = os ++ .dead :: .dead :: .dead :: tl) := by
 refine callsA_at Tryz.func26 rfl (Nat.le_of_ble_eq_true rfl) fun B S => ?_
 have q0 := hs.h1
 have q1 := hs.h2
 refine xU ?_
 refine xO ?_
 refine xF [1] ?_
 refine W_seq (xU ?_)
 refine xO ?_
 refine xF [1,2] ?_
 refine W_block (W_rounds (fun m σ o => ∃ (i : Nat) (L : List Slot), m = s.slots.length - i ∧ i ≤ s.slots.length ∧ L.length = s.slots.length ∧ σ = slots [(1, .ptr (os.length + (tl.length + 3)) 0 0), (2, .d (vI i))] ∧ o = os ++ .row 5 (L.map eSlot) :: .row 3 (s.roots.map eRoot) :: .row 1 (s.data.map oB) :: (tl ++ [.var 28 [.d (vI s.sh.pages), .d (vI s.sh.slots), .d (vI s.sh.roots), .d (vI s.sh.room), .d (vI s.mode), .d (vI s.base), .hdr os.length 0 s.slots.length, .hdr (os.length + 1) 0 s.roots.length, .hdr (os.length + 2) 0 s.data.length]])) s.slots.length .refl ⟨0, s.slots, by simp, by simp, rfl, by simp, by simp⟩ ?_)
 rintro m σ o ⟨i, L, rfl, hi, hL, rfl, rfl⟩ _
 refine W_seq (xU ?_)
 iterate 2 refine xO ?_
 refine xO ?_ (h := by simp [eSlot]; exact .mk)
 iterate 2 refine xO ?_
 refine xF [1,2,8] ?_
 refine W_cond rfl ?_ ?_
 · intro h8
   have hi2 : i < s.slots.length := by simpa using h8
   have hi3 : i < L.length := by omega
   refine W_skip ?_
   rintro -
   refine W_seq (W_block ?_)
   refine W_reg rfl ?_
   refine xO ?_
   refine xO ?_ (h := by simp [eSlot]; exact .mk)
   refine xO ?_
   refine xO ?_ (h := by simp [splice]; exact .mk)
   refine xO ?_ (h := by simp [eSlot, hi2]; exact .mk)
   refine xO ?_ (h := by simp [-List.getElem?_map, map_get hi3, eSlot, nrmL, nrm, putC, splice]; exact .mk)
   refine xF [1,2] ?_
   refine W_reg rfl ?_
   iterate 3 refine xO ?_
   refine xE [1,2] ?_
   refine rounds_kill [1,2] ?_
   refine rounds_next (m' := s.slots.length - (i+1)) (by omega) ⟨i+1, L.set i ⟨-7, false, false, 0, 0⟩, rfl, by omega, by simpa using hL, ?_, ?_⟩
   · rw [wrap64 (by omega) (by omega)]; rfl
   rw [List.map_set]; rfl
 intro h8
 refine W_exit ?_
 rintro -
 refine W_seq (xU ?_)
 refine xO ?_
 refine xF [1,3] ?_
 refine W_block (W_rounds (fun m σ o => ∃ (i : Nat) (K : List Root), m = s.roots.length - i ∧ i ≤ s.roots.length ∧ K.length = s.roots.length ∧ σ = slots [(1, .ptr (os.length + (tl.length + 3)) 0 0), (3, .d (vI i))] ∧ o = os ++ .row 5 (L.map eSlot) :: .row 3 (K.map eRoot) :: .row 1 (s.data.map oB) :: (tl ++ [.var 28 [.d (vI s.sh.pages), .d (vI s.sh.slots), .d (vI s.sh.roots), .d (vI s.sh.room), .d (vI s.mode), .d (vI s.base), .hdr os.length 0 s.slots.length, .hdr (os.length + 1) 0 s.roots.length, .hdr (os.length + 2) 0 s.data.length]])) s.roots.length .refl ⟨0, s.roots, by simp, by simp, rfl, rfl, rfl⟩ ?_)
 rintro m σ o ⟨i, K, rfl, hi, hK, rfl, rfl⟩ _
 refine W_seq (xU ?_)
 iterate 2 refine xO ?_
 refine xO ?_ (h := by simp [eSlot]; exact .mk)
 iterate 2 refine xO ?_
 refine xF [1,3,20] ?_
 refine W_cond rfl ?_ ?_
 · intro h20
   have hi2 : i < s.roots.length := by simpa using h20
   have hi3 : i < K.length := by omega
   refine W_skip ?_
   rintro -
   refine W_seq (W_block ?_)
   refine W_reg rfl ?_
   refine xO ?_
   refine xO ?_ (h := by simp [eSlot]; exact .mk)
   refine xO ?_
   refine xO ?_ (h := by simp [splice]; exact .mk)
   refine xO ?_ (h := by simp [eSlot, hi2]; exact .mk)
   refine xO ?_ (h := by simp [-List.getElem?_map, map_get hi3, eRoot, nrmL, nrm, putC, splice]; exact .mk)
   refine xF [1,3] ?_
   refine W_reg rfl ?_
   iterate 3 refine xO ?_
   refine xE [1,3] ?_
   refine rounds_kill [1,3] ?_
   refine rounds_next (m' := s.roots.length - (i+1)) (by omega) ⟨i+1, K.set i ⟨⟨#[115,112,111,105,108,116]⟩, 0, 0⟩, rfl, by omega, by simpa using hK, ?_, ?_⟩
   · rw [wrap64 (by omega) (by omega)]; rfl
   rw [List.map_set]; rfl
 intro h20
 refine W_exit ?_
 rintro -
 refine W_weak (s2 := slots [(1, .ptr (os.length + (tl.length + 3)) 0 0)]) (objs2 := os ++ .dead :: .dead :: .row 1 (s.data.map oB) :: (tl ++ [.var 28 [.d (vI s.sh.pages), .d (vI s.sh.slots), .d (vI s.sh.roots), .d (vI s.sh.room), .d (vI s.mode), .d (vI s.base), .hdr os.length 0 s.slots.length, .hdr (os.length + 1) 0 s.roots.length, .hdr (os.length + 2) 0 s.data.length]])) (Weak.trans (Weak.kills [1] rfl) (Weak.trans (Weak.objDead os.length) (by have := Weak.objDead (B := B) (S := S) (n := Tryz.f26.ntmps) (fl := ⟨(os ++ Awp.Obj.row 5 (s.slots.map eSlot) :: .row 3 (s.roots.map eRoot) :: .row 1 (s.data.map oB) :: tl).length, false⟩) (s := slots [(1, .ptr (os.length + (tl.length + 3)) 0 0)]) (objs := (os ++ Awp.Obj.dead :: .row 3 (K.map eRoot) :: .row 1 (s.data.map oB) :: (tl ++ [.var 28 [.d (vI s.sh.pages), .d (vI s.sh.slots), .d (vI s.sh.roots), .d (vI s.sh.room), .d (vI s.mode), .d (vI s.base), .hdr os.length 0 s.slots.length, .hdr (os.length + 1) 0 s.roots.length, .hdr (os.length + 2) 0 s.data.length]]))) (os.length + 1); simpa using this) (fun _ _ _ h1 h2 => by rw [← h1.len]; exact h2)) (fun _ _ _ h1 h2 => by rw [← h1.len]; exact h2)) ?_
 have c67 := in67 g (os ++ [.dead, .dead]) (tl ++ [.var 28 [.d (vI s.sh.pages), .d (vI s.sh.slots), .d (vI s.sh.roots), .d (vI s.sh.room), .d (vI s.mode), .d (vI s.base), .hdr os.length 0 s.slots.length, .hdr (os.length + 1) 0 s.roots.length, .hdr (os.length + 2) 0 s.data.length]]) s.data (by simp [fix_append, ho]) (by simp [fix_append, ht]) (by rw [olt_append]; simp only [Bool.and_eq_true]; exact ⟨olt_mono (by simp <;> omega) hlo, rfl⟩) (by rw [olt_append]; simp only [Bool.and_eq_true]; exact ⟨olt_mono (by simp <;> omega) hlt, by simp <;> omega⟩) hs.h3
 simp only [List.append_assoc, List.cons_append, List.nil_append, List.length_append, List.length_cons, List.length_nil, Nat.zero_add, Nat.reduceAdd] at c67
 refine W_regK rfl [1002] rfl ?_
 refine xO ?_
 refine xO ?_ (h := by simp [eSlot]; exact .mk)
 refine run_inlK rfl rfl rfl rfl (by simp; exact .mk) ⟨_, Tryz.func67, rfl, rfl⟩ (fixS_put (by simp) (fixS_put (by simp) (fixS_slots (by simp)))) (by simpa using c67) (by simp) (by decide) ?_
 refine xE [] ?_
 exact endAt_tailN os tl [.var 28 [.d (vI s.sh.pages), .d (vI s.sh.slots), .d (vI s.sh.roots), .d (vI s.sh.room), .d (vI s.mode), .d (vI s.base), .hdr os.length 0 s.slots.length, .hdr (os.length + 1) 0 s.roots.length, .hdr (os.length + 2) 0 s.data.length]] (by simp [Tryz.f26]; exact .mk) rfl (by simp) (by simp; omega) rfl rfl rfl rfl hlo hlt

open Go.Awp
@[simp] theorem eqOk106 : eqOk Tryz.prog 106 = true := by kernel_rfl
@[simp] theorem eqOk98 : eqOk Tryz.prog 98 = true := by kernel_rfl
def sameBlk (a b : Blk) : Bool := a.at_ == b.at_ && (a.len == b.len && a.slot == b.slot)
def sameObj (a b : Int × Int) : Bool := a.1 == b.1 && a.2 == b.2
open Go.Awp
theorem ct80 (g : Gl) (x y : List Slot) (hx : x.length ≤ 2^40) : CtAt Tryz.prog g 80 [rSl x, rSl y] (.v (.bool (sameL sameSlot x y))) := by
 refine ctAt_of_W Tryz.func80 rfl rfl (Nat.le_of_ble_eq_true rfl) fun B S => ?_
 refine xU ?_
 refine xO ?_
 refine xF [0,1] ?_
 refine W_seq (xU ?_)
 iterate 5 refine xO ?_
 refine xF [0,1,10] ?_
 refine W_cond rfl ?_ ?_
 · intro h10
   have hr : sameL sameSlot x y = false := sameL_len (by simp at h10; omega)
   refine xU ?_
   refine xO ?_
   refine xF [4] ?_
   refine W_ret (xR (by simp [Tryz.f80]; exact .mk) ?_)
   simp [Tryz.f80, hr]
 intro h10
 have hxy : x.length = y.length := by simp at h10; omega
 refine W_skip ?_
 rintro -
 refine W_seq (xU ?_)
 refine xO ?_
 refine xF [0,1,5] ?_
 refine W_block (W_rounds (fun m σ o => ∃ i : Nat, m = x.length - i ∧ i ≤ x.length ∧ (∀ j, j < i → sameSlot (nth x j) (nth y j) = true) ∧ σ = slots [(0, .d (rSl x)), (1, .d (rSl y)), (5, .d (vI i))] ∧ o = []) x.length .refl ⟨0, by simp, by simp, by simp, rfl, rfl⟩ ?_)
 rintro m σ o ⟨i, rfl, hi, hinv, rfl, rfl⟩ _
 refine W_seq (xU ?_)
 iterate 4 refine xO ?_
 refine xF [0,1,5,14] ?_
 refine W_cond rfl ?_ ?_
 · intro h14
   have h2 : i < x.length := by simpa using h14
   have h3 : i < y.length := by omega
   refine W_skip ?_
   rintro -
   refine W_seq (W_block ?_)
   refine W_seq ?_
   refine W_regD (by kernel_rfl) [] 4 [0,1,2,3,4,5,6,7,8] (by decide +kernel) ?_
   iterate 2 refine xO ?_
   refine xO ?_ (h := by simp [eSlot, *]; exact .mk)
   refine xO ?_ (h := by simp [eSlot]; exact .mk)
   iterate 2 refine xO ?_
   refine xO ?_ (h := by simp [eSlot, *]; exact .mk)
   refine xO ?_ (h := by simp [eSlot]; exact .mk)
   refine xO ?_
   refine xF [0,1,5,25] ?_
   refine W_cond rfl ?_ ?_
   · intro h25
     have hr : sameL sameSlot x y = false := sameL_bad h2 (by simp [sameSlot] at h25 ⊢; grind)
     refine xU ?_
     refine xO ?_
     refine xF [4] ?_
     refine W_ret (xR (by simp [Tryz.f80]; exact .mk) ?_)
     simp [Tryz.f80, hr]
   intro h25
   refine W_skip ?_
   rintro -
   refine W_reg rfl ?_
   iterate 3 refine xO ?_
   refine xE [0,1,5] ?_
   refine rounds_kill [0,1,5] ?_
   refine rounds_next (m' := x.length - (i+1)) (by omega) ⟨i+1, rfl, by omega, ?_, ?_, rfl⟩
   · intro j hj
     rcases Nat.lt_succ_iff_lt_or_eq.1 hj with hj | rfl
     · exact hinv j hj
     simp [sameSlot] at h25 ⊢; grind
   rw [wrap64 (by omega) (by omega)]; rfl
 intro h14
 have hr : sameL sameSlot x y = true := sameL_good hxy (fun j hj => hinv j (by simp at h14; omega))
 refine W_exit (xT ?_)
 refine xO ?_
 refine xF [4] ?_
 refine W_ret (xR (by simp [Tryz.f80]; exact .mk) ?_)
 simp [Tryz.f80, hr]

theorem ct25 (g : Gl) (s t : Stt) (hs : s.Ok) : CtAt Tryz.prog g 25 [eStt s, eStt t] (.v (.bool (sameStt s t))) := by
 refine ctAt_of_W Tryz.func25 rfl rfl (Nat.le_of_ble_eq_true rfl) fun B S => ?_
 simp only [eStt, List.map, argD_agg, argD_v]
 refine xU ?_
 iterate 3 refine xO ?_
 refine xG [2,3] ?_
 iterate 6 refine xO ?_
 iterate 5 refine xI ?_
 refine xP ?_
 refine xB ?_
 iterate 5 refine xI ?_
 refine xP ?_
 refine xB ?_
 iterate 4 refine xI ?_
 refine run_call rfl (by simp; exact .mk) rfl rfl (by simp) (by simp; exact .mk) (by simp; exact .mk) (fun hb => ct80 g _ _ hs.h1) (by simp) (by simp; exact .mk) (by simp) ?_
 refine xP ?_
 refine xB ?_
 iterate 4 refine xI ?_
 refine run_call rfl (by simp; exact .mk) rfl rfl (by simp) (by simp; exact .mk) (by simp; exact .mk) (fun hb => ct81 g _ _ hs.h2) (by simp) (by simp; exact .mk) (by simp) ?_
 refine xP ?_
 refine xB ?_
 iterate 4 refine xI ?_
 refine run_call rfl (by simp; exact .mk) rfl rfl (by simp) (by simp; exact .mk) (by simp; exact .mk) (fun hb => ct82 g _ _ hs.h3) (by simp) (by simp; exact .mk) (by simp) ?_
 refine xP ?_
 refine xB ?_
 refine xF [4] ?_
 refine W_ret (xR (by simp [Tryz.f25]; exact .mk) ?_)
 simp [Tryz.f25, sameShape, sameStt, sameB, Bool.and_assoc]

open Go.Awp
theorem ct27 (g : Gl) (x y : List Blk) (hx : x.length ≤ 2^40) : CtAt Tryz.prog g 27 [rBk x, rBk y] (.v (.bool (sameL sameBlk x y))) := by
 refine ctAt_of_W Tryz.func27 rfl rfl (Nat.le_of_ble_eq_true rfl) fun B S => ?_
 refine xU ?_
 refine xO ?_
 refine xF [0,1] ?_
 refine W_seq (xU ?_)
 iterate 5 refine xO ?_
 refine xF [0,1,10] ?_
 refine W_cond rfl ?_ ?_
 · intro h10
   have hr : sameL sameBlk x y = false := sameL_len (by simp at h10; omega)
   refine xU ?_
   refine xO ?_
   refine xF [4] ?_
   refine W_ret (xR (by simp [Tryz.f27]; exact .mk) ?_)
   simp [Tryz.f27, hr]
 intro h10
 have hxy : x.length = y.length := by simp at h10; omega
 refine W_skip ?_
 rintro -
 refine W_seq (xU ?_)
 refine xO ?_
 refine xF [0,1,5] ?_
 refine W_block (W_rounds (fun m σ o => ∃ i : Nat, m = x.length - i ∧ i ≤ x.length ∧ (∀ j, j < i → sameBlk (nth x j) (nth y j) = true) ∧ σ = slots [(0, .d (rBk x)), (1, .d (rBk y)), (5, .d (vI i))] ∧ o = []) x.length .refl ⟨0, by simp, by simp, by simp, rfl, rfl⟩ ?_)
 rintro m σ o ⟨i, rfl, hi, hinv, rfl, rfl⟩ _
 refine W_seq (xU ?_)
 iterate 4 refine xO ?_
 refine xF [0,1,5,14] ?_
 refine W_cond rfl ?_ ?_
 · intro h14
   have h2 : i < x.length := by simpa using h14
   have h3 : i < y.length := by omega
   refine W_skip ?_
   rintro -
   refine W_seq (W_block ?_)
   refine W_seq ?_
   refine W_regD (by kernel_rfl) [] 4 [0,1,2,3,4,5,6,7,8] (by decide +kernel) ?_
   iterate 2 refine xO ?_
   refine xO ?_ (h := by simp [eBlk, *]; exact .mk)
   refine xO ?_ (h := by simp [eBlk]; exact .mk)
   iterate 2 refine xO ?_
   refine xO ?_ (h := by simp [eBlk, *]; exact .mk)
   refine xO ?_ (h := by simp [eBlk]; exact .mk)
   refine xO ?_
   refine xF [0,1,5,25] ?_
   refine W_cond rfl ?_ ?_
   · intro h25
     have hr : sameL sameBlk x y = false := sameL_bad h2 (by simp [sameBlk] at h25 ⊢; grind)
     refine xU ?_
     refine xO ?_
     refine xF [4] ?_
     refine W_ret (xR (by simp [Tryz.f27]; exact .mk) ?_)
     simp [Tryz.f27, hr]
   intro h25
   refine W_skip ?_
   rintro -
   refine W_reg rfl ?_
   iterate 3 refine xO ?_
   refine xE [0,1,5] ?_
   refine rounds_kill [0,1,5] ?_
   refine rounds_next (m' := x.length - (i+1)) (by omega) ⟨i+1, rfl, by omega, ?_, ?_, rfl⟩
   · intro j hj
     rcases Nat.lt_succ_iff_lt_or_eq.1 hj with hj | rfl
     · exact hinv j hj
     simp [sameBlk] at h25 ⊢; grind
   rw [wrap64 (by omega) (by omega)]; rfl
 intro h14
 have hr : sameL sameBlk x y = true := sameL_good hxy (fun j hj => hinv j (by simp at h14; omega))
 refine W_exit (xT ?_)
 refine xO ?_
 refine xF [4] ?_
 refine W_ret (xR (by simp [Tryz.f27]; exact .mk) ?_)
 simp [Tryz.f27, hr]

theorem ct30 (g : Gl) (x y : List (Int × Int)) (hx : x.length ≤ 2^40) : CtAt Tryz.prog g 30 [rO x, rO y] (.v (.bool (sameL sameObj x y))) := by
 refine ctAt_of_W Tryz.func30 rfl rfl (Nat.le_of_ble_eq_true rfl) fun B S => ?_
 refine xU ?_
 refine xO ?_
 refine xF [0,1] ?_
 refine W_seq (xU ?_)
 iterate 5 refine xO ?_
 refine xF [0,1,10] ?_
 refine W_cond rfl ?_ ?_
 · intro h10
   have hr : sameL sameObj x y = false := sameL_len (by simp at h10; omega)
   refine xU ?_
   refine xO ?_
   refine xF [4] ?_
   refine W_ret (xR (by simp [Tryz.f30]; exact .mk) ?_)
   simp [Tryz.f30, hr]
 intro h10
 have hxy : x.length = y.length := by simp at h10; omega
 refine W_skip ?_
 rintro -
 refine W_seq (xU ?_)
 refine xO ?_
 refine xF [0,1,5] ?_
 refine W_block (W_rounds (fun m σ o => ∃ i : Nat, m = x.length - i ∧ i ≤ x.length ∧ (∀ j, j < i → sameObj (nth x j) (nth y j) = true) ∧ σ = slots [(0, .d (rO x)), (1, .d (rO y)), (5, .d (vI i))] ∧ o = []) x.length .refl ⟨0, by simp, by simp, by simp, rfl, rfl⟩ ?_)
 rintro m σ o ⟨i, rfl, hi, hinv, rfl, rfl⟩ _
 refine W_seq (xU ?_)
 iterate 4 refine xO ?_
 refine xF [0,1,5,14] ?_
 refine W_cond rfl ?_ ?_
 · intro h14
   have h2 : i < x.length := by simpa using h14
   have h3 : i < y.length := by omega
   refine W_skip ?_
   rintro -
   refine W_seq (W_block ?_)
   refine W_seq ?_
   refine W_regD (by kernel_rfl) [] 4 [0,1,2,3,4,5,6,7,8] (by decide +kernel) ?_
   iterate 2 refine xO ?_
   refine xO ?_ (h := by simp [eObj, *]; exact .mk)
   refine xO ?_ (h := by simp [eObj]; exact .mk)
   iterate 2 refine xO ?_
   refine xO ?_ (h := by simp [eObj, *]; exact .mk)
   refine xO ?_ (h := by simp [eObj]; exact .mk)
   refine xO ?_
   refine xF [0,1,5,25] ?_
   refine W_cond rfl ?_ ?_
   · intro h25
     have hr : sameL sameObj x y = false := sameL_bad h2 (by simp [sameObj] at h25 ⊢; grind)
     refine xU ?_
     refine xO ?_
     refine xF [4] ?_
     refine W_ret (xR (by simp [Tryz.f30]; exact .mk) ?_)
     simp [Tryz.f30, hr]
   intro h25
   refine W_skip ?_
   rintro -
   refine W_reg rfl ?_
   iterate 3 refine xO ?_
   refine xE [0,1,5] ?_
   refine rounds_kill [0,1,5] ?_
   refine rounds_next (m' := x.length - (i+1)) (by omega) ⟨i+1, rfl, by omega, ?_, ?_, rfl⟩
   · intro j hj
     rcases Nat.lt_succ_iff_lt_or_eq.1 hj with hj | rfl
     · exact hinv j hj
     simp [sameObj] at h25 ⊢; grind
   rw [wrap64 (by omega) (by omega)]; rfl
 intro h14
 have hr : sameL sameObj x y = true := sameL_good hxy (fun j hj => hinv j (by simp at h14; omega))
 refine W_exit (xT ?_)
 refine xO ?_
 refine xF [4] ?_
 refine W_ret (xR (by simp [Tryz.f30]; exact .mk) ?_)
 simp [Tryz.f30, hr]

theorem ct36 (g : Gl) (s : Stt) (hs : s.Ok) : CtAt Tryz.prog g 36 [eStt s] (vI (liveIx s.slots s.slots.length)) := by
 refine ctAt_of_W Tryz.func36 rfl rfl (Nat.le_of_ble_eq_true rfl) fun B S => ?_
 simp only [eStt, List.map, argD_agg, argD_v]
 have q0 := hs.h1
 refine xU ?_
 iterate 2 refine xO ?_
 refine xG [1] ?_
 refine xO ?_
 refine xF [1,3] ?_
 refine W_seq (xU ?_)
 refine xO ?_
 refine xF [1,3,4] ?_
 refine W_block (W_rounds (fun m σ o => ∃ i : Nat, m = s.slots.length - i ∧ i ≤ s.slots.length ∧ σ = slots [(1, .ptr 0 0 0), (3, .d (vI (liveIx s.slots i))), (4, .d (vI i))] ∧ o = [.var 28 [.d (vI s.sh.pages), .d (vI s.sh.slots), .d (vI s.sh.roots), .d (vI s.sh.room), .d (vI s.mode), .d (vI s.base), .d (rSl s.slots), .d (rR s.roots), .d (rBB s.data)]]) s.slots.length .refl ⟨0, by simp, by simp, by simp [liveIx], rfl⟩ ?_)
 rintro m σ o ⟨i, rfl, hi, rfl, rfl⟩ _
 have hle := liveIx_le (l := s.slots) (i := i)
 refine W_seq (xU ?_)
 iterate 2 refine xO ?_
 refine xO ?_ (h := by simp [eSlot]; exact .mk)
 iterate 2 refine xO ?_
 refine xF [1,3,4,9] ?_
 refine W_cond rfl ?_ ?_
 · intro h9
   have hi2 : i < s.slots.length := by simpa using h9
   have e1 : IntKind.i64.wrap (((liveIx s.slots i : Nat) : Int) + 1) = ((liveIx s.slots i : Nat) : Int) + 1 := wrap64 (by omega) (by omega)
   refine W_skip ?_
   rintro -
   refine W_seq (W_block ?_)
   refine xU ?_
   refine xO ?_
   refine xO ?_ (h := by simp [eSlot]; exact .mk)
   refine xO ?_
   refine xO ?_ (h := by simp [eSlot, hi2]; exact .mk)
   refine xO ?_
   refine xO ?_ (h := by simp [-List.getElem?_map, map_get hi2, eSlot]; exact .mk)
   refine xF [1,3,4,17] ?_
   refine W_cond rfl ?_ ?_
   · intro h17
     refine W_reg rfl ?_
     refine xO ?_
     refine xO ?_ (h := by simp [e1]; exact .mk)
     refine xO ?_
     refine xF [1,3,4] ?_
     refine W_reg rfl ?_
     iterate 3 refine xO ?_
     refine xE [1,3,4] ?_
     refine rounds_kill [1,3,4] ?_
     refine rounds_next (m' := s.slots.length - (i+1)) (by omega) ⟨i+1, rfl, by omega, ?_, rfl⟩
     rw [wrap64 (by omega) (by omega), liveIx_s, h17]; rfl
   intro h17
   refine W_skip ?_
   rintro -
   refine W_reg rfl ?_
   iterate 3 refine xO ?_
   refine xE [1,3,4] ?_
   refine rounds_kill [1,3,4] ?_
   refine rounds_next (m' := s.slots.length - (i+1)) (by omega) ⟨i+1, rfl, by omega, ?_, rfl⟩
   rw [wrap64 (by omega) (by omega), liveIx_s, h17]; rfl
 intro h9
 obtain rfl : i = s.slots.length := by simp at h9; omega
 refine W_exit (xT ?_)
 iterate 2 refine xO ?_
 refine xF [2] ?_
 refine W_ret (xR (by simp [Tryz.f36]; exact .mk) ?_)
 simp [Tryz.f36]

theorem ct19 (g : Gl) : CtAt Tryz.prog g 19 [] (.v (.bool true)) := by
 refine ctAt_of_W Tryz.func19 rfl rfl (Nat.le_of_ble_eq_true rfl) fun B S => ?_
 have c1 := ct53 g sh4 2
 have c2 := ct53 g sh4 3
 have c3 := ct32 g (firstStt sh4 2) (firstOk (sh := sh4) (mode := 2) (base := 4) (by kernel_rfl))
 rw [new4] at c1
 rw [new4up] at c2
 rw [right4] at c3
 refine xU ?_
 refine xO ?_
 refine xG [] ?_
 refine xO ?_ (h := by simp [splice]; exact .mk)
 refine xC (c1) ?_ (he := by simp [row_rows, Function.comp_def]; exact .mk) (hi := by simp [oStt, zStt, firstStt, sh4, baseOf]; exact .mk)
 iterate 4 refine xO ?_
 refine xO ?_ (h := by simp [splice]; exact .mk)
 refine xO ?_
 refine xG [1,2] ?_
 refine xO ?_ (h := by simp [splice]; exact .mk)
 refine xC (c2) ?_ (he := by simp [row_rows, Function.comp_def]; exact .mk) (hi := by simp [oStt, zStt, firstStt, sh4, baseOf]; exact .mk)
 iterate 4 refine xO ?_
 refine xO ?_ (h := by simp [splice]; exact .mk)
 refine xO ?_
 refine xG [1,2,4] ?_
 iterate 3 refine xO ?_
 iterate 3 refine xI ?_
 refine xP ?_
 refine xB ?_
 iterate 4 refine xI ?_
 refine xP ?_
 refine xB ?_
 iterate 4 refine xI ?_
 refine xP ?_
 refine xB ?_
 iterate 4 refine xI ?_
 refine xP ?_
 refine xB ?_
 iterate 2 refine xI ?_
 refine xP ?_
 refine xB ?_
 refine xI ?_
 refine run_call rfl (by simp; exact .mk) rfl rfl (by simp) (by simp; exact .mk) (by simp [row_rows, Function.comp_def]; exact .mk) (fun hb => c3) (by simp) (by simp [oStt, zStt, firstStt, sh4, baseOf]; exact .mk) (by simp) ?_
 refine xP ?_
 refine xB ?_
 refine xF [0] ?_
 refine W_ret (xR (by simp [Tryz.f19]; exact .mk) ?_)
 simp [Tryz.f19]

open Go.Awp
theorem ct3 (g : Gl) (s t : Stt) : CtAt Tryz.prog g 3 [eStt s, eStt t] (.v (.bool true)) := by
 refine ctAt_of_W Tryz.func3 rfl rfl (Nat.le_of_ble_eq_true rfl) fun B S => ?_
 simp only [eStt, List.map, argD_agg, argD_v]
 refine xU ?_
 iterate 3 refine xO ?_
 refine xG [2,3] ?_
 refine xC (ct19 g) ?_ (he := by simp [row_rows, Function.comp_def]; exact .mk) (hi := by simp [oStt]; exact .mk)
 refine xO ?_
 refine xG [2,3,5] ?_
 refine xO ?_ (h := by simp [eSlot]; exact .mk)
 refine xC (ct20 g s) ?_ (he := by simp [row_rows, Function.comp_def]; exact .mk) (hi := by simp [oStt]; exact .mk)
 refine xO ?_
 refine xG [2,3,5,6] ?_
 refine xO ?_ (h := by simp [eSlot]; exact .mk)
 refine xC (ct20 g t) ?_ (he := by simp [row_rows, Function.comp_def]; exact .mk) (hi := by simp [oStt]; exact .mk)
 refine xO ?_
 refine xF [2,3,5,6,7] ?_
 refine W_seq (xU ?_)
 iterate 3 refine xO ?_
 iterate 2 refine xI ?_
 refine xP ?_
 refine xF [2,3,5,25] ?_
 refine W_cond rfl ?_ ?_
 · intro h25
   refine xU ?_
   iterate 2 refine xO ?_
   refine xF [4] ?_
   refine W_ret (xR (by simp [Tryz.f3]; exact .mk) ?_)
   simp [Tryz.f3]
 intro h25
 have hF : fewStt s = true ∧ fewStt t = true := by simp at h25; grind
 have hs := fewStt_ok hF.1
 have c25 := ct25 g s s hs
 rw [sameStt_refl] at c25
 have c22 := ct22 g s hs
 have c23 := ct23 g s hs
 have c24 := ct24 g s hs
 have c28 := ct28 g s hs
 have c29 := ct29 g s hs
 have c27 := ct27 g (onesS s.slots) (onesS s.slots) (Nat.le_trans onesS_len hs.h1)
 rw [sameL_refl (fun a => by simp [sameBlk])] at c27
 have c30 := ct30 g (twosO s.slots) (twosO s.slots) (Nat.le_trans twosO_len hs.h1)
 rw [sameL_refl (fun a => by simp [sameObj])] at c30
 have c31 := ct31 g (twosI s.slots) (twosI s.slots) (by rw [twosI_len]; exact Nat.le_trans twosO_len hs.h1)
 rw [sameL_refl (fun a => by simp)] at c31
 have c34 := ct34 g s t hs
 have c25t := ct25 g s t hs
 have c32 := ct32 g s hs
 have c33 := ct33 g s hs
 have c35 := ct35 g s hs
 have c36 := ct36 g s hs
 refine W_skip ?_
 refine xT ?_
 refine xO ?_ (h := by simp [eSlot]; exact .mk)
 refine xC (ct21 g s hs) ?_ (he := by simp [row_rows, Function.comp_def]; exact .mk) (hi := by simp [oStt]; exact .mk)
 refine xO ?_
 refine xO ?_ (h := by simp [splice]; exact .mk)
 refine xG [2,3,5,8] ?_
 refine xO ?_ (h := by simp [eSlot]; exact .mk)
 refine xC (c22) ?_ (he := by simp [row_rows, Function.comp_def]; exact .mk) (hi := by simp [oStt]; exact .mk)
 iterate 5 refine xO ?_
 refine xG [2,3,5,8,9,10] ?_
 refine xO ?_ (h := by simp [eSlot]; exact .mk)
 refine xC (c23) ?_ (he := by simp [row_rows, Function.comp_def]; exact .mk) (hi := by simp [oStt]; exact .mk)
 iterate 5 refine xO ?_
 refine xG [2,3,5,8,9,10,11,12] ?_
 refine xO ?_ (h := by simp [eSlot]; exact .mk)
 refine xC (c24) ?_ (he := by simp [row_rows, Function.comp_def]; exact .mk) (hi := by simp [oStt]; exact .mk)
 refine xO ?_
 refine xO ?_ (h := by simp [splice]; exact .mk)
 refine xG [2,3,5,8,9,10,11,12,13] ?_
 iterate 2 (refine xO ?_ (h := by simp [eSlot]; exact .mk))
 refine xC (c25) ?_ (he := by simp [row_rows, Function.comp_def]; exact .mk) (hi := by simp [oStt]; exact .mk)
 refine xO ?_
 refine xF [2,3,5,8,9,10,11,12,13,14] ?_
 refine W_seq ?_
 have c26 := in26 g [.var 28 [.d (vI s.sh.pages), .d (vI s.sh.slots), .d (vI s.sh.roots), .d (vI s.sh.room), .d (vI s.mode), .d (vI s.base), .d (rSl s.slots), .d (rR s.roots), .d (rBB s.data)], .var 28 [.d (vI t.sh.pages), .d (vI t.sh.slots), .d (vI t.sh.roots), .d (vI t.sh.room), .d (vI t.mode), .d (vI t.base), .d (rSl t.slots), .d (rR t.roots), .d (rBB t.data)], .row 5 (s.slots.map eSlot), .row 3 (s.roots.map eRoot), .row 1 (s.data.map oB), .var 28 [.d (vI s.sh.pages), .d (vI s.sh.slots), .d (vI s.sh.roots), .d (vI s.sh.room), .d (vI s.mode), .d (vI s.base), .hdr 2 0 s.slots.length, .hdr 3 0 s.roots.length, .hdr 4 0 s.data.length], .row 2 ((twosO s.slots).map eObj), .row 1 ((twosI s.slots).map vI), .row 2 ((twosO s.slots).map eObj), .row 1 ((twosI s.slots).map vI)] [.var 28 [.d (vI s.sh.pages), .d (vI s.sh.slots), .d (vI s.sh.roots), .d (vI s.sh.room), .d (vI s.mode), .d (vI s.base), .hdr 10 0 s.slots.length, .hdr 11 0 s.roots.length, .hdr 12 0 s.data.length]] s hs (by simp) (by simp) (by simp) (by simp)
 simp only [List.cons_append, List.nil_append, List.length_cons, List.length_nil, Nat.zero_add, Nat.reduceAdd] at c26
 refine W_regK rfl [1001] rfl ?_
 refine xO ?_ (h := by simp [eSlot]; exact .mk)
 refine run_inlK rfl rfl rfl rfl (by simp; exact .mk) ⟨_, Tryz.func26, rfl, rfl⟩ (fixS_put (by simp) (fixS_slots (by simp))) (by simpa using c26) (by simp) (by decide) ?_
 refine xF [2,3,5,8,9,10,11,12,14] ?_
 refine W_seq ?_
 refine W_regD (by kernel_rfl) [] 12 [0,1,2,3,4,5,6,7,8,9,10,12,11,13,14,15,16,17,18,19,20,21,22,23,24,25,26,27,29,28,30,31,32,33,34,35,37,38,36,39,40,41,42,43,45,44,46,47,48,49] (by decide +kernel) ?_
 iterate 2 refine xO ?_
 refine xI ?_
 refine xP ?_
 refine xB ?_
 iterate 2 (refine run_if rfl (by simp; exact .mk) rfl (by simp <;> first | omega | grind) (fun hb => by simp [eSlot]; exact .mk) ?_)
 refine run_call rfl (by simp; exact .mk) rfl rfl (by simp) (by simp; exact .mk) (by simp [row_rows, Function.comp_def]; exact .mk) (fun hb => c25) (by simp) (by simp [oStt]; exact .mk) (by simp) ?_
 refine xP ?_
 refine xB ?_
 iterate 2 (refine run_if rfl (by simp; exact .mk) rfl (by simp <;> first | omega | grind) (fun hb => by simp [eSlot]; exact .mk) ?_)
 refine run_call rfl (by simp; exact .mk) rfl rfl (by simp) (by simp; exact .mk) (by simp [row_rows, Function.comp_def]; exact .mk) (fun hb => c28) (by simp) (by simp [oStt]; exact .mk) (by simp) ?_
 refine run_call rfl (by simp; exact .mk) rfl rfl (by simp) (by simp; exact .mk) (by simp [row_rows, Function.comp_def]; exact .mk) (fun hb => c29) (by simp) (by simp [oStt]; exact .mk) (by simp) ?_
 refine run_call rfl (by simp; exact .mk) rfl rfl (by simp) (by simp; exact .mk) (by simp [row_rows, Function.comp_def]; exact .mk) (fun hb => c27) (by simp) (by simp [oStt]; exact .mk) (by simp) ?_
 refine xP ?_
 refine xB ?_
 iterate 2 refine xI ?_
 refine run_call rfl (by simp; exact .mk) rfl rfl (by simp) (by simp; exact .mk) (by simp [row_rows, Function.comp_def]; exact .mk) (fun hb => c30) (by simp) (by simp [oStt]; exact .mk) (by simp) ?_
 refine xP ?_
 refine xB ?_
 iterate 2 refine xI ?_
 refine run_call rfl (by simp; exact .mk) rfl rfl (by simp) (by simp; exact .mk) (by simp [row_rows, Function.comp_def]; exact .mk) (fun hb => c31) (by simp) (by simp [oStt]; exact .mk) (by simp) ?_
 refine xP ?_
 refine xB ?_
 iterate 2 (refine run_if rfl (by simp; exact .mk) rfl (by simp <;> first | omega | grind) (fun hb => by simp [eSlot]; exact .mk) ?_)
 refine run_call rfl (by simp; exact .mk) rfl rfl (by simp) (by simp; exact .mk) (by simp [row_rows, Function.comp_def]; exact .mk) (fun hb => c32) (by simp) (by simp [oStt]; exact .mk) (by simp) ?_
 refine run_call rfl (by simp; exact .mk) rfl rfl (by simp) (by simp; exact .mk) (by simp [row_rows, Function.comp_def]; exact .mk) (fun hb => c33) (by simp) (by simp [oStt]; exact .mk) (by simp) ?_
 refine xI ?_
 refine xP ?_
 refine xB ?_
 iterate 4 (refine run_if rfl (by simp; exact .mk) rfl (by simp <;> first | omega | grind) (fun hb => by simp [eSlot]; exact .mk) ?_)
 refine run_call rfl (by simp; exact .mk) rfl rfl (by simp) (by simp; exact .mk) (by simp [row_rows, Function.comp_def]; exact .mk) (fun hb => c34) (by simp) (by simp [oStt]; exact .mk) (by simp) ?_
 refine run_call rfl (by simp; exact .mk) rfl rfl (by simp) (by simp; exact .mk) (by simp [row_rows, Function.comp_def]; exact .mk) (fun hb => c25t) (by simp) (by simp [oStt]; exact .mk) (by simp) ?_
 refine xI ?_
 refine xP ?_
 refine xB ?_
 iterate 2 (refine run_if rfl (by simp; exact .mk) rfl (by simp <;> first | omega | grind) (fun hb => by simp [eSlot]; exact .mk) ?_)
 refine run_call rfl (by simp; exact .mk) rfl rfl (by simp) (by simp; exact .mk) (by simp [row_rows, Function.comp_def]; exact .mk) (fun hb => c35) (by simp) (by simp [oStt]; exact .mk) (by simp) ?_
 refine run_call rfl (by simp; exact .mk) rfl rfl (by simp) (by simp; exact .mk) (by simp [row_rows, Function.comp_def]; exact .mk) (fun hb => c36) (by simp) (by simp [oStt]; exact .mk) (by simp) ?_
 refine xI ?_
 refine xP ?_
 refine xB ?_
 refine xF [4] ?_
 refine W_ret (xR (by simp [Tryz.f3]; exact .mk) ?_)
 simp [Tryz.f3]

end Go.Proofs
