/- Contracts of the program's functions and plain facts, for arguments as each lemma says. -/
import Derived.Test.YtokgokbgidgfeaaGreatCG
import Derived.Test.YtokgokbgidgfeaaGreatAwpD
import Derived.Test.YtokgokbgidgfeaaGreatCF
import Derived.Test.YtokgokbgidgfeaaGreatCC
import Derived.Test.YtokgokbgidgfeaaGreatCD
set_option linter.all false
set_option maxHeartbeats 4000000
set_option maxRecDepth 4000
namespace Go.Proofs
open Go.Awp
theorem ct203 (g : Gl) (s : ByteArray) (hs : 0 < s.size) : CtAt Tryz.prog g 203 [vS s] (.tup [vI (runeR s).1, vI (runeR s).2]) := by
 refine xA Tryz.func203 fun B S => ?_
 have wb : ∀ k, IntKind.i64.wrap (bt s k : Int) = bt s k := fun k => wrap64 (by have := bt_lt s k; omega) (by have := bt_lt s k; omega)
 have hb0 := bt_lt s 0
 refine xU ?_
 refine xO2 ?_
 refine xG [0] ?_
 refine xO3 ?_
 refine xG [0,4] ?_
 refine xO ?_
 refine xO ?_ (h := by simp [indexA, hs, btF3 (k := 0) hs]; exact .mk)
 refine xO ?_ (h := by simp [convA, isIntTy, wb]; exact .mk)
 refine xH [0,4,5] ?_
 refine W_seq (xU ?_)
 refine xO2 ?_
 refine xQ [0,4,5,16] ?_ ?_
 · intro h16
   have hr : runeR s = ((bt s 0 : Int), 1) := by unfold runeR; rw [if_pos (by simp at h16; omega)]
   refine xU ?_
   refine xH3 [2,3] ?_
   refine W_ret (xR (by simp [Tryz.f203]; exact .mk) ?_)
   simp [Tryz.f203, hr]
 intro h16
 have h0 : ¬ bt s 0 < 128 := by simp at h16; omega
 obtain ⟨k, le, ba, e⟩ : ∃ k le ba, clsN (bt s 0) = (k, le, ba) := ⟨_, _, _, rfl⟩
 have hcc := clsN_cases (bt s 0)
 rw [e] at hcc
 simp only [Prod.mk.injEq] at hcc
 refine W_skip ?_
 refine xT ?_
 refine xO ?_
 refine xG [0,4,5,6] ?_
 refine xH [0,4,5,6,7] ?_
 refine W_seq (xU ?_)
 refine xO3 ?_
 iterate 2 refine xI ?_
 refine xP ?_
 refine xF [0,4,5,6,7,23] ?_
 refine W_joinW ([(0, .d (vS s)), (4, .d (vI s.size)), (5, .d (vI ((bt s 0 : Int) - ba))), (6, .d (vI k)), (7, .d (vI le))]) ([]) ?_ ?_
 · skip
   refine W_cond rfl ?_ ?_
   · intro h23
     obtain ⟨rfl, rfl, rfl⟩ : k = 2 ∧ le = 128 ∧ ba = 192 := by simp at h23; omega
     have w1 : IntKind.i64.wrap ((bt s 0 : Int) - 192) = (bt s 0 : Int) - 192 := wrap64 (by omega) (by omega)
     refine xU ?_
     refine xO ?_
     refine xG [0,4,5,6] ?_
     refine xH [0,4,5,6,7] ?_
     refine xY ?_
     refine xO ?_
     refine xO ?_ (h := by simp [w1]; exact .mk)
     refine xO ?_
     refine xE [0,4,5,6,7] ?_
     exact ⟨rfl, Weak.kills [0,4,5,6,7] (by simp)⟩
   intro h23
   refine xU ?_
   refine xO3 ?_
   iterate 2 refine xI ?_
   refine xP ?_
   refine xQ [0,4,5,6,7,31] ?_ ?_
   · intro h31
     obtain ⟨rfl, rfl, rfl⟩ : k = 3 ∧ le = 2048 ∧ ba = 224 := by simp at h31; omega
     have w1 : IntKind.i64.wrap ((bt s 0 : Int) - 224) = (bt s 0 : Int) - 224 := wrap64 (by omega) (by omega)
     refine xU ?_
     refine xO ?_
     refine xG [0,4,5,6] ?_
     refine xH [0,4,5,6,7] ?_
     refine xY ?_
     refine xO ?_
     refine xO ?_ (h := by simp [w1]; exact .mk)
     refine xO ?_
     refine xE [0,4,5,6,7] ?_
     exact ⟨rfl, Weak.kills [0,4,5,6,7] (by simp)⟩
   intro h31
   refine xU ?_
   refine xO3 ?_
   iterate 2 refine xI ?_
   refine xP ?_
   refine xQ [0,4,5,6,7,39] ?_ ?_
   · intro h39
     obtain ⟨rfl, rfl, rfl⟩ : k = 4 ∧ le = 65536 ∧ ba = 240 := by simp at h39; omega
     have w1 : IntKind.i64.wrap ((bt s 0 : Int) - 240) = (bt s 0 : Int) - 240 := wrap64 (by omega) (by omega)
     refine xU ?_
     refine xO ?_
     refine xG [0,4,5,6] ?_
     refine xH [0,4,5,6,7] ?_
     refine xY ?_
     refine xO ?_
     refine xO ?_ (h := by simp [w1]; exact .mk)
     refine xO ?_
     refine xE [0,4,5,6,7] ?_
     exact ⟨rfl, Weak.kills [0,4,5,6,7] (by simp)⟩
   intro h39
   obtain ⟨rfl, rfl, rfl⟩ : k = 0 ∧ le = 0 ∧ ba = 0 := by simp at *; omega
   refine W_skip ?_
   exact ⟨rfl, Weak.kills [0,4,5,6,7] (by simp)⟩
 rintro -
 refine W_seq (xU ?_)
 refine xO3 ?_
 iterate 3 refine xI ?_
 refine xP ?_
 refine xQ [0,5,6,7,48] ?_ ?_
 · intro h48
   have hr : runeR s = (0, 0) := by unfold runeR; rw [if_neg h0, if_pos (by rw [e]; simp at h48; omega)]
   refine xU ?_
   refine xH2 [2,3] ?_
   refine W_ret (xR (by simp [Tryz.f203]; exact .mk) ?_)
   simp [Tryz.f203, hr]
 intro h48
 have hk : k ≠ 0 ∧ k ≤ s.size := by simp at h48; omega
 have hr0 := runeR_k h0 e hk.1
 rw [if_neg (by omega)] at hr0
 have hk4 : 2 ≤ k ∧ k ≤ 4 ∧ (ba : Int) ≤ bt s 0 ∧ (bt s 0 : Int) - ba < 32 := by omega
 obtain ⟨a, ha⟩ : ∃ a : Int, a = (bt s 0 : Int) - ba := ⟨_, rfl⟩
 rw [← ha] at hr0 hk4 ⊢
 refine W_skip fun _ => ?_
 refine W_seq (xU ?_)
 refine xH [0,5,6,7,8] ?_
 refine W_block (W_rounds (fun m σ o => ∃ j : Nat, m = k - (j + 1) ∧ j + 1 ≤ k ∧ (∀ t, t < j → contB (bt s (t + 1)) = true) ∧ (0 ≤ accR s a j ∧ accR s a j < 32 * 64 ^ j) ∧ σ = slots [(0, .d (vS s)), (5, .d (vI (accR s a j))), (6, .d (vI k)), (7, .d (vI le)), (8, .d (vI ((j + 1 : Nat) : Int)))] ∧ o = []) (k - 1) .refl ⟨0, by simp, by omega, by simp, ⟨by show 0 ≤ a; omega, by show a < 32; omega⟩, rfl, rfl⟩ ?_)
 rintro m σ o ⟨j, rfl, hj, hinv, hab, rfl, rfl⟩ _
 have hpw : (64 : Int) ^ j ≤ 64 ^ 3 := by exact_mod_cast Nat.pow_le_pow_right (by decide : 0 < 64) (by omega : j ≤ 3)
 refine W_seq (xU ?_)
 refine xO3 ?_
 refine xQ [0,5,6,7,8,51] ?_ ?_
 · intro h51
   have hj2 : j + 1 < k := by simp at h51; omega
   have hj3 : j + 1 < s.size := by omega
   have hj4 : (j : Int) + 1 < s.size := by omega
   have hj5 : (0 : Int) ≤ (j : Int) + 1 := by omega
   have hj6 : ((j : Int) + 1).toNat = j + 1 := by omega
   have hbj := bt_lt s (j + 1)
   refine W_skip fun _ => ?_
   refine W_seq (W_block ?_)
   refine xU ?_
   refine xO2 ?_
   refine xO ?_ (h := by simp [indexA, hj3, hj4, hj5, hj6, btF3 hj3]; exact .mk)
   refine xO ?_ (h := by simp [convA, isIntTy, wb]; exact .mk)
   refine xH [0,5,6,7,8,9] ?_
   refine W_seq (xU ?_)
   refine xO3 ?_
   iterate 2 refine xI ?_
   refine xP ?_
   refine xQ [0,5,6,7,8,9,63] ?_ ?_
   · intro h63
     have hr : runeR s = (0, 0) := by
      rw [hr0, if_neg]
      rw [all_bad (i := j) (by omega) (by simp [contB]; simp at h63; omega)]; simp
     refine xU ?_
     refine xH2 [2,3] ?_
     refine W_ret (xR (by simp [Tryz.f203]; exact .mk) ?_)
     simp [Tryz.f203, hr]
   intro h63
   have hct : contB (bt s (j + 1)) = true := by simp [contB]; simp at h63; omega
   have hcb : 128 ≤ bt s (j + 1) ∧ bt s (j + 1) < 192 := by simpa [contB] using hct
   have w1 : IntKind.i64.wrap (accR s a j * 64) = accR s a j * 64 := wrap64 (by omega) (by omega)
   have w2 : IntKind.i64.wrap (accR s a j * 64 + bt s (j + 1)) = accR s a j * 64 + bt s (j + 1) := wrap64 (by omega) (by omega)
   have w3 : IntKind.i64.wrap (accR s a j * 64 + bt s (j + 1) - 128) = accR s a j * 64 + bt s (j + 1) - 128 := wrap64 (by omega) (by omega)
   refine W_skip fun _ => ?_
   refine xY ?_
   refine xO ?_
   refine xO ?_ (h := by simp [w1]; exact .mk)
   refine xO ?_
   refine xO ?_ (h := by simp [w2]; exact .mk)
   refine xO ?_ (h := by simp [w3]; exact .mk)
   refine xH [0,5,6,7,8] ?_
   refine xY ?_
   refine xO3 ?_
   refine xE [0,5,6,7,8] ?_
   refine rounds_kill [0,5,6,7,8] ?_
   refine rounds_next (m' := k - (j+1+1)) (by omega) ⟨j+1, rfl, by omega, ?_, ?_, ?_, rfl⟩
   · intro t ht
     rcases Nat.lt_succ_iff_lt_or_eq.1 ht with ht | rfl
     · exact hinv t ht
     exact hct
   · have : accR s a (j + 1) = accR s a j * 64 + bt s (j + 1) - 128 := rfl
     have hp : (64 : Int) ^ (j + 1) = 64 ^ j * 64 := Int.pow_succ 64 j
     omega
   rw [wrap64 (by omega) (by omega)]; rfl
 intro h51
 obtain rfl : k = j + 1 := by simp at h51; omega
 have hall : (List.range (j + 1 - 1)).all (fun i => contB (bt s (i + 1))) = true := all_good (fun t ht => hinv t (by omega))
 rw [if_pos hall, Nat.add_sub_cancel] at hr0
 refine W_exit ?_
 rintro -
 refine W_seq (xU ?_)
 refine xO4 ?_
 iterate 2 refine xI ?_
 refine xP ?_
 refine xB ?_
 iterate 5 refine xI ?_
 iterate 2 refine xP ?_
 refine xQ [5,6,83] ?_ ?_
 · intro h83
   have hr : runeR s = (0, 0) := by rw [hr0, if_pos]; simp [badR]; simp at h83; grind
   refine xU ?_
   refine xH2 [2,3] ?_
   refine W_ret (xR (by simp [Tryz.f203]; exact .mk) ?_)
   simp [Tryz.f203, hr]
 intro h83
 have hr : runeR s = (accR s a j, ((j + 1 : Nat) : Int)) := by rw [hr0, if_neg]; simp [badR]; simp at h83; grind
 refine W_skip ?_
 refine xT ?_
 refine xO4 ?_
 refine xF [2,3] ?_
 refine W_ret (xR (by simp [Tryz.f203]; exact .mk) ?_)
 simp [Tryz.f203, hr]

theorem ct146 (g : Gl) (s : ByteArray) : CtAt Tryz.prog g 146 [vS s] (.v (.bool (nameS s))) := by
 refine xA Tryz.func146 fun B S => ?_
 refine xU ?_
 refine xH [0] ?_
 refine W_seq (xU ?_)
 refine xO4 ?_
 iterate 3 refine xI ?_
 refine xP ?_
 refine xQ [0,12] ?_ ?_
 · intro h12
   have hr : nameS s = false := nameS_long (by simp at h12; omega)
   refine xU ?_
   refine xH [2] ?_
   refine W_ret (xR (by simp [Tryz.f146]; exact .mk) ?_)
   simp [Tryz.f146, hr]
 intro h12
 have hsz : 1 ≤ s.size ∧ s.size ≤ 16 := by simp at h12; omega
 have hr0 := nameS_short hsz
 refine W_skip fun _ => ?_
 refine W_seq (W_block ?_)
 refine W_rounds (fun m σ o => ∃ t : ByteArray, m = t.size ∧ runesOk s 0 = runesOk t 0 ∧ σ = slots [(0, .d (vS t))] ∧ o = []) s.size (Weak.kills [0] rfl) ⟨s, rfl, rfl, rfl, rfl⟩ ?_
 rintro m σ o ⟨t, rfl, hro, rfl, rfl⟩ _
 refine W_seq (xU ?_)
 refine xO3 ?_
 refine xQ [0,15] ?_ ?_
 · intro h15
   have ht0 : 0 < t.size := by simp at h15; omega
   obtain ⟨s1, s2⟩ := runesOk_step ht0
   refine W_skip fun _ => ?_
   refine W_block (xU ?_)
   refine xO ?_
   refine xC (ct203 g t ht0) ?_
   refine xO5 ?_
   refine xF [0,3,4] ?_
   refine W_seq (xU ?_)
   refine xO3 ?_
   iterate 2 refine xI ?_
   refine xP ?_
   refine xB ?_
   iterate 5 refine xI ?_
   iterate 2 refine xP ?_
   refine xB ?_
   iterate 2 refine xI ?_
   refine xP ?_
   refine xQ [0,4,38] ?_ ?_
   · intro h38
     have hr : nameS s = false := by rw [hr0, hro]; apply s1; simp [mayS]; simp at h38; grind
     refine xU ?_
     refine xH [2] ?_
     refine W_ret (xR (by simp [Tryz.f146]; exact .mk) ?_)
     simp [Tryz.f146, hr]
   intro h38
   obtain ⟨w, w1, w2, w3, w4⟩ := s2 (by simp at h38; grind) (by simp [mayS]; simp at h38; grind)
   have w5 : (w : Int) ≤ t.size := by omega
   refine W_skip fun _ => ?_
   refine xY ?_
   refine xO2 ?_
   refine xO ?_ (h := by simp [sliceA, optA, w1, w3, w5]; exact .mk)
   refine xO ?_
   refine xE [0] ?_
   refine rounds_kill [0] ?_
   refine rounds_next (m' := (t.extract w t.size).size) (by have q1 : 0 < w := w2; have q2 : w ≤ t.size := w3; rw [ByteArray.size_extract, Nat.min_self]; omega) ⟨t.extract w t.size, rfl, by rw [hro, w4], rfl, rfl⟩
 intro h15
 have hz : ¬ 0 < t.size := by have q := of_decide_eq_false h15; omega
 have hr : nameS s = true := by
  rw [hr0, hro]
  conv => lhs; rw [runesOk]
  exact if_neg hz
 refine W_exit (xT ?_)
 refine xH [2] ?_
 refine W_ret (xR (by simp [Tryz.f146]; exact .mk) ?_)
 simp [Tryz.f146, hr]

theorem ct147 (g : Gl) (a b : Int) : CtAt Tryz.prog g 147 [.agg [vI a, vI b]] (.v (.bool (handleS a b))) := by
 refine xA Tryz.func147 fun B S => ?_
 simp only [List.map, argD_agg]
 refine xU ?_
 refine xO2 ?_
 refine xG [1] ?_
 refine xO4 ?_
 iterate 3 refine xI ?_
 refine xP ?_
 refine xB ?_
 iterate 3 refine xI ?_
 refine xP ?_
 refine xB ?_
 iterate 3 refine xI ?_
 refine xP ?_
 refine xB ?_
 refine xF [2] ?_
 refine W_ret (xR (by simp [Tryz.f147]; exact .mk) ?_)
 first | (simp [Tryz.f147, handleS, Bool.and_assoc]; done) | (simp [Tryz.f147, handleS, Bool.and_assoc]; grind)

theorem ct148 (g : Gl) (l : List Root) (nm : ByteArray) (hl : l.length ≤ 2^40) : CtAt Tryz.prog g 148 [rR l, vS nm] (vI (firstS l nm)) := by
 refine xA Tryz.func148 fun B S => ?_
 refine xU ?_
 refine xH [0,1] ?_
 refine W_seq (xU ?_)
 refine xH [0,1,5] ?_
 refine W_block (W_rounds (fun m σ o => ∃ i : Nat, m = l.length - i ∧ i ≤ l.length ∧ (∀ j, j < i → ((nth l j).name.toList == nm.toList) = false) ∧ σ = slots [(0, .d (rR l)), (1, .d (vS nm)), (5, .d (vI i))] ∧ o = []) l.length .refl ⟨0, by simp, by simp, by simp, rfl, rfl⟩ ?_)
 rintro m σ o ⟨i, rfl, hi, hinv, rfl, rfl⟩ _
 refine W_seq (xU ?_)
 refine xO4 ?_
 refine xQ [0,1,5,9] ?_ ?_
 · intro h9
   have hi2 : i < l.length := by simpa using h9
   refine W_skip fun _ => ?_
   refine W_seq (W_block ?_)
   refine xU ?_
   refine xO2 ?_
   refine xO ?_ (h := by simp [eRoot, hi2]; exact .mk)
   refine xO ?_
   refine xO ?_ (h := by simp [-List.getElem?_map, map_get hi2, eRoot]; exact .mk)
   refine xO2 ?_
   refine xQ [0,1,5,18] ?_ ?_
   · intro h18
     have hr := firstS_at hi2 hinv h18
     refine xU ?_
     refine xH2 [4] ?_
     refine W_ret (xR (by simp [Tryz.f148]; exact .mk) ?_)
     simp [Tryz.f148, hr]
   intro h18
   refine W_skip fun _ => ?_
   refine xY ?_
   refine xO3 ?_
   refine xE [0,1,5] ?_
   refine rounds_kill [0,1,5] ?_
   refine rounds_next (m' := l.length - (i+1)) (by omega) ⟨i+1, rfl, by omega, ?_, ?_, rfl⟩
   · intro j hj
     rcases Nat.lt_succ_iff_lt_or_eq.1 hj with hj | rfl
     · exact hinv j hj
     exact h18
   rw [wrap64 (by omega) (by omega)]; rfl
 intro h9
 have hr := firstS_none (l := l) (nm := nm) (fun j hj => hinv j (by simp at h9; omega))
 refine W_exit (xT ?_)
 refine xH [4] ?_
 refine W_ret (xR (by simp [Tryz.f148]; exact .mk) ?_)
 simp [Tryz.f148, hr]

theorem ct94 (g : Gl) (l : List Root) (hl : l.length ≤ 2^40) : CtAt Tryz.prog g 94 [rR l] (.v (.bool (rootsS l))) := by
 refine xA Tryz.func94 fun B S => ?_
 refine xU ?_
 refine xO ?_
 refine xG [0] ?_
 refine xOs ?_
 refine xO ?_
 refine xOs ?_
 refine xF [0,3] ?_
 refine W_seq (xU ?_)
 refine xH [0,3,4] ?_
 refine W_block (W_rounds (fun m σ o => ∃ i : Nat, m = l.length - i ∧ i ≤ l.length ∧ (∀ j, j < i → rootOk l j = true) ∧ σ = slots [(0, .d (rR l)), (3, .ptr 0 0 0), (4, .d (vI i))] ∧ o = [.var 50 [.d (vI 0), .d (vI 0)]]) l.length .refl ⟨0, by simp, by simp, by simp, rfl, rfl⟩ ?_)
 rintro m σ o ⟨i, rfl, hi, hinv, rfl, rfl⟩ _
 refine W_seq (xU ?_)
 refine xO4 ?_
 refine xQ [0,3,4,11] ?_ ?_
 · intro h11
   have hi2 : i < l.length := by simpa using h11
   refine W_skip fun _ => ?_
   refine W_seq (W_block ?_)
   refine W_seq (xU ?_)
   refine xO2 ?_
   refine xO ?_ (h := by simp [eRoot, hi2]; exact .mk)
   refine xO ?_
   refine xO ?_ (h := by simp [-List.getElem?_map, map_get hi2, eRoot]; exact .mk)
   refine xO ?_
   refine xQ [0,3,4,19] ?_ ?_
   · intro h19
     have hz0 : (nth l i).name.toList = [] := by simpa using h19
     have hz : ((nth l i).name.toList == (⟨#[]⟩ : ByteArray).toList) = true := by rw [hz0, toList_eq]; rfl
     refine W_seq (W_seq ?_)
     refine W_regD (by kernel_rfl) [] 4 [0,1,2,3,4,5,6] (by decide +kernel) ?_
     refine xO2 ?_
     refine xO ?_ (h := by simp [eRoot, hi2]; exact .mk)
     refine xO ?_
     refine xO ?_ (h := by simp [-List.getElem?_map, map_get hi2, eRoot]; exact .mk)
     refine xO ?_ (h := by simp [eRoot]; exact .mk)
     refine xO ?_
     refine xQ [0,3,4,26] ?_ ?_
     · intro h26
       have hr : rootsS l = false := roots_bad hi2 (by
         have hn : nameS (nth l i).name = false := by unfold nameS; rw [hz0]; simp
         unfold rootOk isZero; rw [hn, hz]; simp at h26; simp; grind)
       refine xU ?_
       refine xH [2] ?_
       refine W_ret (xR (by simp [Tryz.f94]; exact .mk) ?_)
       first | (simp [Tryz.f94, hr]; done) | (simp [Tryz.f94, hr, newOk]; grind)
     intro h26
     have hok : rootOk l i = true := by unfold rootOk isZero; rw [hz]; simp at h26; simp; grind
     refine W_skip fun _ => ?_
     refine W_exit ?_
     rintro -
     refine xY ?_
     refine xO3 ?_
     refine xE [0,3,4] ?_
     refine rounds_kill [0,3,4] ?_
     refine rounds_next (m' := l.length - (i+1)) (by omega) ⟨i+1, rfl, by omega, ?_, ?_, rfl⟩
     · intro j hj
       rcases Nat.lt_succ_iff_lt_or_eq.1 hj with hj | rfl
       · exact hinv j hj
       exact hok
     rw [wrap64 (by omega) (by omega)]; rfl
   intro h19
   have hz : ((nth l i).name.toList == (⟨#[]⟩ : ByteArray).toList) = false := by
    have hz0 : (nth l i).name.toList ≠ [] := by simpa using h19
    rw [toList_eq ⟨#[]⟩]; simpa using hz0
   refine W_skip ?_
   refine xT ?_
   refine xO2 ?_
   refine xO ?_ (h := by simp [eRoot, hi2]; exact .mk)
   refine xO ?_
   refine xO ?_ (h := by simp [-List.getElem?_map, map_get hi2, eRoot]; exact .mk)
   refine xC (ct146 g (nth l i).name) ?_
   refine xO ?_
   refine xG [0,3,4,5] ?_
   refine xO2 ?_
   refine xO ?_ (h := by simp [eRoot, hi2]; exact .mk)
   refine xO ?_
   refine xO ?_ (h := by simp [-List.getElem?_map, map_get hi2, eRoot]; exact .mk)
   refine xC (ct147 g (nth l i).ix (nth l i).gen) ?_
   refine xH [0,3,4,5,6] ?_
   refine W_seq ?_
   refine W_regD (by kernel_rfl) [] 4 [0,1,2,3,4,5,6,7,8,9,10,11,12,13,14,15,16,17] (by decide +kernel) ?_
   refine xO3 ?_
   iterate 2 refine xI ?_
   refine xP ?_
   refine xB ?_
   iterate 2 refine xI ?_
   refine xI ?_ (h := fun hb => by simp [optA, hi2, Nat.le_of_lt hi2]; exact .mk)
   iterate 2 refine xI ?_
   refine xI ?_ (h := fun hb => by simp [eRoot, hi2]; exact .mk)
   refine xI ?_
   refine xI ?_ (h := fun hb => by simp [-List.getElem?_map, map_get hi2, eRoot]; exact .mk)
   refine run_call rfl (by simp; exact .mk) rfl rfl (by simp) (by simp; exact .mk) (by simp; exact .mk) (fun hb => ct148 g (l.take i) (nth l i).name (by simp; omega)) (by simp) (by simp; exact .mk) (by simp) ?_
   refine xI ?_
   refine xP ?_
   refine xQ [0,3,4,56] ?_ ?_
   · intro h56
     have hr : rootsS l = false := roots_bad hi2 (by unfold rootOk isZero; rw [hz]; simp at h56; simp; grind)
     refine xU ?_
     refine xH [2] ?_
     refine W_ret (xR (by simp [Tryz.f94]; exact .mk) ?_)
     first | (simp [Tryz.f94, hr]; done) | (simp [Tryz.f94, hr, newOk]; grind)
   intro h56
   have hok : rootOk l i = true := by unfold rootOk isZero; rw [hz]; simp at h56; simp; grind
   refine W_skip fun _ => ?_
   refine xY ?_
   refine xO3 ?_
   refine xE [0,3,4] ?_
   refine rounds_kill [0,3,4] ?_
   refine rounds_next (m' := l.length - (i+1)) (by omega) ⟨i+1, rfl, by omega, ?_, ?_, rfl⟩
   · intro j hj
     rcases Nat.lt_succ_iff_lt_or_eq.1 hj with hj | rfl
     · exact hinv j hj
     exact hok
   rw [wrap64 (by omega) (by omega)]; rfl
 intro h11
 have hr : rootsS l = newOk l.length := roots_good (fun j hj => hinv j (by simp at h11; omega))
 refine W_exit (xT ?_)
 refine xO4 ?_
 iterate 3 refine xI ?_
 refine xP ?_
 refine xB ?_
 iterate 4 refine xI ?_
 refine xP ?_
 refine xB ?_
 refine xF [2] ?_
 refine W_ret (xR (by simp [Tryz.f94]; exact .mk) ?_)
 first | (simp [Tryz.f94, hr]; done) | (simp [Tryz.f94, hr, newOk]; grind)

open Go.Awp
theorem kindsR_is {pages : Int} {l : List (Int × Int)} : (kindsR pages l).2 = (laidS pages l).isSome := by
 unfold kindsR; cases laidS pages l <;> rfl
theorem needS_err {n : Int} : (needS n).2 = 0 ↔ sizedN n = true := by
 rw [sizedN_iff]; unfold needS; split
 · simp; omega
 · simp; omega
theorem insI_t {l : List Slot} {i : Nat} (h : isOne (nth l i) = true) : insI l (i + 1) = insR (insI l i) (blkAt l i) := by
 conv => lhs; unfold insI
 rw [if_pos h]
theorem insI_f {l : List Slot} {i : Nat} (h : isOne (nth l i) = false) : insI l (i + 1) = insI l i := by
 conv => lhs; unfold insI
 rw [if_neg (by simp [h])]
def ordF (mode : Int) : List Bool := if mode = 1 then [false] else if mode = 2 then [true] else if mode = 3 then [true, false] else if mode = 4 then [false, true] else []
theorem ordF_len {mode : Int} : (ordF mode).length ≤ 2 := by unfold ordF; repeat' split
                                                             all_goals simp
def firstO (s : Stt) (n : Int) : List Bool → Option (Bool × Int)
 | [] => none
 | b :: l => (tryR s n b).or (firstO s n l)
theorem firstP_ord {s : Stt} {n : Int} : firstP s n = firstO s n (ordF s.mode) := by
 unfold firstP ordF
 repeat' split
 all_goals simp [firstO]
theorem firstO_some {s : Stt} {n a : Int} : ∀ {l : List Bool} {i : Nat}, i < l.length → roomS s (nth l i) n = some a → (∀ j, j < i → roomS s (nth l j) n = none) → firstO s n l = some (nth l i, a)
 | [], _, h, _, _ => by simp at h
 | b :: l, 0, _, h, _ => by
  have h : roomS s b n = some a := h
  simp [firstO, tryR, h, nth]
 | b :: l, i + 1, hi, h, hn => by
  have h0 : roomS s b n = none := hn 0 (by omega)
  have := firstO_some (s := s) (n := n) (a := a) (l := l) (i := i) (by simpa using hi) h (fun j hj => hn (j + 1) (by omega))
  simp only [firstO, tryR, h0, Option.map_none, Option.none_or, this]; rfl
theorem firstO_none {s : Stt} {n : Int} : ∀ {l : List Bool}, (∀ j, j < l.length → roomS s (nth l j) n = none) → firstO s n l = none
 | [], _ => rfl
 | b :: l, h => by
  have h0 : roomS s b n = none := h 0 (by simp)
  simp only [firstO, tryR, h0, Option.map_none, Option.none_or]
  exact firstO_none fun j hj => h (j + 1) (by simpa using hj)
theorem twos_bound {s : Stt} (h : tableS s.slots = true) : ∀ i, i < (twosO s.slots).length → (nth (twosO s.slots) i).1 ≤ 2^62 := fun i hi => by
 have := twosO_le h i hi; omega
open Go.Awp
theorem ct29 (g : Gl) (s : Stt) (hs : s.Ok) : CtAt Tryz.prog g 29 [eStt s] (oBk (onesS s.slots)) := by
 refine xA Tryz.func29 fun B S => ?_
 simp only [eStt, List.map, argD_agg, argD_v]
 have q0 := hs.h1
 refine xU ?_
 refine xO2 ?_
 refine xG [1] ?_
 refine xH [1,3] ?_
 refine W_seq (xU ?_)
 refine xH [1,3,4] ?_
 refine W_block (W_rounds (fun m σ o => ∃ i : Nat, m = s.slots.length - i ∧ i ≤ s.slots.length ∧ σ = slots [(1, .ptr 0 0 0), (3, .hdr 1 0 (insI s.slots i).length), (4, .d (vI i))] ∧ o = [.var 28 [.d (vI s.sh.pages), .d (vI s.sh.slots), .d (vI s.sh.roots), .d (vI s.sh.room), .d (vI s.mode), .d (vI s.base), .d (rSl s.slots), .d (rR s.roots), .d (rBB s.data)], .row 3 ((insI s.slots i).map eBlk)]) s.slots.length (Weak.trans (Weak.nilRow 3 3 rfl) (Weak.kills [1,3,4] rfl) (fun _ _ _ h1 h2 => by rw [← h1.len]; exact h2)) ⟨0, by simp, by simp, by simp [insI], by simp [insI]⟩ ?_)
 rintro m σ o ⟨i, rfl, hi, rfl, rfl⟩ _
 have hle := insI_len (l := s.slots) (i := i)
 obtain ⟨L, hL⟩ : ∃ L, L = insI s.slots i := ⟨_, rfl⟩
 rw [← hL] at hle ⊢
 refine W_seq (xU ?_)
 refine xO2 ?_
 refine xO ?_ (h := by simp [eBlk]; exact .mk)
 refine xO2 ?_
 refine xQ [1,3,4,14] ?_ ?_
 · intro h14
   have hi2 : i < s.slots.length := by simpa using h14
   refine W_skip fun _ => ?_
   refine W_seq (W_block ?_)
   refine xU ?_
   refine xO ?_
   refine xO ?_ (h := by simp [eBlk]; exact .mk)
   refine xO ?_
   refine xO ?_ (h := by simp [eBlk, hi2]; exact .mk)
   refine xO ?_ (h := by simp [-List.getElem?_map, map_get hi2, eSlot]; exact .mk)
   refine xO ?_
   refine xOs ?_
   refine xF [1,3,4,5] ?_
   refine W_seq (xU ?_)
   refine xO ?_
   refine xO ?_ (h := by simp [eBlk]; exact .mk)
   refine xO2 ?_
   refine xI ?_
   refine xI ?_ (h := fun hb => by simp [eBlk]; exact .mk)
   refine xP ?_
   refine xQ [1,3,4,5,28] ?_ ?_
   · intro h28
     have h2 : isOne (nth s.slots i) = false := by simp [isOne]; simp at h28; grind
     have hI : insI s.slots (i + 1) = L := by rw [hL]; exact insI_f h2
     refine W_exit ?_
     rintro -
     refine xY ?_
     refine xO3 ?_
     refine xE [1,3,4] ?_
     refine rounds_kill [1,3,4] ?_
     first
     | (refine rounds_kills [1,3,4] rfl ?_
        refine rounds_drop 2 [1,3,4] (by decide) (by rfl) (by rfl) ?_
        refine rounds_next (m' := s.slots.length - (i+1)) (by omega) ⟨i+1, rfl, by omega, ?_, ?_⟩
        · rw [wrap64 (by omega) (by omega), hI]; rfl
        rw [hI]; rfl)
     | (refine rounds_kills [1,3,4] rfl ?_
        refine rounds_swap 1 6 1 (by decide) (by simp) (by decide) rfl rfl ?_
        refine rounds_drop 2 [1,3,4] (by decide) (by rfl) (by rfl) ?_
        refine rounds_next (m' := s.slots.length - (i+1)) (by omega) ⟨i+1, rfl, by omega, ?_, ?_⟩
        · rw [wrap64 (by omega) (by omega), hI]; simp [em, e12]
        rw [hI, List.map_append, List.map_cons, List.map_take, List.map_drop, htk, List.append_cons (List.take k (L.map eBlk)) (eBlk (blkAt s.slots i)) (List.drop k (L.map eBlk))]; simp [eBlk, blkAt]; rfl)
   intro h28
   have h2 : isOne (nth s.slots i) = true := by simp [isOne]; simp at h28; grind
   have hI : insI s.slots (i + 1) = insR L (blkAt s.slots i) := by rw [hL]; exact insI_t h2
   refine W_skip ?_
   refine xT ?_
   refine xO ?_
   refine xO ?_ (h := by simp [eBlk]; exact .mk)
   refine xC (ct87 g (nth s.slots i).len) ?_
   refine xO5 ?_
   refine xG [1,3,4,5,6] ?_
   refine xH [1,3,4,5,6,8] ?_
   refine W_seq (W_block ?_)
   refine W_rounds (fun m σ o => ∃ k : Nat, m = L.length - k ∧ k ≤ L.length ∧ (∀ j, j < k → (nth L j).at_ ≤ (nth s.slots i).at_) ∧ σ = slots [(1, .ptr 0 0 0), (3, .hdr 1 0 L.length), (4, .d (vI i)), (5, .ptr 2 0 0), (6, .d (vI (needS (nth s.slots i).len).1)), (8, .d (vI k))] ∧ o = [.var 28 [.d (vI s.sh.pages), .d (vI s.sh.slots), .d (vI s.sh.roots), .d (vI s.sh.room), .d (vI s.mode), .d (vI s.base), .d (rSl s.slots), .d (rR s.roots), .d (rBB s.data)], .row 3 (L.map eBlk), .var 92 [.d (vI (nth s.slots i).gen), .d (vT (nth s.slots i).live), .d (vT (nth s.slots i).two), .d (vI (nth s.slots i).at_), .d (vI (nth s.slots i).len)]]) L.length .refl ⟨0, by simp, by simp, by simp, rfl, rfl⟩ ?_
   rintro m σ o ⟨k, rfl, hk, hinv2, rfl, rfl⟩ _
   refine W_seq (W_seq ?_)
   refine W_regD (by kernel_rfl) [] 4 [0,1,2,3,4,5,6,7,8,9,10,11,12,13] (by decide +kernel) ?_
   refine xO5 ?_
   iterate 2 refine xI ?_
   refine run_if rfl (by simp; exact .mk) rfl (by simp <;> first | omega | grind) (fun hb => by simp at hb; simp [hb]; exact .mk) ?_
   refine xI ?_
   refine run_if rfl (by simp; exact .mk) rfl (by simp <;> first | omega | grind) (fun hb => by simp at hb; simp [-List.getElem?_map, map_get hb, eBlk]; exact .mk) ?_
   refine xI ?_
   refine xI ?_ (h := fun hb => by simp [eBlk]; exact .mk)
   refine xI ?_
   refine xP ?_
   refine xQ [1,3,4,5,6,8,48] ?_ ?_
   · intro h48
     have hk2 : k < L.length ∧ (nth L k).at_ ≤ (nth s.slots i).at_ := by simpa using h48
     refine W_skip fun _ => ?_
     refine W_block ?_
     refine xY ?_
     refine xO3 ?_
     refine xE [1,3,4,5,6,8] ?_
     refine rounds_kill [1,3,4,5,6,8] ?_
     refine rounds_next (m' := L.length - (k+1)) (by omega) ⟨k+1, rfl, by omega, ?_, ?_, rfl⟩
     · intro t ht
       rcases Nat.lt_succ_iff_lt_or_eq.1 ht with ht | rfl
       · exact hinv2 t ht
       exact hk2.2
     rw [wrap64 (by omega) (by omega)]; rfl
   intro h48
   have hk3 : k < L.length → (nth s.slots i).at_ < (nth L k).at_ := by simp at h48; omega
   rw [insR_at (b := blkAt s.slots i) hk hinv2 hk3] at hI
   have e1 : (L.length + 1) * 24 ≤ 140737488355328 := by omega
   have e2 : L.length ≤ 140737488355327 := by omega
   have e3 : k * 24 ≤ 140737488355328 := by omega
   have e4 : k ≤ 140737488355328 := by omega
   have e5 : (k + 1) * 24 ≤ 140737488355328 := by omega
   have e6 : k ≤ 140737488355327 := by omega
   have e7 : (k + 1 + (L.length - k)) * 24 ≤ 140737488355328 := by omega
   have e8 : k + 1 + (L.length - k) ≤ 140737488355328 := by omega
   have em : min k L.length = k := by omega
   have e9 : (L.length - k) * 24 ≤ 140737488355328 := by omega
   have e10 : (k : Int) ≤ L.length := by omega
   have e11 : ¬ L.length < k + (L.length - k) := by omega
   have e12 : k + 1 + (L.length - k) = k + (L.length - k + 1) := by omega
   have htk : List.take (L.length - k) (List.drop k (L.map eBlk)) = List.drop k (L.map eBlk) := List.take_of_length_le (by simp)
   have hn1 : ∀ x, x ∈ List.take k (L.map eBlk) → x.noOwn = true := fun x hx => by obtain ⟨b, _, rfl⟩ := List.mem_map.1 (List.mem_of_mem_take hx); simp
   have hn2 : ∀ x, x ∈ List.drop k (L.map eBlk) → x.noOwn = true := fun x hx => by obtain ⟨b, _, rfl⟩ := List.mem_map.1 (List.mem_of_mem_drop hx); simp
   have hn3 : ∀ x, x ∈ List.take (L.length - k) (List.drop k (L.map eBlk)) → x.noOwn = true := fun x hx => hn2 x (List.mem_of_mem_take hx)
   refine W_exit (xT ?_)
   refine xO ?_
   refine xG [1,3,4,5,6,8,9] ?_
   refine xO3 ?_
   refine xO ?_ (h := by simp [optA, hk, e10]; exact .mk)
   refine xO ?_ (h := by simp [rows, em, e3, e4, Nat.not_lt.2 hk, if_pos hn1]; exact .mk)
   refine xO ?_
   refine xG [1,3,4,5,6,8,9] ?_
   refine xO2 ?_
   refine xO ?_ (h := by simp [eBlk]; exact .mk)
   refine xO2 ?_
   refine xOs ?_
   refine xO ?_
   refine xO ?_ (h := by simp [rows, em, e5, e6]; exact .mk)
   refine xH [1,3,4,8,9] ?_
   refine xY ?_
   refine xO3 ?_
   refine xO ?_ (h := by simp [optA, hk, e10]; exact .mk)
   refine xO ?_ (h := by simp [rows, em, e7, e8, e9, e11, Nat.not_lt.2 hk, if_pos hn2, if_pos hn3]; exact .mk)
   refine xH [1,3,4] ?_
   refine xY ?_
   refine xO3 ?_
   refine xE [1,3,4] ?_
   refine rounds_kill [1,3,4] ?_
   first
   | (refine rounds_kills [1,3,4] rfl ?_
      refine rounds_drop 2 [1,3,4] (by decide) (by rfl) (by rfl) ?_
      refine rounds_next (m' := s.slots.length - (i+1)) (by omega) ⟨i+1, rfl, by omega, ?_, ?_⟩
      · rw [wrap64 (by omega) (by omega), hI]; rfl
      rw [hI]; rfl)
   | (refine rounds_kills [1,3,4] rfl ?_
      refine rounds_swap 1 6 1 (by decide) (by simp) (by decide) rfl rfl ?_
      refine rounds_drop 2 [1,3,4] (by decide) (by rfl) (by rfl) ?_
      refine rounds_next (m' := s.slots.length - (i+1)) (by omega) ⟨i+1, rfl, by omega, ?_, ?_⟩
      · rw [wrap64 (by omega) (by omega), hI]; simp [em, e12]
      rw [hI, List.map_append, List.map_cons, List.map_take, List.map_drop, htk, List.append_cons (List.take k (L.map eBlk)) (eBlk (blkAt s.slots i)) (List.drop k (L.map eBlk))]; simp [eBlk, blkAt]; rfl)
 intro h14
 obtain rfl : i = s.slots.length := by simp at h14; omega
 rw [insI_onesS] at hL
 subst hL
 refine W_exit (xT ?_)
 refine xH2 [2] ?_
 refine W_ret (xR (by simp [Tryz.f29]; exact .mk) ?_)
 simp [Tryz.f29, ownR]; try rfl

theorem ct33 (g : Gl) (s : Stt) (hs : s.Ok) : CtAt Tryz.prog g 33 [eStt s] (.v (.bool (sttS s))) := by
 refine xA Tryz.func33 fun B S => ?_
 simp only [eStt, List.map, argD_agg, argD_v]
 have q0 := hs.h1
 refine xU ?_
 refine xO2 ?_
 refine xG [1] ?_
 iterate 6 refine xO ?_
 refine xC (ct92 g s.sh s.mode s.base) ?_
 refine xO ?_
 refine xG [1,3] ?_
 refine xO2 ?_
 refine xC (ct93 g s.slots hs.h1) ?_
 refine xO ?_
 refine xG [1,3,4] ?_
 refine xO2 ?_
 refine xC (ct94 g s.roots hs.h2) ?_
 refine xH [1,3,4,5] ?_
 refine W_seq (xU ?_)
 refine xO3 ?_
 iterate 2 refine xI ?_
 refine xP ?_
 refine xB ?_
 iterate 2 refine xI ?_
 refine xP ?_
 refine xB ?_
 iterate 7 refine xI ?_
 refine xP ?_
 refine xB ?_
 iterate 7 refine xI ?_
 refine xP ?_
 refine xB ?_
 iterate 7 refine xI ?_
 refine xP ?_
 refine xQ [1,62] ?_ ?_
 · intro h62
   have hr : sttS s = false := by
    cases hz : sttS s with
    | false => rfl
    | true =>
     exfalso
     obtain ⟨⟨z1, z2, z3⟩, _, _, z4, _⟩ := rowsS_iff.1 (sttS_rowsS hz)
     have z5 := sttS_super hz
     have z6 := sttS_rows hz
     simp [z1, z2, z3, z4, z5, z6] at h62
   refine xU ?_
   refine xH [2] ?_
   refine W_ret (xR (by simp [Tryz.f33]; exact .mk) ?_)
   first | (simp [Tryz.f33, hr]; done) | (cases b1 <;> cases b2 <;> by_cases m1 : s.mode = 1 <;> by_cases m2 : s.mode = 2 <;> simp [Tryz.f33, hr1, modeOk, hsl, m1, m2] <;> (rw [Bool.beq_eq_decide_eq]; simp))
 intro h62
 have hh : superS s.sh s.mode s.base = true ∧ tableS s.slots = true ∧ rootsS s.roots = true ∧ (s.slots.length : Int) = s.sh.slots ∧ (s.roots.length : Int) = s.sh.roots ∧ s.data.length = s.slots.length := by simp at h62; grind
 obtain ⟨z1, z2, z3, z4, z5, z6⟩ := hh
 have hr0 : sttS s = ((List.range s.slots.length).all (lenOk s) && ((laidS s.base (twosO s.slots)).isSome && (gapsS (s.base * 32) (s.sh.pages * 32) (spansS s.slots) && modeOk s))) := by simp [sttS, rowsS, z1, z2, z3, z4, z5, z6]
 refine W_skip fun _ => ?_
 refine W_seq (xU ?_)
 refine xH [1,6] ?_
 refine W_block (W_rounds (fun m σ o => ∃ i : Nat, m = s.slots.length - i ∧ i ≤ s.slots.length ∧ (∀ j, j < i → lenOk s j = true) ∧ σ = slots [(1, .ptr 0 0 0), (6, .d (vI i))] ∧ o = [.var 28 [.d (vI s.sh.pages), .d (vI s.sh.slots), .d (vI s.sh.roots), .d (vI s.sh.room), .d (vI s.mode), .d (vI s.base), .d (rSl s.slots), .d (rR s.roots), .d (rBB s.data)]]) s.slots.length .refl ⟨0, by simp, by simp, by simp, rfl, rfl⟩ ?_)
 rintro m σ o ⟨i, rfl, hi, hinv, rfl, rfl⟩ _
 refine W_seq (xU ?_)
 refine xO5 ?_
 refine xQ [1,6,67] ?_ ?_
 · intro h67
   have hi2 : i < s.slots.length := by simpa using h67
   have hi3 : i < s.data.length := by omega
   refine W_skip fun _ => ?_
   refine W_seq (W_block ?_)
   refine W_seq ?_
   refine W_regD (by kernel_rfl) [] 4 [0,1,2,3,4,5,6,7,8,9,10,11,12] (by decide +kernel) ?_
   refine xO3 ?_
   refine xO ?_ (h := by simp [hi3]; exact .mk)
   refine xO ?_ (h := by simp [-List.getElem?_map, map_get hi3]; exact .mk)
   refine xO4 ?_
   refine xO ?_ (h := by simp [hi2]; exact .mk)
   refine xO ?_
   refine xO ?_ (h := by simp [-List.getElem?_map, map_get hi2, eSlot]; exact .mk)
   refine xO ?_
   refine xQ [1,6,82] ?_ ?_
   · intro h82
     have hr : sttS s = false := by rw [hr0, all_bad hi2 (by simp [lenOk]; simpa using h82)]; rfl
     refine xU ?_
     refine xH [2] ?_
     refine W_ret (xR (by simp [Tryz.f33]; exact .mk) ?_)
     first | (simp [Tryz.f33, hr]; done) | (cases b1 <;> cases b2 <;> by_cases m1 : s.mode = 1 <;> by_cases m2 : s.mode = 2 <;> simp [Tryz.f33, hr1, modeOk, hsl, m1, m2] <;> (rw [Bool.beq_eq_decide_eq]; simp))
   intro h82
   have hok : lenOk s i = true := by simp [lenOk]; simpa using h82
   refine W_skip fun _ => ?_
   refine xY ?_
   refine xO3 ?_
   refine xE [1,6] ?_
   refine rounds_kill [1,6] ?_
   refine rounds_next (m' := s.slots.length - (i+1)) (by omega) ⟨i+1, rfl, by omega, ?_, ?_, rfl⟩
   · intro j hj
     rcases Nat.lt_succ_iff_lt_or_eq.1 hj with hj | rfl
     · exact hinv j hj
     exact hok
   rw [wrap64 (by omega) (by omega)]; rfl
 intro h67
 have hr1 : sttS s = ((laidS s.base (twosO s.slots)).isSome && (gapsS (s.base * 32) (s.sh.pages * 32) (spansS s.slots) && modeOk s)) := by rw [hr0, all_good (fun j hj => hinv j (by simp at h67; omega))]; rfl
 have hb := superS_b z1
 have w1 : IntKind.i64.wrap (32 * s.base) = s.base * 32 := (wrap64 (by omega) (by omega)).trans (Int.mul_comm _ _)
 have w2 : IntKind.i64.wrap (32 * s.sh.pages) = s.sh.pages * 32 := (wrap64 (by omega) (by omega)).trans (Int.mul_comm _ _)
 have hT := tableS_len z2
 have hol := onesS_len (l := s.slots)
 have htl := twosO_len (l := s.slots)
 have hsl : (spansS s.slots).length = (onesS s.slots).length := by simp [spansS]
 have c96 := ct96 g (onesS s.slots) (by omega)
 rw [show (onesS s.slots).map spanOf = spansS s.slots from rfl] at c96
 have c97 := ct97 g s.base (twosO s.slots) (by omega) (twos_bound z2)
 rw [kindsR_is] at c97
 have c95 := ct95 g (s.base * 32) (s.sh.pages * 32) (spansS s.slots) (by omega)
 obtain ⟨b1, hb1⟩ : ∃ b, b = (laidS s.base (twosO s.slots)).isSome := ⟨_, rfl⟩
 obtain ⟨b2, hb2⟩ : ∃ b, b = gapsS (s.base * 32) (s.sh.pages * 32) (spansS s.slots) := ⟨_, rfl⟩
 rw [← hb1] at c97 hr1
 rw [← hb2] at c95 hr1
 refine W_exit (xT ?_)
 refine xO ?_
 refine xC (ct29 g s hs) ?_
 refine xO ?_
 refine xG [1,7] ?_
 refine xO ?_
 refine xC (ct23 g s hs) ?_
 refine xO5 ?_
 refine xF [1,7,8] ?_
 refine W_seq ?_
 refine W_regD (by kernel_rfl) [] 4 [0,1,2,3,4,5,6,7,8,9,10] (by decide +kernel) ?_
 refine xO2 ?_
 refine xO ?_ (h := by simp [w1]; exact .mk)
 refine xO3 ?_
 refine xO ?_ (h := by simp [w2]; exact .mk)
 refine xO ?_
 refine xC (c96) ?_
 refine xC (c95) ?_
 refine xO ?_
 refine xG [1,7,8,10] ?_
 refine xO3 ?_
 refine xC (c97) ?_
 refine xO5 ?_
 refine xG [1,7,8,10,12] ?_
 refine xO2 ?_
 refine xI ?_
 refine xP ?_
 refine xB ?_
 iterate 7 refine xI ?_
 iterate 2 refine xP ?_
 refine xB ?_
 iterate 7 refine xI ?_
 iterate 2 refine xP ?_
 refine xB ?_
 refine xF [2] ?_
 refine W_ret (xR (by simp [Tryz.f33]; exact .mk) ?_)
 first | (simp [Tryz.f33, hr]; done) | (cases b1 <;> cases b2 <;> by_cases m1 : s.mode = 1 <;> by_cases m2 : s.mode = 2 <;> simp [Tryz.f33, hr1, modeOk, hsl, m1, m2] <;> (rw [Bool.beq_eq_decide_eq]; simp))

open Go.Awp
theorem ct114 (g : Gl) (n : Int) : CtAt Tryz.prog g 114 [vI n] (.v (.bool (sizedN n))) := by
 refine xA Tryz.func114 fun B S => ?_
 refine xU ?_
 refine xO ?_
 refine xG [0] ?_
 refine xO3 ?_
 iterate 2 refine xI ?_
 refine xP ?_
 refine xB ?_
 refine xF [2] ?_
 refine W_ret (xR (by simp [Tryz.f114]; exact .mk) ?_)
 first | (simp [Tryz.f114, sizedN] at *; grind) | simp [Tryz.f114, sizedN, *]

theorem ct117 (g : Gl) (s : Stt) (hs : s.Ok) (k : Int) : CtAt Tryz.prog g 117 [eStt s, vI k] (.v (.bool (liveS s k))) := by
 refine xA Tryz.func117 fun B S => ?_
 simp only [eStt, List.map, argD_agg, argD_v]
 refine xU ?_
 refine xO2 ?_
 refine xG [1,2] ?_
 refine xOl ?_
 refine xC (ct33 g s hs) ?_
 refine xO ?_
 refine xG [1,2,5] ?_
 refine xO2 ?_
 iterate 2 refine xI ?_
 refine xP ?_
 refine xB ?_
 iterate 2 refine xI ?_
 refine xI ?_ (h := fun hb => by simp [eSlot]; exact .mk)
 iterate 2 refine xI ?_
 refine xP ?_
 refine xB ?_
 refine xI ?_
 refine xI ?_ (h := fun hb => by simp [eSlot]; exact .mk)
 refine xI ?_
 refine run_if rfl (by simp; exact .mk) rfl (by simp <;> first | omega | grind) (fun hb => by simp at hb; simp [show 0 ≤ k ∧ k < s.slots.length from by omega]; exact .mk) ?_
 refine xI ?_
 refine xI ?_ (h := fun hb => by simp [eSlot]; exact .mk)
 refine xP ?_
 refine xB ?_
 refine xF [4] ?_
 refine W_ret (xR (by simp [Tryz.f117]; exact .mk) ?_)
 simp [Tryz.f117, liveS, liveT, Bool.and_assoc]

theorem ct39 (g : Gl) (s : Stt) (hs : s.Ok) (two : Bool) (n : Int) : CtAt Tryz.prog g 39 [eStt s, vT two, vI n] (.tup [vI ((roomS s two n).getD 0), .v (.bool (roomS s two n).isSome)]) := by
 refine xA Tryz.func39 fun B S => ?_
 simp only [eStt, List.map, argD_agg, argD_v]
 have q0 := hs.h1
 refine xU ?_
 refine xO3 ?_
 refine xG [1,2,3] ?_
 refine xO ?_ (h := by simp [eObj]; exact .mk)
 refine xC (ct33 g s hs) ?_
 refine xO ?_
 refine xG [1,2,3,8] ?_
 refine xO ?_
 refine xC (ct87 g n) ?_
 refine xO5 ?_
 refine xF [1,2,3,8,9,10] ?_
 refine W_seq (xU ?_)
 refine xO3 ?_
 iterate 2 refine xI ?_
 refine xP ?_
 refine xQ [1,2,3,9,29] ?_ ?_
 · intro h29
   have hr : roomS s two n = none := by
    unfold roomS; rw [if_neg]
    intro hq
    simp only [Bool.and_eq_true] at hq
    have := needS_err.2 hq.2
    simp [hq.1, this] at h29
   refine xU ?_
   refine xH2 [6,7] ?_
   refine W_ret (xR (by simp [Tryz.f39]; exact .mk) ?_)
   first | (simp [Tryz.f39, hr]; done) | (cases BB <;> simp [Tryz.f39, hr])
 intro h29
 have hz : sttS s = true ∧ (needS n).2 = 0 := by simp at h29; grind
 have hR := hz.1
 have hsz := needS_err.1 hz.2
 have hr0 : roomS s two n = roomW s two n := by unfold roomS; rw [if_pos (by simp [hR, hsz])]
 have hb := superS_b (sttS_super hR)
 have w1 : IntKind.i64.wrap (32 * s.base) = s.base * 32 := (wrap64 (by omega) (by omega)).trans (Int.mul_comm _ _)
 have w2 : IntKind.i64.wrap (32 * s.sh.pages) = s.sh.pages * 32 := (wrap64 (by omega) (by omega)).trans (Int.mul_comm _ _)
 have hT := tableS_len (sttS_rows hR)
 have hol := onesS_len (l := s.slots)
 have htl := twosO_len (l := s.slots)
 have hsl : (spansS s.slots).length = (onesS s.slots).length := by simp [spansS]
 refine W_skip fun _ => ?_
 refine W_seq (xU ?_)
 refine xO ?_
 refine xQ [2,3,9,30] ?_ ?_
 · intro h30
   obtain rfl : two = true := h30
   have hr : roomS s true n = placeS s.base (twosO s.slots) n := by rw [hr0]; rfl
   refine xU ?_
   refine xO ?_ (h := by simp [eObj]; exact .mk)
   refine xC (ct23 g s hs) ?_
   refine xO5 ?_
   refine xG [2,3,11] ?_
   refine xO ?_
   refine xO ?_ (h := by simp [eObj]; exact .mk)
   refine xO2 ?_
   refine xC (ct104 g s.base (twosO s.slots) n (by omega) (twos_bound (sttS_rows hR))) ?_
   refine xO4 ?_
   refine xF [6,7] ?_
   refine W_ret (xR (by simp [Tryz.f39]; exact .mk) ?_)
   first | (simp [Tryz.f39, hr]; done) | (cases BB <;> simp [Tryz.f39, hr])
 intro h30
 obtain rfl : two = false := h30
 have c96 := ct96 g (onesS s.slots) (by omega)
 rw [show (onesS s.slots).map spanOf = spansS s.slots from rfl] at c96
 have c105 := ct105 g (s.base * 32) (s.sh.pages * 32) (spansS s.slots) (by omega)
 have hgr : gapsR (s.base * 32) (s.sh.pages * 32) (spansS s.slots) = (gapsF (s.sh.pages * 32) (s.base * 32) (spansS s.slots), 0) := by unfold gapsR; rw [if_pos (sttS_gaps hR)]
 rw [hgr] at c105
 have hgl := gapsF_len (to := s.sh.pages * 32) (l := spansS s.slots) (a := s.base * 32)
 have hr : roomS s false n = (bestS (gapsF (s.sh.pages * 32) (s.base * 32) (spansS s.slots)) (needS n).1).map (·.1) := by rw [hr0]; show oneS s n = _; unfold oneS; rw [if_neg (by simp [hz.2])]
 obtain ⟨BB, hBB⟩ : ∃ BB, BB = bestS (gapsF (s.sh.pages * 32) (s.base * 32) (spansS s.slots)) (needS n).1 := ⟨_, rfl⟩
 have c106 := ct106 g (gapsF (s.sh.pages * 32) (s.base * 32) (spansS s.slots)) (by omega) (needS n).1
 rw [← hBB] at hr c106
 refine W_skip fun _ => ?_
 refine W_seq ?_
 refine W_regD (by kernel_rfl) [] 4 [0,1,2,3,4,5,6,7,8,9,10,11,12,13,14,15] (by decide +kernel) ?_
 refine xO ?_
 refine xO ?_ (h := by simp [eObj]; exact .mk)
 refine xO ?_ (h := by simp [w1]; exact .mk)
 refine xO2 ?_
 refine xO ?_ (h := by simp [eObj]; exact .mk)
 refine xO ?_ (h := by simp [w2]; exact .mk)
 refine xO ?_ (h := by simp [eObj]; exact .mk)
 refine xC (ct29 g s hs) ?_
 refine xC (c96) ?_
 refine xC (c105) ?_
 refine xO5 ?_
 refine xG [9,13] ?_
 refine xO2 ?_
 refine xC (c106) ?_
 refine xO4 ?_
 refine xOs ?_
 refine xO ?_
 refine xG [15,16] ?_
 refine xO ?_
 refine xO ?_ (h := by simp [eObj]; exact .mk)
 refine xH3 [6,7] ?_
 refine W_ret (xR (by simp [Tryz.f39]; exact .mk) ?_)
 first | (simp [Tryz.f39, hr]; done) | (cases BB <;> simp [Tryz.f39, hr])

theorem ct41 (g : Gl) (s : Stt) (hs : s.Ok) (n : Int) : CtAt Tryz.prog g 41 [eStt s, vI n] (.tup [vT ((firstP s n).getD (false, 0)).1, vI ((firstP s n).getD (false, 0)).2, vT (firstP s n).isSome]) := by
 refine xA Tryz.func41 fun B S => ?_
 simp only [eStt, List.map, argD_agg, argD_v]
 refine xU ?_
 refine xO4 ?_
 refine xG [1,2] ?_
 refine xH [1,2,7] ?_
 refine W_seq (xU ?_)
 refine xH2 [1,2,7,12] ?_
 refine W_joinW ([(1, .d (vI n)), (2, .ptr 0 0 0), (7, .hdr 1 0 (ordF s.mode).length)]) ([.var 28 [.d (vI s.sh.pages), .d (vI s.sh.slots), .d (vI s.sh.roots), .d (vI s.sh.room), .d (vI s.mode), .d (vI s.base), .d (rSl s.slots), .d (rR s.roots), .d (rBB s.data)], .row 1 ((ordF s.mode).map vT)]) ?_ ?_
 · skip
   refine W_block (xU ?_)
   refine xO2 ?_
   refine xQ [1,2,7,12,13] ?_ ?_
   · intro h13
     have ho : ordF s.mode = [false] := by simp [ordF] at h13 ⊢; simp [h13]
     refine xY ?_
     refine xO2 ?_
     refine xE [1,2,7] ?_
     first
     | (simp only [ho]; exact ⟨rfl, Weak.kills [1,2,7] rfl⟩)
     | (simp only [ho]; exact ⟨rfl, Weak.trans (Weak.nilRow 7 1 rfl) (Weak.kills [1,2,7] rfl) (fun _ _ _ h1 h2 => by rw [← h1.len]; exact h2)⟩)
   intro h13
   refine xU ?_
   refine xO2 ?_
   refine xQ [1,2,7,12,16] ?_ ?_
   · intro h16
     have ho : ordF s.mode = [true] := by simp [ordF] at h16 ⊢; simp [h16]
     refine xY ?_
     refine xO2 ?_
     refine xE [1,2,7] ?_
     first
     | (simp only [ho]; exact ⟨rfl, Weak.kills [1,2,7] rfl⟩)
     | (simp only [ho]; exact ⟨rfl, Weak.trans (Weak.nilRow 7 1 rfl) (Weak.kills [1,2,7] rfl) (fun _ _ _ h1 h2 => by rw [← h1.len]; exact h2)⟩)
   intro h16
   refine xU ?_
   refine xO2 ?_
   refine xQ [1,2,7,12,19] ?_ ?_
   · intro h19
     have ho : ordF s.mode = [true, false] := by simp [ordF] at h19 ⊢; simp [h19]
     refine xY ?_
     refine xO2 ?_
     refine xE [1,2,7] ?_
     first
     | (simp only [ho]; exact ⟨rfl, Weak.kills [1,2,7] rfl⟩)
     | (simp only [ho]; exact ⟨rfl, Weak.trans (Weak.nilRow 7 1 rfl) (Weak.kills [1,2,7] rfl) (fun _ _ _ h1 h2 => by rw [← h1.len]; exact h2)⟩)
   intro h19
   refine xU ?_
   refine xO2 ?_
   refine xQ [1,2,7,22] ?_ ?_
   · intro h22
     have ho : ordF s.mode = [false, true] := by simp [ordF] at h22 ⊢; simp [h22]
     refine xY ?_
     refine xO2 ?_
     refine xE [1,2,7] ?_
     first
     | (simp only [ho]; exact ⟨rfl, Weak.kills [1,2,7] rfl⟩)
     | (simp only [ho]; exact ⟨rfl, Weak.trans (Weak.nilRow 7 1 rfl) (Weak.kills [1,2,7] rfl) (fun _ _ _ h1 h2 => by rw [← h1.len]; exact h2)⟩)
   intro h22
   have ho : ordF s.mode = [] := by simp [ordF] at *; simp [*]
   refine W_skip ?_
   first
   | (simp only [ho]; exact ⟨rfl, Weak.kills [1,2,7] rfl⟩)
   | (simp only [ho]; exact ⟨rfl, Weak.trans (Weak.nilRow 7 1 rfl) (Weak.kills [1,2,7] rfl) (fun _ _ _ h1 h2 => by rw [← h1.len]; exact h2)⟩)
 rintro -
 refine W_seq (xU ?_)
 refine xH [1,2,7,8] ?_
 refine W_block (W_rounds (fun m σ o => ∃ i : Nat, m = (ordF s.mode).length - i ∧ i ≤ (ordF s.mode).length ∧ (∀ j, j < i → roomS s (nth (ordF s.mode) j) n = none) ∧ σ = slots [(1, .d (vI n)), (2, .ptr 0 0 0), (7, .hdr 1 0 (ordF s.mode).length), (8, .d (vI i))] ∧ o = [.var 28 [.d (vI s.sh.pages), .d (vI s.sh.slots), .d (vI s.sh.roots), .d (vI s.sh.room), .d (vI s.mode), .d (vI s.base), .d (rSl s.slots), .d (rR s.roots), .d (rBB s.data)], .row 1 ((ordF s.mode).map vT)]) ((ordF s.mode).length) .refl ⟨0, by simp, by simp, by simp, rfl, rfl⟩ ?_)
 rintro m σ o ⟨i, rfl, hi, hinv, rfl, rfl⟩ _
 have hol := ordF_len (mode := s.mode)
 refine W_seq (xU ?_)
 refine xO4 ?_
 refine xQ [1,2,7,8,28] ?_ ?_
 · intro h28
   have hi2 : i < (ordF s.mode).length := by simpa using h28
   refine W_skip fun _ => ?_
   refine W_seq (W_block ?_)
   refine W_seq ?_
   refine W_regD (by kernel_rfl) [] 4 [0,1,2,3,4,5,6,7,8,9,10,11] (by decide +kernel) ?_
   refine xO3 ?_
   refine xO ?_ (h := by simp [hi2]; exact .mk)
   refine xO ?_ (h := by simp [-List.getElem?_map, map_get hi2]; exact .mk)
   refine xO ?_
   refine xC (ct39 g s hs (nth (ordF s.mode) i) n) ?_
   refine xO5 ?_
   refine xG [1,2,7,8,9,10] ?_
   refine xO ?_
   refine xQ [1,2,7,8,9,41] ?_ ?_
   · intro h41
     obtain ⟨a, ha⟩ : ∃ a, roomS s (nth (ordF s.mode) i) n = some a := Option.isSome_iff_exists.1 h41
     have hr : firstP s n = some (nth (ordF s.mode) i, a) := by rw [firstP_ord]; exact firstO_some hi2 ha hinv
     refine xU ?_
     refine xO2 ?_
     refine xO ?_ (h := by simp [hi2]; exact .mk)
     refine xO ?_ (h := by simp [-List.getElem?_map, map_get hi2]; exact .mk)
     refine xO4 ?_
     refine xF [4,5,6] ?_
     refine W_ret (xR (by simp [Tryz.f41]; exact .mk) ?_)
     first | (simp [Tryz.f41, hr]; done) | simp [Tryz.f41, hr, ha]
   intro h41
   have hno : roomS s (nth (ordF s.mode) i) n = none := by simpa using h41
   refine W_skip fun _ => ?_
   refine xY ?_
   refine xO3 ?_
   refine xE [1,2,7,8] ?_
   refine rounds_kill [1,2,7,8] ?_
   refine rounds_next (m' := (ordF s.mode).length - (i+1)) (by omega) ⟨i+1, rfl, by omega, ?_, ?_, rfl⟩
   · intro j hj
     rcases Nat.lt_succ_iff_lt_or_eq.1 hj with hj | rfl
     · exact hinv j hj
     exact hno
   rw [wrap64 (by omega) (by omega)]; rfl
 intro h28
 have hr : firstP s n = none := by rw [firstP_ord]; exact firstO_none (fun j hj => hinv j (by simp at h28; omega))
 refine W_exit (xT ?_)
 refine xH3 [4,5,6] ?_
 refine W_ret (xR (by simp [Tryz.f41]; exact .mk) ?_)
 first | (simp [Tryz.f41, hr]; done) | simp [Tryz.f41, hr, ha]

open Go.Awp
def twoS (x : Slot) (two : Bool) : Slot := { x with two := two }
def posS (x : Slot) (a : Int) : Slot := { x with at_ := a }
theorem foldTwo {l : List Slot} {m : Nat} {two : Bool} : (l.map eSlot).set m (D.agg [vI (nth l m).gen, vT (nth l m).live, vT two, vI (nth l m).at_, vI (nth l m).len]) = (l.set m (twoS (nth l m) two)).map eSlot := (List.map_set (f := eSlot) (a := twoS (nth l m) two)).symm
theorem foldPos {l : List Slot} {m : Nat} {a : Int} : (l.map eSlot).set m (D.agg [vI (nth l m).gen, vT (nth l m).live, vT (nth l m).two, vI a, vI (nth l m).len]) = (l.set m (posS (nth l m) a)).map eSlot := (List.map_set (f := eSlot) (a := posS (nth l m) a)).symm
theorem lay_two {l : List Slot} {m : Nat} (h : m < l.length) {two : Bool} {a : Int} : (l.set m (twoS (nth l m) two)).set m (posS (nth (l.set m (twoS (nth l m) two)) m) a) = l.set m (atS (nth l m) two a) := by
 rw [List.set_set, nth_set2 h, if_pos rfl]; rfl
open Go.Awp
theorem ct49 (g : Gl) (s : Stt) (hs : s.Ok) (k : Int) (two : Bool) (at_ : Int) : CtAt Tryz.prog g 49 [eStt s, vI k, vT two, vI at_] (.tup [oStt (moveS s k two at_).1, vI (moveS s k two at_).2]) := by
 refine xA Tryz.func49 fun B S => ?_
 simp only [eStt, List.map, argD_agg, argD_v]
 refine xU ?_
 refine xO3 ?_
 refine xG [1,2,3,4,8] ?_
 refine xOl ?_
 refine xO ?_
 refine xC (ct117 g s hs k) ?_ (he := by simp [row_rows, Function.comp_def]; exact .mk) (hi := by simp [oStt]; exact .mk)
 refine xH [1,2,3,4,8,10] ?_
 refine W_seq (xU ?_)
 refine xO2 ?_
 refine xQ [1,2,3,4,8,17] ?_ ?_
 · intro h17
   have hr : moveS s k two at_ = (zStt, 1) := by unfold moveS; rw [if_neg (by simpa using h17)]
   refine xU ?_
   iterate 2 (refine xOs ?_)
   refine xH [8,9] ?_
   refine W_ret (end_ret (by simp [Tryz.f49]; exact .mk) (by simp; exact .mk) ?_ (by simp [oStt]))
   simp [Tryz.f49, hr, oStt, zStt, ownR]
 intro h17
 have hlv : liveS s k = true := by simpa using h17
 obtain ⟨n, rfl, hn, hnl, hnd, hg⟩ := liveS_nat hlv
 obtain ⟨m, hm⟩ : ∃ m, m = layAt s n two at_ := ⟨_, rfl⟩
 have hmo : m.Ok := by rw [hm]; exact layAt_ok hs
 refine W_skip ?_
 refine xT ?_
 refine xOl ?_
 refine xC (ct21 g s hs) ?_ (he := by simp [row_rows, Function.comp_def]; exact .mk) (hi := by simp [oStt]; exact .mk)
 refine xO ?_
 refine xOs ?_
 refine xG [1,2,3,8,11] ?_
 refine xO ?_
 refine xOl ?_
 refine xO2 ?_
 refine xO ?_ (h := by simp [eSlot, hn]; exact .mk)
 refine xO ?_
 refine xO ?_ (h := by simp [-List.getElem?_map, map_get hn, eSlot, nrmL, nrm, putC, splice]; exact .mk)
 refine xE [1,3,8,11] ?_
 simp only [foldTwo]
 obtain ⟨SL, hSL⟩ : ∃ x, x = s.slots.set n (twoS (nth s.slots n) two) := ⟨_, rfl⟩
 rw [show s.slots.length = (s.slots.set n (twoS (nth s.slots n) two)).length by simp, ← hSL]
 have hnS : n < SL.length := by rw [hSL]; simpa using hn
 refine xT ?_
 refine xO ?_
 refine xOl ?_
 refine xO2 ?_
 refine xO ?_ (h := by simp [eSlot, hnS]; exact .mk)
 refine xO ?_
 refine xO ?_ (h := by simp [-List.getElem?_map, map_get hnS, eSlot, nrmL, nrm, putC, splice]; exact .mk)
 refine xE [8,11] ?_
 simp only [foldPos]
 obtain ⟨SM, hSM⟩ : ∃ x, x = SL.set n (posS (nth SL n) at_) := ⟨_, rfl⟩
 rw [show SL.length = (SL.set n (posS (nth SL n) at_)).length by simp, ← hSM]
 have hX : layAt s n two at_ = ⟨s.sh, s.mode, s.base, SM, s.roots, s.data⟩ := by rw [hSM, hSL, lay_two hn]; rfl
 refine xT ?_
 refine xOl ?_
 refine run_call0 rfl rfl rfl rfl (by simp; exact .mk) (by simp [row_rows, Function.comp_def]; exact .mk) (by have := ct33 g m hmo; rw [hm, hX] at this; exact this) (by simp) (by simp [oStt]; exact .mk) ?_
 refine xH [8,11,12] ?_
 refine W_seq (xU ?_)
 refine xO2 ?_
 refine xQ [8,11,36] ?_ ?_
 · intro h36
   have hr : moveS s n two at_ = (zStt, 10) := by unfold moveS; rw [if_pos hlv]; simp only [Int.toNat_natCast]; rw [hX, if_neg (by simpa using h36)]
   refine xU ?_
   iterate 2 (refine xOs ?_)
   refine xH [8,9] ?_
   refine W_ret (end_ret (by simp [Tryz.f49]; exact .mk) (by simp; exact .mk) ?_ (by simp [oStt]))
   simp [Tryz.f49, hr, oStt, zStt, ownR]
 intro h36
 have hr : moveS s n two at_ = (⟨s.sh, s.mode, s.base, SM, s.roots, s.data⟩, 0) := by unfold moveS; rw [if_pos hlv]; simp only [Int.toNat_natCast]; rw [hX, if_pos (by simpa using h36)]
 refine W_skip ?_
 refine xT ?_
 refine xOl ?_
 refine xOs ?_
 refine xH [8,9] ?_
 refine W_ret (end_ret (by simp [Tryz.f49]; exact .mk) (by simp; exact .mk) ?_ (by simp [oStt]))
 simp [Tryz.f49, hr, oStt, zStt, ownR]

open Go.Awp
def cntIx (f : Nat → Bool) (n : Nat) : Nat := ((List.range n).filter f).length
structure Kept (s t : Stt) : Prop where
 sh : t.sh = s.sh
 len : t.slots.length = s.slots.length
 slot : ∀ i, i < s.slots.length → (nth t.slots i).gen = (nth s.slots i).gen ∧ (nth t.slots i).live = (nth s.slots i).live ∧ (nth t.slots i).len = (nth s.slots i).len
 roots : t.roots = s.roots
 data : t.data = s.data
theorem Kept.refl (s : Stt) : Kept s s := ⟨rfl, rfl, fun _ _ => ⟨rfl, rfl, rfl⟩, rfl, rfl⟩
theorem Kept.trans {s t u : Stt} (h : Kept s t) (k : Kept t u) : Kept s u := ⟨k.sh.trans h.sh, k.len.trans h.len, fun i hi => by
  have a := h.slot i hi
  have b := k.slot i (by rw [h.len]; exact hi)
  exact ⟨b.1.trans a.1, b.2.1.trans a.2.1, b.2.2.trans a.2.2⟩, k.roots.trans h.roots, k.data.trans h.data⟩
open Go.Awp
def backB (s : Stt) (x : Slot) : Bool := isTwo x && coverB s.base (s.base - 1) (x.at_, x.len)
def backN (s : Stt) : Nat := cntIx (fun i => backB s (nth s.slots i)) s.slots.length
def leftD (s : Stt) : Nat := if s.base = 0 then 1 else 15 * (s.base - 1).toNat + backN s + 2
def movingS (s : Stt) : Bool := decide (s.mode = 3) || decide (s.mode = 4)
def leftS (s : Stt) : Nat := if s.mode = 3 then leftU s else leftD s
open Go.Awp
def endF : Nat → Nat → Stt → Stt × Nat × Int
 | 0, n, _ => (zStt, n, 1)
 | f + 1, n, s => if 0 < n ∧ movingS s = false then (s, n, 0) else if (stepS s).2 ≠ 0 then (zStt, n, (stepS s).2) else endF f (n + 1) (stepS s).1
def needE (n : Nat) (s : Stt) : Nat := if movingS s = true then leftS s + 1 else 1
def endS (s : Stt) : Stt × Nat × Int := endF (needE 0 s) 0 s
structure Went (s t : Stt) (n k : Nat) : Prop where
 right : sttS t = true
 kept : Kept s t
 mode : (s.mode = 3 → t.mode = 2 ∨ t.mode = 3) ∧ (s.mode = 4 → t.mode = 1 ∨ t.mode = 4)
 left : movingS t = true → k + leftS t ≤ n + leftS s
 few : k ≤ n + leftS s
def boundS (s : Stt) : Int := if s.mode = 3 then 9 * s.sh.pages + 1 else if s.mode = 4 then 15 * s.sh.pages + 1 else 0
def fromM (up : Bool) : Int := if up = true then 1 else 2
def toM (up : Bool) : Int := if up = true then 3 else 4
def startS (s : Stt) (up : Bool) : Stt × Int := if sttS s = false then (zStt, 1) else if s.mode ≠ fromM up then (zStt, 12) else if (endS (turnS s (toM up) 0)).2.2 ≠ 0 then (zStt, (endS (turnS s (toM up) 0)).2.2) else (turnS s (toM up) 0, 0)
open Go.Awp
open Go.Awp
def ixN (l : List Int) (x : Int) : Int := if l.contains x = true then (l.idxOf x : Int) else -1
open Go.Awp
def sh0 : Shape := ⟨4, 2, 2, 30⟩
open Go.Awp
open Go.Awp
open Go.Awp
open Go.Awp
open Go.Awp
open Go.Awp
open Go.Awp
open Go.Awp
open Go.Awp
open Go.Awp
open Go.Awp
open Go.Awp
open Go.Awp
open Go.Awp
open Go.Awp
open Go.Awp
open Go.Awp
open Go.Awp
open Go.Awp
theorem ct118 (g : Gl) (l : List Slot) (hl : l.length ≤ 2^40) (k : Int) (hg : ∀ i, i < l.length → -2^40 ≤ (nth l i).gen ∧ (nth l i).gen ≤ 2^40) : CtAt Tryz.prog g 118 [rSl l, vI k] (.tup [oSl (freeT l k).1, vI (freeT l k).2]) := by
 refine xA Tryz.func118 fun B S => ?_
 have q1 : l.length * 32 ≤ 140737488355328 := by omega
 have q2 : l.length ≤ 140737488355328 := by omega
 refine xU ?_
 refine xO2 ?_
 refine xG [0,1] ?_
 refine xO ?_
 refine xC (ct93 g l hl) ?_
 refine xH [0,1,6] ?_
 refine W_seq (xU ?_)
 refine xO3 ?_
 iterate 2 refine xI ?_
 refine xP ?_
 refine xB ?_
 iterate 4 refine xI ?_
 refine xP ?_
 refine xB ?_
 iterate 2 refine xI ?_
 refine run_if rfl (by simp; exact .mk) rfl (by simp <;> first | omega | grind) (fun hb => by simp at hb; simp [show 0 ≤ k ∧ k < l.length from by omega]; exact .mk) ?_
 refine xI ?_
 refine xI ?_ (h := fun hb => by simp [eSlot]; exact .mk)
 refine xI ?_
 refine xP ?_
 refine xQ [0,1,29] ?_ ?_
 · intro h29
   have hr : freeT l k = ([], 1) := by unfold freeT; rw [if_neg]; intro h; simp [liveT] at h h29; grind
   refine xU ?_
   refine xH2 [4,5] ?_
   refine W_ret (xR (by simp [Tryz.f118]; exact .mk) ?_)
   first | (simp [Tryz.f118, hr, ownR]; done) | (simp [Tryz.f118, hr, ownR, List.map_set, goneS, eSlot]; try rfl)
 intro h29
 have hlv : tableS l = true ∧ liveT l k = true := by simp [liveT] at h29 ⊢; grind
 obtain ⟨n, rfl, hn, hnl⟩ := liveT_nat hlv.2
 have hr : freeT l n = (l.set n (goneS (nth l n)), 0) := by unfold freeT; rw [if_pos hlv]; rfl
 obtain ⟨g1, g2⟩ := hg n hn
 have e1 : IntKind.i64.wrap ((nth l n).gen + 1) = (nth l n).gen + 1 := wrap64 (by omega) (by omega)
 refine W_skip ?_
 refine xT ?_
 refine xO2 ?_
 refine xO ?_ (h := by simp [rows, q1, q2]; exact .mk)
 refine xO ?_
 refine xG [0,1,7] ?_
 refine xO4 ?_
 refine xO ?_ (h := by simp [eSlot, hn]; exact .mk)
 refine xO ?_
 refine xOl ?_
 refine xO ?_ (h := by simp [e1]; exact .mk)
 refine xO ?_
 refine xOs ?_
 refine xO ?_ (h := by simp [eSlot, hn]; exact .mk)
 refine xO ?_ (h := by simp [splice, hn, nrmL, nrm, putC, splice]; exact .mk)
 refine xG [7] ?_
 refine xH3 [4,5] ?_
 refine W_ret (xR (by simp [Tryz.f118]; exact .mk) ?_)
 first | (simp [Tryz.f118, hr, ownR]; done) | (simp [Tryz.f118, hr, ownR, List.map_set, goneS, eSlot]; try rfl)

theorem ct116 (g : Gl) (l : List Slot) (hl : l.length ≤ 2^40) (x : Slot) : CtAt Tryz.prog g 116 [rSl l, eSlot x] (.tup [oSl (takeT l x).1, .agg [vI (takeT l x).2.1.1, vI (takeT l x).2.1.2], vI (takeT l x).2.2]) := by
 refine xA Tryz.func116 fun B S => ?_
 simp only [eSlot, List.map, argD_agg]
 have q1 : l.length * 32 ≤ 140737488355328 := by omega
 have q2 : l.length ≤ 140737488355328 := by omega
 refine xU ?_
 refine xO4 ?_
 refine xG [0,3,5] ?_
 refine xO ?_
 refine xC (ct93 g l hl) ?_
 refine xH [0,3,5,7] ?_
 refine W_seq (xU ?_)
 refine xO2 ?_
 refine xQ [0,3,5,16] ?_ ?_
 · intro h16
   have hr : takeT l x = ([], (0, 0), 1) := by unfold takeT; rw [if_neg (by simpa using h16)]
   refine xU ?_
   refine xOs ?_
   refine xO ?_
   refine xOs ?_
   refine xH [4,5,6] ?_
   refine W_ret (xR (by simp [Tryz.f116]; exact .mk) ?_)
   first | (simp [Tryz.f116, hr, ownR, List.map_set]; done) | (simp [Tryz.f116, hr, ownR, List.map_set, hk]; done) | (simp [Tryz.f116, hr, ownR, List.map_set, hk, tookS, eSlot]; try rfl)
 intro h16
 have ht : tableS l = true := by simpa using h16
 refine W_skip ?_
 refine xT ?_
 refine xO ?_
 refine xC (ct115 g l hl) ?_
 refine xO5 ?_
 refine xF [0,3,5,8,9] ?_
 refine W_seq (xU ?_)
 refine xO2 ?_
 refine xQ [0,3,5,8,24] ?_ ?_
 · intro h24
   have hn : nextS l = none := by simpa using h24
   have hr : takeT l x = ([], (0, 0), 9) := by unfold takeT; rw [if_pos ht, hn]
   refine xU ?_
   refine xOs ?_
   refine xO ?_
   refine xOs ?_
   refine xH [4,5,6] ?_
   refine W_ret (xR (by simp [Tryz.f116]; exact .mk) ?_)
   first | (simp [Tryz.f116, hr, ownR, List.map_set]; done) | (simp [Tryz.f116, hr, ownR, List.map_set, hk]; done) | (simp [Tryz.f116, hr, ownR, List.map_set, hk, tookS, eSlot]; try rfl)
 intro h24
 obtain ⟨k, hk⟩ : ∃ k, nextS l = some k := Option.isSome_iff_exists.1 (by simpa using h24)
 obtain ⟨hkl, _, _⟩ := nextS_spec hk
 have hkk : (((nextS l).getD 0 : Nat) : Int) = k := by rw [hk]; rfl
 refine W_skip fun _ => ?_
 refine W_seq ?_
 refine W_regD (by kernel_rfl) [] 4 [0,1,2,3,4,5,6,7,8,9,10,11,12,13] (by decide +kernel) ?_
 refine xO2 ?_
 refine xO ?_ (h := by simp [eSlot, hk, hkl]; exact .mk)
 refine xO ?_
 refine xOl ?_
 refine xO ?_
 refine xOl ?_
 refine xO ?_
 refine xOl ?_
 refine xO ?_
 refine xOl ?_
 refine xOs ?_
 refine xO ?_
 refine xOs ?_
 refine xG [0,5,8,10] ?_
 refine xOl ?_
 refine run_call0 rfl rfl rfl rfl (by simp; exact .mk) (by simp; exact .mk) (by have := ct145 g (tookS x (nth l k).gen); exact this) (by simp) (by simp; exact .mk) ?_
 refine xH [0,5,8,10,11] ?_
 refine W_seq (xU ?_)
 refine xO2 ?_
 refine xQ [0,5,8,10,41] ?_ ?_
 · intro h41
   have hr : takeT l x = ([], (0, 0), 1) := by unfold takeT; rw [if_pos ht, hk]; simp only; rw [if_neg (by simpa using h41)]
   refine xU ?_
   refine xOs ?_
   refine xO ?_
   refine xOs ?_
   refine xH [4,5,6] ?_
   refine W_ret (xR (by simp [Tryz.f116]; exact .mk) ?_)
   first | (simp [Tryz.f116, hr, ownR, List.map_set]; done) | (simp [Tryz.f116, hr, ownR, List.map_set, hk]; done) | (simp [Tryz.f116, hr, ownR, List.map_set, hk, tookS, eSlot]; try rfl)
 intro h41
 have hr : takeT l x = (l.set k (tookS x (nth l k).gen), ((k : Int), (nth l k).gen), 0) := by unfold takeT; rw [if_pos ht, hk]; simp only; rw [if_pos (by simpa using h41)]
 refine W_skip ?_
 refine xT ?_
 refine xO2 ?_
 refine xO ?_ (h := by simp [rows, q1, q2]; exact .mk)
 refine xO ?_
 refine xG [5,8,10,12] ?_
 refine xO2 ?_
 refine xOl ?_
 refine xO ?_ (h := by simp [eSlot, hk, hkl]; exact .mk)
 refine xO ?_ (h := by simp [splice, hk, hkl, nrmL, nrm, putC, splice]; exact .mk)
 refine xF [5,8,10,12] ?_
 refine W_seq ?_
 refine W_regD (by kernel_rfl) [] 4 [0,1,2,3,4,5,6,7] (by decide +kernel) ?_
 refine xO3 ?_
 refine xOl ?_
 refine xOs ?_
 refine xO ?_
 refine xOs ?_
 refine xH [4,5,6] ?_
 refine W_ret (xR (by simp [Tryz.f116]; exact .mk) ?_)
 first | (simp [Tryz.f116, hr, ownR, List.map_set]; done) | (simp [Tryz.f116, hr, ownR, List.map_set, hk]; done) | (simp [Tryz.f116, hr, ownR, List.map_set, hk, tookS, eSlot]; try rfl)

open Go.Awp
theorem ct47 (g : Gl) (s : Stt) (hs : s.Ok) (k : Int) : CtAt Tryz.prog g 47 [eStt s, vI k] (.tup [oStt (takeS s k).1, vI (takeS s k).2]) := by
 refine xA Tryz.func47 fun B S => ?_
 simp only [eStt, List.map, argD_agg, argD_v]
 refine xU ?_
 refine xO3 ?_
 refine xG [1,2,4] ?_
 refine xOl ?_
 refine xO ?_
 refine xC (ct117 g s hs k) ?_ (hi := by simp [oStt]; exact .mk)
 refine xH [1,2,4,6] ?_
 refine W_seq (xU ?_)
 refine xO2 ?_
 refine xQ [1,2,4,12] ?_ ?_
 · intro h12
   have hr : takeS s k = (zStt, 1) := by unfold takeS; rw [if_neg (by simpa using h12)]
   refine xU ?_
   iterate 2 (refine xOs ?_)
   refine xH [4,5] ?_
   refine W_ret (end_ret (by simp [Tryz.f47]; exact .mk) (by simp; exact .mk) ?_ (by simp [oStt]))
   simp [Tryz.f47, hr, oStt, zStt, ownR, takeAt, List.map_set]
   try exact ⟨rfl, rfl⟩
 intro h12
 have hlv : liveS s k = true := by simpa using h12
 obtain ⟨n, rfl, hn, hnl, hnd, hg⟩ := liveS_nat hlv
 have hr : takeS s n = (takeAt s n, 0) := by unfold takeS; rw [if_pos hlv]; rfl
 have hf : freeT s.slots n = (s.slots.set n (goneS (nth s.slots n)), 0) := liveS_free hlv
 refine W_skip ?_
 refine xT ?_
 refine xOl ?_
 refine xC (ct21 g s hs) ?_ (hi := by simp [oStt]; exact .mk)
 refine xO ?_
 refine xOs ?_
 refine xG [1,2,4,7] ?_
 refine xO ?_
 refine xOl ?_
 refine xO ?_
 refine run_call0 rfl rfl rfl rfl (by simp; exact .mk) (by simp; exact .mk) (by have := ct118 g s.slots hs.h1 n hg; rw [hf] at this; exact this) (by simp) (by simp [oStt]; exact .mk) ?_
 refine xO4 ?_
 refine xOs ?_
 refine xG [1,4,7] ?_
 refine xO ?_
 refine xOl ?_
 refine xO ?_
 refine xO ?_ (h := by simp [eSlot, hnd]; exact .mk)
 refine xO ?_ (h := by simp [splice, hnd, nrmL, nrm, putC]; exact .mk)
 refine xG [4,7] ?_
 refine xOl ?_
 refine xOs ?_
 refine xH [4,5] ?_
 refine W_ret (end_ret (by simp [Tryz.f47]; exact .mk) (by simp; exact .mk) ?_ (by simp [oStt]))
 simp [Tryz.f47, hr, oStt, zStt, ownR, takeAt, List.map_set]
 try exact ⟨rfl, rfl⟩

theorem ct46 (g : Gl) (s : Stt) (hs : s.Ok) (n : Int) : CtAt Tryz.prog g 46 [eStt s, vI n] (.tup [oStt (putS s n).1, .agg [vI (putS s n).2.1.1, vI (putS s n).2.1.2], vI (putS s n).2.2]) := by
 refine xA Tryz.func46 fun B S => ?_
 simp only [eStt, List.map, argD_agg, argD_v]
 refine xU ?_
 refine xO4 ?_
 refine xG [1,2,4,5] ?_
 refine xOl ?_
 refine xC (ct33 g s hs) ?_ (hi := by simp [oStt]; exact .mk)
 refine xH [1,2,4,5,7] ?_
 refine W_seq (xU ?_)
 refine xO3 ?_
 refine xI ?_
 refine run_call rfl (by simp; exact .mk) rfl rfl (by simp) (by simp; exact .mk) (by simp; exact .mk) (fun hb => ct114 g n) (by simp) (by simp [oStt]; exact .mk) (by simp) ?_
 refine xI ?_
 refine xP ?_
 refine xQ [1,2,4,5,25] ?_ ?_
 · intro h25
   have hr : putS s n = (zStt, (0, 0), 1) := by unfold putS; rw [if_neg]; simp at h25 ⊢; grind
   refine xU ?_
   iterate 4 (refine xOs ?_)
   refine xH [4,5,6] ?_
   refine W_ret (end_ret (by simp [Tryz.f46]; exact .mk) (by simp; exact .mk) ?_ (by simp [oStt]))
   first | (simp [Tryz.f46, hr, oStt, zStt, ownR]; done) | (simp [Tryz.f46, hr, oStt, zStt, ownR, putAt, zerosB, List.map_set]; try exact ⟨rfl, rfl⟩)
 intro h25
 have hR : sttS s = true ∧ sizedN n = true := by simp at h25; grind
 have hR2 : (sttS s && sizedN n) = true := by simp [hR]
 have hn := sizedN_iff.1 hR.2
 refine W_skip ?_
 refine xT ?_
 refine xO ?_
 refine xOl ?_
 refine xC (ct115 g s.slots hs.h1) ?_ (hi := by simp [oStt]; exact .mk)
 refine xO5 ?_
 refine xF [1,2,4,5,9] ?_
 refine W_seq (xU ?_)
 refine xO2 ?_
 refine xQ [1,2,4,5,35] ?_ ?_
 · intro h35
   have hx : nextS s.slots = none := by simpa using h35
   have hr : putS s n = (zStt, (0, 0), 9) := by unfold putS; rw [if_pos hR2, hx]
   refine xU ?_
   iterate 4 (refine xOs ?_)
   refine xH [4,5,6] ?_
   refine W_ret (end_ret (by simp [Tryz.f46]; exact .mk) (by simp; exact .mk) ?_ (by simp [oStt]))
   first | (simp [Tryz.f46, hr, oStt, zStt, ownR]; done) | (simp [Tryz.f46, hr, oStt, zStt, ownR, putAt, zerosB, List.map_set]; try exact ⟨rfl, rfl⟩)
 intro h35
 obtain ⟨k, hk⟩ : ∃ k, nextS s.slots = some k := Option.isSome_iff_exists.1 (by simpa using h35)
 obtain ⟨hkl, hko, _⟩ := nextS_spec hk
 refine W_skip ?_
 refine xT ?_
 refine xOl ?_
 refine xO ?_
 refine xC (ct41 g s hs n) ?_ (hi := by simp [oStt]; exact .mk)
 iterate 7 refine xO ?_
 refine xF [1,2,4,5,10,11,12] ?_
 refine W_seq (xU ?_)
 refine xO2 ?_
 refine xQ [1,2,4,5,10,11,46] ?_ ?_
 · intro h46
   have hx : firstP s n = none := by simpa using h46
   have hr : putS s n = (zStt, (0, 0), 10) := by unfold putS; rw [if_pos hR2, hk]; simp only; rw [hx]
   refine xU ?_
   iterate 4 (refine xOs ?_)
   refine xH [4,5,6] ?_
   refine W_ret (end_ret (by simp [Tryz.f46]; exact .mk) (by simp; exact .mk) ?_ (by simp [oStt]))
   first | (simp [Tryz.f46, hr, oStt, zStt, ownR]; done) | (simp [Tryz.f46, hr, oStt, zStt, ownR, putAt, zerosB, List.map_set]; try exact ⟨rfl, rfl⟩)
 intro h46
 obtain ⟨p, hp⟩ : ∃ p, firstP s n = some p := Option.isSome_iff_exists.1 (by simpa using h46)
 have hr : putS s n = (putAt s k (newSlot (nth s.slots k).gen n p.1 p.2) (zerosB n), ((k : Int), (nth s.slots k).gen), 0) := by unfold putS; rw [if_pos hR2, hk]; simp only; rw [hp]
 obtain ⟨two, a⟩ := p
 have ht : takeT s.slots ⟨0, false, two, a, n⟩ = (s.slots.set k (newSlot (nth s.slots k).gen n two a), ((k : Int), (nth s.slots k).gen), 0) := put_take hR.1 hR.2 hk hp
 have c70 := ct116 g s.slots hs.h1 ⟨0, false, two, a, n⟩
 rw [ht] at c70
 rw [hp]
 have hkd : k < s.data.length := by have := rowsS_len (sttS_rowsS hR.1); omega
 have e1 : 0 ≤ n := by omega
 have e2 : n ≤ 140737488355328 := by omega
 refine W_skip ?_
 refine xT ?_
 refine xOl ?_
 refine xC (ct21 g s hs) ?_ (hi := by simp [oStt]; exact .mk)
 refine xO ?_
 refine xOs ?_
 refine xG [1,2,4,5,10,11,13] ?_
 refine xO ?_
 refine xOl ?_
 refine xO3 ?_
 refine xOs ?_
 refine xC (c70) ?_ (hi := by simp [oStt]; exact .mk)
 iterate 6 refine xO ?_
 refine xOs ?_
 refine xO ?_
 refine xG [1,4,5,13,14,15] ?_
 refine xO2 ?_
 refine xOs ?_
 refine xF [1,4,5,13,15] ?_
 refine W_seq ?_
 refine W_regD (by kernel_rfl) [] 4 [0,1,2,3,4,5,6,7] (by decide +kernel) ?_
 refine xO ?_
 refine xOl ?_
 refine xO ?_
 refine xOl ?_
 refine xO ?_
 refine xO ?_ (h := by simp [e1, e2]; exact .mk)
 refine xO ?_ (h := by simp [eSlot, hkd]; exact .mk)
 refine xO ?_ (h := by simp [splice, hkd, nrmL, nrm, putC]; exact .mk)
 refine xF [4,5,13,15] ?_
 refine W_seq ?_
 refine W_regDSK (hard := []) [1,2] (keepOk_lt (by decide)) (by kernel_rfl) 4 [0,1,2,3,4] [[0,2,1,3,4]] (by decide +kernel) ?_
 iterate 2 (refine xOl ?_)
 iterate 2 (refine xOs ?_)
 refine xO ?_
 refine xE [4,5,6] ?_
 refine ⟨_, rfl, ⟨?_, trivial⟩, ?_⟩
 · skip
   refine xOl ?_
   refine xOs ?_
   refine xOl ?_
   refine xOs ?_
   refine xO ?_
   refine xE [4,5,6] ?_
   exact Weak.perm [0,1,2,3,4,5,6,7,8,9] [0,1,2,3,4,5,6,7,8,9] rfl rfl rfl
 rintro -
 refine W_ret (end_ret (by simp [Tryz.f46]; exact .mk) (by simp; exact .mk) ?_ (by simp [oStt]))
 first | (simp [Tryz.f46, hr, oStt, zStt, ownR]; done) | (simp [Tryz.f46, hr, oStt, zStt, ownR, putAt, zerosB, List.map_set]; try exact ⟨rfl, rfl⟩)

open Go.Awp
@[simp] theorem eqOk106 : eqOk Tryz.prog 106 = true := by kernel_rfl
@[simp] theorem eqOk98 : eqOk Tryz.prog 98 = true := by kernel_rfl
def sameBlk (a b : Blk) : Bool := a.at_ == b.at_ && (a.len == b.len && a.slot == b.slot)
def sameObj (a b : Int × Int) : Bool := a.1 == b.1 && a.2 == b.2
end Go.Proofs

namespace Go.Proofs
open Go.Lib Go.Awp
def midB (d : List UInt8) (n : Int) (i : Nat) : List UInt8 := d.take i ++ List.replicate (n.toNat - i) 0
theorem midB_len {d : List UInt8} {n : Int} {i : Nat} (h1 : i ≤ n.toNat) (h2 : i ≤ d.length) : (midB d n i).length = n.toNat := by simp [midB]; omega
theorem midB_0 {d : List UInt8} {n : Int} : midB d n 0 = List.replicate n.toNat 0 := by simp [midB]
theorem midB_s {d : List UInt8} {n : Int} {i : Nat} (h1 : i < n.toNat) (h2 : i < d.length) : (midB d n i).set i (nth d i) = midB d n (i + 1) := by
 unfold midB
 rw [take_succ h2, List.set_append_right _ _ (by simp; omega), List.append_assoc]
 congr 1
 rw [show n.toNat - i = (n.toNat - (i + 1)) + 1 by omega, List.replicate_succ]
 rw [show i - (d.take i).length = 0 by simp; omega]
 rfl
theorem midB_end {d : List UInt8} {n : Int} {i : Nat} (h1 : i ≤ n.toNat) (h2 : i ≤ d.length) (h : ¬ (i < n.toNat ∧ i < d.length)) : midB d n i = rszB d n := by
 unfold midB rszB
 rcases Nat.lt_or_ge i n.toNat with h3 | h3
 · obtain rfl : i = d.length := by omega
   rw [List.take_of_length_le (Nat.le_refl _), List.take_of_length_le (by omega)]
 · obtain rfl : i = n.toNat := by omega
   rw [show n.toNat - n.toNat = n.toNat - d.length by omega]
set_option maxHeartbeats 4000000
set_option maxRecDepth 4000
open Go.Awp
theorem ct48 (g : Gl) (s : Stt) (hs : s.Ok) (k n : Int) : CtAt Tryz.prog g 48 [eStt s, vI k, vI n] (.tup [oStt (rszS s k n).1, vI (rszS s k n).2]) := by
 refine xA Tryz.func48 fun B S => ?_
 simp only [eStt, List.map, argD_agg, argD_v]
 refine xU ?_
 refine xO3 ?_
 refine xG [1,2,3,6] ?_
 refine xOl ?_
 refine xO ?_
 refine xC (ct117 g s hs k) ?_ (he := by simp [row_rows, Function.comp_def]; exact .mk) (hi := by simp [oStt]; exact .mk)
 refine xH [1,2,3,6,8] ?_
 refine W_seq (xU ?_)
 refine xO3 ?_
 refine xI ?_
 refine run_call rfl (by simp; exact .mk) rfl rfl (by simp) (by simp; exact .mk) (by simp [row_rows, Function.comp_def]; exact .mk) (fun hb => ct114 g n) (by simp) (by simp [oStt]; exact .mk) (by simp) ?_
 refine xI ?_
 refine xP ?_
 refine xQ [1,2,3,6,25] ?_ ?_
 · intro h25
   have hr : rszS s k n = (zStt, 1) := by unfold rszS; rw [if_neg]; simp at h25 ⊢; grind
   refine xU ?_
   iterate 2 (refine xOs ?_)
   refine xH [6,7] ?_
   refine W_ret (end_ret (by simp [Tryz.f48]; exact .mk) (by simp; exact .mk) ?_ (by simp [oStt]))
   first | (simp [Tryz.f48, hr, oStt, zStt, ownR]; done) | (simp [Tryz.f48, hr, oStt, zStt, ownR, putAt, zerosB, List.map_set]; try exact ⟨rfl, rfl⟩)
 intro h25
 have hR : liveS s k = true ∧ sizedN n = true := by simp at h25; grind
 have hR2 : (liveS s k && sizedN n) = true := by simp [hR]
 have hn := sizedN_iff.1 hR.2
 obtain ⟨m, rfl, hm, hml, hmd, hg⟩ := liveS_nat hR.1
 have e1 : 0 ≤ n := by omega
 have e2 : n ≤ 140737488355328 := by omega
 have hz : (rszB (nth s.data m) n).length = n.toNat := by have := rszB_len (d := nth s.data m) e1; omega
 have hr0 : rszS s m n = (if sttS (sizeAt s m n) = true then (sizeAt s m n, (0 : Int)) else match firstP s n with
   | none => (zStt, 10)
   | some p => (layAt (sizeAt s m n) m p.1 p.2, 0)) := by unfold rszS; rw [if_pos hR2]; rfl
 refine W_skip ?_
 refine xT ?_
 refine xOl ?_
 refine xC (ct21 g s hs) ?_ (he := by simp [row_rows, Function.comp_def]; exact .mk) (hi := by simp [oStt]; exact .mk)
 refine xO ?_
 refine xOs ?_
 refine xG [1,2,3,6,9] ?_
 refine xO ?_
 refine xO ?_ (h := by simp [e1, e2]; exact .mk)
 refine xH [1,2,3,6,9,10] ?_
 refine W_seq (xU ?_)
 refine xH [1,2,3,6,9,10,11] ?_
 refine W_block (W_rounds (fun m' σ o => ∃ i : Nat, m' = n.toNat - i ∧ i ≤ n.toNat ∧ i ≤ (nth s.data m).length ∧ σ = slots [(1, .d (vI m)), (2, .d (vI n)), (3, .ptr 0 0 0), (6, .ptr 1 0 0), (9, .ptr 5 0 0), (10, .hdr 6 0 n.toNat), (11, .d (vI i))] ∧ o = [.var 28 [.d (vI s.sh.pages), .d (vI s.sh.slots), .d (vI s.sh.roots), .d (vI s.sh.room), .d (vI s.mode), .d (vI s.base), .d (rSl s.slots), .d (rR s.roots), .d (rBB s.data)], .var 28 [.d (vI 0), .d (vI 0), .d (vI 0), .d (vI 0), .d (vI 0), .d (vI 0), .d (.v (.slice none 0 0)), .d (.v (.slice none 0 0)), .d (.v (.slice none 0 0))], .row 5 (s.slots.map eSlot), .row 3 (s.roots.map eRoot), .row 1 (s.data.map oB), .var 28 [.d (vI s.sh.pages), .d (vI s.sh.slots), .d (vI s.sh.roots), .d (vI s.sh.room), .d (vI s.mode), .d (vI s.base), .hdr 2 0 s.slots.length, .hdr 3 0 s.roots.length, .hdr 4 0 s.data.length], .row 1 ((midB (nth s.data m) n i).map vB)]) n.toNat .refl ⟨0, by simp, by simp, by simp, rfl, by rw [midB_0]; simp⟩ ?_)
 rintro m' σ o ⟨i, rfl, hi, hid, rfl, rfl⟩ _
 have hml2 := midB_len hi hid
 refine W_seq (xU ?_)
 refine xO4 ?_
 iterate 2 refine xI ?_
 refine xI ?_ (h := fun hb => by simp [eSlot]; exact .mk)
 refine xI ?_
 refine xI ?_ (h := fun hb => by simp [hmd]; exact .mk)
 refine xI ?_ (h := fun hb => by simp [-List.getElem?_map, map_get hmd]; exact .mk)
 iterate 2 refine xI ?_
 refine xP ?_
 refine xQ [1,2,3,6,9,10,11,43] ?_ ?_
 · intro h43
   have hi2 : i < n.toNat ∧ i < (nth s.data m).length := by simp at h43; omega
   obtain ⟨hi3, hi4⟩ := hi2
   have hi5 : (i : Int) < max n 0 := by omega
   refine W_skip fun _ => ?_
   refine W_seq (W_block ?_)
   refine xY ?_
   refine xO3 ?_
   refine xOl ?_
   refine xO ?_
   refine xO ?_ (h := by simp [eSlot, hmd]; exact .mk)
   refine xO ?_ (h := by simp [-List.getElem?_map, map_get hmd]; exact .mk)
   refine xO ?_
   refine xO ?_ (h := by simp [eSlot, hi4]; exact .mk)
   refine xO ?_ (h := by simp [-List.getElem?_map, map_get hi4]; exact .mk)
   refine xO ?_ (h := by simp [eSlot, hml2, hi3, hi5]; exact .mk)
   refine xO ?_ (h := by simp [splice, hml2, hi3, hi5, nrmL, nrm, putC, splice]; exact .mk)
   refine xF [1,2,3,6,9,10,11] ?_
   refine xY ?_
   refine xO3 ?_
   refine xE [1,2,3,6,9,10,11] ?_
   refine rounds_kill [1,2,3,6,9,10,11] ?_
   refine rounds_next (m' := n.toNat - (i+1)) (by omega) ⟨i+1, rfl, by omega, by omega, ?_, ?_⟩
   · rw [wrap64 (by omega) (by omega)]; rfl
   rw [← midB_s hi3 hi4, List.map_set]
 intro h43
 have hi2 : ¬ (i < n.toNat ∧ i < (nth s.data m).length) := by simp at h43; omega
 rw [midB_end hi hid hi2]
 refine W_exit (xT ?_)
 refine xO ?_
 refine xOl ?_
 refine xO2 ?_
 refine xO ?_ (h := by simp [eSlot, hmd]; exact .mk)
 refine xO ?_ (h := by simp [splice, hz, -List.getElem?_map, map_get hmd]; exact .mk)
 refine xE [1,2,3,6,9] ?_
 erw [putC_own1]
 simp only [foldData]
 obtain ⟨DL, hDL⟩ : ∃ x, x = s.data.set m (rszB (nth s.data m) n) := ⟨_, rfl⟩
 rw [show s.data.length = (s.data.set m (rszB (nth s.data m) n)).length by simp, ← hDL]
 refine xT ?_
 refine xO ?_
 refine xOl ?_
 refine xO2 ?_
 refine xO ?_ (h := by simp [eSlot, hm]; exact .mk)
 refine xO ?_
 refine xO ?_ (h := by simp [-List.getElem?_map, map_get hm, eSlot, nrmL, nrm, putC, splice]; exact .mk)
 refine xE [1,2,3,6,9] ?_
 simp only [foldSlot]
 obtain ⟨SL, hSL⟩ : ∃ x, x = s.slots.set m (lenS (nth s.slots m) n) := ⟨_, rfl⟩
 rw [show s.slots.length = (s.slots.set m (lenS (nth s.slots m) n)).length by simp, ← hSL]
 have hX : sizeAt s m n = ⟨s.sh, s.mode, s.base, SL, s.roots, DL⟩ := by rw [hSL, hDL]; rfl
 have hnS : m < SL.length := by rw [hSL]; simpa using hm
 refine xT ?_
 refine xOl ?_
 refine run_call0 rfl rfl rfl rfl (by simp; exact .mk) (by simp [row_rows, Function.comp_def]; exact .mk) (by have := ct33 g (sizeAt s m n) (sizeAt_ok hs hn); rw [hX] at this; exact this) (by simp) (by simp [oStt]; exact .mk) ?_
 refine xH [1,2,3,6,9,12] ?_
 refine W_seq (xU ?_)
 refine xO ?_
 refine xQ [1,2,3,6,9,70] ?_ ?_
 · intro h70
   have hr : rszS s m n = (⟨s.sh, s.mode, s.base, SL, s.roots, DL⟩, 0) := by rw [hr0, hX, if_pos (by simpa using h70)]
   refine xU ?_
   refine xOl ?_
   refine xOs ?_
   refine xH [6,7] ?_
   refine W_ret (end_ret (by simp [Tryz.f48]; exact .mk) (by simp; exact .mk) ?_ (by simp [oStt]))
   first | (simp [Tryz.f48, hr, oStt, zStt, ownR]; done) | (simp [Tryz.f48, hr, oStt, zStt, ownR, putAt, zerosB, List.map_set]; try exact ⟨rfl, rfl⟩)
 intro h70
 rw [hX, if_neg (by simpa using h70)] at hr0
 refine W_skip ?_
 refine xT ?_
 refine xOl ?_
 refine xO ?_
 refine xC (ct41 g s hs n) ?_ (he := by simp [row_rows, Function.comp_def]; exact .mk) (hi := by simp [oStt]; exact .mk)
 iterate 7 refine xO ?_
 refine xF [1,6,9,13,14,15] ?_
 refine W_seq (xU ?_)
 refine xO2 ?_
 refine xQ [1,6,9,13,14,80] ?_ ?_
 · intro h80
   have hx : firstP s n = none := by simpa using h80
   rw [hx] at hr0
   have hr := hr0
   refine xU ?_
   iterate 2 (refine xOs ?_)
   refine xH [6,7] ?_
   refine W_ret (end_ret (by simp [Tryz.f48]; exact .mk) (by simp; exact .mk) ?_ (by simp [oStt]))
   first | (simp [Tryz.f48, hr, oStt, zStt, ownR]; done) | (simp [Tryz.f48, hr, oStt, zStt, ownR, putAt, zerosB, List.map_set]; try exact ⟨rfl, rfl⟩)
 intro h80
 obtain ⟨p, hp⟩ : ∃ p, firstP s n = some p := Option.isSome_iff_exists.1 (by simpa using h80)
 rw [hp] at hr0 ⊢
 obtain ⟨two, a⟩ := p
 refine W_skip ?_
 refine xT ?_
 refine xO ?_
 refine xOl ?_
 refine xO2 ?_
 refine xO ?_ (h := by simp [eSlot, hnS]; exact .mk)
 refine xO ?_
 refine xO ?_ (h := by simp [-List.getElem?_map, map_get hnS, eSlot, nrmL, nrm, putC, splice]; exact .mk)
 refine xE [1,6,9,14] ?_
 simp only [foldTwo]
 obtain ⟨SM, hSM⟩ : ∃ x, x = SL.set m (twoS (nth SL m) two) := ⟨_, rfl⟩
 rw [show SL.length = (SL.set m (twoS (nth SL m) two)).length by simp, ← hSM]
 have hnM : m < SM.length := by rw [hSM]; simpa using hnS
 refine xT ?_
 refine xO ?_
 refine xOl ?_
 refine xO2 ?_
 refine xO ?_ (h := by simp [eSlot, hnM]; exact .mk)
 refine xO ?_
 refine xO ?_ (h := by simp [-List.getElem?_map, map_get hnM, eSlot, nrmL, nrm, putC, splice]; exact .mk)
 refine xE [6,9] ?_
 simp only [foldPos]
 obtain ⟨SN, hSN⟩ : ∃ x, x = SM.set m (posS (nth SM m) a) := ⟨_, rfl⟩
 rw [show SM.length = (SM.set m (posS (nth SM m) a)).length by simp, ← hSN]
 have hr : rszS s m n = (⟨s.sh, s.mode, s.base, SN, s.roots, DL⟩, 0) := by rw [hr0, hSN, hSM, lay_two hnS]; rfl
 refine xT ?_
 refine xOl ?_
 refine xOs ?_
 refine xH [6,7] ?_
 refine W_ret (end_ret (by simp [Tryz.f48]; exact .mk) (by simp; exact .mk) ?_ (by simp [oStt]))
 first | (simp [Tryz.f48, hr, oStt, zStt, ownR]; done) | (simp [Tryz.f48, hr, oStt, zStt, ownR, putAt, zerosB, List.map_set]; try exact ⟨rfl, rfl⟩)

open Go.Awp
theorem ct37 (g : Gl) : CtAt Tryz.prog g 37 [] (.v (.bool true)) := by
 refine xA Tryz.func37 fun B S => ?_
 refine xU ?_
 refine xO ?_
 refine xG [] ?_
 refine xOs ?_
 refine run_call0 rfl rfl rfl rfl (by simp; exact .mk) (by simp; exact .mk) (by have := ct53 g sh1 1; rw [new_O] at this; exact this) (by simp) (by simp [oStt]; exact .mk) ?_
 refine xO4 ?_
 refine xOs ?_
 refine xO ?_
 refine xG [1,2] ?_
 refine xO ?_
 refine run_call0 rfl rfl rfl rfl (by simp; exact .mk) (by simp; exact .mk) (by have := ct42 g stO stO_ok 16; rw [put_A] at this; exact this) (by simp) (by simp [oStt]; exact .mk) ?_
 iterate 6 refine xO ?_
 iterate 2 (refine xOs ?_)
 refine xO ?_
 refine xG [2,3,4,5] ?_
 refine xO ?_
 refine run_call0 rfl rfl rfl rfl (by simp; exact .mk) (by simp; exact .mk) (by have := ct42 g stA stA_ok 16; rw [put_B] at this; exact this) (by simp) (by simp [oStt]; exact .mk) ?_
 iterate 6 refine xO ?_
 iterate 2 (refine xOs ?_)
 refine xO ?_
 refine xG [2,4,5,6,7,8] ?_
 refine xO ?_
 refine run_call0 rfl rfl rfl rfl (by simp; exact .mk) (by simp; exact .mk) (by have := ct44 g stB stB_ok 0 17; rw [rsz_C] at this; exact this) (by simp) (by simp [oStt]; exact .mk) ?_
 refine xO4 ?_
 refine xOs ?_
 refine xH [2,4,5,7,8,9,10] ?_
 refine W_seq (xU ?_)
 refine xO3 ?_
 iterate 2 refine xI ?_
 refine xP ?_
 refine xB ?_
 iterate 2 refine xI ?_
 refine xP ?_
 refine xB ?_
 iterate 2 refine xI ?_
 refine xP ?_
 refine xB ?_
 iterate 3 refine xI ?_
 refine xI ?_ (h := fun hb => by simp [stC_len]; exact .mk)
 refine xP ?_
 refine xQ [4,7,9,60] ?_ ?_
 · intro h60
   simp at h60
 intro h60
 refine W_skip ?_
 refine xT ?_
 refine xOs ?_
 refine run_call0 rfl rfl rfl rfl (by simp; exact .mk) (by simp; exact .mk) (by have := ct53 g sh1 2; rw [new_T] at this; exact this) (by simp) (by simp [oStt]; exact .mk) ?_
 refine xO4 ?_
 refine xOs ?_
 refine xO ?_
 refine xG [4,7,9,11] ?_
 refine xO ?_
 refine run_call0 rfl rfl rfl rfl (by simp; exact .mk) (by simp; exact .mk) (by have := ct42 g stT stT_ok 121; rw [put_U] at this; exact this) (by simp) (by simp [oStt]; exact .mk) ?_
 iterate 6 refine xO ?_
 iterate 2 (refine xOs ?_)
 refine xO ?_
 refine xG [4,7,9,13,15] ?_
 refine xO ?_
 refine run_call0 rfl rfl rfl rfl (by simp; exact .mk) (by simp; exact .mk) (by have := ct42 g stU stU_ok 121; rw [put_V] at this; exact this) (by simp) (by simp [oStt]; exact .mk) ?_
 iterate 6 refine xO ?_
 iterate 2 (refine xOs ?_)
 refine xO ?_
 refine xG [4,7,9,15,18] ?_
 refine xO ?_
 refine xOs ?_
 refine xO2 ?_
 refine xI ?_
 refine xI ?_ (h := fun hb => by simp [splice]; exact .mk)
 refine xI ?_
 refine xP ?_
 refine xB ?_
 iterate 2 refine xI ?_
 refine xI ?_ (h := fun hb => by simp [stC_len]; exact .mk)
 refine xI ?_
 refine run_if rfl (by simp; exact .mk) rfl (by simp <;> first | omega | grind) (fun hb => by simp [-List.getElem?_map, map_get (show 0 < stC.slots.length by rw [stC_len]; decide), eSlot]; exact .mk) ?_
 refine xI ?_ (h := fun hb => by simp [stC_0]; exact .mk)
 refine xP ?_
 refine xB ?_
 iterate 2 refine xI ?_
 refine xI ?_ (h := fun hb => by simp [stC_len]; exact .mk)
 refine xI ?_
 refine run_if rfl (by simp; exact .mk) rfl (by simp <;> first | omega | grind) (fun hb => by simp [-List.getElem?_map, map_get (show 1 < stC.slots.length by rw [stC_len]; decide), eSlot]; exact .mk) ?_
 refine xI ?_ (h := fun hb => by simp [stC_1]; exact .mk)
 refine xP ?_
 refine xB ?_
 iterate 2 refine xI ?_
 refine xP ?_
 refine xB ?_
 iterate 2 refine xI ?_
 refine xP ?_
 refine xB ?_
 refine xF [0] ?_
 refine W_ret (xR (by simp [Tryz.f37]; exact .mk) ?_)
 simp [Tryz.f37]

open Go.Awp
theorem in67 (g : Gl) (os tl : List Awp.Obj) (xs : List (List UInt8)) (ho : objsFix os = true) (ht : objsFix tl = true) (hlo : objsLt (os.length + 1 + tl.length) os = true) (hlt : objsLt (os.length + 1 + tl.length) tl = true) (hl : xs.length ≤ 2^40) : ∀ B S, CallsA Tryz.prog g B S ⟨(os ++ Awp.Obj.row 1 (xs.map oB) :: tl).length, false⟩ 67 [.hdr os.length 0 xs.length] (os ++ .row 1 (xs.map oB) :: tl) (fun x r => x = .dead ∧ r = os ++ .dead :: tl) := by
 refine callsA_at Tryz.func67 rfl (Nat.le_of_ble_eq_true rfl) fun B S => ?_
 refine W_nest os.length (xs := xs.map oB) (by simp) (fun x hx => ?_) fun L0 hL0 hall0 => ?_
 · obtain ⟨b, _, rfl⟩ := List.mem_map.1 hx
   exact ⟨b.map fun b => .int .u8 b.toNat, by simp [ownR]⟩
 rw [show (os ++ Awp.Obj.row 1 (xs.map oB) :: tl).set os.length (.nest L0) = os ++ .nest L0 :: tl from by simp]
 have hL1 : L0.length = xs.length := by simpa using hL0
 have hrow0 : ∀ j, j < xs.length → ∃ l c f, L0[j]? = some (.row l c f) := fun j hj => by
  have hj2 : j < L0.length := by omega
  have := List.all_eq_true.1 hall0 L0[j] (List.getElem_mem hj2)
  rw [List.getElem?_eq_getElem hj2]
  cases hq : L0[j] with
  | row l c f => exact ⟨l, c, f, rfl⟩
  | raw v => rw [hq] at this; cases this
 refine xU ?_
 refine xH [0] ?_
 refine W_seq (xU ?_)
 refine xH [0,3] ?_
 refine W_block (W_rounds (fun m σ o => ∃ (i : Nat) (T : List Awp.Obj) (L : List NE), m = xs.length - i ∧ i ≤ xs.length ∧ ((∃ ds, tl ++ ds = T) ∧ objsFix T = true ∧ L.length = xs.length ∧ (∀ j, j < xs.length → ∃ l c f, L[j]? = some (.row l c f))) ∧ (∀ j, j < i → ∃ l c, L[j]? = some (.row l c true)) ∧ σ = slots [(0, .hdr os.length 0 xs.length), (3, .d (vI i))] ∧ o = os ++ .nest L :: T) xs.length .refl ⟨0, tl, L0, by simp, by simp, ⟨⟨[], by simp⟩, ht, hL1, hrow0⟩, by simp, rfl, rfl⟩ ?_)
 rintro m σ o ⟨i, T, L, rfl, hi, ⟨⟨ds, hTd⟩, hT, hLl, hrow⟩, hfull, rfl, rfl⟩ _
 refine W_seq (xU ?_)
 refine xO4 ?_
 refine xQ [0,3,12] ?_ ?_
 · intro h12
   have hi2 : i < xs.length := by simpa using h12
   refine W_skip fun _ => ?_
   refine W_seq (W_block ?_)
   refine W_seq ?_
   obtain ⟨len, cap, full, hLi⟩ := hrow i (by omega)
   refine W_nopen os.length i (L := L) (len := len) (cap := cap) (full := full) rfl (by simp) hLi (by simp) (by simp [fix_append, ho, hT]) fun zs hz1 hz2 hlc hcm => ?_
   rw [show (os ++ Awp.Obj.nest L :: T).set os.length (.nhole i (os ++ Awp.Obj.nest L :: T).length len L) ++ [.grow cap zs] = os ++ .nhole i (os.length + (T.length + 1)) len L :: (T ++ [.grow cap zs]) from by simp]
   have hcb : (cap : Int) ≤ cap := Int.le_refl _
   refine W_regD (by kernel_rfl) [] 4 [0,1,2,3,4,5,6,7,8,9,10] (by decide +kernel) ?_
   refine xO2 ?_
   refine xO ?_ (h := by simp [hi2]; exact .mk)
   refine xO3 ?_
   refine xO ?_ (h := by simp [hi2]; exact .mk)
   refine xO2 ?_
   refine xO ?_ (h := by simp [optA, *]; exact .mk)
   refine xO ?_
   refine xG [0,3,4] ?_
   refine xH [0,3,4,5] ?_
   refine W_block (W_rounds (fun m σ o => ∃ (k : Nat) (zs : List Int), m = cap - k ∧ k ≤ cap ∧ k ≤ zs.length ∧ zs.length ≤ cap ∧ σ = slots [(0, .hdr os.length 0 xs.length), (3, .d (vI i)), (4, .hdr (os.length + (T.length + 1)) 0 cap), (5, .d (vI k))] ∧ o = os ++ .nhole i (os.length + (T.length + 1)) len L :: (T ++ [.grow cap zs])) cap .refl ⟨0, zs, by simp, by simp, by simp, by cases full <;> simp_all, by simp, by simp⟩ ?_)
   clear hz1 hz2
   rintro m σ o ⟨k, zs, rfl, hk, hkz, hzc, rfl, rfl⟩ _
   refine W_seq (xU ?_)
   refine xO4 ?_
   refine xQ [0,3,4,5,28] ?_ ?_
   · intro h28
     have hk2 : k < cap := by simpa using h28
     refine W_skip fun _ => ?_
     refine W_seq (W_block ?_)
     refine xY ?_
     refine xO4 ?_
     refine xO ?_ (h := by simp [convA]; exact .mk)
     refine xO ?_ (h := by simp [hk2]; exact .mk)
     refine xO ?_ (h := by simp [splice, hk2, hkz, isIntTy]; exact .mk)
     refine xF [0,3,4,5] ?_
     refine xY ?_
     refine xO3 ?_
     refine xE [0,3,4,5] ?_
     refine rounds_kill [0,3,4,5] ?_
     refine rounds_next (m' := cap - (k+1)) (by omega) ⟨k+1, _, rfl, by omega, ?_, ?_, ?_, rfl⟩
     · simp; omega
     · simp; omega
     rw [wrap64 (by have := hcm; simp [maxLen] at this; omega) (by have := hcm; simp [maxLen] at this; omega)]; rfl
   intro h28
   have hkc : k = cap := by simp at h28; omega
   have hzl : zs.length = cap := by omega
   refine W_exit ?_
   rintro -
   refine xY ?_
   refine xO3 ?_
   refine xE [0,3] ?_
   refine rounds_kill [0,3] ?_
   refine rounds_kills [0,3] rfl ?_
   refine rounds_weak (Weak.nclose os.length (i := i) (r' := os.length + (T.length + 1)) (len := len) (c := cap) (L := L) (zs := zs) true (by simp) (by simp) (fun _ => hzl)) ?_
   refine rounds_next (m' := xs.length - (i+1)) (by omega) ⟨i+1, T ++ [.dead], L.set i (.row len cap true), rfl, by omega, ⟨⟨ds ++ [.dead], by rw [← hTd, List.append_assoc]⟩, by simp [fix_append, hT], by simpa using hLl, fun j hj => ?_⟩, fun j hj => ?_, ?_, by simp⟩
   · by_cases e : i = j
     · subst e; exact ⟨len, cap, true, by simp [hLl, hj]⟩
     obtain ⟨a, b, c, h⟩ := hrow j hj
     exact ⟨a, b, c, by rw [List.getElem?_set_ne e]; exact h⟩
   · by_cases e : i = j
     · subst e; exact ⟨len, cap, by simp [hLl, hi2]⟩
     obtain ⟨a, b, h⟩ := hfull j (by omega)
     exact ⟨a, b, by rw [List.getElem?_set_ne e]; exact h⟩
   rw [wrap64 (by omega) (by omega)]; rfl
 intro h12
 have hii : i = xs.length := by simp at h12; omega
 rw [hii] at hfull
 clear hi hii
 refine W_exit ?_
 rintro -
 refine W_seq (xU ?_)
 refine xH [0,6] ?_
 refine W_block (W_rounds (fun m σ o => ∃ (i : Nat) (T : List Awp.Obj) (L : List NE), m = xs.length - i ∧ i ≤ xs.length ∧ ((∃ ds, tl ++ ds = T) ∧ objsFix T = true ∧ L.length = xs.length ∧ (∀ j, j < xs.length → ∃ l c f, L[j]? = some (.row l c f))) ∧ (∀ j, j < xs.length → ∃ l c, L[j]? = some (.row l c true)) ∧ σ = slots [(0, .hdr os.length 0 xs.length), (6, .d (vI i))] ∧ o = os ++ .nest L :: T) xs.length .refl ⟨0, T, L, by simp, by simp, ⟨⟨ds, hTd⟩, hT, hLl, hrow⟩, hfull, rfl, rfl⟩ ?_)
 rintro m σ o ⟨i, T, L, rfl, hi, ⟨⟨ds, hTd⟩, hT, hLl, hrow⟩, hfull, rfl, rfl⟩ _
 refine W_seq (xU ?_)
 refine xO4 ?_
 refine xQ [0,6,40] ?_ ?_
 · intro h40
   have hi2 : i < xs.length := by simpa using h40
   refine W_skip fun _ => ?_
   refine W_seq (W_block ?_)
   refine W_seq ?_
   obtain ⟨len, cap, hLi⟩ := hfull i (by omega)
   refine W_nopen os.length i (L := L) (len := len) (cap := cap) (full := true) rfl (by simp) hLi (by simp) (by simp [fix_append, ho, hT]) fun zs hz1 hz2 hlc hcm => ?_
   rw [show (os ++ Awp.Obj.nest L :: T).set os.length (.nhole i (os ++ Awp.Obj.nest L :: T).length len L) ++ [.grow cap zs] = os ++ .nhole i (os.length + (T.length + 1)) len L :: (T ++ [.grow cap zs]) from by simp]
   have hcb : (cap : Int) ≤ cap := Int.le_refl _
   refine W_regD (by kernel_rfl) [] 4 [0,1,2,3,4,5,6,7,8,9,10] (by decide +kernel) ?_
   refine xO2 ?_
   refine xO ?_ (h := by simp [hi2]; exact .mk)
   refine xO3 ?_
   refine xO ?_ (h := by simp [hi2]; exact .mk)
   refine xO2 ?_
   refine xO ?_ (h := by simp [optA, *]; exact .mk)
   refine xO ?_
   refine xG [0,6,7] ?_
   refine xH [0,6,7,8] ?_
   refine W_block ?_
   have hzl : zs.length = cap := hz1 rfl
   refine W_rounds (fun m σ o => ∃ (k : Nat), m = cap - k ∧ k ≤ cap ∧ σ = slots [(0, .hdr os.length 0 xs.length), (6, .d (vI i)), (7, .hdr (os.length + (T.length + 1)) 0 cap), (8, .d (vI k))] ∧ o = os ++ .nhole i (os.length + (T.length + 1)) len L :: (T ++ [.grow cap zs])) cap .refl ⟨0, by simp, by simp, by simp, by simp⟩ ?_
   rintro m σ o ⟨k, rfl, hk, rfl, rfl⟩ _
   refine W_seq (xU ?_)
   refine xO4 ?_
   refine xQ [0,6,7,8,56] ?_ ?_
   · intro h56
     have hk2 : k < cap := by simpa using h56
     have hk3 : k < zs.length := by omega
     refine W_skip fun _ => ?_
     refine W_seq (W_block ?_)
     refine xU ?_
     refine xO2 ?_
     refine xO ?_ (h := by simp [hk2]; exact .mk)
     refine xO ?_ (h := by simp [hk3]; exact .mk)
     refine xO2 ?_
     refine xO ?_ (h := by simp [convA, isIntTy]; exact .mk)
     refine xO ?_
     refine xQ [0,6,7,8,66] ?_ ?_
     · intro h66
       refine W_weak (s2 := slots []) (objs2 := os ++ .dead :: (T ++ [.grow cap zs])) (Weak.trans (Weak.kills [] rfl) (by have := Weak.objDead (B := B) (S := S) (n := Tryz.f67.ntmps) (fl := ⟨(os ++ Awp.Obj.row 1 (xs.map oB) :: tl).length, false⟩) (s := slots []) (objs := os ++ .nhole i (os.length + (T.length + 1)) len L :: (T ++ [.grow cap zs])) os.length; simpa using this) (fun _ _ _ h1 h2 => by rw [← h1.len]; exact h2)) ?_
       obtain ⟨dd, hdd⟩ : ∃ dd, T ++ [.grow cap zs] = tl ++ dd := ⟨ds ++ [.grow cap zs], by rw [← hTd]; simp⟩
       rw [hdd]
       refine xU ?_
       refine xH [] ?_
       refine W_ret ?_
       exact endAt_tail os tl dd (by simp [Tryz.f67]; exact .mk) rfl rfl (by simp; omega) rfl rfl hlo hlt
     intro h66
     refine W_skip fun _ => ?_
     refine xY ?_
     refine xO3 ?_
     refine xE [0,6,7,8] ?_
     refine rounds_kill [0,6,7,8] ?_
     refine rounds_next (m' := cap - (k+1)) (by omega) ⟨k+1, rfl, by omega, ?_, rfl⟩
     rw [wrap64 (by have := hcm; simp [maxLen] at this; omega) (by have := hcm; simp [maxLen] at this; omega)]; rfl
   intro h56
   refine W_exit ?_
   rintro -
   refine xY ?_
   refine xO3 ?_
   refine xE [0,6] ?_
   refine rounds_kill [0,6] ?_
   refine rounds_kills [0,6] rfl ?_
   refine rounds_weak (Weak.nclose os.length (i := i) (r' := os.length + (T.length + 1)) (len := len) (c := cap) (L := L) (zs := zs) true (by simp) (by simp) (fun _ => hzl)) ?_
   refine rounds_next (m' := xs.length - (i+1)) (by omega) ⟨i+1, T ++ [.dead], L.set i (.row len cap true), rfl, by omega, ⟨⟨ds ++ [.dead], by rw [← hTd, List.append_assoc]⟩, by simp [fix_append, hT], by simpa using hLl, fun j hj => ?_⟩, fun j hj => ?_, ?_, by simp⟩
   · by_cases e : i = j
     · subst e; exact ⟨len, cap, true, by simp [hLl, hj]⟩
     obtain ⟨a, b, c, h⟩ := hrow j hj
     exact ⟨a, b, c, by rw [List.getElem?_set_ne e]; exact h⟩
   · by_cases e : i = j
     · subst e; exact ⟨len, cap, by simp [hLl, hj]⟩
     obtain ⟨a, b, h⟩ := hfull j (by omega)
     exact ⟨a, b, by rw [List.getElem?_set_ne e]; exact h⟩
   rw [wrap64 (by omega) (by omega)]; rfl
 intro h40
 refine W_weak (s2 := slots []) (objs2 := os ++ .dead :: T) (Weak.trans (Weak.kills [] rfl) (by have := Weak.objDead (B := B) (S := S) (n := Tryz.f67.ntmps) (fl := ⟨(os ++ Awp.Obj.row 1 (xs.map oB) :: tl).length, false⟩) (s := slots []) (objs := os ++ .nest L :: T) os.length; simpa using this) (fun _ _ _ h1 h2 => by rw [← h1.len]; exact h2)) ?_
 obtain ⟨dd, hdd⟩ : ∃ dd, T = tl ++ dd := ⟨ds, hTd.symm⟩
 rw [hdd]
 refine W_exit (xT ?_)
 refine xH [] ?_
 refine W_ret ?_
 exact endAt_tail os tl dd (by simp [Tryz.f67]; exact .mk) rfl rfl (by simp; omega) rfl rfl hlo hlt

open Go.Awp
theorem in26 (g : Gl) (os tl : List Awp.Obj) (s : Stt) (hs : s.Ok) (ho : objsFix os = true) (ht : objsFix tl = true) (hlo : objsLt (os.length + 3 + tl.length) os = true) (hlt : objsLt (os.length + 3 + tl.length) tl = true) : ∀ B S, CallsA Tryz.prog g B S ⟨(os ++ Awp.Obj.row 5 (s.slots.map eSlot) :: .row 3 (s.roots.map eRoot) :: .row 1 (s.data.map oB) :: tl).length, false⟩ 26 [.agg [.d (vI s.sh.pages), .d (vI s.sh.slots), .d (vI s.sh.roots), .d (vI s.sh.room), .d (vI s.mode), .d (vI s.base), .hdr os.length 0 s.slots.length, .hdr (os.length + 1) 0 s.roots.length, .hdr (os.length + 2) 0 s.data.length]] (os ++ Awp.Obj.row 5 (s.slots.map eSlot) :: .row 3 (s.roots.map eRoot) :: .row 1 (s.data.map oB) :: tl) (fun x r => x = .tup [] ∧ r = os ++ .dead :: .dead :: .dead :: tl) := by
 refine callsA_at Tryz.func26 rfl (Nat.le_of_ble_eq_true rfl) fun B S => ?_
 have q0 := hs.h1
 have q1 := hs.h2
 refine xU ?_
 refine xH [1] ?_
 refine W_seq (xU ?_)
 refine xH [1,2] ?_
 refine W_block (W_rounds (fun m σ o => ∃ (i : Nat) (L : List Slot), m = s.slots.length - i ∧ i ≤ s.slots.length ∧ L.length = s.slots.length ∧ σ = slots [(1, .ptr (os.length + (tl.length + 3)) 0 0), (2, .d (vI i))] ∧ o = os ++ .row 5 (L.map eSlot) :: .row 3 (s.roots.map eRoot) :: .row 1 (s.data.map oB) :: (tl ++ [.var 28 [.d (vI s.sh.pages), .d (vI s.sh.slots), .d (vI s.sh.roots), .d (vI s.sh.room), .d (vI s.mode), .d (vI s.base), .hdr os.length 0 s.slots.length, .hdr (os.length + 1) 0 s.roots.length, .hdr (os.length + 2) 0 s.data.length]])) s.slots.length .refl ⟨0, s.slots, by simp, by simp, rfl, by simp, by simp⟩ ?_)
 rintro m σ o ⟨i, L, rfl, hi, hL, rfl, rfl⟩ _
 refine W_seq (xU ?_)
 refine xO2 ?_
 refine xOl ?_
 refine xO2 ?_
 refine xQ [1,2,8] ?_ ?_
 · intro h8
   have hi2 : i < s.slots.length := by simpa using h8
   have hi3 : i < L.length := by omega
   refine W_skip fun _ => ?_
   refine W_seq (W_block ?_)
   refine xY ?_
   refine xO ?_
   refine xOl ?_
   refine xO ?_
   refine xOs ?_
   refine xO ?_ (h := by simp [eSlot, hi2]; exact .mk)
   refine xO ?_ (h := by simp [-List.getElem?_map, map_get hi3, eSlot, nrmL, nrm, putC, splice]; exact .mk)
   refine xF [1,2] ?_
   refine xY ?_
   refine xO3 ?_
   refine xE [1,2] ?_
   refine rounds_kill [1,2] ?_
   refine rounds_next (m' := s.slots.length - (i+1)) (by omega) ⟨i+1, L.set i ⟨-7, false, false, 0, 0⟩, rfl, by omega, by simpa using hL, ?_, ?_⟩
   · rw [wrap64 (by omega) (by omega)]; rfl
   rw [List.map_set]; rfl
 intro h8
 refine W_exit ?_
 rintro -
 refine W_seq (xU ?_)
 refine xH [1,3] ?_
 refine W_block (W_rounds (fun m σ o => ∃ (i : Nat) (K : List Root), m = s.roots.length - i ∧ i ≤ s.roots.length ∧ K.length = s.roots.length ∧ σ = slots [(1, .ptr (os.length + (tl.length + 3)) 0 0), (3, .d (vI i))] ∧ o = os ++ .row 5 (L.map eSlot) :: .row 3 (K.map eRoot) :: .row 1 (s.data.map oB) :: (tl ++ [.var 28 [.d (vI s.sh.pages), .d (vI s.sh.slots), .d (vI s.sh.roots), .d (vI s.sh.room), .d (vI s.mode), .d (vI s.base), .hdr os.length 0 s.slots.length, .hdr (os.length + 1) 0 s.roots.length, .hdr (os.length + 2) 0 s.data.length]])) s.roots.length .refl ⟨0, s.roots, by simp, by simp, rfl, rfl, rfl⟩ ?_)
 rintro m σ o ⟨i, K, rfl, hi, hK, rfl, rfl⟩ _
 refine W_seq (xU ?_)
 refine xO2 ?_
 refine xOl ?_
 refine xO2 ?_
 refine xQ [1,3,20] ?_ ?_
 · intro h20
   have hi2 : i < s.roots.length := by simpa using h20
   have hi3 : i < K.length := by omega
   refine W_skip fun _ => ?_
   refine W_seq (W_block ?_)
   refine xY ?_
   refine xO ?_
   refine xOl ?_
   refine xO ?_
   refine xOs ?_
   refine xO ?_ (h := by simp [eSlot, hi2]; exact .mk)
   refine xO ?_ (h := by simp [-List.getElem?_map, map_get hi3, eRoot, nrmL, nrm, putC, splice]; exact .mk)
   refine xF [1,3] ?_
   refine xY ?_
   refine xO3 ?_
   refine xE [1,3] ?_
   refine rounds_kill [1,3] ?_
   refine rounds_next (m' := s.roots.length - (i+1)) (by omega) ⟨i+1, K.set i ⟨⟨#[115,112,111,105,108,116]⟩, 0, 0⟩, rfl, by omega, by simpa using hK, ?_, ?_⟩
   · rw [wrap64 (by omega) (by omega)]; rfl
   rw [List.map_set]; rfl
 intro h20
 refine W_exit ?_
 rintro -
 refine W_weak (s2 := slots [(1, .ptr (os.length + (tl.length + 3)) 0 0)]) (objs2 := os ++ .dead :: .dead :: .row 1 (s.data.map oB) :: (tl ++ [.var 28 [.d (vI s.sh.pages), .d (vI s.sh.slots), .d (vI s.sh.roots), .d (vI s.sh.room), .d (vI s.mode), .d (vI s.base), .hdr os.length 0 s.slots.length, .hdr (os.length + 1) 0 s.roots.length, .hdr (os.length + 2) 0 s.data.length]])) (Weak.trans (Weak.kills [1] rfl) (Weak.trans (Weak.objDead os.length) (by have := Weak.objDead (B := B) (S := S) (n := Tryz.f26.ntmps) (fl := ⟨(os ++ Awp.Obj.row 5 (s.slots.map eSlot) :: .row 3 (s.roots.map eRoot) :: .row 1 (s.data.map oB) :: tl).length, false⟩) (s := slots [(1, .ptr (os.length + (tl.length + 3)) 0 0)]) (objs := (os ++ Awp.Obj.dead :: .row 3 (K.map eRoot) :: .row 1 (s.data.map oB) :: (tl ++ [.var 28 [.d (vI s.sh.pages), .d (vI s.sh.slots), .d (vI s.sh.roots), .d (vI s.sh.room), .d (vI s.mode), .d (vI s.base), .hdr os.length 0 s.slots.length, .hdr (os.length + 1) 0 s.roots.length, .hdr (os.length + 2) 0 s.data.length]]))) (os.length + 1); simpa using this) (fun _ _ _ h1 h2 => by rw [← h1.len]; exact h2)) (fun _ _ _ h1 h2 => by rw [← h1.len]; exact h2)) ?_
 have c67 := in67 g (os ++ [.dead, .dead]) (tl ++ [.var 28 [.d (vI s.sh.pages), .d (vI s.sh.slots), .d (vI s.sh.roots), .d (vI s.sh.room), .d (vI s.mode), .d (vI s.base), .hdr os.length 0 s.slots.length, .hdr (os.length + 1) 0 s.roots.length, .hdr (os.length + 2) 0 s.data.length]]) s.data (by simp [fix_append, ho]) (by simp [fix_append, ht]) (by rw [olt_append]; simp only [Bool.and_eq_true]; exact ⟨olt_mono (by simp <;> omega) hlo, rfl⟩) (by rw [olt_append]; simp only [Bool.and_eq_true]; exact ⟨olt_mono (by simp <;> omega) hlt, by simp <;> omega⟩) hs.h3
 simp only [List.append_assoc, List.cons_append, List.nil_append, List.length_append, List.length_cons, List.length_nil, Nat.zero_add, Nat.reduceAdd] at c67
 refine W_regK rfl [1002] rfl ?_
 refine xO ?_
 refine xOl ?_
 refine run_inlK rfl rfl rfl rfl (by simp; exact .mk) ⟨_, Tryz.func67, rfl, rfl⟩ (fixS_put (by simp) (fixS_put (by simp) (fixS_slots (by simp)))) (by simpa using c67) (by simp) (by decide) ?_
 refine xE [] ?_
 exact endAt_tailN os tl [.var 28 [.d (vI s.sh.pages), .d (vI s.sh.slots), .d (vI s.sh.roots), .d (vI s.sh.room), .d (vI s.mode), .d (vI s.base), .hdr os.length 0 s.slots.length, .hdr (os.length + 1) 0 s.roots.length, .hdr (os.length + 2) 0 s.data.length]] (by simp [Tryz.f26]; exact .mk) rfl (by simp) (by simp; omega) rfl rfl rfl rfl hlo hlt

open Go.Awp
theorem ct80 (g : Gl) (x y : List Slot) (hx : x.length ≤ 2^40) : CtAt Tryz.prog g 80 [rSl x, rSl y] (.v (.bool (sameL sameSlot x y))) := by
 refine xA Tryz.func80 fun B S => ?_
 refine xU ?_
 refine xH [0,1] ?_
 refine W_seq (xU ?_)
 refine xO5 ?_
 refine xQ [0,1,10] ?_ ?_
 · intro h10
   have hr : sameL sameSlot x y = false := sameL_len (by simp at h10; omega)
   refine xU ?_
   refine xH [4] ?_
   refine W_ret (xR (by simp [Tryz.f80]; exact .mk) ?_)
   simp [Tryz.f80, hr]
 intro h10
 have hxy : x.length = y.length := by simp at h10; omega
 refine W_skip fun _ => ?_
 refine W_seq (xU ?_)
 refine xH [0,1,5] ?_
 refine W_block (W_rounds (fun m σ o => ∃ i : Nat, m = x.length - i ∧ i ≤ x.length ∧ (∀ j, j < i → sameSlot (nth x j) (nth y j) = true) ∧ σ = slots [(0, .d (rSl x)), (1, .d (rSl y)), (5, .d (vI i))] ∧ o = []) x.length .refl ⟨0, by simp, by simp, by simp, rfl, rfl⟩ ?_)
 rintro m σ o ⟨i, rfl, hi, hinv, rfl, rfl⟩ _
 refine W_seq (xU ?_)
 refine xO4 ?_
 refine xQ [0,1,5,14] ?_ ?_
 · intro h14
   have h2 : i < x.length := by simpa using h14
   have h3 : i < y.length := by omega
   refine W_skip fun _ => ?_
   refine W_seq (W_block ?_)
   refine W_seq ?_
   refine W_regD (by kernel_rfl) [] 4 [0,1,2,3,4,5,6,7,8] (by decide +kernel) ?_
   refine xO2 ?_
   refine xO ?_ (h := by simp [eSlot, *]; exact .mk)
   refine xOl ?_
   refine xO2 ?_
   refine xO ?_ (h := by simp [eSlot, *]; exact .mk)
   refine xOl ?_
   refine xO ?_
   refine xQ [0,1,5,25] ?_ ?_
   · intro h25
     have hr : sameL sameSlot x y = false := sameL_bad h2 (by simp [sameSlot] at h25 ⊢; grind)
     refine xU ?_
     refine xH [4] ?_
     refine W_ret (xR (by simp [Tryz.f80]; exact .mk) ?_)
     simp [Tryz.f80, hr]
   intro h25
   refine W_skip fun _ => ?_
   refine xY ?_
   refine xO3 ?_
   refine xE [0,1,5] ?_
   refine rounds_kill [0,1,5] ?_
   refine rounds_next (m' := x.length - (i+1)) (by omega) ⟨i+1, rfl, by omega, ?_, ?_, rfl⟩
   · intro j hj
     rcases Nat.lt_succ_iff_lt_or_eq.1 hj with hj | rfl
     · exact hinv j hj
     simp [sameSlot] at h25 ⊢; grind
   rw [wrap64 (by omega) (by omega)]; rfl
 intro h14
 have hr : sameL sameSlot x y = true := sameL_good hxy (fun j hj => hinv j (by simp at h14; omega))
 refine W_exit (xT ?_)
 refine xH [4] ?_
 refine W_ret (xR (by simp [Tryz.f80]; exact .mk) ?_)
 simp [Tryz.f80, hr]

theorem ct25 (g : Gl) (s t : Stt) (hs : s.Ok) : CtAt Tryz.prog g 25 [eStt s, eStt t] (.v (.bool (sameStt s t))) := by
 refine xA Tryz.func25 fun B S => ?_
 simp only [eStt, List.map, argD_agg, argD_v]
 refine xU ?_
 refine xO3 ?_
 refine xG [2,3] ?_
 iterate 6 refine xO ?_
 iterate 5 refine xI ?_
 refine xP ?_
 refine xB ?_
 iterate 5 refine xI ?_
 refine xP ?_
 refine xB ?_
 iterate 4 refine xI ?_
 refine run_call rfl (by simp; exact .mk) rfl rfl (by simp) (by simp; exact .mk) (by simp; exact .mk) (fun hb => ct80 g _ _ hs.h1) (by simp) (by simp; exact .mk) (by simp) ?_
 refine xP ?_
 refine xB ?_
 iterate 4 refine xI ?_
 refine run_call rfl (by simp; exact .mk) rfl rfl (by simp) (by simp; exact .mk) (by simp; exact .mk) (fun hb => ct81 g _ _ hs.h2) (by simp) (by simp; exact .mk) (by simp) ?_
 refine xP ?_
 refine xB ?_
 iterate 4 refine xI ?_
 refine run_call rfl (by simp; exact .mk) rfl rfl (by simp) (by simp; exact .mk) (by simp; exact .mk) (fun hb => ct82 g _ _ hs.h3) (by simp) (by simp; exact .mk) (by simp) ?_
 refine xP ?_
 refine xB ?_
 refine xF [4] ?_
 refine W_ret (xR (by simp [Tryz.f25]; exact .mk) ?_)
 simp [Tryz.f25, sameShape, sameStt, sameB, Bool.and_assoc]

end Go.Proofs
