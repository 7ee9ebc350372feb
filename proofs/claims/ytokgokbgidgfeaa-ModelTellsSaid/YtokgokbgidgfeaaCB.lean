/- Contracts of the program's functions and plain facts, for arguments as each lemma says. -/
import Derived.Test.YtokgokbgidgfeaaCA
import Derived.Test.YtokgokbgidgfeaaAwpD
set_option linter.all false
set_option maxHeartbeats 4000000
set_option maxRecDepth 4000
namespace Go.Proofs
open Go.Awp
theorem in144s (g : Gl) (o : Awp.Obj) (f : Nat) (ih : ∀ (l : List Blk) (a m b : Nat), l.length ≤ 2^40 → a < m → m < b → b ≤ l.length → b - a ≤ f → ∀ B S, CallsA Try.prog g B S ⟨[o, Awp.Obj.row 3 (l.map eBlk)].length, true⟩ 144 [.hdr 1 0 l.length, .d (vI a), .d (vI m), .d (vI b), .fn (.func 103) [] []] [o, Awp.Obj.row 3 (l.map eBlk)] (fun x r => x = .tup [] ∧ r = [o, Awp.Obj.row 3 ((symF ltB f a m b l).map eBlk)])) (l : List Blk) (a m b : Nat) (hl : l.length ≤ 2^40) (ha : a < m) (hm : m < b) (hb : b ≤ l.length) (hf : b - a ≤ f + 1) : ∀ B S, CallsA Try.prog g B S ⟨[o, Awp.Obj.row 3 (l.map eBlk)].length, true⟩ 144 [.hdr 1 0 l.length, .d (vI a), .d (vI m), .d (vI b), .fn (.func 103) [] []] [o, Awp.Obj.row 3 (l.map eBlk)] (fun x r => x = .tup [] ∧ r = [o, Awp.Obj.row 3 ((symF ltB (f + 1) a m b l).map eBlk)]) := by
 refine callsA_at Try.func144 rfl (Nat.le_of_ble_eq_true rfl) fun B S => ?_
 refine W_seq (W_seq ?_)
 have e0 : IntKind.i64.wrap ((m : Int) - (a : Int)) = ((m - a : Nat) : Int) := by rw [wrap64 (by omega) (by omega)]; omega
 refine W_reg rfl ?_
 iterate 2 refine xO ?_
 refine xO ?_ (h := by simp [e0]; exact .mk)
 refine xO ?_
 refine xF [0,1,2,3,4,28] ?_
 refine W_cond rfl ?_ ?_
 · intro h28
   have k1 : m - a = 1 := by simp at h28; omega
   refine xU ?_
   iterate 2 refine xO ?_
   refine xG [0,1,3,4,10] ?_
   iterate 2 refine xO ?_
   refine xF [0,1,4,10,11] ?_
   refine W_seq (W_block ?_)
   refine W_rounds (fun f' σ o' => ∃ (i j : Nat), j - i ≤ f' ∧ m ≤ i ∧ i ≤ j ∧ j ≤ b ∧ bsF (fun h => ltB (nth l h) (nth l a)) f' i j = bsS (fun h => ltB (nth l h) (nth l a)) (m) (b) ∧ σ = slots [(0, .hdr 1 0 l.length), (1, .d (vI a)), (4, .fn (.func 103) [] []), (10, .d (vI i)), (11, .d (vI j))] ∧ o' = [o, Awp.Obj.row 3 (l.map eBlk)]) (b - m) (Weak.kills [0,1,4,10,11] rfl) ⟨m, b, by omega, by omega, by omega, by omega, rfl, rfl, rfl⟩ ?_
   rintro f' σ o' ⟨i, j, hf', hmi, hij, hjb, hinv, rfl, rfl⟩ _
   refine W_seq (xU ?_)
   iterate 3 refine xO ?_
   refine xF [0,1,4,10,11,33] ?_
   refine W_cond rfl ?_ ?_
   · intro h33
     have hlt : i < j := by simp at h33; omega
     have e1 : IntKind.i64.wrap ((i : Int) + (j : Int)) = (i : Int) + (j : Int) := wrap64 (by omega) (by omega)
     have e2 : IntKind.u64.wrap ((i : Int) + (j : Int)) = (i : Int) + (j : Int) := wrapU (by omega) (by omega)
     have e3 : ((i : Int) + (j : Int)).fdiv 2 = ((i : Int) + (j : Int)) / 2 := Int.fdiv_eq_ediv_of_nonneg _ (by omega)
     have e4 : IntKind.i64.wrap (((i : Int) + (j : Int)) / 2) = ((i : Int) + (j : Int)) / 2 := wrap64 (by omega) (by omega)
     have e5 : IntKind.i64.wrap (((i : Int) + (j : Int)) / 2 + 1) = ((i : Int) + (j : Int)) / 2 + 1 := wrap64 (by omega) (by omega)
     have t1 : (((i : Int) + (j : Int)) / 2).toNat = (i + j) / 2 := by omega
     have q1 : 0 ≤ ((i : Int) + (j : Int)) / 2 ∧ ((i : Int) + (j : Int)) / 2 < (l.length : Int) := by omega
     have r1 : (i + j) / 2 < l.length := by omega
     have r2 : a < l.length := by omega
     obtain ⟨f', rfl⟩ : ∃ f'', f' = f'' + 1 := ⟨f' - 1, by omega⟩
     refine W_skip ?_
     rintro -
     refine W_block (xU ?_)
     iterate 2 refine xO ?_
     refine xO ?_ (h := by simp [e1]; exact .mk)
     refine xO ?_ (h := by simp [convA]; exact .mk)
     refine xO ?_
     refine xO ?_ (h := by simp [convA]; exact .mk)
     refine xO ?_ (h := by simp [e2, e3, e4, IntKind.bits]; exact .mk)
     refine xF [0,1,4,10,11,12] ?_
     refine W_seq ?_
     refine W_regD (by kernel_rfl) [] 4 [0,1,2,3,4,5,6,7,8,9,10] (by decide +kernel) ?_
     iterate 3 refine xO ?_
     refine xO ?_ (h := by simp [eBlk, q1, t1]; exact .mk)
     refine xO ?_ (h := by simp [-List.getElem?_map, map_get r1, eBlk]; exact .mk)
     iterate 2 refine xO ?_
     refine xO ?_ (h := by simp [eBlk, r2]; exact .mk)
     refine xO ?_ (h := by simp [-List.getElem?_map, map_get r2, eBlk]; exact .mk)
     refine xC (ct103 g (nth l ((i + j) / 2)) (nth l a)) ?_
     refine xO ?_
     refine xF [0,1,4,10,11,12,50] ?_
     refine W_cond rfl ?_ ?_
     · intro h50
       have hp : (fun h => ltB (nth l h) (nth l a)) ((i + j) / 2) = true := by simp at h50; simp [ltB]; omega
       refine W_reg rfl ?_
       refine xO ?_
       refine xO ?_ (h := by simp [e5]; exact .mk)
       refine xO ?_
       refine xE [0,1,4,10,11] ?_
       refine rounds_kill [0,1,4,10,11] ?_
       first
       | exact rounds_next (m' := f') (by omega) ⟨(i + j) / 2 + 1, j, by omega, by omega, by omega, by omega, by rw [← hinv, bsF_t hlt hp], by simp [e5]; try rfl, rfl⟩
       | exact rounds_next (m' := f') (by omega) ⟨i, (i + j) / 2, by omega, by omega, by omega, by omega, by rw [← hinv, bsF_f hlt hp], by simp, rfl⟩
     intro h50
     have hp : (fun h => ltB (nth l h) (nth l a)) ((i + j) / 2) = false := by simp at h50; simp [ltB]; omega
     refine W_reg rfl ?_
     iterate 2 refine xO ?_
     refine xE [0,1,4,10,11] ?_
     refine rounds_kill [0,1,4,10,11] ?_
     first
     | exact rounds_next (m' := f') (by omega) ⟨(i + j) / 2 + 1, j, by omega, by omega, by omega, by omega, by rw [← hinv, bsF_t hlt hp], by simp [e5]; try rfl, rfl⟩
     | exact rounds_next (m' := f') (by omega) ⟨i, (i + j) / 2, by omega, by omega, by omega, by omega, by rw [← hinv, bsF_f hlt hp], by simp, rfl⟩
   intro h33
   have hij2 : j ≤ i := by simp at h33; omega
   have hbs : bsS (fun h => ltB (nth l h) (nth l a)) m b = i := by rw [← hinv, bsF_end hij2]
   refine W_exit ?_
   rintro -
   refine W_seq (xU ?_)
   iterate 2 refine xO ?_
   refine xF [0,10,13] ?_
   refine W_block ?_
   have hbb := bsS_le (p := fun h => ltB (nth l h) (nth l a)) (i := m) (j := b) (by omega)
   rw [hbs] at hbb
   have e6 : IntKind.i64.wrap ((i : Int) - 1) = ((i - 1 : Nat) : Int) := by rw [wrap64 (by omega) (by omega)]; omega
   refine W_rounds (fun f' σ o' => ∃ (k : Nat) (l' : List Blk), f' = i - 1 - k ∧ a ≤ k ∧ k ≤ i - 1 ∧ l'.length = l.length ∧ upF (i - 1 - k) k l' = upF (i - 1 - a) a l ∧ σ = slots [(0, .hdr 1 0 l'.length), (10, .d (vI i)), (13, .d (vI k))] ∧ o' = [o, Awp.Obj.row 3 (l'.map eBlk)]) (i - 1 - a) (Weak.kills [0,10,13] rfl) ⟨a, l, rfl, by omega, by omega, rfl, rfl, rfl, rfl⟩ ?_
   rintro f' σ o' ⟨k, l', rfl, hak, hki, hlen, hinv2, rfl, rfl⟩ _
   refine W_seq (xU ?_)
   iterate 2 refine xO ?_
   refine xO ?_ (h := by simp [e6]; exact .mk)
   refine xO ?_
   refine xF [0,10,13,58] ?_
   refine W_cond rfl ?_ ?_
   · intro h58
     have hlt : k < i - 1 := by simp at h58; omega
     have e1 : IntKind.i64.wrap ((k : Int) + 1) = (k : Int) + 1 := wrap64 (by omega) (by omega)
     have q1 : 0 ≤ (k : Int) + 1 ∧ (k : Int) + 1 < (l'.length : Int) := by omega
     have r1 : k + 1 < l'.length := by omega
     have r2 : k < l'.length := by omega
     refine W_skip ?_
     rintro -
     refine W_seq (W_block ?_)
     refine W_regD (by kernel_rfl) [] 4 [0,1,2,3,4,5,6,7,8,9,10,11,12,13,14,15,16,17] (by decide +kernel) ?_
     iterate 4 refine xO ?_
     refine xO ?_ (h := by simp [e1]; exact .mk)
     iterate 2 refine xO ?_
     refine xO ?_ (h := by simp [e1]; exact .mk)
     refine xO ?_ (h := by simp [eBlk, q1]; exact .mk)
     refine xO ?_ (h := by simp [eBlk, r1]; exact .mk)
     iterate 2 refine xO ?_
     iterate 3 (refine xO ?_ (h := by simp [eBlk, r2]; exact .mk))
     refine xO ?_ (h := by simp [splice, r2, putC, nrmL, nrm, set_eBlk, -List.map_set]; exact .mk)
     refine xO ?_ (h := by simp [eBlk, q1]; exact .mk)
     refine xO ?_ (h := by simp [splice, r1, putC, nrmL, nrm, set_eBlk, -List.map_set]; exact .mk)
     refine xF [0,10,13] ?_
     refine W_reg rfl ?_
     refine xO ?_
     refine xO ?_ (h := by simp [e1]; exact .mk)
     refine xO ?_
     refine xE [0,10,13] ?_
     refine rounds_kill [0,10,13] ?_
     refine rounds_next (m' := i - 1 - (k + 1)) (by omega) ⟨k + 1, swp l' k (k + 1), rfl, by omega, by omega, by rw [swp_len, hlen], ?_, ?_, ?_⟩
     · rw [← hinv2, show i - 1 - k = i - 1 - (k + 1) + 1 by omega]; rfl
     · rw [swp_len]; simp [e1]; try rfl
     simp [swp, r1, r2, eBlk, nrmL, nrm, nth_eq]
   intro h58
   have hk : k = i - 1 := by simp at h58; omega
   have hr : symF ltB (f + 1) a m b l = l' := by
    rw [show i - 1 - k = 0 by omega] at hinv2
    simp only [symF, if_pos k1, hbs, ← hinv2]; rfl
   refine W_exit ?_
   rintro -
   refine W_ret (endAt_ret (by simp [Try.f144]; exact .mk) ?_ ?_)
   · simp
   first | (simp [hr]; done) | simp [hsym, hc1, hc2, hc3]
 intro h28
 have k1 : ¬ m - a = 1 := by simp at h28; omega
 have e7 : IntKind.i64.wrap ((b : Int) - (m : Int)) = ((b - m : Nat) : Int) := by rw [wrap64 (by omega) (by omega)]; omega
 refine W_skip ?_
 rintro -
 refine W_seq (xU ?_)
 iterate 2 refine xO ?_
 refine xO ?_ (h := by simp [e7]; exact .mk)
 refine xO ?_
 refine xF [0,1,2,3,4,80] ?_
 refine W_cond rfl ?_ ?_
 · intro h80
   have k2 : b - m = 1 := by simp at h80; omega
   refine xU ?_
   iterate 2 refine xO ?_
   refine xG [0,2,4,14] ?_
   iterate 2 refine xO ?_
   refine xF [0,2,4,14,15] ?_
   refine W_seq (W_block ?_)
   refine W_rounds (fun f' σ o' => ∃ (i j : Nat), j - i ≤ f' ∧ a ≤ i ∧ i ≤ j ∧ j ≤ m ∧ bsF (fun h => !ltB (nth l m) (nth l h)) f' i j = bsS (fun h => !ltB (nth l m) (nth l h)) (a) (m) ∧ σ = slots [(0, .hdr 1 0 l.length), (2, .d (vI m)), (4, .fn (.func 103) [] []), (14, .d (vI i)), (15, .d (vI j))] ∧ o' = [o, Awp.Obj.row 3 (l.map eBlk)]) (m - a) (Weak.kills [0,2,4,14,15] rfl) ⟨a, m, by omega, by omega, by omega, by omega, rfl, rfl, rfl⟩ ?_
   rintro f' σ o' ⟨i, j, hf', hmi, hij, hjb, hinv, rfl, rfl⟩ _
   refine W_seq (xU ?_)
   iterate 3 refine xO ?_
   refine xF [0,2,4,14,15,85] ?_
   refine W_cond rfl ?_ ?_
   · intro h85
     have hlt : i < j := by simp at h85; omega
     have e1 : IntKind.i64.wrap ((i : Int) + (j : Int)) = (i : Int) + (j : Int) := wrap64 (by omega) (by omega)
     have e2 : IntKind.u64.wrap ((i : Int) + (j : Int)) = (i : Int) + (j : Int) := wrapU (by omega) (by omega)
     have e3 : ((i : Int) + (j : Int)).fdiv 2 = ((i : Int) + (j : Int)) / 2 := Int.fdiv_eq_ediv_of_nonneg _ (by omega)
     have e4 : IntKind.i64.wrap (((i : Int) + (j : Int)) / 2) = ((i : Int) + (j : Int)) / 2 := wrap64 (by omega) (by omega)
     have e5 : IntKind.i64.wrap (((i : Int) + (j : Int)) / 2 + 1) = ((i : Int) + (j : Int)) / 2 + 1 := wrap64 (by omega) (by omega)
     have t1 : (((i : Int) + (j : Int)) / 2).toNat = (i + j) / 2 := by omega
     have q1 : 0 ≤ ((i : Int) + (j : Int)) / 2 ∧ ((i : Int) + (j : Int)) / 2 < (l.length : Int) := by omega
     have r1 : (i + j) / 2 < l.length := by omega
     have r2 : m < l.length := by omega
     obtain ⟨f', rfl⟩ : ∃ f'', f' = f'' + 1 := ⟨f' - 1, by omega⟩
     refine W_skip ?_
     rintro -
     refine W_block (xU ?_)
     iterate 2 refine xO ?_
     refine xO ?_ (h := by simp [e1]; exact .mk)
     refine xO ?_ (h := by simp [convA]; exact .mk)
     refine xO ?_
     refine xO ?_ (h := by simp [convA]; exact .mk)
     refine xO ?_ (h := by simp [e2, e3, e4, IntKind.bits]; exact .mk)
     refine xF [0,2,4,14,15,16] ?_
     refine W_seq ?_
     refine W_regD (by kernel_rfl) [] 4 [0,1,2,3,4,5,6,7,8,9,10,11] (by decide +kernel) ?_
     iterate 3 refine xO ?_
     refine xO ?_ (h := by simp [eBlk, r2]; exact .mk)
     refine xO ?_ (h := by simp [-List.getElem?_map, map_get r2, eBlk]; exact .mk)
     iterate 2 refine xO ?_
     refine xO ?_ (h := by simp [eBlk, q1, t1]; exact .mk)
     refine xO ?_ (h := by simp [-List.getElem?_map, map_get r1, eBlk]; exact .mk)
     refine xC (ct103 g (nth l m) (nth l ((i + j) / 2))) ?_
     iterate 2 refine xO ?_
     refine xF [0,2,4,14,15,16,103] ?_
     refine W_cond rfl ?_ ?_
     · intro h103
       have hp : (fun h => !ltB (nth l m) (nth l h)) ((i + j) / 2) = true := by simp at h103; simp [ltB]; omega
       refine W_reg rfl ?_
       refine xO ?_
       refine xO ?_ (h := by simp [e5]; exact .mk)
       refine xO ?_
       refine xE [0,2,4,14,15] ?_
       refine rounds_kill [0,2,4,14,15] ?_
       first
       | exact rounds_next (m' := f') (by omega) ⟨(i + j) / 2 + 1, j, by omega, by omega, by omega, by omega, by rw [← hinv, bsF_t hlt hp], by simp [e5]; try rfl, rfl⟩
       | exact rounds_next (m' := f') (by omega) ⟨i, (i + j) / 2, by omega, by omega, by omega, by omega, by rw [← hinv, bsF_f hlt hp], by simp, rfl⟩
     intro h103
     have hp : (fun h => !ltB (nth l m) (nth l h)) ((i + j) / 2) = false := by simp at h103; simp [ltB]; omega
     refine W_reg rfl ?_
     iterate 2 refine xO ?_
     refine xE [0,2,4,14,15] ?_
     refine rounds_kill [0,2,4,14,15] ?_
     first
     | exact rounds_next (m' := f') (by omega) ⟨(i + j) / 2 + 1, j, by omega, by omega, by omega, by omega, by rw [← hinv, bsF_t hlt hp], by simp [e5]; try rfl, rfl⟩
     | exact rounds_next (m' := f') (by omega) ⟨i, (i + j) / 2, by omega, by omega, by omega, by omega, by rw [← hinv, bsF_f hlt hp], by simp, rfl⟩
   intro h85
   have hij2 : j ≤ i := by simp at h85; omega
   have hbs : bsS (fun h => !ltB (nth l m) (nth l h)) a m = i := by rw [← hinv, bsF_end hij2]
   refine W_exit ?_
   rintro -
   refine W_seq (xU ?_)
   iterate 2 refine xO ?_
   refine xF [0,14,17] ?_
   refine W_block ?_
   have hbb := bsS_le (p := fun h => !ltB (nth l m) (nth l h)) (i := a) (j := m) (by omega)
   rw [hbs] at hbb
   refine W_rounds (fun f' σ o' => ∃ (k : Nat) (l' : List Blk), f' = k - i ∧ i ≤ k ∧ k ≤ m ∧ l'.length = l.length ∧ dnF (k - i) k l' = dnF (m - i) m l ∧ σ = slots [(0, .hdr 1 0 l'.length), (14, .d (vI i)), (17, .d (vI k))] ∧ o' = [o, Awp.Obj.row 3 (l'.map eBlk)]) (m - i) (Weak.kills [0,14,17] rfl) ⟨m, l, rfl, by omega, by omega, rfl, rfl, rfl, rfl⟩ ?_
   rintro f' σ o' ⟨k, l', rfl, hak, hki, hlen, hinv2, rfl, rfl⟩ _
   refine W_seq (xU ?_)
   iterate 3 refine xO ?_
   refine xF [0,14,17,110] ?_
   refine W_cond rfl ?_ ?_
   · intro h110
     have hlt : i < k := by simp at h110; omega
     obtain ⟨k, rfl⟩ : ∃ k', k = k' + 1 := ⟨k - 1, by omega⟩
     have e1 : IntKind.i64.wrap (k : Int) = (k : Int) := wrap64 (by omega) (by omega)
     have q1 : 0 ≤ (k : Int) + 1 ∧ (k : Int) + 1 < (l'.length : Int) := by omega
     have r1 : k + 1 < l'.length := by omega
     have r2 : k < l'.length := by omega
     refine W_skip ?_
     rintro -
     refine W_seq (W_block ?_)
     refine W_regD (by kernel_rfl) [] 4 [0,1,2,3,4,5,6,7,8,9,10,11,12,13,14,15,16,17] (by decide +kernel) ?_
     iterate 4 refine xO ?_
     refine xO ?_ (h := by simp [e1]; exact .mk)
     iterate 2 refine xO ?_
     refine xO ?_ (h := by simp [e1]; exact .mk)
     iterate 2 (refine xO ?_ (h := by simp [eBlk, r2]; exact .mk))
     iterate 2 refine xO ?_
     refine xO ?_ (h := by simp [eBlk, q1]; exact .mk)
     refine xO ?_ (h := by simp [eBlk, r1]; exact .mk)
     refine xO ?_ (h := by simp [eBlk, q1]; exact .mk)
     refine xO ?_ (h := by simp [splice, r1, putC, nrmL, nrm, set_eBlk, -List.map_set]; exact .mk)
     refine xO ?_ (h := by simp [eBlk, r2]; exact .mk)
     refine xO ?_ (h := by simp [splice, r2, putC, nrmL, nrm, set_eBlk, -List.map_set]; exact .mk)
     refine xF [0,14,17] ?_
     refine W_reg rfl ?_
     refine xO ?_
     refine xO ?_ (h := by simp [e1]; exact .mk)
     refine xO ?_
     refine xE [0,14,17] ?_
     refine rounds_kill [0,14,17] ?_
     refine rounds_next (m' := k - i) (by omega) ⟨k, swp l' (k + 1) k, rfl, by omega, by omega, by rw [swp_len, hlen], ?_, ?_, ?_⟩
     · rw [← hinv2, show k + 1 - i = k - i + 1 by omega]; rfl
     · rw [swp_len]; simp [e1]; try rfl
     simp [swp, r1, r2, eBlk, nrmL, nrm, nth_eq]
   intro h110
   have hk : k = i := by simp at h110; omega
   have hr : symF ltB (f + 1) a m b l = l' := by
    rw [show k - i = 0 by omega] at hinv2
    simp only [symF, if_neg k1, if_pos k2, hbs, ← hinv2]; rfl
   refine W_exit ?_
   rintro -
   refine W_ret (endAt_ret (by simp [Try.f144]; exact .mk) ?_ ?_)
   · simp
   first | (simp [hr]; done) | simp [hsym, hc1, hc2, hc3]
 intro h80
 have k2 : ¬ b - m = 1 := by simp at h80; omega
 obtain ⟨mid, hmid⟩ : ∃ mid : Nat, mid = (a + b) / 2 := ⟨_, rfl⟩
 obtain ⟨N, hN⟩ : ∃ N : Nat, N = mid + m := ⟨_, rfl⟩
 obtain ⟨p, hp0⟩ : ∃ p : Nat, p = N - 1 := ⟨_, rfl⟩
 have f1 : IntKind.i64.wrap ((a : Int) + (b : Int)) = (a : Int) + (b : Int) := wrap64 (by omega) (by omega)
 have f2 : IntKind.u64.wrap ((a : Int) + (b : Int)) = (a : Int) + (b : Int) := wrapU (by omega) (by omega)
 have f3 : ((a : Int) + (b : Int)).fdiv 2 = (mid : Int) := by rw [Int.fdiv_eq_ediv_of_nonneg _ (by omega)]; omega
 have f4 : IntKind.i64.wrap (mid : Int) = (mid : Int) := wrap64 (by omega) (by omega)
 have g1 : IntKind.i64.wrap ((mid : Int) + (m : Int)) = (N : Int) := by rw [wrap64 (by omega) (by omega)]; omega
 have g2 : IntKind.i64.wrap ((N : Int) - 1) = (p : Int) := by rw [wrap64 (by omega) (by omega)]; omega
 have lr : ∀ x y z, (rotS x y z l).length = l.length := fun _ _ _ => (rotF_perm ..).length_eq
 have ls : ∀ f a m b (x : List Blk), (symF ltB f a m b x).length = x.length := fun _ _ _ _ _ => (symF_perm ..).length_eq
 have ih2 : ∀ (l' : List Blk) (a m b : Nat), l'.length = l.length → a < m → m < b → b ≤ l.length → b - a ≤ f → ∀ B S, CallsA Try.prog g B S ⟨[o, Awp.Obj.row 3 (l'.map eBlk)].length, true⟩ 144 [.hdr 1 0 l.length, .d (vI a), .d (vI m), .d (vI b), .fn (.func 103) [] []] [o, Awp.Obj.row 3 (l'.map eBlk)] (fun x r => x = .tup [] ∧ r = [o, Awp.Obj.row 3 ((symF ltB f a m b l').map eBlk)]) := fun l' a m b h h1 h2 h3 h4 B S => by
  have := ih l' a m b (by omega) h1 h2 (by omega) h4 B S
  rw [h] at this; exact this
 refine W_skip ?_
 refine xT ?_
 iterate 2 refine xO ?_
 refine xO ?_ (h := by simp [f1]; exact .mk)
 refine xO ?_ (h := by simp [convA]; exact .mk)
 refine xO ?_
 refine xO ?_ (h := by simp [convA]; exact .mk)
 refine xO ?_ (h := by simp [f2, f3, f4, IntKind.bits]; exact .mk)
 refine xG [0,1,2,3,4,18] ?_
 iterate 2 refine xO ?_
 refine xO ?_ (h := by simp [g1]; exact .mk)
 refine xO ?_
 refine xG [0,1,2,3,4,18,19] ?_
 iterate 2 refine xO ?_
 refine xF [0,1,2,3,4,18,19] ?_
 refine W_seq (xU ?_)
 iterate 3 refine xO ?_
 refine xF [0,1,2,3,4,18,19,140] ?_
 refine W_cond rfl ?_ ?_
 · intro h140
   have hmm : mid < m := by simp at h140; omega
   obtain ⟨s0, hs⟩ : ∃ s0 : Nat, s0 = N - b := ⟨_, rfl⟩
   have g3 : IntKind.i64.wrap ((N : Int) - (b : Int)) = (s0 : Int) := by rw [wrap64 (by omega) (by omega)]; omega
   have hs0 : s0 = if mid < m then N - b else a := by rw [if_pos hmm]; exact hs
   have hr0 : mid = if mid < m then mid else m := by rw [if_pos hmm]
   have hS : a ≤ s0 ∧ s0 ≤ mid ∧ b ≤ N := by omega
   refine xU ?_
   iterate 2 refine xO ?_
   refine xO ?_ (h := by simp [g3]; exact .mk)
   refine xO ?_
   refine xF [0,1,2,3,4,18,19,20] ?_
   refine W_reg rfl ?_
   iterate 2 refine xO ?_
   refine xG [0,1,2,3,4,18,19,20,21] ?_
   refine xO ?_
   refine xO ?_ (h := by simp [g2]; exact .mk)
   refine xO ?_
   refine xF [0,1,2,3,4,18,19,20,21,22] ?_
   refine W_seq (W_block ?_)
   refine W_rounds (fun f' σ o' => ∃ (i j : Nat), j - i ≤ f' ∧ s0 ≤ i ∧ i ≤ j ∧ j ≤ mid ∧ bsF (fun c => !ltB (nth l (p - c)) (nth l c)) f' i j = bsS (fun c => !ltB (nth l (p - c)) (nth l c)) (s0) (mid) ∧ σ = slots [(0, .hdr 1 0 l.length), (1, .d (vI a)), (2, .d (vI m)), (3, .d (vI b)), (4, .fn (.func 103) [] []), (18, .d (vI mid)), (19, .d (vI N)), (20, .d (vI i)), (21, .d (vI j)), (22, .d (vI p))] ∧ o' = [o, Awp.Obj.row 3 (l.map eBlk)]) (mid - s0) (Weak.kills [0,1,2,3,4,18,19,20,21,22] rfl) ⟨s0, mid, by omega, by omega, by omega, by omega, rfl, rfl, rfl⟩ ?_
   rintro f' σ o' ⟨i, j, hf', hmi, hij, hjb, hinv, rfl, rfl⟩ _
   refine W_seq (xU ?_)
   iterate 3 refine xO ?_
   refine xF [0,1,2,3,4,18,19,20,21,22,151] ?_
   refine W_cond rfl ?_ ?_
   · intro h151
     have hlt : i < j := by simp at h151; omega
     have e1 : IntKind.i64.wrap ((i : Int) + (j : Int)) = (i : Int) + (j : Int) := wrap64 (by omega) (by omega)
     have e2 : IntKind.u64.wrap ((i : Int) + (j : Int)) = (i : Int) + (j : Int) := wrapU (by omega) (by omega)
     have e3 : ((i : Int) + (j : Int)).fdiv 2 = ((i : Int) + (j : Int)) / 2 := Int.fdiv_eq_ediv_of_nonneg _ (by omega)
     have e4 : IntKind.i64.wrap (((i : Int) + (j : Int)) / 2) = ((i : Int) + (j : Int)) / 2 := wrap64 (by omega) (by omega)
     have e5 : IntKind.i64.wrap (((i : Int) + (j : Int)) / 2 + 1) = ((i : Int) + (j : Int)) / 2 + 1 := wrap64 (by omega) (by omega)
     have t1 : (((i : Int) + (j : Int)) / 2).toNat = (i + j) / 2 := by omega
     have q1 : 0 ≤ ((i : Int) + (j : Int)) / 2 ∧ ((i : Int) + (j : Int)) / 2 < (l.length : Int) := by omega
     have r1 : (i + j) / 2 < l.length := by omega
     obtain ⟨f', rfl⟩ : ∃ f'', f' = f'' + 1 := ⟨f' - 1, by omega⟩
     have g5 : IntKind.i64.wrap ((p : Int) - ((i : Int) + (j : Int)) / 2) = (p : Int) - ((i : Int) + (j : Int)) / 2 := wrap64 (by omega) (by omega)
     have t3 : ((p : Int) - ((i : Int) + (j : Int)) / 2).toNat = p - (i + j) / 2 := by omega
     have q3 : 0 ≤ (p : Int) - ((i : Int) + (j : Int)) / 2 ∧ (p : Int) - ((i : Int) + (j : Int)) / 2 < (l.length : Int) := by omega
     have r3 : p - (i + j) / 2 < l.length := by omega
     have q4 : ((i : Int) + (j : Int)) / 2 ≤ (p : Int) := by omega
     refine W_skip ?_
     rintro -
     refine W_block (xU ?_)
     iterate 2 refine xO ?_
     refine xO ?_ (h := by simp [e1]; exact .mk)
     refine xO ?_ (h := by simp [convA]; exact .mk)
     refine xO ?_
     refine xO ?_ (h := by simp [convA]; exact .mk)
     refine xO ?_ (h := by simp [e2, e3, e4, IntKind.bits]; exact .mk)
     refine xF [0,1,2,3,4,18,19,20,21,22,23] ?_
     refine W_seq ?_
     refine W_regD (by kernel_rfl) [] 4 [0,1,2,3,4,5,6,7,8,9,10,11,12,13] (by decide +kernel) ?_
     iterate 4 refine xO ?_
     refine xO ?_ (h := by simp [g5]; exact .mk)
     refine xO ?_ (h := by simp [eBlk, q3, t3, q4]; exact .mk)
     refine xO ?_ (h := by simp [-List.getElem?_map, map_get r3, eBlk]; exact .mk)
     iterate 2 refine xO ?_
     refine xO ?_ (h := by simp [eBlk, q1, t1]; exact .mk)
     refine xO ?_ (h := by simp [-List.getElem?_map, map_get r1, eBlk]; exact .mk)
     refine xC (ct103 g (nth l (p - (i + j) / 2)) (nth l ((i + j) / 2))) ?_
     iterate 2 refine xO ?_
     refine xF [0,1,2,3,4,18,19,20,21,22,23,171] ?_
     refine W_cond rfl ?_ ?_
     · intro h171
       have hp : (fun c => !ltB (nth l (p - c)) (nth l c)) ((i + j) / 2) = true := by simp at h171; simp [ltB]; omega
       refine W_reg rfl ?_
       refine xO ?_
       refine xO ?_ (h := by simp [e5]; exact .mk)
       refine xO ?_
       refine xE [0,1,2,3,4,18,19,20,21,22] ?_
       refine rounds_kill [0,1,2,3,4,18,19,20,21,22] ?_
       first
       | exact rounds_next (m' := f') (by omega) ⟨(i + j) / 2 + 1, j, by omega, by omega, by omega, by omega, by rw [← hinv, bsF_t hlt hp], by simp [e5]; try rfl, rfl⟩
       | exact rounds_next (m' := f') (by omega) ⟨i, (i + j) / 2, by omega, by omega, by omega, by omega, by rw [← hinv, bsF_f hlt hp], by simp, rfl⟩
     intro h171
     have hp : (fun c => !ltB (nth l (p - c)) (nth l c)) ((i + j) / 2) = false := by simp at h171; simp [ltB]; omega
     refine W_reg rfl ?_
     iterate 2 refine xO ?_
     refine xE [0,1,2,3,4,18,19,20,21,22] ?_
     refine rounds_kill [0,1,2,3,4,18,19,20,21,22] ?_
     first
     | exact rounds_next (m' := f') (by omega) ⟨(i + j) / 2 + 1, j, by omega, by omega, by omega, by omega, by rw [← hinv, bsF_t hlt hp], by simp [e5]; try rfl, rfl⟩
     | exact rounds_next (m' := f') (by omega) ⟨i, (i + j) / 2, by omega, by omega, by omega, by omega, by rw [← hinv, bsF_f hlt hp], by simp, rfl⟩
   intro h151
   have hij2 : j ≤ i := by simp at h151; omega
   have hbs := hinv.symm.trans (bsF_end hij2)
   obtain ⟨en, hen⟩ : ∃ en : Nat, en = N - i := ⟨_, rfl⟩
   have g6 : IntKind.i64.wrap ((N : Int) - (i : Int)) = (en : Int) := by rw [wrap64 (by omega) (by omega)]; omega
   have hsym := symF_gen (lt := ltB) (f := f) (l := l) k1 k2 hmid hN hp0 hs0 hr0 hbs hen
   have henb : en ≤ b := by omega
   refine W_exit (xT ?_)
   iterate 2 refine xO ?_
   refine xO ?_ (h := by simp [g6]; exact .mk)
   refine xO ?_
   refine xF [0,1,2,3,4,18,20,24] ?_
   refine W_seq (xU ?_)
   iterate 4 refine xO ?_
   iterate 3 refine xI ?_
   refine xP ?_
   refine xF [0,1,2,3,4,18,20,24,185] ?_
   refine W_cond rfl ?_ ?_
   · intro h185
     have hc1 : i < m ∧ m < en := by simp at h185; omega
     refine W_reg rfl ?_
     iterate 5 refine xO ?_
     refine run_inl0 rfl rfl rfl rfl (by simp; exact .mk) ⟨_, Try.func156, rfl, rfl⟩ (in156 g o l i m en (by omega) (by omega) (by omega) (by omega)) (.inl (by simp)) ?_
     refine xF [0,1,3,4,18,20,24] ?_
     refine W_seq (xU ?_)
     iterate 4 refine xO ?_
     iterate 3 refine xI ?_
     refine xP ?_
     refine xF [0,1,3,4,18,20,24,199] ?_
     refine W_cond rfl ?_ ?_
     · intro h199
       have hc2 : a < i ∧ i < mid := by simp at h199; omega
       refine W_reg rfl ?_
       iterate 5 refine xO ?_
       refine run_inl0 rfl rfl rfl rfl (by simp; exact .mk) ⟨_, Try.func144, rfl, rfl⟩ (ih2 _ a i mid (by simp [lr, ls]) (by omega) (by omega) (by omega) (by omega)) (.inl (by simp)) ?_
       refine xG [0,3,4,18,24] ?_
       iterate 4 refine xO ?_
       iterate 3 refine xI ?_
       refine xP ?_
       refine xF [0,3,4,18,24,213] ?_
       refine W_cond rfl ?_ ?_
       · intro h213
         have hc3 : mid < en ∧ en < b := by simp at h213; omega
         refine W_reg rfl ?_
         iterate 5 refine xO ?_
         refine run_inl0 rfl rfl rfl rfl (by simp; exact .mk) ⟨_, Try.func144, rfl, rfl⟩ (ih2 _ mid en b (by simp [lr, ls]) (by omega) (by omega) (by omega) (by omega)) (.inl (by simp)) ?_
         refine xE [] ?_
         refine endAt_ret (by simp [Try.f144]; exact .mk) ?_ ?_
         · simp
         first | (simp [hr]; done) | simp [hsym, hc1, hc2, hc3]
       intro h213
       have hc3 : ¬ (mid < en ∧ en < b) := by simp at h213; omega
       refine W_skip ?_
       refine endAt_ret (by simp [Try.f144]; exact .mk) ?_ ?_
       · simp
       first | (simp [hr]; done) | simp [hsym, hc1, hc2, hc3]
     intro h199
     have hc2 : ¬ (a < i ∧ i < mid) := by simp at h199; omega
     refine W_skip ?_
     refine xT ?_
     iterate 4 refine xO ?_
     iterate 3 refine xI ?_
     refine xP ?_
     refine xF [0,3,4,18,24,213] ?_
     refine W_cond rfl ?_ ?_
     · intro h213
       have hc3 : mid < en ∧ en < b := by simp at h213; omega
       refine W_reg rfl ?_
       iterate 5 refine xO ?_
       refine run_inl0 rfl rfl rfl rfl (by simp; exact .mk) ⟨_, Try.func144, rfl, rfl⟩ (ih2 _ mid en b (by simp [lr, ls]) (by omega) (by omega) (by omega) (by omega)) (.inl (by simp)) ?_
       refine xE [] ?_
       refine endAt_ret (by simp [Try.f144]; exact .mk) ?_ ?_
       · simp
       first | (simp [hr]; done) | simp [hsym, hc1, hc2, hc3]
     intro h213
     have hc3 : ¬ (mid < en ∧ en < b) := by simp at h213; omega
     refine W_skip ?_
     refine endAt_ret (by simp [Try.f144]; exact .mk) ?_ ?_
     · simp
     first | (simp [hr]; done) | simp [hsym, hc1, hc2, hc3]
   intro h185
   have hc1 : ¬ (i < m ∧ m < en) := by simp at h185; omega
   refine W_skip ?_
   rintro -
   refine W_seq (xU ?_)
   iterate 4 refine xO ?_
   iterate 3 refine xI ?_
   refine xP ?_
   refine xF [0,1,3,4,18,20,24,199] ?_
   refine W_cond rfl ?_ ?_
   · intro h199
     have hc2 : a < i ∧ i < mid := by simp at h199; omega
     refine W_reg rfl ?_
     iterate 5 refine xO ?_
     refine run_inl0 rfl rfl rfl rfl (by simp; exact .mk) ⟨_, Try.func144, rfl, rfl⟩ (ih2 _ a i mid (by simp [lr, ls]) (by omega) (by omega) (by omega) (by omega)) (.inl (by simp)) ?_
     refine xG [0,3,4,18,24] ?_
     iterate 4 refine xO ?_
     iterate 3 refine xI ?_
     refine xP ?_
     refine xF [0,3,4,18,24,213] ?_
     refine W_cond rfl ?_ ?_
     · intro h213
       have hc3 : mid < en ∧ en < b := by simp at h213; omega
       refine W_reg rfl ?_
       iterate 5 refine xO ?_
       refine run_inl0 rfl rfl rfl rfl (by simp; exact .mk) ⟨_, Try.func144, rfl, rfl⟩ (ih2 _ mid en b (by simp [lr, ls]) (by omega) (by omega) (by omega) (by omega)) (.inl (by simp)) ?_
       refine xE [] ?_
       refine endAt_ret (by simp [Try.f144]; exact .mk) ?_ ?_
       · simp
       first | (simp [hr]; done) | simp [hsym, hc1, hc2, hc3]
     intro h213
     have hc3 : ¬ (mid < en ∧ en < b) := by simp at h213; omega
     refine W_skip ?_
     refine endAt_ret (by simp [Try.f144]; exact .mk) ?_ ?_
     · simp
     first | (simp [hr]; done) | simp [hsym, hc1, hc2, hc3]
   intro h199
   have hc2 : ¬ (a < i ∧ i < mid) := by simp at h199; omega
   refine W_skip ?_
   refine xT ?_
   iterate 4 refine xO ?_
   iterate 3 refine xI ?_
   refine xP ?_
   refine xF [0,3,4,18,24,213] ?_
   refine W_cond rfl ?_ ?_
   · intro h213
     have hc3 : mid < en ∧ en < b := by simp at h213; omega
     refine W_reg rfl ?_
     iterate 5 refine xO ?_
     refine run_inl0 rfl rfl rfl rfl (by simp; exact .mk) ⟨_, Try.func144, rfl, rfl⟩ (ih2 _ mid en b (by simp [lr, ls]) (by omega) (by omega) (by omega) (by omega)) (.inl (by simp)) ?_
     refine xE [] ?_
     refine endAt_ret (by simp [Try.f144]; exact .mk) ?_ ?_
     · simp
     first | (simp [hr]; done) | simp [hsym, hc1, hc2, hc3]
   intro h213
   have hc3 : ¬ (mid < en ∧ en < b) := by simp at h213; omega
   refine W_skip ?_
   refine endAt_ret (by simp [Try.f144]; exact .mk) ?_ ?_
   · simp
   first | (simp [hr]; done) | simp [hsym, hc1, hc2, hc3]
 intro h140
 have hmm : ¬ mid < m := by simp at h140; omega
 have hs0 : a = if mid < m then N - b else a := by rw [if_neg hmm]
 have hr0 : m = if mid < m then mid else m := by rw [if_neg hmm]
 refine xU ?_
 iterate 2 refine xO ?_
 refine xF [0,1,2,3,4,18,19,20] ?_
 refine W_reg rfl ?_
 iterate 2 refine xO ?_
 refine xG [0,1,2,3,4,18,19,20,21] ?_
 refine xO ?_
 refine xO ?_ (h := by simp [g2]; exact .mk)
 refine xO ?_
 refine xF [0,1,2,3,4,18,19,20,21,22] ?_
 refine W_seq (W_block ?_)
 refine W_rounds (fun f' σ o' => ∃ (i j : Nat), j - i ≤ f' ∧ a ≤ i ∧ i ≤ j ∧ j ≤ m ∧ bsF (fun c => !ltB (nth l (p - c)) (nth l c)) f' i j = bsS (fun c => !ltB (nth l (p - c)) (nth l c)) (a) (m) ∧ σ = slots [(0, .hdr 1 0 l.length), (1, .d (vI a)), (2, .d (vI m)), (3, .d (vI b)), (4, .fn (.func 103) [] []), (18, .d (vI mid)), (19, .d (vI N)), (20, .d (vI i)), (21, .d (vI j)), (22, .d (vI p))] ∧ o' = [o, Awp.Obj.row 3 (l.map eBlk)]) (m - a) (Weak.kills [0,1,2,3,4,18,19,20,21,22] rfl) ⟨a, m, by omega, by omega, by omega, by omega, rfl, rfl, rfl⟩ ?_
 rintro f' σ o' ⟨i, j, hf', hmi, hij, hjb, hinv, rfl, rfl⟩ _
 refine W_seq (xU ?_)
 iterate 3 refine xO ?_
 refine xF [0,1,2,3,4,18,19,20,21,22,151] ?_
 refine W_cond rfl ?_ ?_
 · intro h151
   have hlt : i < j := by simp at h151; omega
   have e1 : IntKind.i64.wrap ((i : Int) + (j : Int)) = (i : Int) + (j : Int) := wrap64 (by omega) (by omega)
   have e2 : IntKind.u64.wrap ((i : Int) + (j : Int)) = (i : Int) + (j : Int) := wrapU (by omega) (by omega)
   have e3 : ((i : Int) + (j : Int)).fdiv 2 = ((i : Int) + (j : Int)) / 2 := Int.fdiv_eq_ediv_of_nonneg _ (by omega)
   have e4 : IntKind.i64.wrap (((i : Int) + (j : Int)) / 2) = ((i : Int) + (j : Int)) / 2 := wrap64 (by omega) (by omega)
   have e5 : IntKind.i64.wrap (((i : Int) + (j : Int)) / 2 + 1) = ((i : Int) + (j : Int)) / 2 + 1 := wrap64 (by omega) (by omega)
   have t1 : (((i : Int) + (j : Int)) / 2).toNat = (i + j) / 2 := by omega
   have q1 : 0 ≤ ((i : Int) + (j : Int)) / 2 ∧ ((i : Int) + (j : Int)) / 2 < (l.length : Int) := by omega
   have r1 : (i + j) / 2 < l.length := by omega
   obtain ⟨f', rfl⟩ : ∃ f'', f' = f'' + 1 := ⟨f' - 1, by omega⟩
   have g5 : IntKind.i64.wrap ((p : Int) - ((i : Int) + (j : Int)) / 2) = (p : Int) - ((i : Int) + (j : Int)) / 2 := wrap64 (by omega) (by omega)
   have t3 : ((p : Int) - ((i : Int) + (j : Int)) / 2).toNat = p - (i + j) / 2 := by omega
   have q3 : 0 ≤ (p : Int) - ((i : Int) + (j : Int)) / 2 ∧ (p : Int) - ((i : Int) + (j : Int)) / 2 < (l.length : Int) := by omega
   have r3 : p - (i + j) / 2 < l.length := by omega
   have q4 : ((i : Int) + (j : Int)) / 2 ≤ (p : Int) := by omega
   refine W_skip ?_
   rintro -
   refine W_block (xU ?_)
   iterate 2 refine xO ?_
   refine xO ?_ (h := by simp [e1]; exact .mk)
   refine xO ?_ (h := by simp [convA]; exact .mk)
   refine xO ?_
   refine xO ?_ (h := by simp [convA]; exact .mk)
   refine xO ?_ (h := by simp [e2, e3, e4, IntKind.bits]; exact .mk)
   refine xF [0,1,2,3,4,18,19,20,21,22,23] ?_
   refine W_seq ?_
   refine W_regD (by kernel_rfl) [] 4 [0,1,2,3,4,5,6,7,8,9,10,11,12,13] (by decide +kernel) ?_
   iterate 4 refine xO ?_
   refine xO ?_ (h := by simp [g5]; exact .mk)
   refine xO ?_ (h := by simp [eBlk, q3, t3, q4]; exact .mk)
   refine xO ?_ (h := by simp [-List.getElem?_map, map_get r3, eBlk]; exact .mk)
   iterate 2 refine xO ?_
   refine xO ?_ (h := by simp [eBlk, q1, t1]; exact .mk)
   refine xO ?_ (h := by simp [-List.getElem?_map, map_get r1, eBlk]; exact .mk)
   refine xC (ct103 g (nth l (p - (i + j) / 2)) (nth l ((i + j) / 2))) ?_
   iterate 2 refine xO ?_
   refine xF [0,1,2,3,4,18,19,20,21,22,23,171] ?_
   refine W_cond rfl ?_ ?_
   · intro h171
     have hp : (fun c => !ltB (nth l (p - c)) (nth l c)) ((i + j) / 2) = true := by simp at h171; simp [ltB]; omega
     refine W_reg rfl ?_
     refine xO ?_
     refine xO ?_ (h := by simp [e5]; exact .mk)
     refine xO ?_
     refine xE [0,1,2,3,4,18,19,20,21,22] ?_
     refine rounds_kill [0,1,2,3,4,18,19,20,21,22] ?_
     first
     | exact rounds_next (m' := f') (by omega) ⟨(i + j) / 2 + 1, j, by omega, by omega, by omega, by omega, by rw [← hinv, bsF_t hlt hp], by simp [e5]; try rfl, rfl⟩
     | exact rounds_next (m' := f') (by omega) ⟨i, (i + j) / 2, by omega, by omega, by omega, by omega, by rw [← hinv, bsF_f hlt hp], by simp, rfl⟩
   intro h171
   have hp : (fun c => !ltB (nth l (p - c)) (nth l c)) ((i + j) / 2) = false := by simp at h171; simp [ltB]; omega
   refine W_reg rfl ?_
   iterate 2 refine xO ?_
   refine xE [0,1,2,3,4,18,19,20,21,22] ?_
   refine rounds_kill [0,1,2,3,4,18,19,20,21,22] ?_
   first
   | exact rounds_next (m' := f') (by omega) ⟨(i + j) / 2 + 1, j, by omega, by omega, by omega, by omega, by rw [← hinv, bsF_t hlt hp], by simp [e5]; try rfl, rfl⟩
   | exact rounds_next (m' := f') (by omega) ⟨i, (i + j) / 2, by omega, by omega, by omega, by omega, by rw [← hinv, bsF_f hlt hp], by simp, rfl⟩
 intro h151
 have hij2 : j ≤ i := by simp at h151; omega
 have hbs := hinv.symm.trans (bsF_end hij2)
 obtain ⟨en, hen⟩ : ∃ en : Nat, en = N - i := ⟨_, rfl⟩
 have g6 : IntKind.i64.wrap ((N : Int) - (i : Int)) = (en : Int) := by rw [wrap64 (by omega) (by omega)]; omega
 have hsym := symF_gen (lt := ltB) (f := f) (l := l) k1 k2 hmid hN hp0 hs0 hr0 hbs hen
 have henb : en ≤ b := by omega
 refine W_exit (xT ?_)
 iterate 2 refine xO ?_
 refine xO ?_ (h := by simp [g6]; exact .mk)
 refine xO ?_
 refine xF [0,1,2,3,4,18,20,24] ?_
 refine W_seq (xU ?_)
 iterate 4 refine xO ?_
 iterate 3 refine xI ?_
 refine xP ?_
 refine xF [0,1,2,3,4,18,20,24,185] ?_
 refine W_cond rfl ?_ ?_
 · intro h185
   have hc1 : i < m ∧ m < en := by simp at h185; omega
   refine W_reg rfl ?_
   iterate 5 refine xO ?_
   refine run_inl0 rfl rfl rfl rfl (by simp; exact .mk) ⟨_, Try.func156, rfl, rfl⟩ (in156 g o l i m en (by omega) (by omega) (by omega) (by omega)) (.inl (by simp)) ?_
   refine xF [0,1,3,4,18,20,24] ?_
   refine W_seq (xU ?_)
   iterate 4 refine xO ?_
   iterate 3 refine xI ?_
   refine xP ?_
   refine xF [0,1,3,4,18,20,24,199] ?_
   refine W_cond rfl ?_ ?_
   · intro h199
     have hc2 : a < i ∧ i < mid := by simp at h199; omega
     refine W_reg rfl ?_
     iterate 5 refine xO ?_
     refine run_inl0 rfl rfl rfl rfl (by simp; exact .mk) ⟨_, Try.func144, rfl, rfl⟩ (ih2 _ a i mid (by simp [lr, ls]) (by omega) (by omega) (by omega) (by omega)) (.inl (by simp)) ?_
     refine xG [0,3,4,18,24] ?_
     iterate 4 refine xO ?_
     iterate 3 refine xI ?_
     refine xP ?_
     refine xF [0,3,4,18,24,213] ?_
     refine W_cond rfl ?_ ?_
     · intro h213
       have hc3 : mid < en ∧ en < b := by simp at h213; omega
       refine W_reg rfl ?_
       iterate 5 refine xO ?_
       refine run_inl0 rfl rfl rfl rfl (by simp; exact .mk) ⟨_, Try.func144, rfl, rfl⟩ (ih2 _ mid en b (by simp [lr, ls]) (by omega) (by omega) (by omega) (by omega)) (.inl (by simp)) ?_
       refine xE [] ?_
       refine endAt_ret (by simp [Try.f144]; exact .mk) ?_ ?_
       · simp
       first | (simp [hr]; done) | simp [hsym, hc1, hc2, hc3]
     intro h213
     have hc3 : ¬ (mid < en ∧ en < b) := by simp at h213; omega
     refine W_skip ?_
     refine endAt_ret (by simp [Try.f144]; exact .mk) ?_ ?_
     · simp
     first | (simp [hr]; done) | simp [hsym, hc1, hc2, hc3]
   intro h199
   have hc2 : ¬ (a < i ∧ i < mid) := by simp at h199; omega
   refine W_skip ?_
   refine xT ?_
   iterate 4 refine xO ?_
   iterate 3 refine xI ?_
   refine xP ?_
   refine xF [0,3,4,18,24,213] ?_
   refine W_cond rfl ?_ ?_
   · intro h213
     have hc3 : mid < en ∧ en < b := by simp at h213; omega
     refine W_reg rfl ?_
     iterate 5 refine xO ?_
     refine run_inl0 rfl rfl rfl rfl (by simp; exact .mk) ⟨_, Try.func144, rfl, rfl⟩ (ih2 _ mid en b (by simp [lr, ls]) (by omega) (by omega) (by omega) (by omega)) (.inl (by simp)) ?_
     refine xE [] ?_
     refine endAt_ret (by simp [Try.f144]; exact .mk) ?_ ?_
     · simp
     first | (simp [hr]; done) | simp [hsym, hc1, hc2, hc3]
   intro h213
   have hc3 : ¬ (mid < en ∧ en < b) := by simp at h213; omega
   refine W_skip ?_
   refine endAt_ret (by simp [Try.f144]; exact .mk) ?_ ?_
   · simp
   first | (simp [hr]; done) | simp [hsym, hc1, hc2, hc3]
 intro h185
 have hc1 : ¬ (i < m ∧ m < en) := by simp at h185; omega
 refine W_skip ?_
 rintro -
 refine W_seq (xU ?_)
 iterate 4 refine xO ?_
 iterate 3 refine xI ?_
 refine xP ?_
 refine xF [0,1,3,4,18,20,24,199] ?_
 refine W_cond rfl ?_ ?_
 · intro h199
   have hc2 : a < i ∧ i < mid := by simp at h199; omega
   refine W_reg rfl ?_
   iterate 5 refine xO ?_
   refine run_inl0 rfl rfl rfl rfl (by simp; exact .mk) ⟨_, Try.func144, rfl, rfl⟩ (ih2 _ a i mid (by simp [lr, ls]) (by omega) (by omega) (by omega) (by omega)) (.inl (by simp)) ?_
   refine xG [0,3,4,18,24] ?_
   iterate 4 refine xO ?_
   iterate 3 refine xI ?_
   refine xP ?_
   refine xF [0,3,4,18,24,213] ?_
   refine W_cond rfl ?_ ?_
   · intro h213
     have hc3 : mid < en ∧ en < b := by simp at h213; omega
     refine W_reg rfl ?_
     iterate 5 refine xO ?_
     refine run_inl0 rfl rfl rfl rfl (by simp; exact .mk) ⟨_, Try.func144, rfl, rfl⟩ (ih2 _ mid en b (by simp [lr, ls]) (by omega) (by omega) (by omega) (by omega)) (.inl (by simp)) ?_
     refine xE [] ?_
     refine endAt_ret (by simp [Try.f144]; exact .mk) ?_ ?_
     · simp
     first | (simp [hr]; done) | simp [hsym, hc1, hc2, hc3]
   intro h213
   have hc3 : ¬ (mid < en ∧ en < b) := by simp at h213; omega
   refine W_skip ?_
   refine endAt_ret (by simp [Try.f144]; exact .mk) ?_ ?_
   · simp
   first | (simp [hr]; done) | simp [hsym, hc1, hc2, hc3]
 intro h199
 have hc2 : ¬ (a < i ∧ i < mid) := by simp at h199; omega
 refine W_skip ?_
 refine xT ?_
 iterate 4 refine xO ?_
 iterate 3 refine xI ?_
 refine xP ?_
 refine xF [0,3,4,18,24,213] ?_
 refine W_cond rfl ?_ ?_
 · intro h213
   have hc3 : mid < en ∧ en < b := by simp at h213; omega
   refine W_reg rfl ?_
   iterate 5 refine xO ?_
   refine run_inl0 rfl rfl rfl rfl (by simp; exact .mk) ⟨_, Try.func144, rfl, rfl⟩ (ih2 _ mid en b (by simp [lr, ls]) (by omega) (by omega) (by omega) (by omega)) (.inl (by simp)) ?_
   refine xE [] ?_
   refine endAt_ret (by simp [Try.f144]; exact .mk) ?_ ?_
   · simp
   first | (simp [hr]; done) | simp [hsym, hc1, hc2, hc3]
 intro h213
 have hc3 : ¬ (mid < en ∧ en < b) := by simp at h213; omega
 refine W_skip ?_
 refine endAt_ret (by simp [Try.f144]; exact .mk) ?_ ?_
 · simp
 first | (simp [hr]; done) | simp [hsym, hc1, hc2, hc3]

open Go.Awp
theorem in144 (g : Gl) (o : Awp.Obj) : ∀ (f : Nat) (l : List Blk) (a m b : Nat), l.length ≤ 2^40 → a < m → m < b → b ≤ l.length → b - a ≤ f → ∀ B S,
    CallsA Try.prog g B S ⟨[o, Awp.Obj.row 3 (l.map eBlk)].length, true⟩ 144 [.hdr 1 0 l.length, .d (vI a), .d (vI m), .d (vI b), .fn (.func 103) [] []] [o, Awp.Obj.row 3 (l.map eBlk)] (fun x r => x = .tup [] ∧ r = [o, Awp.Obj.row 3 ((symF ltB f a m b l).map eBlk)]) := by
 intro f
 induction f with
 | zero => intro l a m b _ h1 h2 _ h4; omega
 | succ f ih => exact fun l a m b h1 h2 h3 h4 h5 => in144s g o f ih l a m b h1 h2 h3 h4 h5
open Go.Awp
section
variable {α : Type} [Inhabited α] (lt : α → α → Bool)
def blkF : Nat → Nat → List α → List α
 | 0, a, l => insS lt a l.length l
 | f + 1, a, l => if a + 20 ≤ l.length then blkF f (a + 20) (insS lt a (a + 20) l) else insS lt a l.length l
def symS (a m b : Nat) (l : List α) : List α := symF lt (b - a) a m b l
def lastP (bs a : Nat) (l : List α) : List α := if a + bs < l.length then symS lt a (a + bs) l.length l else l
def pairF (bs : Nat) : Nat → Nat → List α → List α
 | 0, a, l => lastP lt bs a l
 | f + 1, a, l => if a + 2 * bs ≤ l.length then pairF bs f (a + 2 * bs) (symS lt a (a + bs) (a + 2 * bs) l) else lastP lt bs a l
def mrgF : Nat → Nat → List α → List α
 | 0, _, l => l
 | f + 1, bs, l => if bs < l.length then mrgF f (2 * bs) (pairF lt bs l.length 0 l) else l
def stS (l : List α) : List α := mrgF lt l.length 20 (blkF lt l.length 0 l)
variable {lt}
theorem insS_perm (a b : Nat) (l : List α) : (insS lt a b l).Perm l := insF_perm ..
theorem symS_perm (a m b : Nat) (l : List α) : (symS lt a m b l).Perm l := symF_perm ..
theorem lastP_perm (bs a : Nat) (l : List α) : (lastP lt bs a l).Perm l := by
 unfold lastP; split
 · exact symS_perm ..
 · exact .refl _
theorem blkF_perm : ∀ (f a : Nat) (l : List α), (blkF lt f a l).Perm l
 | 0, _, _ => insS_perm ..
 | f + 1, a, l => by
  unfold blkF; split
  · exact (blkF_perm f _ _).trans (insS_perm ..)
  · exact insS_perm ..
theorem pairF_perm (bs : Nat) : ∀ (f a : Nat) (l : List α), (pairF lt bs f a l).Perm l
 | 0, _, _ => lastP_perm ..
 | f + 1, a, l => by
  unfold pairF; split
  · exact (pairF_perm bs f _ _).trans (symS_perm ..)
  · exact lastP_perm ..
theorem mrgF_perm : ∀ (f bs : Nat) (l : List α), (mrgF lt f bs l).Perm l
 | 0, _, _ => .refl _
 | f + 1, bs, l => by
  unfold mrgF; split
  · exact (mrgF_perm f _ _).trans (pairF_perm ..)
  · exact .refl _
theorem stS_perm (l : List α) : (stS lt l).Perm l := (mrgF_perm ..).trans (blkF_perm ..)
theorem blkF_t {f a : Nat} {l : List α} (h : a + 20 ≤ l.length) : blkF lt (f + 1) a l = blkF lt f (a + 20) (insS lt a (a + 20) l) := by
 conv => lhs; unfold blkF
 rw [if_pos h]
theorem blkF_f {f a : Nat} {l : List α} (h : l.length < a + 20) : blkF lt f a l = insS lt a l.length l := by
 cases f with
 | zero => rfl
 | succ f => unfold blkF; rw [if_neg (by omega)]
theorem pairF_t {bs f a : Nat} {l : List α} (h : a + 2 * bs ≤ l.length) : pairF lt bs (f + 1) a l = pairF lt bs f (a + 2 * bs) (symS lt a (a + bs) (a + 2 * bs) l) := by
 conv => lhs; unfold pairF
 rw [if_pos h]
theorem pairF_f {bs f a : Nat} {l : List α} (h : l.length < a + 2 * bs) : pairF lt bs f a l = lastP lt bs a l := by
 cases f with
 | zero => rfl
 | succ f => unfold pairF; rw [if_neg (by omega)]
theorem mrgF_t {f bs : Nat} {l : List α} (h : bs < l.length) : mrgF lt (f + 1) bs l = mrgF lt f (2 * bs) (pairF lt bs l.length 0 l) := by
 conv => lhs; unfold mrgF
 rw [if_pos h]
theorem mrgF_f {f bs : Nat} {l : List α} (h : l.length ≤ bs) : mrgF lt f bs l = l := by
 cases f with
 | zero => rfl
 | succ f => unfold mrgF; rw [if_neg (by omega)]
end
theorem nodup_of_stS {α : Type} [Inhabited α] {lt : α → α → Bool} {l : List α} : (stS lt l).length = l.length := (stS_perm l).length_eq
set_option maxHeartbeats 4000000
set_option maxRecDepth 4000
open Go.Awp
theorem in126 (g : Gl) (o : Awp.Obj) (l : List Blk) (hl : l.length ≤ 2^40) : ∀ B S, CallsA Try.prog g B S ⟨[o, Awp.Obj.row 3 (l.map eBlk)].length, true⟩ 126 [.hdr 1 0 l.length, .d (vI l.length), .fn (.func 103) [] []] [o, Awp.Obj.row 3 (l.map eBlk)] (fun x r => x = .tup [] ∧ r = [o, Awp.Obj.row 3 ((stS ltB l).map eBlk)]) := by
 refine callsA_at Try.func126 rfl (Nat.le_of_ble_eq_true rfl) fun B S => ?_
 refine xU ?_
 refine xO ?_
 refine xG [0,1,2,6] ?_
 iterate 3 refine xO ?_
 refine xF [0,1,2,6,7,8] ?_
 refine W_seq (W_block ?_)
 have li : ∀ a b (x : List Blk), (insS ltB a b x).length = x.length := fun _ _ x => (insS_perm _ _ x).length_eq
 have ls : ∀ a m b (x : List Blk), (symS ltB a m b x).length = x.length := fun _ _ _ x => (symS_perm _ _ _ x).length_eq
 have lp : ∀ bs f a (x : List Blk), (pairF ltB bs f a x).length = x.length := fun _ _ _ x => (pairF_perm _ _ _ x).length_eq
 have lb : ∀ f a (x : List Blk), (blkF ltB f a x).length = x.length := fun _ _ x => (blkF_perm _ _ x).length_eq
 refine W_rounds (fun f σ o' => ∃ (a : Nat) (l' : List Blk), l'.length = l.length ∧ l.length - a ≤ f ∧ a ≤ l.length ∧ blkF ltB f a l' = blkF ltB l.length 0 l ∧ σ = slots [(0, .hdr 1 0 l'.length), (1, .d (vI l'.length)), (2, .fn (.func 103) [] []), (6, .d (vI 20)), (7, .d (vI a)), (8, .d (vI ((a : Int) + 20)))] ∧ o' = [o, Awp.Obj.row 3 (l'.map eBlk)]) l.length (Weak.kills [0,1,2,6,7,8] rfl) ⟨0, l, rfl, by omega, by omega, rfl, by simp, rfl⟩ ?_
 rintro f σ o' ⟨a, l', hlen, hf, hal, hinv, rfl, rfl⟩ _
 refine W_seq (xU ?_)
 iterate 3 refine xO ?_
 refine xF [0,1,2,6,7,8,13] ?_
 refine W_cond rfl ?_ ?_
 · intro h13
   have hn : a + 20 ≤ l'.length := by simp at h13; omega
   obtain ⟨f, rfl⟩ : ∃ f', f = f' + 1 := ⟨f - 1, by omega⟩
   have e1 : IntKind.i64.wrap ((a : Int) + 20 + 20) = (a : Int) + 20 + 20 := wrap64 (by omega) (by omega)
   refine W_skip ?_
   rintro -
   refine W_block (xU ?_)
   iterate 4 refine xO ?_
   refine run_inl0 rfl rfl rfl rfl (by simp; exact .mk) ⟨_, Try.func143, rfl, rfl⟩ (in143 g o l' a (a + 20) (by omega) (by omega) (by omega)) (.inl (by simp)) ?_
   refine xG [0,1,2,6,8] ?_
   iterate 2 refine xO ?_
   refine xF [0,1,2,6,7,8] ?_
   refine W_reg rfl ?_
   iterate 2 refine xO ?_
   refine xO ?_ (h := by simp [e1]; exact .mk)
   refine xO ?_
   refine xE [0,1,2,6,7,8] ?_
   refine rounds_kill [0,1,2,6,7,8] ?_
   exact rounds_next (m' := f) (by omega) ⟨a + 20, insS ltB a (a + 20) l', by rw [li, hlen], by omega, by omega, by rw [← hinv, blkF_t hn], by rw [li]; simp; try rfl, rfl⟩
 intro h13
 have hlt : l'.length < a + 20 := by simp at h13; omega
 rw [blkF_f hlt] at hinv
 refine W_exit (xT ?_)
 iterate 4 refine xO ?_
 refine run_inl0 rfl rfl rfl rfl (by simp; exact .mk) ⟨_, Try.func143, rfl, rfl⟩ (in143 g o l' a l'.length (by omega) (by omega) (by omega)) (.inl (by simp)) ?_
 refine xF [0,1,2,6] ?_
 refine W_block ?_
 obtain ⟨l1, hl1⟩ : ∃ l1, l1 = blkF ltB l.length 0 l := ⟨_, rfl⟩
 rw [hinv, ← hl1]
 have hlen1 : l1.length = l.length := by rw [hl1, lb]
 refine W_rounds (fun f σ o' => ∃ (bs : Nat) (l2 : List Blk), l2.length = l.length ∧ l.length - bs ≤ f ∧ 20 ≤ bs ∧ bs ≤ 2^41 ∧ mrgF ltB f bs l2 = mrgF ltB l.length 20 l1 ∧ σ = slots [(0, .hdr 1 0 l2.length), (1, .d (vI l2.length)), (2, .fn (.func 103) [] []), (6, .d (vI bs))] ∧ o' = [o, Awp.Obj.row 3 (l2.map eBlk)]) l.length (Weak.kills [0,1,2,6] rfl) ⟨20, l1, hlen1, by omega, by omega, by omega, rfl, by rw [hlen1, ← hlen]; rfl, rfl⟩ ?_
 rintro f2 σ o' ⟨bs, l2, hlen2, hf2, hbs, hbs2, hinv2, rfl, rfl⟩ _
 refine W_seq (xU ?_)
 iterate 3 refine xO ?_
 refine xF [0,1,2,6,30] ?_
 refine W_cond rfl ?_ ?_
 · intro h30
   have hn2 : bs < l2.length := by simp at h30; omega
   obtain ⟨f2, rfl⟩ : ∃ f', f2 = f' + 1 := ⟨f2 - 1, by omega⟩
   rw [mrgF_t hn2] at hinv2
   have e2 : IntKind.i64.wrap (2 * (bs : Int)) = 2 * (bs : Int) := wrap64 (by omega) (by omega)
   refine W_skip ?_
   rintro -
   refine W_block (xU ?_)
   refine xO ?_
   refine xO ?_ (h := by simp [e2]; exact .mk)
   iterate 2 refine xO ?_
   refine xF [0,1,2,6,7,8] ?_
   refine W_seq (W_block ?_)
   refine W_rounds (fun f3 σ o' => ∃ (a : Nat) (l3 : List Blk), l3.length = l.length ∧ l.length - a ≤ f3 ∧ a ≤ l.length ∧ pairF ltB bs f3 a l3 = pairF ltB bs l2.length 0 l2 ∧ σ = slots [(0, .hdr 1 0 l3.length), (1, .d (vI l3.length)), (2, .fn (.func 103) [] []), (6, .d (vI bs)), (7, .d (vI a)), (8, .d (vI ((a : Int) + 2 * bs)))] ∧ o' = [o, Awp.Obj.row 3 (l3.map eBlk)]) l2.length (Weak.kills [0,1,2,6,7,8] rfl) ⟨0, l2, hlen2, by omega, by omega, rfl, by simp, rfl⟩ ?_
   rintro f3 σ o' ⟨a3, l3, hlen3, hf3, hal3, hinv3, rfl, rfl⟩ _
   refine W_seq (xU ?_)
   iterate 3 refine xO ?_
   refine xF [0,1,2,6,7,8,35] ?_
   refine W_cond rfl ?_ ?_
   · intro h35
     have hn3 : a3 + 2 * bs ≤ l3.length := by simp at h35; omega
     obtain ⟨f3, rfl⟩ : ∃ f', f3 = f' + 1 := ⟨f3 - 1, by omega⟩
     rw [pairF_t hn3] at hinv3
     have e3 : IntKind.i64.wrap ((a3 : Int) + (bs : Int)) = ((a3 + bs : Nat) : Int) := by rw [wrap64 (by omega) (by omega)]; omega
     have e4 : (a3 : Int) + 2 * (bs : Int) = ((a3 + 2 * bs : Nat) : Int) := by omega
     have e5 : IntKind.i64.wrap ((a3 : Int) + 2 * (bs : Int) + 2 * (bs : Int)) = (a3 : Int) + 2 * (bs : Int) + 2 * (bs : Int) := wrap64 (by omega) (by omega)
     rw [e4]
     refine W_skip ?_
     rintro -
     refine W_block (xU ?_)
     iterate 4 refine xO ?_
     refine xO ?_ (h := by simp [e3]; exact .mk)
     iterate 2 refine xO ?_
     refine run_inl0 rfl rfl rfl rfl (by simp; exact .mk) ⟨_, Try.func144, rfl, rfl⟩ (in144 g o (a3 + 2 * bs - a3) l3 a3 (a3 + bs) (a3 + 2 * bs) (by omega) (by omega) (by omega) (by omega) (by omega)) (.inl (by simp)) ?_
     refine xG [0,1,2,6,8] ?_
     iterate 2 refine xO ?_
     refine xF [0,1,2,6,7,8] ?_
     refine W_reg rfl ?_
     iterate 2 refine xO ?_
     refine xO ?_ (h := by simp [e2]; exact .mk)
     refine xO ?_ (h := by simp [e5]; exact .mk)
     refine xO ?_
     refine xE [0,1,2,6,7,8] ?_
     refine rounds_kill [0,1,2,6,7,8] ?_
     exact rounds_next (m' := f3) (by omega) ⟨a3 + 2 * bs, symS ltB a3 (a3 + bs) (a3 + 2 * bs) l3, by rw [ls, hlen3], by omega, by omega, hinv3, by simp [ls, e5]; try rfl, by simp [symS]⟩
   intro h35
   have hn3 : l3.length < a3 + 2 * bs := by simp at h35; omega
   rw [pairF_f hn3] at hinv3
   have e3 : IntKind.i64.wrap ((a3 : Int) + (bs : Int)) = ((a3 + bs : Nat) : Int) := by rw [wrap64 (by omega) (by omega)]; omega
   have e6 : IntKind.i64.wrap ((bs : Int) * 2) = (bs : Int) * 2 := wrap64 (by omega) (by omega)
   refine W_exit ?_
   rintro -
   refine W_seq (xU ?_)
   iterate 2 refine xO ?_
   refine xO ?_ (h := by simp [e3]; exact .mk)
   refine xO ?_
   refine xG [0,1,2,6,7,9] ?_
   iterate 3 refine xO ?_
   refine xF [0,1,2,6,7,9,54] ?_
   refine W_cond rfl ?_ ?_
   · intro h54
     have hn4 : a3 + bs < l3.length := by simp at h54; omega
     have hl4 : symS ltB a3 (a3 + bs) l3.length l3 = pairF ltB bs l2.length 0 l2 := by rw [← hinv3, lastP, if_pos hn4]
     refine W_reg rfl ?_
     iterate 5 refine xO ?_
     refine run_inl0 rfl rfl rfl rfl (by simp; exact .mk) ⟨_, Try.func144, rfl, rfl⟩ (in144 g o (l3.length - a3) l3 a3 (a3 + bs) l3.length (by omega) (by omega) (by omega) (by omega) (by omega)) (.inl (by simp)) ?_
     refine xF [0,1,2,6] ?_
     refine W_reg rfl ?_
     refine xO ?_
     refine xO ?_ (h := by simp [e6]; exact .mk)
     refine xO ?_
     refine xE [0,1,2,6] ?_
     refine rounds_kill [0,1,2,6] ?_
     exact rounds_next (m' := f2) (by omega) ⟨2 * bs, pairF ltB bs l2.length 0 l2, by rw [lp, hlen2], by omega, by omega, by omega, hinv2, by simp [lp, hlen2, hlen3, e6, Int.mul_comm]; try rfl, by simp [← hl4, symS]⟩
   intro h54
   have hn4 : ¬ a3 + bs < l3.length := by simp at h54; omega
   have hl4 : l3 = pairF ltB bs l2.length 0 l2 := by rw [← hinv3, lastP, if_neg hn4]
   refine W_skip ?_
   rintro -
   refine W_reg rfl ?_
   refine xO ?_
   refine xO ?_ (h := by simp [e6]; exact .mk)
   refine xO ?_
   refine xE [0,1,2,6] ?_
   refine rounds_kill [0,1,2,6] ?_
   exact rounds_next (m' := f2) (by omega) ⟨2 * bs, pairF ltB bs l2.length 0 l2, by rw [lp, hlen2], by omega, by omega, by omega, hinv2, by simp [lp, hlen2, hlen3, e6, Int.mul_comm]; try rfl, by simp [← hl4, symS]⟩
 intro h30
 have hn2 : l2.length ≤ bs := by simp at h30; omega
 rw [mrgF_f hn2, hl1] at hinv2
 refine W_exit (endAt_ret (by simp [Try.f126]; exact .mk) ?_ ?_)
 · simp
 simp [hinv2, stS]

theorem in102 (g : Gl) (o : Awp.Obj) (l : List Blk) (hl : l.length ≤ 2^40) : ∀ B S, CallsA Try.prog g B S ⟨[o, Awp.Obj.row 3 (l.map eBlk)].length, true⟩ 102 [.hdr 1 0 l.length, .fn (.func 103) [] []] [o, Awp.Obj.row 3 (l.map eBlk)] (fun x r => x = .tup [] ∧ r = [o, Awp.Obj.row 3 ((stS ltB l).map eBlk)]) := by
 refine callsA_at Try.func102 rfl (Nat.le_of_ble_eq_true rfl) fun B S => ?_
 refine W_reg rfl ?_
 iterate 4 refine xO ?_
 refine run_inl0 rfl rfl rfl rfl (by simp; exact .mk) ⟨_, Try.func126, rfl, rfl⟩ (in126 g o l hl) (.inl (by simp)) ?_
 refine xE [] ?_
 refine endAt_ret (by simp [Try.f102]; exact .mk) ?_ ?_
 · simp
 simp

open Go.Awp
theorem ct130 (g : Gl) (n : Int) : CtAt Try.prog g 130 [vI n] (.v (.bool (n.tmod 4 == 0))) := by
 refine ctAt_of_W Try.func130 rfl rfl (Nat.le_of_ble_eq_true rfl) fun B S => ?_
 refine xU ?_
 refine xO ?_
 refine xG [0] ?_
 iterate 4 refine xO ?_
 refine xF [2] ?_
 refine W_ret (xR (by simp [Try.f130]; exact .mk) ?_)
 simp [Try.f130]

theorem ct125 (g : Gl) (n : Int) (h : 0 ≤ n ∧ n ≤ 2^40) : CtAt Try.prog g 125 [vI n] (vI (upS n)) := by
 refine ctAt_of_W Try.func125 rfl rfl (Nat.le_of_ble_eq_true rfl) fun B S => ?_
 have hd : 0 ≤ (n + 4 - 1).tdiv 4 ∧ (n + 4 - 1).tdiv 4 ≤ n + 3 := ⟨Int.tdiv_nonneg (by omega) (by omega), by rw [Int.tdiv_eq_ediv_of_nonneg (by omega)]; omega⟩
 have e1 : IntKind.i64.wrap (n + 4) = n + 4 := wrap64 (by omega) (by omega)
 have e2 : IntKind.i64.wrap (n + 4 - 1) = n + 4 - 1 := wrap64 (by omega) (by omega)
 have e3 : IntKind.i64.wrap ((n + 4 - 1).tdiv 4) = (n + 4 - 1).tdiv 4 := wrap64 (by omega) (by omega)
 have e4 : IntKind.i64.wrap ((n + 4 - 1).tdiv 4 * 4) = (n + 4 - 1).tdiv 4 * 4 := wrap64 (by omega) (by omega)
 refine xU ?_
 refine xO ?_
 refine xG [0] ?_
 refine xO ?_
 refine xO ?_ (h := by simp [e1]; exact .mk)
 refine xO ?_ (h := by simp [e1, e2]; exact .mk)
 refine xO ?_ (h := by simp [e1, e2, e3]; exact .mk)
 refine xO ?_ (h := by simp [e1, e2, e3, e4]; exact .mk)
 refine xO ?_
 refine xF [2] ?_
 refine W_ret (xR (by simp [Try.f125]; exact .mk) ?_)
 simp [Try.f125, upS]

theorem ct101 (g : Gl) (n : Int) : CtAt Try.prog g 101 [vI n] (.tup [vI (needS n).1, vI (needS n).2]) := by
 refine ctAt_of_W Try.func101 rfl rfl (Nat.le_of_ble_eq_true rfl) fun B S => ?_
 refine xU ?_
 iterate 2 refine xO ?_
 refine xF [0] ?_
 refine W_seq (xU ?_)
 iterate 3 refine xO ?_
 iterate 2 refine xI ?_
 refine xP ?_
 refine xF [0,9] ?_
 refine W_cond rfl ?_ ?_
 · intro h9
   have hr : needS n = (0, 1) := by unfold needS; rw [if_pos (by simp at h9; omega)]
   refine xU ?_
   iterate 2 refine xO ?_
   refine xF [2,3] ?_
   refine W_ret (xR (by simp [Try.f101]; exact .mk) ?_)
   simp [Try.f101, hr]
 intro h9
 have hn : 1 ≤ n ∧ n ≤ 2048 := by simp at h9; omega
 have hr : needS n = (upS (2 + (n + 8 - 1).tdiv 8), 0) := by unfold needS; rw [if_neg (by omega)]
 have hd : 0 ≤ (n + 8 - 1).tdiv 8 ∧ (n + 8 - 1).tdiv 8 ≤ n + 7 := ⟨Int.tdiv_nonneg (by omega) (by omega), by rw [Int.tdiv_eq_ediv_of_nonneg (by omega)]; omega⟩
 have e1 : IntKind.i64.wrap (n + 8) = n + 8 := wrap64 (by omega) (by omega)
 have e2 : IntKind.i64.wrap (n + 8 - 1) = n + 8 - 1 := wrap64 (by omega) (by omega)
 have e3 : IntKind.i64.wrap ((n + 8 - 1).tdiv 8) = (n + 8 - 1).tdiv 8 := wrap64 (by omega) (by omega)
 have e4 : IntKind.i64.wrap (2 + (n + 8 - 1).tdiv 8) = 2 + (n + 8 - 1).tdiv 8 := wrap64 (by omega) (by omega)
 refine W_skip ?_
 refine xT ?_
 refine xO ?_
 refine xO ?_ (h := by simp [e1]; exact .mk)
 refine xO ?_ (h := by simp [e1, e2]; exact .mk)
 refine xO ?_ (h := by simp [e1, e2, e3]; exact .mk)
 refine xO ?_ (h := by simp [e1, e2, e3, e4]; exact .mk)
 refine xC (ct125 g (2 + (n + 8 - 1).tdiv 8) (by omega)) ?_
 iterate 2 refine xO ?_
 refine xF [2,3] ?_
 refine W_ret (xR (by simp [Try.f101]; exact .mk) ?_)
 simp [Try.f101, hr]

theorem ct150 (g : Gl) : CtAt Try.prog g 150 [] (.agg (wordsL.map vI)) := by
 refine ctAt_of_W Try.func150 rfl rfl (Nat.le_of_ble_eq_true rfl) fun B S => ?_
 refine xU ?_
 refine xO ?_
 refine xG [0] ?_
 iterate 2 (refine xO ?_ (h := by simp [splice]; exact .mk))
 refine xF [0] ?_
 refine W_ret (xR (by simp [Try.f150]; exact .mk) ?_)
 simp [Try.f150, wordsL]

theorem ct149 (g : Gl) : CtAt Try.prog g 149 [] (vI 120) := by
 refine ctAt_of_W Try.func149 rfl rfl (Nat.le_of_ble_eq_true rfl) fun B S => ?_
 refine xU ?_
 refine xO ?_
 refine xG [] ?_
 refine xC (ct150 g) ?_ (hi := by simp [impAs_vI]; exact .mk)
 refine xO ?_ (h := by simp [indexA, partA, Ty.agg, wordsL]; exact .mk)
 iterate 2 refine xO ?_
 refine xF [0] ?_
 refine W_ret (xR (by simp [Try.f149]; exact .mk) ?_)
 simp [Try.f149]; rfl

theorem ct158 (g : Gl) (c : Int) : CtAt Try.prog g 158 [vI c] (.tup [vI (if c < 0 ∨ 6 ≤ c then 0 else nth wordsL c.toNat), vI (if c < 0 ∨ 6 ≤ c then 1 else 0)]) := by
 refine ctAt_of_W Try.func158 rfl rfl (Nat.le_of_ble_eq_true rfl) fun B S => ?_
 refine xU ?_
 iterate 2 refine xO ?_
 refine xF [0] ?_
 refine W_seq (xU ?_)
 iterate 3 refine xO ?_
 iterate 2 refine xI ?_
 refine xP ?_
 refine xF [0,9] ?_
 refine W_cond rfl ?_ ?_
 · intro h9
   have hr : c < 0 ∨ 6 ≤ c := by simp at h9; omega
   refine xU ?_
   iterate 2 refine xO ?_
   refine xF [2,3] ?_
   refine W_ret (xR (by simp [Try.f158]; exact .mk) ?_)
   simp [Try.f158, hr]
 intro h9
 have hr : ¬ (c < 0 ∨ 6 ≤ c) := by simp at h9; omega
 obtain ⟨k, rfl⟩ : ∃ k : Nat, c = k := ⟨c.toNat, by omega⟩
 have hk : k < wordsL.length := by show k < 6; omega
 have hk6 : (k : Int) < 6 := by omega
 refine W_skip ?_
 refine xT ?_
 refine xC (ct150 g) ?_ (hi := by simp [impAs_vI]; exact .mk)
 refine xO ?_
 refine xO ?_ (h := by simp [indexA, partA, Ty.agg, -List.getElem?_map, map_get hk, hk6]; exact .mk)
 iterate 2 refine xO ?_
 refine xF [2,3] ?_
 refine W_ret (xR (by simp [Try.f158]; exact .mk) ?_)
 simp [Try.f158, hr]

theorem ct136 (g : Gl) (n : Int) : CtAt Try.prog g 136 [vI n] (.tup [vI (pagesS n).1, vI (pagesS n).2]) := by
 refine ctAt_of_W Try.func136 rfl rfl (Nat.le_of_ble_eq_true rfl) fun B S => ?_
 refine xU ?_
 iterate 2 refine xO ?_
 refine xF [0] ?_
 refine W_seq (xU ?_)
 refine xO ?_
 refine xC (ct149 g) ?_
 iterate 2 refine xO ?_
 iterate 2 refine xI ?_
 refine xP ?_
 refine xF [0,10] ?_
 refine W_cond rfl ?_ ?_
 · intro h10
   have hr : pagesS n = (0, 1) := by unfold pagesS; rw [if_pos (by simp at h10; omega)]
   refine xU ?_
   iterate 2 refine xO ?_
   refine xF [2,3] ?_
   refine W_ret (xR (by simp [Try.f136]; exact .mk) ?_)
   simp [Try.f136, hr]
 intro h10
 have hn : 120 < n ∧ n ≤ 2048 := by simp at h10; omega
 have hr : pagesS n = ((n + 256 - 1).tdiv 256, 0) := by unfold pagesS; rw [if_neg (by omega)]
 have hd : 0 ≤ (n + 256 - 1).tdiv 256 ∧ (n + 256 - 1).tdiv 256 ≤ n + 255 := ⟨Int.tdiv_nonneg (by omega) (by omega), by rw [Int.tdiv_eq_ediv_of_nonneg (by omega)]; omega⟩
 have e1 : IntKind.i64.wrap (n + 256) = n + 256 := wrap64 (by omega) (by omega)
 have e2 : IntKind.i64.wrap (n + 256 - 1) = n + 256 - 1 := wrap64 (by omega) (by omega)
 have e3 : IntKind.i64.wrap ((n + 256 - 1).tdiv 256) = (n + 256 - 1).tdiv 256 := wrap64 (by omega) (by omega)
 refine W_skip ?_
 refine xT ?_
 refine xO ?_
 refine xO ?_ (h := by simp [e1]; exact .mk)
 refine xO ?_ (h := by simp [e1, e2]; exact .mk)
 refine xO ?_ (h := by simp [e1, e2, e3]; exact .mk)
 iterate 2 refine xO ?_
 refine xF [2,3] ?_
 refine W_ret (xR (by simp [Try.f136]; exact .mk) ?_)
 simp [Try.f136, hr]

theorem ct159 (g : Gl) (n : Int) (h : 0 ≤ n ∧ n ≤ 2^40) : CtAt Try.prog g 159 [vI n] (vI (if n = 0 then 1 else (n - 1).tdiv 7 + 1)) := by
 refine ctAt_of_W Try.func159 rfl rfl (Nat.le_of_ble_eq_true rfl) fun B S => ?_
 have hd : (n - 1).tdiv 7 ≤ n := by
  rcases Int.lt_or_le n 1 with q | q
  · obtain rfl : n = 0 := by omega
    decide
  rw [Int.tdiv_eq_ediv_of_nonneg (by omega)]; omega
 have hd2 : -1 ≤ (n - 1).tdiv 7 := by
  rcases Int.lt_or_le n 1 with q | q
  · obtain rfl : n = 0 := by omega
    decide
  rw [Int.tdiv_eq_ediv_of_nonneg (by omega)]; omega
 have e1 : IntKind.i64.wrap (n - 1) = n - 1 := wrap64 (by omega) (by omega)
 have e2 : IntKind.i64.wrap ((n - 1).tdiv 7) = (n - 1).tdiv 7 := wrap64 (by omega) (by omega)
 have e3 : IntKind.i64.wrap ((n - 1).tdiv 7 + 1) = (n - 1).tdiv 7 + 1 := wrap64 (by omega) (by omega)
 refine xU ?_
 refine xO ?_
 refine xF [0] ?_
 refine W_seq (xU ?_)
 iterate 2 refine xO ?_
 refine xF [0,4] ?_
 refine W_cond rfl ?_ ?_
 · intro h4
   refine xU ?_
   refine xO ?_
   refine xF [2] ?_
   refine W_ret (xR (by simp [Try.f159]; exact .mk) ?_)
   first | (simp [Try.f159]; done) | (simp [Try.f159] at *; simp [*])
 intro h4
 refine W_skip ?_
 refine xT ?_
 refine xO ?_
 refine xO ?_ (h := by simp [e1]; exact .mk)
 refine xO ?_ (h := by simp [e1, e2]; exact .mk)
 refine xO ?_ (h := by simp [e1, e2, e3]; exact .mk)
 refine xO ?_
 refine xF [2] ?_
 refine W_ret (xR (by simp [Try.f159]; exact .mk) ?_)
 first | (simp [Try.f159]; done) | (simp [Try.f159] at *; simp [*])

theorem ct108 (g : Gl) (n : Int) : CtAt Try.prog g 108 [vI n] (.tup [oSl (if tnewOk n then List.replicate n.toNat zSlot else []), vI (if tnewOk n then 0 else 1)]) := by
 refine ctAt_of_W Try.func108 rfl rfl (Nat.le_of_ble_eq_true rfl) fun B S => ?_
 refine xU ?_
 iterate 2 refine xO ?_
 refine xF [0] ?_
 refine W_seq (xU ?_)
 iterate 3 refine xO ?_
 iterate 2 refine xI ?_
 refine xP ?_
 refine xB ?_
 iterate 3 refine xI ?_
 refine xP ?_
 refine xF [0,14] ?_
 refine W_cond rfl ?_ ?_
 · intro h14
   have hr : tnewOk n = false := by simp [tnewOk] at *; grind
   refine xU ?_
   iterate 2 refine xO ?_
   refine xF [2,3] ?_
   refine W_ret (xR (by simp [Try.f108]; exact .mk) ?_)
   simp [Try.f108, hr, ownR, eSlot, zSlot]
 intro h14
 have hr : tnewOk n = true := by simp [tnewOk] at *; grind
 have hn : 2 ≤ n ∧ n ≤ 32 := by simp [tnewOk] at hr; omega
 refine W_skip ?_
 rintro -
 refine W_seq ?_
 have e1 : 0 ≤ n := by omega
 have e2 : 32 * n ≤ 140737488355328 := by omega
 have e3 : n ≤ 140737488355328 := by omega
 refine W_reg rfl ?_
 refine xO ?_
 refine xO ?_ (h := by simp [e1, e2, e3]; exact .mk)
 iterate 2 refine xO ?_
 refine xF [2,3] ?_
 refine W_ret (xR (by simp [Try.f108]; exact .mk) ?_)
 simp [Try.f108, hr, ownR, eSlot, zSlot]

open Go.Awp
theorem ct134 (g : Gl) (n : Int) : CtAt Try.prog g 134 [vI n] (.tup [vI (classS n).1, .v (.bool (classS n).2)]) := by
 refine ctAt_of_W Try.func134 rfl rfl (Nat.le_of_ble_eq_true rfl) fun B S => ?_
 refine xU ?_
 iterate 2 refine xO ?_
 refine xF [0] ?_
 refine W_seq (xU ?_)
 iterate 3 refine xO ?_
 refine xI ?_
 refine run_call rfl (by simp; exact .mk) rfl rfl (by simp) (by simp; exact .mk) (by simp; exact .mk) (fun hb => ct149 g) (by simp) (by simp [impAs_vI]; exact .mk) (by simp) ?_
 refine xI ?_
 refine xP ?_
 refine xF [0,12] ?_
 refine W_cond rfl ?_ ?_
 · intro h12
   have hr : classS n = (0, false) := by unfold classS; rw [if_pos (by simp at h12; omega)]
   refine xU ?_
   iterate 2 refine xO ?_
   refine xF [2,3] ?_
   refine W_ret (xR (by simp [Try.f134]; exact .mk) ?_)
   simp [Try.f134, hr]
 intro h12
 have hn : 1 ≤ n ∧ n ≤ 120 := by simp at h12; omega
 have hr0 : ∀ x, wordsL.findIdx? (fun w => decide (n ≤ w * 8)) = x → classS n = (match x with | some i => ((i : Int), true) | none => (0, false)) := by intro x hx; unfold classS; rw [if_neg (by omega), hx] <;> (cases x <;> rfl)
 refine W_skip ?_
 rintro -
 refine W_seq (xU ?_)
 refine xC (ct150 g) ?_ (hi := by simp [impAs_vI]; exact .mk)
 refine xO ?_
 refine xF [0,13,14] ?_
 refine W_block (W_rounds (fun m σ o => ∃ i : Nat, m = 6 - i ∧ i ≤ 6 ∧ (∀ j, j < i → decide (n ≤ nth wordsL j * 8) = false) ∧ σ = slots [(0, .d (vI n)), (13, .agg (wordsL.map fun n => .d (vI n))), (14, .d (vI i))] ∧ o = []) 6 .refl ⟨0, by simp, by simp, by simp, rfl, rfl⟩ ?_)
 rintro m σ o ⟨i, rfl, hi, hinv, rfl, rfl⟩ _
 refine xU ?_
 refine xO ?_
 refine xF [0,13,14,15] ?_
 refine W_seq (W_cond rfl ?_ ?_)
 · intro h15
   have hi2 : i < wordsL.length := by simp at h15; show i < 6; omega
   have hi6 : (i : Int) < 6 := by simpa using h15
   have hw : 2 ≤ nth wordsL i ∧ nth wordsL i ≤ 15 := by
    have : i = 0 ∨ i = 1 ∨ i = 2 ∨ i = 3 ∨ i = 4 ∨ i = 5 := by omega
    rcases this with rfl | rfl | rfl | rfl | rfl | rfl <;> decide
   have e1 : IntKind.i64.wrap (nth wordsL i * 8) = nth wordsL i * 8 := wrap64 (by omega) (by omega)
   refine W_skip ?_
   rintro -
   refine W_seq (W_block ?_)
   refine xU ?_
   refine xO ?_
   refine xO ?_ (h := by simp [indexA, partA, Ty.agg, -List.getElem?_map, map_get hi2, hi6]; exact .mk)
   iterate 2 refine xO ?_
   refine xG [0,4,5,13,14] ?_
   iterate 2 refine xO ?_
   refine xO ?_ (h := by simp [e1]; exact .mk)
   refine xO ?_
   refine xF [0,4,13,14,21] ?_
   refine W_cond rfl ?_ ?_
   · intro h21
     have hr : classS n = ((i : Int), true) := by
      refine hr0 (some i) ?_
      rw [List.findIdx?_eq_some_iff_getElem]
      refine ⟨hi2, by rw [← nth_eq hi2]; exact h21, fun j hj => ?_⟩
      have := hinv j hj
      rw [nth_eq (by omega)] at this; simpa using this
     refine xU ?_
     iterate 3 refine xO ?_
     refine xF [2,3] ?_
     refine W_ret (xR (by simp [Try.f134]; exact .mk) ?_)
     simp [Try.f134, hr]
   intro h21
   refine W_skip ?_
   rintro -
   refine W_reg rfl ?_
   iterate 2 refine xO ?_
   refine xE [0,13,14] ?_
   refine rounds_kill [0,13,14] ?_
   refine rounds_next (m' := 6 - (i+1)) (by omega) ⟨i+1, rfl, by omega, ?_, ?_, rfl⟩
   · intro j hj
     rcases Nat.lt_succ_iff_lt_or_eq.1 hj with hj | rfl
     · exact hinv j hj
     exact h21
   rw [wrap64 (by omega) (by omega)]; rfl
 intro h15
 exfalso
 have := hinv 5 (by simp at h15; omega)
 have h5 : nth wordsL 5 = 15 := rfl
 rw [h5] at this
 simp at this; omega

theorem ct157 (g : Gl) (c off : Int) (h : -2^40 ≤ off ∧ off ≤ 2^40) : CtAt Try.prog g 157 [vI c, vI off] (.tup [vI (whichS c off).1, .v (.bool (whichS c off).2)]) := by
 refine ctAt_of_W Try.func157 rfl rfl (Nat.le_of_ble_eq_true rfl) fun B S => ?_
 refine xU ?_
 iterate 2 refine xO ?_
 refine xG [0,1] ?_
 refine xO ?_
 refine xC (ct158 g c) ?_
 iterate 5 refine xO ?_
 refine xF [1,6,7] ?_
 refine W_seq (xU ?_)
 iterate 3 refine xO ?_
 iterate 2 refine xI ?_
 refine xP ?_
 refine xF [1,6,19] ?_
 refine W_cond rfl ?_ ?_
 · intro h19
   have hr : whichS c off = (0, false) := by unfold whichS; rw [if_pos (by by_cases q : c < 0 ∨ 6 ≤ c <;> simp [q] at h19 <;> omega)]
   refine xU ?_
   iterate 2 refine xO ?_
   refine xF [4,5] ?_
   refine W_ret (xR (by simp [Try.f157]; exact .mk) ?_)
   simp [Try.f157, hr]
 intro h19
 have hc : ¬ (c < 0 ∨ 6 ≤ c) ∧ 4 ≤ off := by by_cases q : c < 0 ∨ 6 ≤ c <;> simp [q] at h19 <;> omega
 obtain ⟨hc1, hc2⟩ := hc
 obtain ⟨k, rfl⟩ : ∃ k : Nat, c = k := ⟨c.toNat, by omega⟩
 have hw : 2 ≤ nth wordsL k ∧ nth wordsL k ≤ 15 := by
  have : k = 0 ∨ k = 1 ∨ k = 2 ∨ k = 3 ∨ k = 4 ∨ k = 5 := by omega
  rcases this with rfl | rfl | rfl | rfl | rfl | rfl <;> decide
 have hw0 : nth wordsL k ≠ 0 := by omega
 simp only [hc1, if_false, Int.toNat_natCast]
 have e1 : IntKind.i64.wrap (off - 4) = off - 4 := wrap64 (by omega) (by omega)
 have b1 : 0 ≤ (off - 4).tdiv (nth wordsL k) ∧ (off - 4).tdiv (nth wordsL k) ≤ off - 4 := by rw [Int.tdiv_eq_ediv_of_nonneg (by omega)]; exact ⟨Int.ediv_nonneg (by omega) (by omega), Int.ediv_le_self _ (by omega)⟩
 have b2 : 0 ≤ (28 : Int).tdiv (nth wordsL k) ∧ (28 : Int).tdiv (nth wordsL k) ≤ 28 := by rw [Int.tdiv_eq_ediv_of_nonneg (by omega)]; exact ⟨Int.ediv_nonneg (by omega) (by omega), Int.ediv_le_self _ (by omega)⟩
 have e2 : IntKind.i64.wrap ((off - 4).tdiv (nth wordsL k)) = (off - 4).tdiv (nth wordsL k) := wrap64 (by omega) (by omega)
 have e3 : IntKind.i64.wrap ((28 : Int).tdiv (nth wordsL k)) = (28 : Int).tdiv (nth wordsL k) := wrap64 (by omega) (by omega)
 have hr0 : whichS k off = if (off - 4).tmod (nth wordsL k) ≠ 0 ∨ (28 : Int).tdiv (nth wordsL k) ≤ (off - 4).tdiv (nth wordsL k) then (0, false) else ((off - 4).tdiv (nth wordsL k), true) := by unfold whichS; rw [if_neg (by omega), Int.toNat_natCast]
 refine W_skip ?_
 refine xT ?_
 refine xO ?_
 refine xO ?_ (h := by simp [e1]; exact .mk)
 refine xO ?_
 refine xF [6,8] ?_
 refine W_seq (W_seq ?_)
 refine W_regD (by kernel_rfl) [] 4 [0,1,2,3,4,5,6,7,8,9,10,11] (by decide +kernel) ?_
 iterate 2 refine xO ?_
 refine xO ?_ (h := by simp [hw0]; exact .mk)
 iterate 2 refine xO ?_
 iterate 2 refine xI ?_
 refine run_if rfl (by simp; exact .mk) rfl (by simp <;> first | omega | grind) (fun hb => by simp [hw0, e2]; exact .mk) ?_
 refine xI ?_
 refine run_if rfl (by simp; exact .mk) rfl (by simp <;> first | omega | grind) (fun hb => by simp [hw0, e3]; exact .mk) ?_
 refine xI ?_
 refine xP ?_
 refine xF [6,8,33] ?_
 refine W_cond rfl ?_ ?_
 · intro h33
   have hr : whichS k off = (0, false) := by rw [hr0, if_pos (by simpa using h33)]
   refine xU ?_
   iterate 2 refine xO ?_
   refine xF [4,5] ?_
   refine W_ret (xR (by simp [Try.f157]; exact .mk) ?_)
   simp [Try.f157, hr]
 intro h33
 have hr : whichS k off = ((off - 4).tdiv (nth wordsL k), true) := by rw [hr0, if_neg (by simpa using h33)]
 refine W_skip ?_
 refine xT ?_
 iterate 2 refine xO ?_
 refine xO ?_ (h := by simp [hw0, e2]; exact .mk)
 iterate 2 refine xO ?_
 refine xF [4,5] ?_
 refine W_ret (xR (by simp [Try.f157]; exact .mk) ?_)
 simp [Try.f157, hr]

open Go.Awp
theorem ct146 (g : Gl) (pages : Int) (o : Int × Int) (hp : 0 ≤ pages ∧ pages ≤ 64) (ho : o.1 ≤ 2^40) : CtAt Try.prog g 146 [vI pages, eObj o] (.tup [eSpot (spotS pages o).1, .v (.bool (spotS pages o).2)]) := by
 refine ctAt_of_W Try.func146 rfl rfl (Nat.le_of_ble_eq_true rfl) fun B S => ?_
 obtain ⟨at_, len⟩ := o
 simp only [eObj, List.map, argD_agg, argD_v]
 refine xU ?_
 iterate 3 refine xO ?_
 refine xF [0,3,4] ?_
 refine W_seq (xU ?_)
 iterate 3 refine xO ?_
 refine xF [0,3,4,10] ?_
 refine W_cond rfl ?_ ?_
 · intro h10
   have hr : spotS pages (at_, len) = (⟨0, 0, false, 0, 0⟩, false) := by unfold spotS; rw [if_pos (by simpa using h10)]
   refine xU ?_
   refine xO ?_
   refine xO ?_ (h := by simp [splice]; exact .mk)
   refine xO ?_
   refine xF [4,5] ?_
   refine W_ret (end_ret (by simp [Try.f146]; exact .mk) (by simp; exact .mk) ?_ (by simp [hr]))
   simp [Try.f146, eSpot, hr] <;> (try refine ⟨‹_›, ?_⟩) <;> first | assumption | rfl
 intro h10
 have h0 : 0 ≤ at_ := by simpa using h10
 have h00 : at_ ≤ 2^40 := ho
 have d1 : 0 ≤ at_.tdiv 32 := Int.tdiv_nonneg h0 (by omega)
 have d3 : at_.tdiv 32 ≤ at_ := by rw [Int.tdiv_eq_ediv_of_nonneg h0]; omega
 have d2 : 0 ≤ at_.tmod 32 ∧ at_.tmod 32 < 32 := by rw [Int.tmod_eq_emod_of_nonneg h0]; omega
 have e1 : IntKind.i64.wrap (at_.tdiv 32) = at_.tdiv 32 := wrap64 (by omega) (by omega)
 have e2 : IntKind.i64.wrap (at_.tmod 32) = at_.tmod 32 := wrap64 (by omega) (by omega)
 have e3 : IntKind.i64.wrap (pages - at_.tdiv 32) = pages - at_.tdiv 32 := wrap64 (by omega) (by omega)
 refine W_skip ?_
 refine xT ?_
 iterate 2 refine xO ?_
 refine xO ?_ (h := by simp [e1]; exact .mk)
 refine xO ?_
 refine xO ?_ (h := by simp [splice]; exact .mk)
 refine xO ?_
 refine xO ?_ (h := by simp [splice]; exact .mk)
 refine xG [0,3,4] ?_
 iterate 2 refine xO ?_
 refine xC (ct134 g len) ?_
 iterate 4 refine xO ?_
 refine xO ?_ (h := by simp [splice]; exact .mk)
 refine xO ?_
 refine xO ?_ (h := by simp [splice]; exact .mk)
 refine xF [0,3,4] ?_
 refine W_seq (xU ?_)
 iterate 2 refine xO ?_
 refine xF [0,3,4,26] ?_
 refine W_cond rfl ?_ ?_
 · intro h26
   have hr : spotS pages (at_, len) = (⟨at_.tdiv 32, 1, true, (classS len).1, (whichS (classS len).1 (at_.tmod 32)).1⟩, (whichS (classS len).1 (at_.tmod 32)).2 && decide (at_.tdiv 32 < pages)) := by unfold spotS; rw [if_neg (by simpa using h10), if_pos h26]
   refine xU ?_
   iterate 4 refine xO ?_
   refine xO ?_ (h := by simp [e2]; exact .mk)
   refine xC (ct157 g _ (at_.tmod 32) (by omega)) ?_
   iterate 4 refine xO ?_
   refine xO ?_ (h := by simp [splice]; exact .mk)
   refine xO ?_
   refine xG [0,4,5] ?_
   iterate 3 refine xO ?_
   iterate 4 refine xI ?_
   refine xP ?_
   refine run_op1 rfl rfl rfl (by simp <;> first | omega | grind) (by simp [splice]; exact .mk) ?_
   refine xB ?_
   refine xF [4,5] ?_
   refine W_ret (end_ret (by simp [Try.f146]; exact .mk) (by simp; exact .mk) ?_ (by simp [hr]))
   simp [Try.f146, eSpot, hr] <;> (try refine ⟨‹_›, ?_⟩) <;> first | assumption | rfl
 intro h26
 have hr : spotS pages (at_, len) = (⟨at_.tdiv 32, (pagesS len).1, false, (classS len).1, 0⟩, decide ((pagesS len).2 = 0) && decide (at_.tmod 32 = 0) && decide (at_.tdiv 32 < pages) && decide ((pagesS len).1 ≤ pages - at_.tdiv 32)) := by unfold spotS; rw [if_neg (by simpa using h10), if_neg (by simp [h26])]
 refine W_skip ?_
 refine xT ?_
 iterate 2 refine xO ?_
 refine xC (ct136 g len) ?_
 iterate 5 refine xO ?_
 refine xG [0,3,4,6,7] ?_
 iterate 2 refine xO ?_
 refine xO ?_ (h := by simp [splice]; exact .mk)
 refine xG [0,3,4,6,7] ?_
 iterate 4 refine xO ?_
 iterate 2 refine xI ?_
 refine run_if rfl (by simp; exact .mk) rfl (by simp <;> first | omega | grind) (fun hb => by simp [e2]; exact .mk) ?_
 refine xI ?_
 refine xP ?_
 refine xB ?_
 iterate 4 refine xI ?_
 refine xP ?_
 refine xB ?_
 iterate 4 refine xI ?_
 refine run_if rfl (by simp; exact .mk) rfl (by simp <;> first | omega | grind) (fun hb => by simp [e3]; exact .mk) ?_
 refine xI ?_
 refine xP ?_
 refine run_op1 rfl rfl rfl (by simp <;> first | omega | grind) (by simp [splice]; exact .mk) ?_
 refine xB ?_
 refine xF [4,5] ?_
 refine W_ret (end_ret (by simp [Try.f146]; exact .mk) (by simp; exact .mk) ?_ (by simp [hr]))
 simp [Try.f146, eSpot, hr] <;> (try refine ⟨‹_›, ?_⟩) <;> first | assumption | rfl

open Go.Awp
def isOne (s : Slot) : Bool := s.live && !s.two
def oneIx (l : List Slot) (i : Nat) : List Nat := (List.range i).filter fun j => isOne (nth l j)
theorem oneIx_t {l : List Slot} {i : Nat} (h : isOne (nth l i) = true) : oneIx l (i + 1) = oneIx l i ++ [i] := by simp [oneIx, List.range_succ, List.filter_append, h]
theorem oneIx_f {l : List Slot} {i : Nat} (h : isOne (nth l i) = false) : oneIx l (i + 1) = oneIx l i := by simp [oneIx, List.range_succ, List.filter_append, h]
theorem oneIx_len {l : List Slot} {i : Nat} : (oneIx l i).length ≤ i := by
 have := List.length_filter_le (fun j => isOne (nth l j)) (List.range i)
 simpa [oneIx] using this
def blkAt (l : List Slot) (j : Nat) : Blk := ⟨(nth l j).at_, (needS (nth l j).len).1, j⟩
def onesR (l : List Slot) : List Blk := (oneIx l l.length).map (blkAt l)
def onesS (l : List Slot) : List Blk := stS ltB (onesR l)
theorem onesR_len {l : List Slot} : (onesR l).length ≤ l.length := by simpa [onesR] using oneIx_len
theorem onesS_len {l : List Slot} : (onesS l).length ≤ l.length := by rw [onesS, nodup_of_stS]; exact onesR_len
open Go.Awp
abbrev vU (m : Nat) : D := .v (.int .u64 m)
def cU (m : Nat) : AV := .d (vU m)
theorem wrapU64 {n : Nat} (h : n < 2^64) : IntKind.u64.wrap (n : Int) = (n : Int) := by
 simp only [IntKind.wrap, IntKind.signed, IntKind.bits]
 simp; omega
theorem shlU {c : Nat} (h : c < 64) : IntKind.u64.wrap (1 * 2 ^ (min (c : Int).toNat 64)) = ((2 ^ c : Nat) : Int) := by
 rw [Int.toNat_natCast, Nat.min_eq_left (by omega), Int.one_mul, show ((2 : Int) ^ c) = ((2 ^ c : Nat) : Int) by simp]
 exact wrapU64 (Nat.pow_lt_pow_right (by omega) h)
theorem drop_map_nth {α β : Type} [Inhabited α] {l : List α} {f : α → β} {p : Nat} (h : p < l.length) : (l.map f).drop p = f (nth l p) :: (l.map f).drop (p + 1) := by
 rw [List.drop_eq_getElem_cons (by simpa using h), List.getElem_map, nth_eq h]
theorem splice_set {α β : Type} {l : List α} {f : α → β} {p : Nat} {x : β} {y : α} (h : p < l.length) : Go.splice (x :: l.map f) (p + 1) [f y] = x :: (l.set p y).map f := by
 simp only [Go.splice, List.length_singleton, List.take_succ_cons, List.drop_succ_cons, List.cons_append]
 congr 1
 rw [List.map_set, List.set_eq_take_append_cons_drop, if_pos (by simpa using h)]
 simp
theorem drop_cons_nth {α β : Type} [Inhabited α] {l : List α} {f : α → β} {p : Nat} (h : p < l.length) (x : β) : (x :: l.map f).drop (1 + p) = f (nth l p) :: (l.map f).drop (p + 1) := by
 rw [Nat.add_comm, List.drop_succ_cons]; exact drop_map_nth h
theorem splice_one {α β : Type} {l : List α} {f : α → β} {p : Nat} (h : p < l.length) (x : β) (y : α) : Go.splice (x :: l.map f) (1 + p) [f y] = x :: (l.set p y).map f := by
 rw [Nat.add_comm]; exact splice_set h
@[simp] theorem lts_cU (m : Nat) (l : List Nat) : AV.lts m (l.map cU) = true := by
 induction l with
 | nil => rfl
 | cons a l ih => simp [AV.lts, AV.lt, cU, ih]
@[simp] theorem lts_cU_set (m : Nat) (l : List Nat) (p x : Nat) : AV.lts m ((l.map cU).set p (cU x)) = true := by rw [← List.map_set]; exact lts_cU _ _
theorem shlO {c bit : Nat} (h : c < 64) (hb : bit = 2 ^ c) : shOp .shl .u64 1 (c : Int) = some (.int .u64 (bit : Int)) := by
 unfold shOp
 rw [if_neg (by omega), hb]
 exact congrArg (fun x => some (Value.int .u64 x)) (shlU h)
theorem andO {a b : Nat} (ha : a < 2^64) (hb : b < 2^64) : IntKind.u64.wrap ((a % 2 ^ IntKind.u64.bits &&& b % 2 ^ IntKind.u64.bits : Nat) : Int) = ((a &&& b : Nat) : Int) := by
 rw [show 2 ^ IntKind.u64.bits = 2 ^ 64 from rfl, Nat.mod_eq_of_lt ha, Nat.mod_eq_of_lt hb]
 exact wrapU64 (Nat.lt_of_le_of_lt Nat.and_le_left ha)
theorem orO {a b : Nat} (ha : a < 2^64) (hb : b < 2^64) : IntKind.u64.wrap ((a % 2 ^ IntKind.u64.bits ||| b % 2 ^ IntKind.u64.bits : Nat) : Int) = ((a ||| b : Nat) : Int) := by
 rw [show 2 ^ IntKind.u64.bits = 2 ^ 64 from rfl, Nat.mod_eq_of_lt ha, Nat.mod_eq_of_lt hb]
 exact wrapU64 (Nat.or_lt_two_pow ha hb)
def fillF (p : Nat) : Nat → Nat → List Int → Bool × List Int
 | 0, _, l => (true, l)
 | f + 1, j, l => if nth l (p + j) = -1 then fillF p f (j + 1) (l.set (p + j) 7) else (false, l)
def layS (ks : List Int) (ms : List Nat) (p k : Nat) (small : Bool) (cls : Int) (c : Nat) : Bool × List Int × List Nat :=
 if small = true then
  if nth ks p = cls ∧ nth ms p &&& 2 ^ c = 0 then (true, ks, ms.set p (nth ms p ||| 2 ^ c))
  else if nth ks p = -1 then (true, ks.set p cls, ms.set p (2 ^ c))
  else (false, ks, ms)
 else if (fillF p k 0 ks).1 = true then (true, (fillF p k 0 ks).2.set p 6, ms) else (false, (fillF p k 0 ks).2, ms)
theorem layS_bit {ks : List Int} {ms : List Nat} {p k : Nat} {small : Bool} {cls : Int} {c bit : Nat} (h : bit = 2 ^ c) : layS ks ms p k small cls c = if small = true then
    if nth ks p = cls ∧ nth ms p &&& bit = 0 then (true, ks, ms.set p (nth ms p ||| bit))
    else if nth ks p = -1 then (true, ks.set p cls, ms.set p bit)
    else (false, ks, ms)
 else if (fillF p k 0 ks).1 = true then (true, (fillF p k 0 ks).2.set p 6, ms) else (false, (fillF p k 0 ks).2, ms) := by subst h; rfl
theorem fillF_t {p f j : Nat} {l : List Int} (h : nth l (p + j) = -1) : fillF p (f + 1) j l = fillF p f (j + 1) (l.set (p + j) 7) := by
 conv => lhs; unfold fillF
 rw [if_pos h]
theorem fillF_f {p f j : Nat} {l : List Int} (h : nth l (p + j) ≠ -1) : fillF p (f + 1) j l = (false, l) := by
 conv => lhs; unfold fillF
 rw [if_neg h]
theorem fillF_len {p : Nat} : ∀ {f j : Nat} {l : List Int}, (fillF p f j l).2.length = l.length
 | 0, _, _ => rfl
 | f + 1, j, l => by
  unfold fillF
  split
  · rw [fillF_len]; simp
  · rfl
open Go.Awp
theorem in129 (g : Gl) (o0 o1 o4 o5 o6 o7 o8 o9 o10 : Awp.Obj) (ks : List Int) (n : Nat) (hn : ks.length = n) (ms : List Nat) (p k : Nat) (small : Bool) (kd : Int) (c : Nat) (h1 : ms.length = 64) (h2 : ks.length ≤ 64) (h3 : p < ks.length) (h4 : p + k ≤ ks.length) (h5 : c < 64) (h6 : nth ms p < 2^64) (z0 : o0.lt 11 = true) (z1 : o1.lt 11 = true) (z4 : o4.lt 11 = true) (z5 : o5.lt 11 = true) (z6 : o6.lt 11 = true) (z7 : o7.lt 11 = true) (z8 : o8.lt 11 = true) (z9 : o9.lt 11 = true) (z10 : o10.lt 11 = true) :
    ∀ B S, CallsA Try.prog g B S ⟨11, true⟩ 129 [.ptr 3 0 0, .agg [.d (vI p), .d (vI k), .d (vT small), .d (vI kd), .d (vI c)]] [o0, o1, .row 1 (ks.map vI), .var 148 (AV.hdr 2 0 n :: ms.map cU), o4, o5, o6, o7, o8, o9, o10]
    (fun x r => x = .d (vT (layS ks ms p k small kd c).1) ∧ r = [o0, o1, .row 1 ((layS ks ms p k small kd c).2.1.map vI), .var 148 (AV.hdr 2 0 n :: (layS ks ms p k small kd c).2.2.map cU), o4, o5, o6, o7, o8, o9, o10]) := by
 refine callsA_at Try.func129 rfl (Nat.le_of_ble_eq_true rfl) fun B S => ?_
 subst hn
 obtain ⟨bit, hbit⟩ : ∃ bit : Nat, bit = 2 ^ c := ⟨_, rfl⟩
 have b1 := shlO h5 hbit
 have b2 : bit < 2 ^ 64 := by rw [hbit]; exact Nat.pow_lt_pow_right (by omega) h5
 have b3 := andO h6 b2
 have b4 := orO h6 b2
 have hl := layS_bit (ks := ks) (ms := ms) (p := p) (k := k) (small := small) (cls := kd) hbit
 have r1 : p < ms.length := by omega
 have q1 : (p : Int) < 64 := by omega
 have d1 := drop_cons_nth (f := cU) r1
 have d2 : ∀ (x : AV) (m : Nat), Go.splice (x :: ms.map cU) (1 + p) [AV.d (vU m)] = x :: (ms.set p m).map cU := fun x m => splice_one (f := cU) r1 x m
 have q2 : 1 + p + 1 ≤ ms.length + 1 := by omega
 refine xU ?_
 iterate 2 (refine xO ?_ (h := by simp [z0, z1, z4, z5, z6, z7, z8, z9, z10, d1]; exact .mk))
 refine xG [0,3] ?_
 iterate 2 (refine xO ?_ (h := by simp [z0, z1, z4, z5, z6, z7, z8, z9, z10, d1]; exact .mk))
 refine xO ?_ (h := by simp [z0, z1, z4, z5, z6, z7, z8, z9, z10, d1, b1]; exact .mk)
 refine xO ?_ (h := by simp [z0, z1, z4, z5, z6, z7, z8, z9, z10, d1]; exact .mk)
 refine xF [0,3,5] ?_
 refine W_seq (W_block ?_)
 refine W_seq ?_
 refine W_regD (by kernel_rfl) [] 4 [0,1,2,3,4,5,6,7,8,9,10,11,12,13,14,15,16,17,18,19,20,21,22,23,24,25,26,27] (by decide +kernel) ?_
 iterate 3 (refine xO ?_ (h := by simp [z0, z1, z4, z5, z6, z7, z8, z9, z10, d1]; exact .mk))
 iterate 6 (refine run_if rfl (by simp [z0, z1, z4, z5, z6, z7, z8, z9, z10, d1]; exact .mk) rfl (by simp <;> first | omega | grind) (fun hb => by simp [z0, z1, z4, z5, z6, z7, z8, z9, z10, d1]; exact .mk) ?_)
 refine run_if rfl (by simp [z0, z1, z4, z5, z6, z7, z8, z9, z10, d1]; exact .mk) rfl (by simp <;> first | omega | grind) (fun hb => by simp [z0, z1, z4, z5, z6, z7, z8, z9, z10, d1, h3]; exact .mk) ?_
 refine run_if rfl (by simp [z0, z1, z4, z5, z6, z7, z8, z9, z10, d1]; exact .mk) rfl (by simp <;> first | omega | grind) (fun hb => by simp [-List.getElem?_map, map_get h3]; exact .mk) ?_
 iterate 3 (refine run_if rfl (by simp [z0, z1, z4, z5, z6, z7, z8, z9, z10, d1]; exact .mk) rfl (by simp <;> first | omega | grind) (fun hb => by simp [z0, z1, z4, z5, z6, z7, z8, z9, z10, d1]; exact .mk) ?_)
 refine run_pick rfl (by simp [z0, z1, z4, z5, z6, z7, z8, z9, z10, d1]; exact .mk) rfl rfl (by simp) (by simp [z0, z1, z4, z5, z6, z7, z8, z9, z10, d1]; exact .mk) (by simp [z0, z1, z4, z5, z6, z7, z8, z9, z10, d1]; exact .mk) (by simp; exact .mk) ?_
 refine run_op1 rfl rfl rfl (by simp <;> first | omega | grind) (by simp [z0, z1, z4, z5, z6, z7, z8, z9, z10, d1]; exact .mk) ?_
 iterate 5 (refine run_if rfl (by simp [z0, z1, z4, z5, z6, z7, z8, z9, z10, d1]; exact .mk) rfl (by simp <;> first | omega | grind) (fun hb => by simp [z0, z1, z4, z5, z6, z7, z8, z9, z10, d1]; exact .mk) ?_)
 refine run_if rfl (by simp [z0, z1, z4, z5, z6, z7, z8, z9, z10, d1]; exact .mk) rfl (by simp <;> first | omega | grind) (fun hb => by simp [z0, z1, z4, z5, z6, z7, z8, z9, z10, d1, indexAddrA, q1]; exact .mk) ?_
 refine run_if rfl (by simp [z0, z1, z4, z5, z6, z7, z8, z9, z10, d1]; exact .mk) rfl (by simp <;> first | omega | grind) (fun hb => by simp [z0, z1, z4, z5, z6, z7, z8, z9, z10, d1, cU]; exact .mk) ?_
 refine run_if rfl (by simp [z0, z1, z4, z5, z6, z7, z8, z9, z10, d1]; exact .mk) rfl (by simp <;> first | omega | grind) (fun hb => by simp [z0, z1, z4, z5, z6, z7, z8, z9, z10, d1]; exact .mk) ?_
 refine run_if rfl (by simp [z0, z1, z4, z5, z6, z7, z8, z9, z10, d1]; exact .mk) rfl (by simp <;> first | omega | grind) (fun hb => by simp [z0, z1, z4, z5, z6, z7, z8, z9, z10, d1, b3]; exact .mk) ?_
 refine run_if rfl (by simp [z0, z1, z4, z5, z6, z7, z8, z9, z10, d1]; exact .mk) rfl (by simp <;> first | omega | grind) (fun hb => by simp [z0, z1, z4, z5, z6, z7, z8, z9, z10, d1]; exact .mk) ?_
 refine run_pick rfl (by simp [z0, z1, z4, z5, z6, z7, z8, z9, z10, d1]; exact .mk) rfl rfl (by simp) (by simp [z0, z1, z4, z5, z6, z7, z8, z9, z10, d1]; exact .mk) (by simp [z0, z1, z4, z5, z6, z7, z8, z9, z10, d1]; exact .mk) (by simp; exact .mk) ?_
 refine run_op1 rfl rfl rfl (by simp <;> first | omega | grind) (by simp [z0, z1, z4, z5, z6, z7, z8, z9, z10, d1]; exact .mk) ?_
 refine xF [0,3,5,10] ?_
 refine W_cond rfl ?_ ?_
 · intro h10
   have hc : small = true ∧ nth ks p = kd ∧ nth ms p &&& bit = 0 := by simp at h10; grind
   rw [if_pos hc.1, if_pos hc.2] at hl
   refine W_seq ?_
   refine W_regD (by kernel_rfl) [] 4 [0,1,2,3,4,5,6,7,8,9,10,11,12] (by decide +kernel) ?_
   iterate 5 (refine xO ?_ (h := by simp [z0, z1, z4, z5, z6, z7, z8, z9, z10, d1]; exact .mk))
   refine xO ?_ (h := by simp [z0, z1, z4, z5, z6, z7, z8, z9, z10, d1, indexAddrA, q1]; exact .mk)
   refine xO ?_ (h := by simp [z0, z1, z4, z5, z6, z7, z8, z9, z10, d1, cU]; exact .mk)
   refine xO ?_ (h := by simp [z0, z1, z4, z5, z6, z7, z8, z9, z10, d1]; exact .mk)
   refine xO ?_ (h := by simp [z0, z1, z4, z5, z6, z7, z8, z9, z10, d1, b4]; exact .mk)
   iterate 2 (refine xO ?_ (h := by simp [z0, z1, z4, z5, z6, z7, z8, z9, z10, d1]; exact .mk))
   refine xO ?_ (h := by simp [z0, z1, z4, z5, z6, z7, z8, z9, z10, d1, indexAddrA, q1]; exact .mk)
   refine xO ?_ (h := by simp [d2, q2]; exact .mk)
   refine xG [] ?_
   refine xO ?_ (h := by simp [z0, z1, z4, z5, z6, z7, z8, z9, z10, d1]; exact .mk)
   refine xF [4] ?_
   refine W_ret (endAt_drop 11 (by simp [z0, z1, z4, z5, z6, z7, z8, z9, z10, d1, Try.f129]; exact .mk) ?_ ?_ (by simp) (by simp [z0, z1, z4, z5, z6, z7, z8, z9, z10, d1]) (by simp [z0, z1, z4, z5, z6, z7, z8, z9, z10, d1]))
   · simp [hl]
   simp [hl, nrmL, nrm]
 intro h10
 refine W_seq ?_
 refine W_regD (by kernel_rfl) [] 4 [0,1,2,3,4,5,6,7,8,9,10,11,12,13] (by decide +kernel) ?_
 iterate 3 (refine xO ?_ (h := by simp [z0, z1, z4, z5, z6, z7, z8, z9, z10, d1]; exact .mk))
 iterate 6 (refine run_if rfl (by simp [z0, z1, z4, z5, z6, z7, z8, z9, z10, d1]; exact .mk) rfl (by simp <;> first | omega | grind) (fun hb => by simp [z0, z1, z4, z5, z6, z7, z8, z9, z10, d1]; exact .mk) ?_)
 refine run_if rfl (by simp [z0, z1, z4, z5, z6, z7, z8, z9, z10, d1]; exact .mk) rfl (by simp <;> first | omega | grind) (fun hb => by simp [z0, z1, z4, z5, z6, z7, z8, z9, z10, d1, h3]; exact .mk) ?_
 refine run_if rfl (by simp [z0, z1, z4, z5, z6, z7, z8, z9, z10, d1]; exact .mk) rfl (by simp <;> first | omega | grind) (fun hb => by simp [-List.getElem?_map, map_get h3]; exact .mk) ?_
 refine run_if rfl (by simp [z0, z1, z4, z5, z6, z7, z8, z9, z10, d1]; exact .mk) rfl (by simp <;> first | omega | grind) (fun hb => by simp [z0, z1, z4, z5, z6, z7, z8, z9, z10, d1]; exact .mk) ?_
 refine run_pick rfl (by simp [z0, z1, z4, z5, z6, z7, z8, z9, z10, d1]; exact .mk) rfl rfl (by simp) (by simp [z0, z1, z4, z5, z6, z7, z8, z9, z10, d1]; exact .mk) (by simp [z0, z1, z4, z5, z6, z7, z8, z9, z10, d1]; exact .mk) (by simp; exact .mk) ?_
 refine run_op1 rfl rfl rfl (by simp <;> first | omega | grind) (by simp [z0, z1, z4, z5, z6, z7, z8, z9, z10, d1]; exact .mk) ?_
 refine xF [0,3,5,50] ?_
 refine W_cond rfl ?_ ?_
 · intro h50
   have hc2 : small = true ∧ nth ks p = -1 := by simp at h50; grind
   have hc3 : ¬ (nth ks p = kd ∧ nth ms p &&& bit = 0) := by simp [hc2] at h10; grind
   rw [if_pos hc2.1, if_neg hc3, if_pos hc2.2] at hl
   refine W_seq ?_
   refine W_regD2 (hard := []) 8 13 (keepOk_lt (by decide)) (by kernel_rfl) 4 [0,1,2,3,4,5,6,7,8,9,10,11,12,14,15,13,16,17] [0,1,2,3,4,5,6,7,9,10,11,12,14,15,13,8,16,17] (by decide +kernel) (by decide +kernel) ?_ ?_
   · skip
     iterate 12 (refine xO ?_ (h := by simp [z0, z1, z4, z5, z6, z7, z8, z9, z10, d1]; exact .mk))
     refine xO ?_ (h := by simp [z0, z1, z4, z5, z6, z7, z8, z9, z10, d1, h3]; exact .mk)
     iterate 2 (refine xO ?_ (h := by simp [z0, z1, z4, z5, z6, z7, z8, z9, z10, d1]; exact .mk))
     refine xO ?_ (h := by simp [z0, z1, z4, z5, z6, z7, z8, z9, z10, d1, splice, h3, putC, nrmL, nrm, -List.map_set]; exact .mk)
     refine xO ?_ (h := by simp [z0, z1, z4, z5, z6, z7, z8, z9, z10, d1, indexAddrA, q1]; exact .mk)
     refine xO ?_ (h := by simp [d2, q2]; exact .mk)
     refine xG [] ?_
     refine xO ?_ (h := by simp [z0, z1, z4, z5, z6, z7, z8, z9, z10, d1]; exact .mk)
     refine xF [4] ?_
     refine W_ret (endAt_drop 11 (by simp [z0, z1, z4, z5, z6, z7, z8, z9, z10, d1, Try.f129]; exact .mk) ?_ ?_ (by simp) (by simp [z0, z1, z4, z5, z6, z7, z8, z9, z10, d1]) (by simp [z0, z1, z4, z5, z6, z7, z8, z9, z10, d1]))
     · simp [hl]
     simp [hl, nrmL, nrm]
   skip
   iterate 11 (refine xO ?_ (h := by simp [z0, z1, z4, z5, z6, z7, z8, z9, z10, d1]; exact .mk))
   refine xO ?_ (h := by simp [z0, z1, z4, z5, z6, z7, z8, z9, z10, d1, h3]; exact .mk)
   iterate 2 (refine xO ?_ (h := by simp [z0, z1, z4, z5, z6, z7, z8, z9, z10, d1]; exact .mk))
   refine xO ?_ (h := by simp [z0, z1, z4, z5, z6, z7, z8, z9, z10, d1, splice, h3, putC, nrmL, nrm, -List.map_set]; exact .mk)
   refine xO ?_ (h := by simp [z0, z1, z4, z5, z6, z7, z8, z9, z10, d1]; exact .mk)
   refine xO ?_ (h := by simp [z0, z1, z4, z5, z6, z7, z8, z9, z10, d1, indexAddrA, q1]; exact .mk)
   refine xO ?_ (h := by simp [d2, q2]; exact .mk)
   refine xG [] ?_
   refine xO ?_ (h := by simp [z0, z1, z4, z5, z6, z7, z8, z9, z10, d1]; exact .mk)
   refine xF [4] ?_
   refine W_ret (endAt_drop 11 (by simp [z0, z1, z4, z5, z6, z7, z8, z9, z10, d1, Try.f129]; exact .mk) ?_ ?_ (by simp) (by simp [z0, z1, z4, z5, z6, z7, z8, z9, z10, d1]) (by simp [z0, z1, z4, z5, z6, z7, z8, z9, z10, d1]))
   · simp [hl]
   simp [hl, nrmL, nrm]
 intro h50
 refine xU ?_
 iterate 3 (refine xO ?_ (h := by simp [z0, z1, z4, z5, z6, z7, z8, z9, z10, d1]; exact .mk))
 refine xF [0,3,80] ?_
 refine W_cond rfl ?_ ?_
 · intro h80
   have hc2 : small = true := h80
   have hc3 : ¬ (nth ks p = kd ∧ nth ms p &&& bit = 0) := by simp [hc2] at h10; grind
   have hc4 : ¬ nth ks p = -1 := by simp [hc2] at h50; grind
   rw [if_pos hc2, if_neg hc3, if_neg hc4] at hl
   refine xU ?_
   refine xO ?_ (h := by simp [z0, z1, z4, z5, z6, z7, z8, z9, z10, d1]; exact .mk)
   refine xF [4] ?_
   refine W_ret (endAt_drop 11 (by simp [z0, z1, z4, z5, z6, z7, z8, z9, z10, d1, Try.f129]; exact .mk) ?_ ?_ (by simp) (by simp [z0, z1, z4, z5, z6, z7, z8, z9, z10, d1]) (by simp [z0, z1, z4, z5, z6, z7, z8, z9, z10, d1]))
   · simp [hl]
   simp [hl, nrmL, nrm]
 intro h80
 have hc2 : ¬ small = true := by simp [h80]
 rw [if_neg hc2] at hl
 refine W_skip ?_
 rintro -
 refine W_seq (xU ?_)
 iterate 3 (refine xO ?_ (h := by simp [z0, z1, z4, z5, z6, z7, z8, z9, z10, d1]; exact .mk))
 refine xF [0,3,84,85] ?_
 refine W_block (W_rounds (fun f σ o' => ∃ (j : Nat) (l : List Int), f = k - j ∧ j ≤ k ∧ l.length = ks.length ∧ fillF p f j l = fillF p k 0 ks ∧ σ = slots [(0, .ptr 3 0 0), (3, .ptr 11 0 0), (84, .d (vI k)), (85, .d (vI j))] ∧ o' = [o0, o1, .row 1 (l.map vI), .var 148 (AV.hdr 2 0 ks.length :: ms.map cU), o4, o5, o6, o7, o8, o9, o10, .var 177 [.d (vI p), .d (vI k), .d (vT small), .d (vI kd), .d (vI c)]]) k .refl ⟨0, ks, by simp, by simp, rfl, rfl, rfl, rfl⟩ ?_)
 rintro f σ o' ⟨j, l, rfl, hj, hlen, hinv, rfl, rfl⟩ _
 refine xU ?_
 refine xO ?_ (h := by simp [z0, z1, z4, z5, z6, z7, z8, z9, z10, d1]; exact .mk)
 refine xF [0,3,84,85,86] ?_
 refine W_seq (W_cond rfl ?_ ?_)
 · intro h86
   have hj2 : j < k := by simpa using h86
   have e1 : IntKind.i64.wrap ((p : Int) + (j : Int)) = ((p + j : Nat) : Int) := by rw [wrap64 (by omega) (by omega)]; omega
   have r3 : p + j < l.length := by omega
   have q3 : 0 ≤ (p : Int) + (j : Int) ∧ (p : Int) + (j : Int) < (ks.length : Int) := by omega
   have t3 : ((p : Int) + (j : Int)).toNat = p + j := by omega
   rw [show k - j = k - (j + 1) + 1 by omega] at hinv
   refine W_skip ?_
   rintro -
   refine W_seq (W_block ?_)
   refine xU ?_
   iterate 2 (refine xO ?_ (h := by simp [z0, z1, z4, z5, z6, z7, z8, z9, z10, d1]; exact .mk))
   refine xF [0,3,6,84,85] ?_
   refine W_seq (W_seq ?_)
   refine W_regD (by kernel_rfl) [] 4 [0,1,2,3,4,5,6,7,8,9,10] (by decide +kernel) ?_
   iterate 7 (refine xO ?_ (h := by simp [z0, z1, z4, z5, z6, z7, z8, z9, z10, d1]; exact .mk))
   refine xO ?_ (h := by simp [z0, z1, z4, z5, z6, z7, z8, z9, z10, d1, e1]; exact .mk)
   refine xO ?_ (h := by simp [z0, z1, z4, z5, z6, z7, z8, z9, z10, d1, q3, t3]; exact .mk)
   refine xO ?_ (h := by simp [-List.getElem?_map, map_get r3]; exact .mk)
   refine xO ?_ (h := by simp [z0, z1, z4, z5, z6, z7, z8, z9, z10, d1]; exact .mk)
   refine xF [0,3,6,84,85,98] ?_
   refine W_cond rfl ?_ ?_
   · intro h98
     rw [fillF_f (by simpa using h98)] at hinv
     rw [← hinv] at hl
     refine xU ?_
     refine xO ?_ (h := by simp [z0, z1, z4, z5, z6, z7, z8, z9, z10, d1]; exact .mk)
     refine xF [4] ?_
     refine W_ret (endAt_drop 11 (by simp [z0, z1, z4, z5, z6, z7, z8, z9, z10, d1, Try.f129]; exact .mk) ?_ ?_ (by simp) (by simp [z0, z1, z4, z5, z6, z7, z8, z9, z10, d1]) (by simp [z0, z1, z4, z5, z6, z7, z8, z9, z10, d1]))
     · simp [hl]
     simp [hl, nrmL, nrm]
   intro h98
   rw [fillF_t (by simpa using h98)] at hinv
   refine W_skip ?_
   rintro -
   refine W_regD (by kernel_rfl) [] 4 [0,1,2,3,4,5,6,7,8,9] (by decide +kernel) ?_
   iterate 7 (refine xO ?_ (h := by simp [z0, z1, z4, z5, z6, z7, z8, z9, z10, d1]; exact .mk))
   refine xO ?_ (h := by simp [z0, z1, z4, z5, z6, z7, z8, z9, z10, d1, e1]; exact .mk)
   refine xO ?_ (h := by simp [z0, z1, z4, z5, z6, z7, z8, z9, z10, d1, q3, t3]; exact .mk)
   refine xO ?_ (h := by simp [z0, z1, z4, z5, z6, z7, z8, z9, z10, d1, splice, r3, putC, nrmL, nrm, -List.map_set]; exact .mk)
   refine xF [0,3,84,85] ?_
   refine W_reg rfl ?_
   iterate 2 (refine xO ?_ (h := by simp [z0, z1, z4, z5, z6, z7, z8, z9, z10, d1]; exact .mk))
   refine xE [0,3,84,85] ?_
   refine rounds_kill [0,3,84,85] ?_
   exact rounds_next (m' := k - (j + 1)) (by omega) ⟨j + 1, l.set (p + j) 7, rfl, by omega, by simpa using hlen, hinv, by rw [wrap64 (by omega) (by omega)]; rfl, by simp [nrmL, nrm]⟩
 intro h86
 obtain rfl : j = k := by simp at h86; omega
 rw [Nat.sub_self] at hinv
 rw [← hinv] at hl
 have r4 : p < l.length := by omega
 simp only [fillF, if_true] at hl
 refine W_exit ?_
 rintro -
 refine W_seq ?_
 refine W_regD (by kernel_rfl) [] 4 [0,1,2,3,4,5,6,7] (by decide +kernel) ?_
 iterate 6 (refine xO ?_ (h := by simp [z0, z1, z4, z5, z6, z7, z8, z9, z10, d1]; exact .mk))
 refine xO ?_ (h := by simp [z0, z1, z4, z5, z6, z7, z8, z9, z10, d1, h3]; exact .mk)
 refine xO ?_ (h := by simp [z0, z1, z4, z5, z6, z7, z8, z9, z10, d1, splice, r4, putC, nrmL, nrm, -List.map_set]; exact .mk)
 refine xG [] ?_
 refine xO ?_ (h := by simp [z0, z1, z4, z5, z6, z7, z8, z9, z10, d1]; exact .mk)
 refine xF [4] ?_
 refine W_ret (endAt_drop 11 (by simp [z0, z1, z4, z5, z6, z7, z8, z9, z10, d1, Try.f129]; exact .mk) ?_ ?_ (by simp) (by simp [z0, z1, z4, z5, z6, z7, z8, z9, z10, d1]) (by simp [z0, z1, z4, z5, z6, z7, z8, z9, z10, d1]))
 · simp [hl]
 simp [hl, nrmL, nrm]

open Go.Awp
theorem ct61 (g : Gl) (s : Stt) (hs : s.Ok) : CtAt Try.prog g 61 [eStt s] (oBk (onesS s.slots)) := by
 refine ctAt_of_W Try.func61 rfl rfl (Nat.le_of_ble_eq_true rfl) fun B S => ?_
 simp only [eStt, List.map, argD_agg]
 have q0 := hs.h1
 refine xU ?_
 iterate 2 refine xO ?_
 refine xG [1] ?_
 refine xO ?_
 refine xF [1,3] ?_
 refine W_seq (xU ?_)
 refine xO ?_
 refine xO ?_ (h := by simp [eSlot]; exact .mk)
 iterate 2 refine xO ?_
 refine xF [3,9,10,11] ?_
 refine W_block ?_
 refine W_rounds (fun m σ o => ∃ i : Nat, m = s.slots.length - i ∧ i ≤ s.slots.length ∧ σ = slots [(3, .hdr 1 0 (oneIx s.slots i).length), (9, .d (rSl s.slots)), (10, .d (vI s.slots.length)), (11, .d (vI i))] ∧ o = [.var 52 [.d (vI s.sh.pages), .d (vI s.sh.slots), .d (vI s.sh.roots), .d (vI s.sh.room), .d (vI s.mode), .d (vI s.base), .d (rSl s.slots), .d (rR s.roots), .d (rBB s.data)], .row 3 ((oneIx s.slots i).map fun j => eBlk (blkAt s.slots j))]) s.slots.length
  (Weak.trans (Weak.nilRow 3 3 rfl) (Weak.kills [3,9,10,11] rfl) (fun _ _ _ h1 h2 => by rw [← h1.len]; exact h2)) ⟨0, by simp, by simp, by simp [oneIx], by simp [oneIx]⟩ ?_
 rintro m σ o ⟨i, rfl, hi, rfl, rfl⟩ _
 have hle := oneIx_len (l := s.slots) (i := i)
 refine xU ?_
 refine xO ?_
 refine xF [3,9,10,11,12] ?_
 refine W_seq (W_cond rfl ?_ ?_)
 · intro h12
   have hi2 : i < s.slots.length := by simpa using h12
   refine W_skip ?_
   rintro -
   refine W_seq (W_block ?_)
   refine xU ?_
   refine xO ?_
   refine xO ?_ (h := by simp [eSlot, *]; exact .mk)
   refine xO ?_ (h := by simp [eSlot]; exact .mk)
   iterate 2 refine xO ?_
   refine xO ?_ (h := by simp [splice]; exact .mk)
   refine xG [3,4,5,9,10,11] ?_
   refine xO ?_
   refine xO ?_ (h := by simp [eSlot]; exact .mk)
   refine xO ?_
   refine xI ?_
   refine run_if rfl (by simp; exact .mk) rfl (by simp <;> first | omega | grind) (fun hb => by simp [eSlot]; exact .mk) ?_
   refine xI ?_
   refine xP ?_
   refine xF [3,4,5,9,10,11,22] ?_
   refine W_cond rfl ?_ ?_
   · intro h22
     have h2 : isOne (nth s.slots i) = true := by simpa [isOne] using h22
     have e1 : ((oneIx s.slots i).length + 1) * 24 ≤ 140737488355328 := by omega
     have e2 : (oneIx s.slots i).length ≤ 140737488355327 := by omega
     refine xU ?_
     refine xO ?_
     refine xO ?_ (h := by simp [eSlot]; exact .mk)
     refine xC (ct101 g _) ?_
     iterate 5 refine xO ?_
     refine xF [3,4,5,6,9,10,11] ?_
     refine W_reg rfl ?_
     iterate 2 refine xO ?_
     refine xO ?_ (h := by simp [eSlot]; exact .mk)
     iterate 2 refine xO ?_
     refine xO ?_ (h := by simp [splice]; exact .mk)
     refine xO ?_
     refine xO ?_ (h := by simp [rows, e1, e2]; exact .mk)
     refine xO ?_
     refine xF [3,9,10,11] ?_
     refine W_reg rfl ?_
     iterate 2 refine xO ?_
     refine xE [3,9,10,11] ?_
     refine rounds_kill [3,9,10,11] ?_
     first
     | (refine rounds_drop 2 [3,9,10,11] (by decide) (by rfl) (by rfl) ?_
        refine rounds_next (m' := s.slots.length - (i+1)) (by omega) ⟨i+1, rfl, by omega, ?_, ?_⟩
        · rw [wrap64 (by omega) (by omega), oneIx_f h2]; rfl
        rw [oneIx_f h2]; rfl)
     | (refine rounds_kills [3,9,10,11] rfl ?_
        refine rounds_swap 1 4 1 (by decide) (by simp) (by decide) rfl rfl ?_
        refine rounds_drop 2 [3,9,10,11] (by decide) (by rfl) (by rfl) ?_
        refine rounds_next (m' := s.slots.length - (i+1)) (by omega) ⟨i+1, rfl, by omega, ?_, ?_⟩
        · rw [wrap64 (by omega) (by omega), oneIx_t h2]; simp; try rfl
        rw [oneIx_t h2]; simp [eBlk, blkAt]; try rfl)
   intro h22
   have h2 : isOne (nth s.slots i) = false := by simpa [isOne] using h22
   refine W_skip ?_
   rintro -
   refine W_reg rfl ?_
   iterate 2 refine xO ?_
   refine xE [3,9,10,11] ?_
   refine rounds_kill [3,9,10,11] ?_
   first
   | (refine rounds_drop 2 [3,9,10,11] (by decide) (by rfl) (by rfl) ?_
      refine rounds_next (m' := s.slots.length - (i+1)) (by omega) ⟨i+1, rfl, by omega, ?_, ?_⟩
      · rw [wrap64 (by omega) (by omega), oneIx_f h2]; rfl
      rw [oneIx_f h2]; rfl)
   | (refine rounds_kills [3,9,10,11] rfl ?_
      refine rounds_swap 1 4 1 (by decide) (by simp) (by decide) rfl rfl ?_
      refine rounds_drop 2 [3,9,10,11] (by decide) (by rfl) (by rfl) ?_
      refine rounds_next (m' := s.slots.length - (i+1)) (by omega) ⟨i+1, rfl, by omega, ?_, ?_⟩
      · rw [wrap64 (by omega) (by omega), oneIx_t h2]; simp; try rfl
      rw [oneIx_t h2]; simp [eBlk, blkAt]; try rfl)
 intro h12
 obtain rfl : i = s.slots.length := by simp at h12; omega
 obtain ⟨L, hL⟩ : ∃ L, L = onesR s.slots := ⟨_, rfl⟩
 have hm : (oneIx s.slots s.slots.length).map (fun j => eBlk (blkAt s.slots j)) = L.map eBlk := by rw [hL, onesR, List.map_map]; rfl
 have hm2 : (oneIx s.slots s.slots.length).length = L.length := by rw [hL, onesR, List.length_map]
 rw [hm, hm2]
 refine W_exit (xT ?_)
 refine xO ?_
 refine run_inl0 rfl rfl rfl rfl (by simp; exact .mk) ⟨_, Try.func102, rfl, rfl⟩ (in102 g _ L (by omega)) (.inl (by simp)) ?_
 refine xE [3] ?_
 have hLe : L.length = (stS ltB L).length := nodup_of_stS.symm
 rw [hLe]
 refine xT ?_
 iterate 2 refine xO ?_
 refine xF [2] ?_
 refine W_ret (xR (by simp [Try.f61]; exact .mk) ?_)
 simp [Try.f61, ownR, onesS, hL]; try rfl

open Go.Awp
def layO (pages : Int) (st : List Int × List Nat) (o : Int × Int) : Bool × List Int × List Nat :=
 if (spotS pages o).2 = true then layS st.1 st.2 (spotS pages o).1.page.toNat (spotS pages o).1.count.toNat (spotS pages o).1.small (spotS pages o).1.cls (spotS pages o).1.cell.toNat else (false, st)
def stI (pages : Int) (l : List (Int × Int)) : Nat → List Int × List Nat
 | 0 => (List.replicate pages.toNat (-1), List.replicate 64 0)
 | i + 1 => (layO pages (stI pages l i) (nth l i)).2
def okI (pages : Int) (l : List (Int × Int)) (i : Nat) : Bool := (layO pages (stI pages l i) (nth l i)).1
def laidS (pages : Int) (l : List (Int × Int)) : Option (List Int × List Nat) :=
 if decide (0 ≤ pages ∧ pages ≤ 64) && (List.range l.length).all (okI pages l) then some (stI pages l l.length) else none
theorem layS_len {ks : List Int} {ms : List Nat} {p k : Nat} {small : Bool} {kd : Int} {c : Nat} : (layS ks ms p k small kd c).2.1.length = ks.length ∧ (layS ks ms p k small kd c).2.2.length = ms.length := by
 unfold layS
 repeat' split
 all_goals simp [fillF_len]
theorem layO_len {pages : Int} {st : List Int × List Nat} {o : Int × Int} : (layO pages st o).2.1.length = st.1.length ∧ (layO pages st o).2.2.length = st.2.length := by
 unfold layO; split
 · exact layS_len
 · exact ⟨rfl, rfl⟩
theorem stI_len {pages : Int} {l : List (Int × Int)} : ∀ {i : Nat}, (stI pages l i).1.length = pages.toNat ∧ (stI pages l i).2.length = 64
 | 0 => by simp [stI]
 | i + 1 => by
  have := stI_len (pages := pages) (l := l) (i := i)
  have h := layO_len (pages := pages) (st := stI pages l i) (o := nth l i)
  exact ⟨h.1.trans this.1, h.2.trans this.2⟩
theorem whichS_le {c off : Int} (h : (whichS c off).2 = true) (ho : off ≤ 32) : 0 ≤ (whichS c off).1 ∧ (whichS c off).1 ≤ 28 := by
 unfold whichS at h ⊢
 split
 · rename_i h1; rw [if_pos h1] at h; simp at h
 · rename_i h1
   rw [if_neg h1] at h
   have hk : 2 ≤ nth wordsL c.toNat ∧ nth wordsL c.toNat ≤ 15 := by
    have : c.toNat = 0 ∨ c.toNat = 1 ∨ c.toNat = 2 ∨ c.toNat = 3 ∨ c.toNat = 4 ∨ c.toNat = 5 := by omega
    rcases this with h | h | h | h | h | h <;> rw [h] <;> decide
   split
   · rename_i h2; rw [if_pos h2] at h; simp at h
   · simp only
     rw [Int.tdiv_eq_ediv_of_nonneg (by omega)]
     exact ⟨Int.ediv_nonneg (by omega) (by omega), Int.le_trans (Int.ediv_le_self _ (by omega)) (by omega)⟩
theorem spot_ok {pages : Int} {o : Int × Int} (h : (spotS pages o).2 = true) : ∃ (p k c : Nat), (spotS pages o).1 = ⟨p, k, (spotS pages o).1.small, (spotS pages o).1.cls, c⟩ ∧ (p : Int) < pages ∧ 1 ≤ k ∧ (p : Int) + k ≤ pages ∧ c < 64 := by
 unfold spotS at h ⊢
 split
 · rename_i h1; rw [if_pos h1] at h; simp at h
 · rename_i h1
   rw [if_neg h1] at h
   have hp : 0 ≤ o.1.tdiv 32 := Int.tdiv_nonneg (by omega) (by omega)
   split
   · rename_i h2
     rw [if_pos h2] at h
     simp only [Bool.and_eq_true, decide_eq_true_eq] at h
     have := whichS_le h.1 (by rw [Int.tmod_eq_emod_of_nonneg (by omega)]; omega)
     refine ⟨(o.1.tdiv 32).toNat, 1, (whichS (classS o.2).1 (o.1.tmod 32)).1.toNat, ?_, by omega, by omega, by omega, by omega⟩
     simp only [Spot.mk.injEq, and_true, true_and]
     omega
   · rename_i h2
     rw [if_neg h2] at h
     simp only [Bool.and_eq_true, decide_eq_true_eq] at h
     obtain ⟨⟨⟨q1, q2⟩, q3⟩, q4⟩ := h
     have hk : 1 ≤ (pagesS o.2).1 := by
      unfold pagesS at q1 ⊢
      split
      · rename_i h3; rw [if_pos h3] at q1; simp at q1
      · simp only; rw [Int.tdiv_eq_ediv_of_nonneg (by omega)]; omega
     refine ⟨(o.1.tdiv 32).toNat, (pagesS o.2).1.toNat, 0, ?_, by omega, by omega, by omega, by omega⟩
     simp only [Spot.mk.injEq, and_true, true_and]
     omega
theorem layS_lt {ks : List Int} {ms : List Nat} {p k : Nat} {small : Bool} {kd : Int} {c : Nat} (hc : c < 64) (h : ∀ i, i < ms.length → nth ms i < 2^64) : ∀ i, i < ms.length → nth (layS ks ms p k small kd c).2.2 i < 2^64 := by
 have h2 : 2 ^ c < 2 ^ 64 := Nat.pow_lt_pow_right (by omega) hc
 have key : ∀ x : Nat, (p < ms.length → x < 2^64) → ∀ i, i < ms.length → nth (ms.set p x) i < 2^64 := by
  intro x hx i hi
  by_cases e : p = i
  · subst e; rw [nth_eq (by simpa using hi)]; simpa using hx hi
  · rw [nth_eq (by simpa using hi), List.getElem_set_ne e, ← nth_eq hi]; exact h i hi
 unfold layS
 repeat' split
 · exact key _ fun hp => Nat.or_lt_two_pow (h p hp) h2
 · exact key _ fun _ => h2
 all_goals exact h
theorem stI_lt {pages : Int} {l : List (Int × Int)} : ∀ {i : Nat}, ∀ j, j < 64 → nth (stI pages l i).2 j < 2^64
 | 0 => fun j hj => by
  show nth (List.replicate 64 0) j < 2^64
  rw [nth_eq (by rw [List.length_replicate]; exact hj), List.getElem_replicate]; omega
 | i + 1 => fun j hj => by
  simp only [stI, layO]
  split
  · rename_i h
    obtain ⟨p, k, c, e, _, _, _, hc⟩ := spot_ok h
    rw [e]
    exact layS_lt (by simpa using hc) (by rw [stI_len.2]; exact fun j hj => stI_lt j hj) j (by rw [stI_len.2]; exact hj)
  · exact stI_lt j hj
theorem rep_set {α : Type} {a b : α} {i n : Nat} (h : i < n) : (List.replicate i a ++ List.replicate (n - i) b).set i a = List.replicate (i + 1) a ++ List.replicate (n - (i + 1)) b := by
 rw [List.set_append_right _ _ (by simp), show n - i = n - (i + 1) + 1 by omega, List.replicate_succ]
 simp [List.replicate_succ']
def fillL (n i : Nat) : List Int := List.replicate i (-1) ++ List.replicate (n - i) 0
theorem fillL_len {n i : Nat} (h : i ≤ n) : (fillL n i).length = n := by simp [fillL]; omega
theorem fillL_0 {n : Nat} : fillL n 0 = List.replicate n 0 := by simp [fillL]
theorem fillL_n {n : Nat} : fillL n n = List.replicate n (-1) := by simp [fillL]
theorem fillL_set {n i : Nat} (h : i < n) : ((fillL n i).map vI).set i (vI (-1)) = (fillL n (i + 1)).map vI := by
 rw [← List.map_set]; exact congrArg _ (rep_set h)
end Go.Proofs
