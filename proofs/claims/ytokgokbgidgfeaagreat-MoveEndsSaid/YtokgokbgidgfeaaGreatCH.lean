/- Contracts of the program's functions, each against a plain function over lists and numbers (it answers what that one answers, for arguments of at most 2^40 elements where a lemma says so), and plain facts about these. -/
import Derived.Test.YtokgokbgidgfeaaGreatCG
import Derived.Test.YtokgokbgidgfeaaGreatAwpD
import Derived.Test.YtokgokbgidgfeaaGreatCF
import Derived.Test.YtokgokbgidgfeaaGreatCB
set_option linter.all false
set_option maxHeartbeats 4000000
set_option maxRecDepth 4000
namespace Go.Proofs
open Go.Awp
theorem ct29 (g : Gl) (s : Stt) (hs : s.Ok) : CtAt Tryz.prog g 29 [eStt s] (oBk (onesS s.slots)) := by
 refine ctAt_of_W Tryz.func29 rfl rfl (Nat.le_of_ble_eq_true rfl) fun B S => ?_
 simp only [eStt, List.map, argD_agg, argD_v]
 have q0 := hs.h1
 refine xU ?_
 iterate 2 refine xO ?_
 refine xG [1] ?_
 refine xO ?_
 refine xF [1,3] ?_
 refine W_seq (xU ?_)
 refine xO ?_
 refine xF [1,3,4] ?_
 refine W_block (W_rounds (fun m σ o => ∃ i : Nat, m = s.slots.length - i ∧ i ≤ s.slots.length ∧ σ = slots [(1, .ptr 0 0 0), (3, .hdr 1 0 (insI s.slots i).length), (4, .d (vI i))] ∧ o = [.var 28 [.d (vI s.sh.pages), .d (vI s.sh.slots), .d (vI s.sh.roots), .d (vI s.sh.room), .d (vI s.mode), .d (vI s.base), .d (rSl s.slots), .d (rR s.roots), .d (rBB s.data)], .row 3 ((insI s.slots i).map eBlk)]) s.slots.length (Weak.trans (Weak.nilRow 3 3 rfl) (Weak.kills [1,3,4] rfl) (fun _ _ _ h1 h2 => by rw [← h1.len]; exact h2)) ⟨0, by simp, by simp, by simp [insI], by simp [insI]⟩ ?_)
 rintro m σ o ⟨i, rfl, hi, rfl, rfl⟩ _
 have hle := insI_len (l := s.slots) (i := i)
 obtain ⟨L, hL⟩ : ∃ L, L = insI s.slots i := ⟨_, rfl⟩
 rw [← hL] at hle ⊢
 refine W_seq (xU ?_)
 iterate 2 refine xO ?_
 refine xO ?_ (h := by simp [eBlk]; exact .mk)
 iterate 2 refine xO ?_
 refine xF [1,3,4,14] ?_
 refine W_cond rfl ?_ ?_
 · intro h14
   have hi2 : i < s.slots.length := by simpa using h14
   refine W_skip ?_
   rintro -
   refine W_seq (W_block ?_)
   refine xU ?_
   refine xO ?_
   refine xO ?_ (h := by simp [eBlk]; exact .mk)
   refine xO ?_
   refine xO ?_ (h := by simp [eBlk, hi2]; exact .mk)
   refine xO ?_ (h := by simp [-List.getElem?_map, map_get hi2, eSlot]; exact .mk)
   refine xO ?_
   refine xO ?_ (h := by simp [splice]; exact .mk)
   refine xF [1,3,4,5] ?_
   refine W_seq (xU ?_)
   refine xO ?_
   refine xO ?_ (h := by simp [eBlk]; exact .mk)
   iterate 2 refine xO ?_
   refine xI ?_
   refine run_if rfl (by simp; exact .mk) rfl (by simp <;> first | omega | grind) (fun hb => by simp [eBlk]; exact .mk) ?_
   refine xP ?_
   refine xF [1,3,4,5,28] ?_
   refine W_cond rfl ?_ ?_
   · intro h28
     have h2 : isOne (nth s.slots i) = false := by simp [isOne]; simp at h28; grind
     have hI : insI s.slots (i + 1) = L := by rw [hL]; exact insI_f h2
     refine W_exit ?_
     rintro -
     refine W_reg rfl ?_
     iterate 3 refine xO ?_
     refine xE [1,3,4] ?_
     refine rounds_kill [1,3,4] ?_
     first
     | (refine rounds_kills [1,3,4] rfl ?_
        refine rounds_drop 2 [1,3,4] (by decide) (by rfl) (by rfl) ?_
        refine rounds_next (m' := s.slots.length - (i+1)) (by omega) ⟨i+1, rfl, by omega, ?_, ?_⟩
        · rw [wrap64 (by omega) (by omega), hI]; rfl
        rw [hI]; rfl)
     | (refine rounds_kills [1,3,4] rfl ?_
        refine rounds_swap 1 6 1 (by decide) (by simp) (by decide) rfl rfl ?_
        refine rounds_drop 2 [1,3,4] (by decide) (by rfl) (by rfl) ?_
        refine rounds_next (m' := s.slots.length - (i+1)) (by omega) ⟨i+1, rfl, by omega, ?_, ?_⟩
        · rw [wrap64 (by omega) (by omega), hI]; simp [em, e12]
        rw [hI, List.map_append, List.map_cons, List.map_take, List.map_drop, htk, List.append_cons (List.take k (L.map eBlk)) (eBlk (blkAt s.slots i)) (List.drop k (L.map eBlk))]; simp [eBlk, blkAt]; rfl)
   intro h28
   have h2 : isOne (nth s.slots i) = true := by simp [isOne]; simp at h28; grind
   have hI : insI s.slots (i + 1) = insR L (blkAt s.slots i) := by rw [hL]; exact insI_t h2
   refine W_skip ?_
   refine xT ?_
   refine xO ?_
   refine xO ?_ (h := by simp [eBlk]; exact .mk)
   refine xC (ct87 g (nth s.slots i).len) ?_
   iterate 5 refine xO ?_
   refine xG [1,3,4,5,6] ?_
   refine xO ?_
   refine xF [1,3,4,5,6,8] ?_
   refine W_seq (W_block ?_)
   refine W_rounds (fun m σ o => ∃ k : Nat, m = L.length - k ∧ k ≤ L.length ∧ (∀ j, j < k → (nth L j).at_ ≤ (nth s.slots i).at_) ∧ σ = slots [(1, .ptr 0 0 0), (3, .hdr 1 0 L.length), (4, .d (vI i)), (5, .ptr 2 0 0), (6, .d (vI (needS (nth s.slots i).len).1)), (8, .d (vI k))] ∧ o = [.var 28 [.d (vI s.sh.pages), .d (vI s.sh.slots), .d (vI s.sh.roots), .d (vI s.sh.room), .d (vI s.mode), .d (vI s.base), .d (rSl s.slots), .d (rR s.roots), .d (rBB s.data)], .row 3 (L.map eBlk), .var 92 [.d (vI (nth s.slots i).gen), .d (vT (nth s.slots i).live), .d (vT (nth s.slots i).two), .d (vI (nth s.slots i).at_), .d (vI (nth s.slots i).len)]]) L.length .refl ⟨0, by simp, by simp, by simp, rfl, rfl⟩ ?_
   rintro m σ o ⟨k, rfl, hk, hinv2, rfl, rfl⟩ _
   refine W_seq (W_seq ?_)
   refine W_regD (by kernel_rfl) [] 4 [0,1,2,3,4,5,6,7,8,9,10,11,12,13] (by decide +kernel) ?_
   iterate 5 refine xO ?_
   iterate 2 refine xI ?_
   refine run_if rfl (by simp; exact .mk) rfl (by simp <;> first | omega | grind) (fun hb => by simp at hb; simp [hb]; exact .mk) ?_
   refine xI ?_
   refine run_if rfl (by simp; exact .mk) rfl (by simp <;> first | omega | grind) (fun hb => by simp at hb; simp [-List.getElem?_map, map_get hb, eBlk]; exact .mk) ?_
   refine xI ?_
   refine run_if rfl (by simp; exact .mk) rfl (by simp <;> first | omega | grind) (fun hb => by simp [eBlk]; exact .mk) ?_
   refine xI ?_
   refine xP ?_
   refine xF [1,3,4,5,6,8,48] ?_
   refine W_cond rfl ?_ ?_
   · intro h48
     have hk2 : k < L.length ∧ (nth L k).at_ ≤ (nth s.slots i).at_ := by simpa using h48
     refine W_skip ?_
     rintro -
     refine W_block ?_
     refine W_reg rfl ?_
     iterate 3 refine xO ?_
     refine xE [1,3,4,5,6,8] ?_
     refine rounds_kill [1,3,4,5,6,8] ?_
     refine rounds_next (m' := L.length - (k+1)) (by omega) ⟨k+1, rfl, by omega, ?_, ?_, rfl⟩
     · intro t ht
       rcases Nat.lt_succ_iff_lt_or_eq.1 ht with ht | rfl
       · exact hinv2 t ht
       exact hk2.2
     rw [wrap64 (by omega) (by omega)]; rfl
   intro h48
   have hk3 : k < L.length → (nth s.slots i).at_ < (nth L k).at_ := by simp at h48; omega
   rw [insR_at (b := blkAt s.slots i) hk hinv2 hk3] at hI
   have e1 : (L.length + 1) * 24 ≤ 140737488355328 := by omega
   have e2 : L.length ≤ 140737488355327 := by omega
   have e3 : k * 24 ≤ 140737488355328 := by omega
   have e4 : k ≤ 140737488355328 := by omega
   have e5 : (k + 1) * 24 ≤ 140737488355328 := by omega
   have e6 : k ≤ 140737488355327 := by omega
   have e7 : (k + 1 + (L.length - k)) * 24 ≤ 140737488355328 := by omega
   have e8 : k + 1 + (L.length - k) ≤ 140737488355328 := by omega
   have em : min k L.length = k := by omega
   have e9 : (L.length - k) * 24 ≤ 140737488355328 := by omega
   have e10 : (k : Int) ≤ L.length := by omega
   have e11 : ¬ L.length < k + (L.length - k) := by omega
   have e12 : k + 1 + (L.length - k) = k + (L.length - k + 1) := by omega
   have htk : List.take (L.length - k) (List.drop k (L.map eBlk)) = List.drop k (L.map eBlk) := List.take_of_length_le (by simp)
   have hn1 : ∀ x, x ∈ List.take k (L.map eBlk) → x.noOwn = true := fun x hx => by obtain ⟨b, _, rfl⟩ := List.mem_map.1 (List.mem_of_mem_take hx); simp
   have hn2 : ∀ x, x ∈ List.drop k (L.map eBlk) → x.noOwn = true := fun x hx => by obtain ⟨b, _, rfl⟩ := List.mem_map.1 (List.mem_of_mem_drop hx); simp
   have hn3 : ∀ x, x ∈ List.take (L.length - k) (List.drop k (L.map eBlk)) → x.noOwn = true := fun x hx => hn2 x (List.mem_of_mem_take hx)
   refine W_exit (xT ?_)
   refine xO ?_
   refine xG [1,3,4,5,6,8,9] ?_
   iterate 3 refine xO ?_
   refine xO ?_ (h := by simp [optA, hk, e10]; exact .mk)
   refine xO ?_ (h := by simp [rows, em, e3, e4, Nat.not_lt.2 hk, if_pos hn1]; exact .mk)
   refine xO ?_
   refine xG [1,3,4,5,6,8,9] ?_
   iterate 2 refine xO ?_
   refine xO ?_ (h := by simp [eBlk]; exact .mk)
   iterate 2 refine xO ?_
   refine xO ?_ (h := by simp [splice]; exact .mk)
   refine xO ?_
   refine xO ?_ (h := by simp [rows, em, e5, e6]; exact .mk)
   refine xO ?_
   refine xF [1,3,4,8,9] ?_
   refine W_reg rfl ?_
   iterate 3 refine xO ?_
   refine xO ?_ (h := by simp [optA, hk, e10]; exact .mk)
   refine xO ?_ (h := by simp [rows, em, e7, e8, e9, e11, Nat.not_lt.2 hk, if_pos hn2, if_pos hn3]; exact .mk)
   refine xO ?_
   refine xF [1,3,4] ?_
   refine W_reg rfl ?_
   iterate 3 refine xO ?_
   refine xE [1,3,4] ?_
   refine rounds_kill [1,3,4] ?_
   first
   | (refine rounds_kills [1,3,4] rfl ?_
      refine rounds_drop 2 [1,3,4] (by decide) (by rfl) (by rfl) ?_
      refine rounds_next (m' := s.slots.length - (i+1)) (by omega) ⟨i+1, rfl, by omega, ?_, ?_⟩
      · rw [wrap64 (by omega) (by omega), hI]; rfl
      rw [hI]; rfl)
   | (refine rounds_kills [1,3,4] rfl ?_
      refine rounds_swap 1 6 1 (by decide) (by simp) (by decide) rfl rfl ?_
      refine rounds_drop 2 [1,3,4] (by decide) (by rfl) (by rfl) ?_
      refine rounds_next (m' := s.slots.length - (i+1)) (by omega) ⟨i+1, rfl, by omega, ?_, ?_⟩
      · rw [wrap64 (by omega) (by omega), hI]; simp [em, e12]
      rw [hI, List.map_append, List.map_cons, List.map_take, List.map_drop, htk, List.append_cons (List.take k (L.map eBlk)) (eBlk (blkAt s.slots i)) (List.drop k (L.map eBlk))]; simp [eBlk, blkAt]; rfl)
 intro h14
 obtain rfl : i = s.slots.length := by simp at h14; omega
 rw [insI_onesS] at hL
 subst hL
 refine W_exit (xT ?_)
 iterate 2 refine xO ?_
 refine xF [2] ?_
 refine W_ret (xR (by simp [Tryz.f29]; exact .mk) ?_)
 simp [Tryz.f29, ownR]; try rfl

theorem ct33 (g : Gl) (s : Stt) (hs : s.Ok) : CtAt Tryz.prog g 33 [eStt s] (.v (.bool (sttS s))) := by
 refine ctAt_of_W Tryz.func33 rfl rfl (Nat.le_of_ble_eq_true rfl) fun B S => ?_
 simp only [eStt, List.map, argD_agg, argD_v]
 have q0 := hs.h1
 refine xU ?_
 iterate 2 refine xO ?_
 refine xG [1] ?_
 iterate 6 refine xO ?_
 refine xC (ct92 g s.sh s.mode s.base) ?_
 refine xO ?_
 refine xG [1,3] ?_
 iterate 2 refine xO ?_
 refine xC (ct93 g s.slots hs.h1) ?_
 refine xO ?_
 refine xG [1,3,4] ?_
 iterate 2 refine xO ?_
 refine xC (ct94 g s.roots hs.h2) ?_
 refine xO ?_
 refine xF [1,3,4,5] ?_
 refine W_seq (xU ?_)
 iterate 3 refine xO ?_
 iterate 2 refine xI ?_
 refine xP ?_
 refine xB ?_
 iterate 2 refine xI ?_
 refine xP ?_
 refine xB ?_
 iterate 7 refine xI ?_
 refine xP ?_
 refine xB ?_
 iterate 7 refine xI ?_
 refine xP ?_
 refine xB ?_
 iterate 7 refine xI ?_
 refine xP ?_
 refine xF [1,62] ?_
 refine W_cond rfl ?_ ?_
 · intro h62
   have hr : sttS s = false := by
    cases hz : sttS s with
    | false => rfl
    | true =>
     exfalso
     obtain ⟨⟨z1, z2, z3⟩, _, _, z4, _⟩ := rowsS_iff.1 (sttS_rowsS hz)
     have z5 := sttS_super hz
     have z6 := sttS_rows hz
     simp [z1, z2, z3, z4, z5, z6] at h62
   refine xU ?_
   refine xO ?_
   refine xF [2] ?_
   refine W_ret (xR (by simp [Tryz.f33]; exact .mk) ?_)
   first | (simp [Tryz.f33, hr]; done) | (cases b1 <;> cases b2 <;> by_cases m1 : s.mode = 1 <;> by_cases m2 : s.mode = 2 <;> simp [Tryz.f33, hr1, modeOk, hsl, m1, m2] <;> (rw [Bool.beq_eq_decide_eq]; simp))
 intro h62
 have hh : superS s.sh s.mode s.base = true ∧ tableS s.slots = true ∧ rootsS s.roots = true ∧ (s.slots.length : Int) = s.sh.slots ∧ (s.roots.length : Int) = s.sh.roots ∧ s.data.length = s.slots.length := by simp at h62; grind
 obtain ⟨z1, z2, z3, z4, z5, z6⟩ := hh
 have hr0 : sttS s = ((List.range s.slots.length).all (lenOk s) && ((laidS s.base (twosO s.slots)).isSome && (gapsS (s.base * 32) (s.sh.pages * 32) (spansS s.slots) && modeOk s))) := by simp [sttS, rowsS, z1, z2, z3, z4, z5, z6]
 refine W_skip ?_
 rintro -
 refine W_seq (xU ?_)
 refine xO ?_
 refine xF [1,6] ?_
 refine W_block (W_rounds (fun m σ o => ∃ i : Nat, m = s.slots.length - i ∧ i ≤ s.slots.length ∧ (∀ j, j < i → lenOk s j = true) ∧ σ = slots [(1, .ptr 0 0 0), (6, .d (vI i))] ∧ o = [.var 28 [.d (vI s.sh.pages), .d (vI s.sh.slots), .d (vI s.sh.roots), .d (vI s.sh.room), .d (vI s.mode), .d (vI s.base), .d (rSl s.slots), .d (rR s.roots), .d (rBB s.data)]]) s.slots.length .refl ⟨0, by simp, by simp, by simp, rfl, rfl⟩ ?_)
 rintro m σ o ⟨i, rfl, hi, hinv, rfl, rfl⟩ _
 refine W_seq (xU ?_)
 iterate 5 refine xO ?_
 refine xF [1,6,67] ?_
 refine W_cond rfl ?_ ?_
 · intro h67
   have hi2 : i < s.slots.length := by simpa using h67
   have hi3 : i < s.data.length := by omega
   refine W_skip ?_
   rintro -
   refine W_seq (W_block ?_)
   refine W_seq ?_
   refine W_regD (by kernel_rfl) [] 4 [0,1,2,3,4,5,6,7,8,9,10,11,12] (by decide +kernel) ?_
   iterate 3 refine xO ?_
   refine xO ?_ (h := by simp [hi3]; exact .mk)
   refine xO ?_ (h := by simp [-List.getElem?_map, map_get hi3]; exact .mk)
   iterate 4 refine xO ?_
   refine xO ?_ (h := by simp [hi2]; exact .mk)
   refine xO ?_
   refine xO ?_ (h := by simp [-List.getElem?_map, map_get hi2, eSlot]; exact .mk)
   refine xO ?_
   refine xF [1,6,82] ?_
   refine W_cond rfl ?_ ?_
   · intro h82
     have hr : sttS s = false := by rw [hr0, all_bad hi2 (by simp [lenOk]; simpa using h82)]; rfl
     refine xU ?_
     refine xO ?_
     refine xF [2] ?_
     refine W_ret (xR (by simp [Tryz.f33]; exact .mk) ?_)
     first | (simp [Tryz.f33, hr]; done) | (cases b1 <;> cases b2 <;> by_cases m1 : s.mode = 1 <;> by_cases m2 : s.mode = 2 <;> simp [Tryz.f33, hr1, modeOk, hsl, m1, m2] <;> (rw [Bool.beq_eq_decide_eq]; simp))
   intro h82
   have hok : lenOk s i = true := by simp [lenOk]; simpa using h82
   refine W_skip ?_
   rintro -
   refine W_reg rfl ?_
   iterate 3 refine xO ?_
   refine xE [1,6] ?_
   refine rounds_kill [1,6] ?_
   refine rounds_next (m' := s.slots.length - (i+1)) (by omega) ⟨i+1, rfl, by omega, ?_, ?_, rfl⟩
   · intro j hj
     rcases Nat.lt_succ_iff_lt_or_eq.1 hj with hj | rfl
     · exact hinv j hj
     exact hok
   rw [wrap64 (by omega) (by omega)]; rfl
 intro h67
 have hr1 : sttS s = ((laidS s.base (twosO s.slots)).isSome && (gapsS (s.base * 32) (s.sh.pages * 32) (spansS s.slots) && modeOk s)) := by rw [hr0, all_good (fun j hj => hinv j (by simp at h67; omega))]; rfl
 have hb := superS_b z1
 have w1 : IntKind.i64.wrap (32 * s.base) = s.base * 32 := (wrap64 (by omega) (by omega)).trans (Int.mul_comm _ _)
 have w2 : IntKind.i64.wrap (32 * s.sh.pages) = s.sh.pages * 32 := (wrap64 (by omega) (by omega)).trans (Int.mul_comm _ _)
 have hT := tableS_len z2
 have hol := onesS_len (l := s.slots)
 have htl := twosO_len (l := s.slots)
 have hsl : (spansS s.slots).length = (onesS s.slots).length := by simp [spansS]
 have c96 := ct96 g (onesS s.slots) (by omega)
 rw [show (onesS s.slots).map spanOf = spansS s.slots from rfl] at c96
 have c97 := ct97 g s.base (twosO s.slots) (by omega) (twos_bound z2)
 rw [kindsR_is] at c97
 have c95 := ct95 g (s.base * 32) (s.sh.pages * 32) (spansS s.slots) (by omega)
 obtain ⟨b1, hb1⟩ : ∃ b, b = (laidS s.base (twosO s.slots)).isSome := ⟨_, rfl⟩
 obtain ⟨b2, hb2⟩ : ∃ b, b = gapsS (s.base * 32) (s.sh.pages * 32) (spansS s.slots) := ⟨_, rfl⟩
 rw [← hb1] at c97 hr1
 rw [← hb2] at c95 hr1
 refine W_exit (xT ?_)
 refine xO ?_
 refine xC (ct29 g s hs) ?_
 refine xO ?_
 refine xG [1,7] ?_
 refine xO ?_
 refine xC (ct23 g s hs) ?_
 iterate 5 refine xO ?_
 refine xF [1,7,8] ?_
 refine W_seq ?_
 refine W_regD (by kernel_rfl) [] 4 [0,1,2,3,4,5,6,7,8,9,10] (by decide +kernel) ?_
 iterate 2 refine xO ?_
 refine xO ?_ (h := by simp [w1]; exact .mk)
 iterate 3 refine xO ?_
 refine xO ?_ (h := by simp [w2]; exact .mk)
 refine xO ?_
 refine xC (c96) ?_
 refine xC (c95) ?_
 refine xO ?_
 refine xG [1,7,8,10] ?_
 iterate 3 refine xO ?_
 refine xC (c97) ?_
 iterate 5 refine xO ?_
 refine xG [1,7,8,10,12] ?_
 iterate 2 refine xO ?_
 refine xI ?_
 refine xP ?_
 refine xB ?_
 iterate 7 refine xI ?_
 iterate 2 refine xP ?_
 refine xB ?_
 iterate 7 refine xI ?_
 iterate 2 refine xP ?_
 refine xB ?_
 refine xF [2] ?_
 refine W_ret (xR (by simp [Tryz.f33]; exact .mk) ?_)
 first | (simp [Tryz.f33, hr]; done) | (cases b1 <;> cases b2 <;> by_cases m1 : s.mode = 1 <;> by_cases m2 : s.mode = 2 <;> simp [Tryz.f33, hr1, modeOk, hsl, m1, m2] <;> (rw [Bool.beq_eq_decide_eq]; simp))

open Go.Awp
theorem ct117 (g : Gl) (s : Stt) (hs : s.Ok) (k : Int) : CtAt Tryz.prog g 117 [eStt s, vI k] (.v (.bool (liveS s k))) := by
 refine ctAt_of_W Tryz.func117 rfl rfl (Nat.le_of_ble_eq_true rfl) fun B S => ?_
 simp only [eStt, List.map, argD_agg, argD_v]
 refine xU ?_
 iterate 2 refine xO ?_
 refine xG [1,2] ?_
 refine xO ?_ (h := by simp [eSlot]; exact .mk)
 refine xC (ct33 g s hs) ?_
 refine xO ?_
 refine xG [1,2,5] ?_
 iterate 2 refine xO ?_
 iterate 2 refine xI ?_
 refine xP ?_
 refine xB ?_
 iterate 2 refine xI ?_
 refine run_if rfl (by simp; exact .mk) rfl (by simp <;> first | omega | grind) (fun hb => by simp [eSlot]; exact .mk) ?_
 iterate 2 refine xI ?_
 refine xP ?_
 refine xB ?_
 refine xI ?_
 refine run_if rfl (by simp; exact .mk) rfl (by simp <;> first | omega | grind) (fun hb => by simp [eSlot]; exact .mk) ?_
 refine xI ?_
 refine run_if rfl (by simp; exact .mk) rfl (by simp <;> first | omega | grind) (fun hb => by simp at hb; simp [show 0 ≤ k ∧ k < s.slots.length from by omega]; exact .mk) ?_
 refine xI ?_
 refine run_if rfl (by simp; exact .mk) rfl (by simp <;> first | omega | grind) (fun hb => by simp [eSlot]; exact .mk) ?_
 refine xP ?_
 refine xB ?_
 refine xF [4] ?_
 refine W_ret (xR (by simp [Tryz.f117]; exact .mk) ?_)
 simp [Tryz.f117, liveS, liveT, Bool.and_assoc]

theorem ct39 (g : Gl) (s : Stt) (hs : s.Ok) (two : Bool) (n : Int) : CtAt Tryz.prog g 39 [eStt s, vT two, vI n] (.tup [vI ((roomS s two n).getD 0), .v (.bool (roomS s two n).isSome)]) := by
 refine ctAt_of_W Tryz.func39 rfl rfl (Nat.le_of_ble_eq_true rfl) fun B S => ?_
 simp only [eStt, List.map, argD_agg, argD_v]
 have q0 := hs.h1
 refine xU ?_
 iterate 3 refine xO ?_
 refine xG [1,2,3] ?_
 refine xO ?_ (h := by simp [eObj]; exact .mk)
 refine xC (ct33 g s hs) ?_
 refine xO ?_
 refine xG [1,2,3,8] ?_
 refine xO ?_
 refine xC (ct87 g n) ?_
 iterate 5 refine xO ?_
 refine xF [1,2,3,8,9,10] ?_
 refine W_seq (xU ?_)
 iterate 3 refine xO ?_
 iterate 2 refine xI ?_
 refine xP ?_
 refine xF [1,2,3,9,29] ?_
 refine W_cond rfl ?_ ?_
 · intro h29
   have hr : roomS s two n = none := by
    unfold roomS; rw [if_neg]
    intro hq
    simp only [Bool.and_eq_true] at hq
    have := needS_err.2 hq.2
    simp [hq.1, this] at h29
   refine xU ?_
   iterate 2 refine xO ?_
   refine xF [6,7] ?_
   refine W_ret (xR (by simp [Tryz.f39]; exact .mk) ?_)
   first | (simp [Tryz.f39, hr]; done) | (cases BB <;> simp [Tryz.f39, hr])
 intro h29
 have hz : sttS s = true ∧ (needS n).2 = 0 := by simp at h29; grind
 have hR := hz.1
 have hsz := needS_err.1 hz.2
 have hr0 : roomS s two n = roomW s two n := by unfold roomS; rw [if_pos (by simp [hR, hsz])]
 have hb := superS_b (sttS_super hR)
 have w1 : IntKind.i64.wrap (32 * s.base) = s.base * 32 := (wrap64 (by omega) (by omega)).trans (Int.mul_comm _ _)
 have w2 : IntKind.i64.wrap (32 * s.sh.pages) = s.sh.pages * 32 := (wrap64 (by omega) (by omega)).trans (Int.mul_comm _ _)
 have hT := tableS_len (sttS_rows hR)
 have hol := onesS_len (l := s.slots)
 have htl := twosO_len (l := s.slots)
 have hsl : (spansS s.slots).length = (onesS s.slots).length := by simp [spansS]
 refine W_skip ?_
 rintro -
 refine W_seq (xU ?_)
 refine xO ?_
 refine xF [2,3,9,30] ?_
 refine W_cond rfl ?_ ?_
 · intro h30
   obtain rfl : two = true := h30
   have hr : roomS s true n = placeS s.base (twosO s.slots) n := by rw [hr0]; rfl
   refine xU ?_
   refine xO ?_ (h := by simp [eObj]; exact .mk)
   refine xC (ct23 g s hs) ?_
   iterate 5 refine xO ?_
   refine xG [2,3,11] ?_
   refine xO ?_
   refine xO ?_ (h := by simp [eObj]; exact .mk)
   iterate 2 refine xO ?_
   refine xC (ct104 g s.base (twosO s.slots) n (by omega) (twos_bound (sttS_rows hR))) ?_
   iterate 4 refine xO ?_
   refine xF [6,7] ?_
   refine W_ret (xR (by simp [Tryz.f39]; exact .mk) ?_)
   first | (simp [Tryz.f39, hr]; done) | (cases BB <;> simp [Tryz.f39, hr])
 intro h30
 obtain rfl : two = false := h30
 have c96 := ct96 g (onesS s.slots) (by omega)
 rw [show (onesS s.slots).map spanOf = spansS s.slots from rfl] at c96
 have c105 := ct105 g (s.base * 32) (s.sh.pages * 32) (spansS s.slots) (by omega)
 have hgr : gapsR (s.base * 32) (s.sh.pages * 32) (spansS s.slots) = (gapsF (s.sh.pages * 32) (s.base * 32) (spansS s.slots), 0) := by unfold gapsR; rw [if_pos (sttS_gaps hR)]
 rw [hgr] at c105
 have hgl := gapsF_len (to := s.sh.pages * 32) (l := spansS s.slots) (a := s.base * 32)
 have hr : roomS s false n = (bestS (gapsF (s.sh.pages * 32) (s.base * 32) (spansS s.slots)) (needS n).1).map (·.1) := by rw [hr0]; show oneS s n = _; unfold oneS; rw [if_neg (by simp [hz.2])]
 obtain ⟨BB, hBB⟩ : ∃ BB, BB = bestS (gapsF (s.sh.pages * 32) (s.base * 32) (spansS s.slots)) (needS n).1 := ⟨_, rfl⟩
 have c106 := ct106 g (gapsF (s.sh.pages * 32) (s.base * 32) (spansS s.slots)) (by omega) (needS n).1
 rw [← hBB] at hr c106
 refine W_skip ?_
 rintro -
 refine W_seq ?_
 refine W_regD (by kernel_rfl) [] 4 [0,1,2,3,4,5,6,7,8,9,10,11,12,13,14,15] (by decide +kernel) ?_
 refine xO ?_
 refine xO ?_ (h := by simp [eObj]; exact .mk)
 refine xO ?_ (h := by simp [w1]; exact .mk)
 iterate 2 refine xO ?_
 refine xO ?_ (h := by simp [eObj]; exact .mk)
 refine xO ?_ (h := by simp [w2]; exact .mk)
 refine xO ?_ (h := by simp [eObj]; exact .mk)
 refine xC (ct29 g s hs) ?_
 refine xC (c96) ?_
 refine xC (c105) ?_
 iterate 5 refine xO ?_
 refine xG [9,13] ?_
 iterate 2 refine xO ?_
 refine xC (c106) ?_
 iterate 4 refine xO ?_
 refine xO ?_ (h := by simp [splice]; exact .mk)
 refine xO ?_
 refine xG [15,16] ?_
 refine xO ?_
 refine xO ?_ (h := by simp [eObj]; exact .mk)
 iterate 3 refine xO ?_
 refine xF [6,7] ?_
 refine W_ret (xR (by simp [Tryz.f39]; exact .mk) ?_)
 first | (simp [Tryz.f39, hr]; done) | (cases BB <;> simp [Tryz.f39, hr])

open Go.Awp
def twoS (x : Slot) (two : Bool) : Slot := { x with two := two }
def posS (x : Slot) (a : Int) : Slot := { x with at_ := a }
theorem foldTwo {l : List Slot} {m : Nat} {two : Bool} : (l.map eSlot).set m (D.agg [vI (nth l m).gen, vT (nth l m).live, vT two, vI (nth l m).at_, vI (nth l m).len]) = (l.set m (twoS (nth l m) two)).map eSlot := (List.map_set (f := eSlot) (a := twoS (nth l m) two)).symm
theorem foldPos {l : List Slot} {m : Nat} {a : Int} : (l.map eSlot).set m (D.agg [vI (nth l m).gen, vT (nth l m).live, vT (nth l m).two, vI a, vI (nth l m).len]) = (l.set m (posS (nth l m) a)).map eSlot := (List.map_set (f := eSlot) (a := posS (nth l m) a)).symm
theorem lay_two {l : List Slot} {m : Nat} (h : m < l.length) {two : Bool} {a : Int} : (l.set m (twoS (nth l m) two)).set m (posS (nth (l.set m (twoS (nth l m) two)) m) a) = l.set m (atS (nth l m) two a) := by
 rw [List.set_set, nth_set2 h, if_pos rfl]; rfl
open Go.Awp
theorem ct49 (g : Gl) (s : Stt) (hs : s.Ok) (k : Int) (two : Bool) (at_ : Int) : CtAt Tryz.prog g 49 [eStt s, vI k, vT two, vI at_] (.tup [oStt (moveS s k two at_).1, vI (moveS s k two at_).2]) := by
 refine ctAt_of_W Tryz.func49 rfl rfl (Nat.le_of_ble_eq_true rfl) fun B S => ?_
 simp only [eStt, List.map, argD_agg, argD_v]
 refine xU ?_
 iterate 3 refine xO ?_
 refine xG [1,2,3,4,8] ?_
 refine xO ?_ (h := by simp [eSlot]; exact .mk)
 refine xO ?_
 refine xC (ct117 g s hs k) ?_ (he := by simp [row_rows, Function.comp_def]; exact .mk) (hi := by simp [oStt]; exact .mk)
 refine xO ?_
 refine xF [1,2,3,4,8,10] ?_
 refine W_seq (xU ?_)
 iterate 2 refine xO ?_
 refine xF [1,2,3,4,8,17] ?_
 refine W_cond rfl ?_ ?_
 · intro h17
   have hr : moveS s k two at_ = (zStt, 1) := by unfold moveS; rw [if_neg (by simpa using h17)]
   refine xU ?_
   iterate 2 (refine xO ?_ (h := by simp [splice]; exact .mk))
   refine xO ?_
   refine xF [8,9] ?_
   refine W_ret (end_ret (by simp [Tryz.f49]; exact .mk) (by simp; exact .mk) ?_ (by simp [oStt]))
   simp [Tryz.f49, hr, oStt, zStt, ownR]
 intro h17
 have hlv : liveS s k = true := by simpa using h17
 obtain ⟨n, rfl, hn, hnl, hnd, hg⟩ := liveS_nat hlv
 obtain ⟨m, hm⟩ : ∃ m, m = layAt s n two at_ := ⟨_, rfl⟩
 have hmo : m.Ok := by rw [hm]; exact layAt_ok hs
 refine W_skip ?_
 refine xT ?_
 refine xO ?_ (h := by simp [eSlot]; exact .mk)
 refine xC (ct21 g s hs) ?_ (he := by simp [row_rows, Function.comp_def]; exact .mk) (hi := by simp [oStt]; exact .mk)
 refine xO ?_
 refine xO ?_ (h := by simp [splice]; exact .mk)
 refine xG [1,2,3,8,11] ?_
 refine xO ?_
 refine xO ?_ (h := by simp [eSlot]; exact .mk)
 iterate 2 refine xO ?_
 refine xO ?_ (h := by simp [eSlot, hn]; exact .mk)
 refine xO ?_
 refine xO ?_ (h := by simp [-List.getElem?_map, map_get hn, eSlot, nrmL, nrm, putC, splice]; exact .mk)
 refine xE [1,3,8,11] ?_
 simp only [foldTwo]
 obtain ⟨SL, hSL⟩ : ∃ x, x = s.slots.set n (twoS (nth s.slots n) two) := ⟨_, rfl⟩
 rw [show s.slots.length = (s.slots.set n (twoS (nth s.slots n) two)).length by simp, ← hSL]
 have hnS : n < SL.length := by rw [hSL]; simpa using hn
 refine xT ?_
 refine xO ?_
 refine xO ?_ (h := by simp [eSlot]; exact .mk)
 iterate 2 refine xO ?_
 refine xO ?_ (h := by simp [eSlot, hnS]; exact .mk)
 refine xO ?_
 refine xO ?_ (h := by simp [-List.getElem?_map, map_get hnS, eSlot, nrmL, nrm, putC, splice]; exact .mk)
 refine xE [8,11] ?_
 simp only [foldPos]
 obtain ⟨SM, hSM⟩ : ∃ x, x = SL.set n (posS (nth SL n) at_) := ⟨_, rfl⟩
 rw [show SL.length = (SL.set n (posS (nth SL n) at_)).length by simp, ← hSM]
 have hX : layAt s n two at_ = ⟨s.sh, s.mode, s.base, SM, s.roots, s.data⟩ := by rw [hSM, hSL, lay_two hn]; rfl
 refine xT ?_
 refine xO ?_ (h := by simp [eSlot]; exact .mk)
 refine run_call0 rfl rfl rfl rfl (by simp; exact .mk) (by simp [row_rows, Function.comp_def]; exact .mk) (by have := ct33 g m hmo; rw [hm, hX] at this; exact this) (by simp) (by simp [oStt]; exact .mk) ?_
 refine xO ?_
 refine xF [8,11,12] ?_
 refine W_seq (xU ?_)
 iterate 2 refine xO ?_
 refine xF [8,11,36] ?_
 refine W_cond rfl ?_ ?_
 · intro h36
   have hr : moveS s n two at_ = (zStt, 10) := by unfold moveS; rw [if_pos hlv]; simp only [Int.toNat_natCast]; rw [hX, if_neg (by simpa using h36)]
   refine xU ?_
   iterate 2 (refine xO ?_ (h := by simp [splice]; exact .mk))
   refine xO ?_
   refine xF [8,9] ?_
   refine W_ret (end_ret (by simp [Tryz.f49]; exact .mk) (by simp; exact .mk) ?_ (by simp [oStt]))
   simp [Tryz.f49, hr, oStt, zStt, ownR]
 intro h36
 have hr : moveS s n two at_ = (⟨s.sh, s.mode, s.base, SM, s.roots, s.data⟩, 0) := by unfold moveS; rw [if_pos hlv]; simp only [Int.toNat_natCast]; rw [hX, if_pos (by simpa using h36)]
 refine W_skip ?_
 refine xT ?_
 refine xO ?_ (h := by simp [eSlot]; exact .mk)
 refine xO ?_ (h := by simp [splice]; exact .mk)
 refine xO ?_
 refine xF [8,9] ?_
 refine W_ret (end_ret (by simp [Tryz.f49]; exact .mk) (by simp; exact .mk) ?_ (by simp [oStt]))
 simp [Tryz.f49, hr, oStt, zStt, ownR]

open Go.Awp
def cntIx (f : Nat → Bool) (n : Nat) : Nat := ((List.range n).filter f).length
theorem cnt_s {f : Nat → Bool} {n : Nat} : cntIx f (n + 1) = cntIx f n + (if f n = true then 1 else 0) := by
 unfold cntIx
 rw [List.range_succ, List.filter_append, List.length_append]
 cases h : f n <;> simp [h]
theorem cnt_congr {f g : Nat → Bool} : ∀ {n : Nat}, (∀ i, i < n → f i = g i) → cntIx f n = cntIx g n
 | 0, _ => rfl
 | n + 1, h => by rw [cnt_s, cnt_s, cnt_congr (fun i hi => h i (by omega)), h n (by omega)]
theorem cnt_less {f g : Nat → Bool} {m : Nat} (hf : f m = true) (hg : g m = false) : ∀ {n : Nat}, m < n → (∀ i, i < n → i ≠ m → f i = g i) → cntIx g n + 1 = cntIx f n
 | 0, h, _ => by omega
 | n + 1, h, he => by
  rw [cnt_s, cnt_s]
  by_cases e : n = m
  · subst e
    rw [hf, hg, cnt_congr (fun i hi => (he i (by omega) (by omega)).symm)]; simp
  · rw [he n (by omega) e]
    have := cnt_less hf hg (n := n) (by omega) (fun i hi hne => he i (by omega) hne)
    omega
theorem nodup_le : ∀ {n : Nat} {l : List Nat}, l.Nodup → (∀ x ∈ l, x < n) → l.length ≤ n
 | 0, l, _, h => by
  cases l with
  | nil => simp
  | cons a t => have := h a (by simp); omega
 | n + 1, l, hd, h => by
  by_cases hm : n ∈ l
  · have h1 : (l.erase n).Nodup := hd.erase n
    have h2 : ∀ x ∈ l.erase n, x < n := fun x hx => by
     have q := (List.Nodup.mem_erase_iff hd).1 hx
     have := h x q.2
     omega
    have := nodup_le h1 h2
    rw [List.length_erase_of_mem hm] at this
    omega
  · have := nodup_le hd (fun x hx => by have := h x hx; have : x ≠ n := fun e => hm (e ▸ hx); omega : ∀ x ∈ l, x < n)
    omega
theorem cnt_le {f : Nat → Bool} {n m : Nat} (v : Nat → Nat) (hv : ∀ i, i < n → f i = true → v i < m) (hd : ∀ i j, i < j → j < n → f i = true → f j = true → v i ≠ v j) : cntIx f n ≤ m := by
 have h1 : (((List.range n).filter f).map v).Nodup := by
  rw [List.Nodup, List.pairwise_map, List.pairwise_filter, range_pair]
  exact fun i j hij hj a b => hd i j hij hj a b
 have h2 : ∀ x ∈ ((List.range n).filter f).map v, x < m := by
  simp only [List.mem_map, List.mem_filter, List.mem_range]
  rintro x ⟨i, ⟨hi, hf⟩, rfl⟩
  exact hv i hi hf
 have := nodup_le h1 h2
 simpa [cntIx] using this
theorem one_fits {s : Stt} (h : sttS s = true) {i : Nat} (hi : i < s.slots.length) (h1 : isOne (nth s.slots i) = true) : s.base * 32 ≤ (nth s.slots i).at_ ∧ (nth s.slots i).at_.tmod 4 = 0 ∧ 4 ≤ (needS (nth s.slots i).len).1 ∧ (nth s.slots i).at_ + (needS (nth s.slots i).len).1 ≤ s.sh.pages * 32 := by
 simp only [isOne, Bool.and_eq_true, Bool.not_eq_true'] at h1
 have hf := ((sttS_iff.1 h).2.2.1 i hi h1.1).1
 unfold fitsS at hf
 rw [if_neg (by simp [h1.2])] at hf
 have hx := slotS1_live (tableS_slot (sttS_rows h) i hi) h1.1
 exact ⟨hf.1, hf.2.1, needS_pos hx.2.2, hf.2.2⟩
theorem front_le {s : Stt} (h : sttS s = true) : frontN s ≤ 8 := by
 have hsb := superS_b (sttS_super h)
 have key : ∀ i, i < s.slots.length → frontB s (nth s.slots i) = true → isOne (nth s.slots i) = true ∧ (nth s.slots i).at_ < (s.base + 1) * 32 := fun i _ hf => by
  simpa [frontB] using hf
 refine cnt_le (fun i => ((nth s.slots i).at_ / 4 - s.base * 8).toNat) (fun i hi hf => ?_) fun i j hij hj hf hg => ?_
 · obtain ⟨k1, k2⟩ := key i hi hf
   have := one_fits h hi k1
   show ((nth s.slots i).at_ / 4 - s.base * 8).toNat < 8
   omega
 · obtain ⟨k1, k2⟩ := key i (by omega) hf
   obtain ⟨k3, k4⟩ := key j hj hg
   have f1 := one_fits h (by omega) k1
   have f2 := one_fits h hj k3
   have q1 := f1.2.1
   have q2 := f2.2.1
   rw [quad_iff (by omega)] at q1 q2
   simp only [isOne, Bool.and_eq_true, Bool.not_eq_true'] at k1 k3
   have hc := ((sttS_iff.1 h).2.2.2 i j hij hj k1.1 k3.1).2 k1.2 k3.2
   unfold disjI at hc
   simp only at hc
   show ((nth s.slots i).at_ / 4 - s.base * 8).toNat ≠ ((nth s.slots j).at_ / 4 - s.base * 8).toNat
   omega
structure Kept (s t : Stt) : Prop where
 sh : t.sh = s.sh
 len : t.slots.length = s.slots.length
 slot : ∀ i, i < s.slots.length → (nth t.slots i).gen = (nth s.slots i).gen ∧ (nth t.slots i).live = (nth s.slots i).live ∧ (nth t.slots i).len = (nth s.slots i).len
 roots : t.roots = s.roots
 data : t.data = s.data
theorem Kept.refl (s : Stt) : Kept s s := ⟨rfl, rfl, fun _ _ => ⟨rfl, rfl, rfl⟩, rfl, rfl⟩
theorem Kept.trans {s t u : Stt} (h : Kept s t) (k : Kept t u) : Kept s u := ⟨k.sh.trans h.sh, k.len.trans h.len, fun i hi => by
  have a := h.slot i hi
  have b := k.slot i (by rw [h.len]; exact hi)
  exact ⟨b.1.trans a.1, b.2.1.trans a.2.1, b.2.2.trans a.2.2⟩, k.roots.trans h.roots, k.data.trans h.data⟩
theorem kept_turn {s : Stt} {m b : Int} : Kept s (turnS s m b) := ⟨rfl, rfl, fun _ _ => ⟨rfl, rfl, rfl⟩, rfl, rfl⟩
theorem kept_lay {s : Stt} {m : Nat} {two : Bool} {a : Int} (hm : m < s.slots.length) : Kept s (layAt s m two a) := ⟨rfl, by simp [layAt], fun i hi => by
  show (nth (s.slots.set m _) i).gen = _ ∧ (nth (s.slots.set m _) i).live = _ ∧ (nth (s.slots.set m _) i).len = _
  rw [nth_set2 hm]
  split
  · rename_i e; subst e; exact ⟨rfl, rfl, rfl⟩
  · exact ⟨rfl, rfl, rfl⟩, rfl, rfl⟩
theorem clip_mem {fr : Int} {l : List (Int × Int)} {g : Int × Int} (h : g ∈ clipS fr l) : fr ≤ g.1 ∧ ∃ p ∈ l, p.1 ≤ g.1 ∧ g.1 + g.2 = p.1 + p.2 := by
 simp only [clipS, List.mem_filter, List.mem_map] at h
 obtain ⟨⟨p, hp, rfl⟩, _⟩ := h
 unfold clipG
 split
 · exact ⟨by simp, p, hp, by simp only; omega, by simp only; omega⟩
 · exact ⟨by omega, p, hp, by omega, rfl⟩
theorem behind_ge {s : Stt} {fr size a : Int} (h : behindS s fr size = some a) : fr ≤ a := by
 unfold behindS at h
 obtain ⟨g, hg, rfl⟩ := Option.map_eq_some_iff.1 h
 exact (clip_mem (bestS_some hg).1).1
theorem up_ok {s : Stt} (h : sttS s = true) (hm : s.mode = 3) (he : (upStep s).2 = 0) : sttS (upStep s).1 = true ∧ Kept s (upStep s).1 ∧ s.base ≤ (upStep s).1.base ∧ ((upStep s).1.mode = 2 ∨ ((upStep s).1.mode = 3 ∧ leftU (upStep s).1 < leftU s)) := by
 have hsb := superS_b (sttS_super h)
 unfold upStep at he ⊢
 by_cases hb : s.base = s.sh.pages
 · rw [if_pos hb] at he ⊢
   exact ⟨up_last h hb, kept_turn, by show s.base ≤ s.base + 0; omega, .inl rfl⟩
 rw [if_neg hb] at he ⊢
 by_cases hc : onesS s.slots = [] ∨ (s.base + 1) * 32 ≤ (nth (onesS s.slots) 0).at_
 · rw [if_pos hc] at he ⊢
   have hr := up_turn h hm hb hc
   refine ⟨hr, kept_turn, by show s.base ≤ s.base + 1; omega, .inr ⟨hm, ?_⟩⟩
   have hf := front_le hr
   show (if s.base + 1 = s.sh.pages then 1 else 9 * (s.sh.pages - (s.base + 1) - 1).toNat + frontN (turnS s s.mode 1) + 2) < leftU s
   unfold leftU
   rw [if_neg hb]
   split <;> omega
 rw [if_neg hc] at he ⊢
 have hne : onesS s.slots ≠ [] := fun e => hc (.inl e)
 obtain ⟨k, hk, hk1, hk2⟩ := ones_head hne
 have hat : (nth s.slots k).at_ < (s.base + 1) * 32 := by
  have : (nth (onesS s.slots) 0).at_ = (nth s.slots k).at_ := by rw [hk2]; rfl
  omega
 have hsl : (nth (onesS s.slots) 0).slot = (k : Int) := by rw [hk2]; rfl
 rw [hsl] at he ⊢
 have main : ∀ {two : Bool} {a : Int}, (two = true ∨ (s.base + 1) * 32 ≤ a) → (moveS s k two a).2 = 0 → sttS (moveS s k two a).1 = true ∧ Kept s (moveS s k two a).1 ∧ s.base ≤ (moveS s k two a).1.base ∧ ((moveS s k two a).1.mode = 2 ∨ ((moveS s k two a).1.mode = 3 ∧ leftU (moveS s k two a).1 < leftU s)) := by
  intro two a ha hz
  obtain ⟨m, hkm, _, h1, h2, h3, e, hr⟩ := moveS_cases hz
  obtain rfl : k = m := by omega
  rw [e]
  refine ⟨hr, kept_lay h1, Int.le_refl _, .inr ⟨hm, ?_⟩⟩
  have hcnt : frontN (layAt s k two a) + 1 = frontN s := by
   unfold frontN
   rw [show (layAt s k two a).slots.length = s.slots.length by simp [layAt]]
   refine cnt_less (m := k) ?_ ?_ hk fun i hi hne => ?_
   · simp [frontB, hk1, hat]
   · show frontB (layAt s k two a) (nth (s.slots.set k (atS (nth s.slots k) two a)) k) = false
     rw [nth_set2 hk, if_pos rfl]
     unfold frontB isOne atS
     rcases ha with rfl | ha
     · simp
     · have : ¬ a < ((layAt s k two a).base + 1) * 32 := by show ¬ a < (s.base + 1) * 32; omega
       simp [this]
   · show frontB s (nth s.slots i) = frontB (layAt s k two a) (nth (s.slots.set k (atS (nth s.slots k) two a)) i)
     rw [nth_set2 hk, if_neg (by omega)]
     rfl
  show (if s.base = s.sh.pages then 1 else 9 * (s.sh.pages - s.base - 1).toNat + frontN (layAt s k two a) + 2) < leftU s
  unfold leftU
  rw [if_neg hb, if_neg hb]
  omega
 cases hr : roomS s true (lenAt s k) with
 | some a => rw [hr] at he; exact main (.inl rfl) he
 | none =>
  rw [hr] at he
  simp only at he ⊢
  cases hq : behindS s ((s.base + 1) * 32) (nth (onesS s.slots) 0).len with
  | some a => rw [hq] at he; exact main (.inr (behind_ge hq)) he
  | none => rw [hq] at he; cases he
open Go.Awp
def backB (s : Stt) (x : Slot) : Bool := isTwo x && coverB s.base (s.base - 1) (x.at_, x.len)
def backN (s : Stt) : Nat := cntIx (fun i => backB s (nth s.slots i)) s.slots.length
def leftD (s : Stt) : Nat := if s.base = 0 then 1 else 15 * (s.base - 1).toNat + backN s + 2
theorem two_fits {s : Stt} (h : sttS s = true) {i : Nat} (hi : i < s.slots.length) (h1 : isTwo (nth s.slots i) = true) : (spotS s.base ((nth s.slots i).at_, (nth s.slots i).len)).2 = true := by
 simp only [isTwo, Bool.and_eq_true] at h1
 have hf := ((sttS_iff.1 h).2.2.1 i hi h1.1).1
 unfold fitsS at hf
 rwa [if_pos h1.2] at hf
theorem cell_lt {pages : Int} {o : Int × Int} (h : (spotS pages o).2 = true) (hs : (spotS pages o).1.small = true) : 0 ≤ (spotS pages o).1.cell ∧ (spotS pages o).1.cell < 14 := by
 have W := spot_words h
 obtain ⟨k, hk, _, _, _, h5⟩ := W.sm hs
 have g := W.good.s1 hs
 rcases wordsL_k hk with e | e | e | e | e | e <;> rw [e] at h5 <;> omega
theorem back_le {s : Stt} (h : sttS s = true) : backN s ≤ 14 := by
 have key : ∀ i, i < s.slots.length → backB s (nth s.slots i) = true → isTwo (nth s.slots i) = true ∧ (spotS s.base ((nth s.slots i).at_, (nth s.slots i).len)).1.page ≤ s.base - 1 ∧ s.base - 1 - (spotS s.base ((nth s.slots i).at_, (nth s.slots i).len)).1.page < (spotS s.base ((nth s.slots i).at_, (nth s.slots i).len)).1.count := fun i _ hf => by
  simpa [backB, coverB] using hf
 refine cnt_le (fun i => if (spotS s.base ((nth s.slots i).at_, (nth s.slots i).len)).1.small = true then (spotS s.base ((nth s.slots i).at_, (nth s.slots i).len)).1.cell.toNat else 0) (fun i hi hf => ?_) fun i j hij hj hf hg => ?_
 · obtain ⟨k1, _⟩ := key i hi hf
   show (if _ then _ else _) < 14
   split
   · rename_i hs
     have := cell_lt (two_fits h hi k1) hs
     show (spotS s.base ((nth s.slots i).at_, (nth s.slots i).len)).1.cell.toNat < 14
     omega
   · omega
 · obtain ⟨k1, k2, k3⟩ := key i (by omega) hf
   obtain ⟨k4, k5, k6⟩ := key j hj hg
   have f1 := two_fits h (by omega) k1
   have f2 := two_fits h hj k4
   simp only [isTwo, Bool.and_eq_true] at k1 k4
   have hc := ((sttS_iff.1 h).2.2.2 i j hij hj k1.1 k4.1).1 k1.2 k4.2
   rcases hc with ⟨c1, c2, c3, c4⟩ | hc | hc
   · have q1 := cell_lt f1 c1
     have q2 := cell_lt f2 c2
     show (if _ then _ else _) ≠ (if _ then _ else _)
     rw [if_pos c1, if_pos c2]
     omega
   · omega
   · omega
theorem mates_nil {s : Stt} (h : matesS s.base (twosO s.slots) (s.base - 1) = []) : ∀ i, i < s.slots.length → isTwo (nth s.slots i) = true → coverB s.base (s.base - 1) ((nth s.slots i).at_, (nth s.slots i).len) = false := by
 refine (twos_nth (R := fun o => coverB s.base (s.base - 1) o = false)).1 fun j hj => ?_
 cases hc : coverB s.base (s.base - 1) (nth (twosO s.slots) j) with
 | false => rfl
 | true =>
  have : j ∈ matesS s.base (twosO s.slots) (s.base - 1) := by simp only [matesS, List.mem_filter, List.mem_range]; exact ⟨hj, hc⟩
  rw [h] at this; cases this
theorem least_mem {l : List (Int × Int)} : ∀ {ms : List Nat}, ms ≠ [] → leastS l ms ∈ ms := by
 have key : ∀ (t : List Nat) (i : Nat), t.foldl (fun m j => if (nth l j).1 < (nth l m).1 then j else m) i = i ∨ t.foldl (fun m j => if (nth l j).1 < (nth l m).1 then j else m) i ∈ t := by
  intro t
  induction t with
  | nil => exact fun i => .inl rfl
  | cons a t ih =>
   intro i
   simp only [List.foldl_cons]
   rcases ih (if (nth l a).1 < (nth l i).1 then a else i) with e | e
   · rw [e]
     split
     · exact .inr (by simp)
     · exact .inl rfl
   · exact .inr (List.mem_cons_of_mem _ e)
 intro ms h
 cases ms with
 | nil => exact absurd rfl h
 | cons i t =>
  rcases key t i with e | e
  · show t.foldl _ i ∈ _; rw [e]; simp
  · exact List.mem_cons_of_mem _ e
theorem mate_slot {s : Stt} (hne : matesS s.base (twosO s.slots) (s.base - 1) ≠ []) : ∃ (j k : Nat), leastS (twosO s.slots) (matesS s.base (twosO s.slots) (s.base - 1)) = j ∧ j < (twosO s.slots).length ∧ k < s.slots.length ∧ nth (twosI s.slots) j = k ∧ nth (twosO s.slots) j = ((nth s.slots k).at_, (nth s.slots k).len) ∧
    isTwo (nth s.slots k) = true ∧ coverB s.base (s.base - 1) ((nth s.slots k).at_, (nth s.slots k).len) = true := by
 have hm := least_mem (l := twosO s.slots) hne
 obtain ⟨j, hj⟩ : ∃ j, j = leastS (twosO s.slots) (matesS s.base (twosO s.slots) (s.base - 1)) := ⟨_, rfl⟩
 rw [← hj] at hm
 simp only [matesS, List.mem_filter, List.mem_range] at hm
 obtain ⟨h1, h2⟩ := hm
 have hl : j < (twoIx s.slots s.slots.length).length := by simpa [twosO] using h1
 have hmem := twoIx_mem (nth_mem hl)
 refine ⟨j, nth (twoIx s.slots s.slots.length) j, hj.symm, h1, hmem.1, ?_, ?_, hmem.2, ?_⟩
 · rw [twosI, nth_map hl]
 · rw [twosO, nth_map hl]; rfl
 · rw [twosO, nth_map hl] at h2; exact h2
theorem down_last {s : Stt} (h : sttS s = true) (hb : s.base = 0) : sttS (turnS s 1 0) = true := by
 have hsu := sttS_super h
 have hsb := superS_b hsu
 have one : ∀ i, i < s.slots.length → (nth s.slots i).live = true → (nth s.slots i).two = false := fun i hi hl => by
  cases ht : (nth s.slots i).two with
  | false => rfl
  | true =>
   exfalso
   have hf := two_fits h hi (by simp [isTwo, hl, ht])
   have g := (spot_words hf).good
   have := g.p0; have := g.p1; have := g.c1
   omega
 refine turn_right h (super_with hsu (by omega) (.inl ⟨rfl, by omega⟩)) fun i hi hl => ⟨?_, ?_⟩
 · have hf := ((sttS_iff.1 h).2.2.1 i hi hl).1
   unfold fitsS at hf ⊢
   rw [if_neg (by simp [one i hi hl])] at hf ⊢
   refine ⟨?_, hf.2⟩
   show (s.base + 0) * 32 ≤ _
   omega
 · exact ⟨fun _ => one i hi hl, fun e => by omega⟩
theorem down_turn {s : Stt} (h : sttS s = true) (hm : s.mode = 4) (hb : s.base ≠ 0) (hc : matesS s.base (twosO s.slots) (s.base - 1) = []) : sttS (turnS s s.mode (-1)) = true := by
 have hsu := sttS_super h
 have hsb := superS_b hsu
 refine turn_right h (super_with hsu (by omega) (.inr (.inr (.inr hm)))) fun i hi hl => ⟨?_, ⟨fun e => by omega, fun e => by omega⟩⟩
 have hf := ((sttS_iff.1 h).2.2.1 i hi hl).1
 unfold fitsS at hf ⊢
 cases ht : (nth s.slots i).two with
 | true =>
  rw [if_pos ht] at hf
  rw [if_pos rfl]
  have g := (spot_words hf).good
  have hn := mates_nil hc i hi (by simp [isTwo, hl, ht])
  simp only [coverB, Bool.and_eq_false_iff, decide_eq_false_iff_not] at hn
  have := g.p1; have := g.c1
  exact spot_more hf (by show _ ≤ s.base + -1; omega)
 | false =>
  rw [if_neg (by simp [ht])] at hf
  rw [if_neg (by simp)]
  refine ⟨?_, hf.2.1, hf.2.2⟩
  show (s.base + -1) * 32 ≤ _
  omega
theorem down_ok {s : Stt} (h : sttS s = true) (hm : s.mode = 4) (he : (downStep s).2 = 0) : sttS (downStep s).1 = true ∧ Kept s (downStep s).1 ∧ (downStep s).1.base ≤ s.base ∧ ((downStep s).1.mode = 1 ∨ ((downStep s).1.mode = 4 ∧ leftD (downStep s).1 < leftD s)) := by
 have hsb := superS_b (sttS_super h)
 unfold downStep at he ⊢
 by_cases hb : s.base = 0
 · rw [if_pos hb] at he ⊢
   exact ⟨down_last h hb, kept_turn, by show s.base + 0 ≤ s.base; omega, .inl rfl⟩
 rw [if_neg hb] at he ⊢
 by_cases hc : matesS s.base (twosO s.slots) (s.base - 1) = []
 · rw [if_pos hc] at he ⊢
   have hr := down_turn h hm hb hc
   refine ⟨hr, kept_turn, by show s.base + -1 ≤ s.base; omega, .inr ⟨hm, ?_⟩⟩
   have hf := back_le hr
   show (if s.base + -1 = 0 then 1 else 15 * (s.base + -1 - 1).toNat + backN (turnS s s.mode (-1)) + 2) < leftD s
   unfold leftD
   rw [if_neg hb]
   split <;> omega
 rw [if_neg hc] at he ⊢
 obtain ⟨j, k, e1, hj, hk, e2, e3, ht, hcv⟩ := mate_slot hc
 rw [e1, e2, e3] at he ⊢
 have main : ∀ {two : Bool} {a : Int}, (two = false ∨ coverB s.base (s.base - 1) (a, (nth s.slots k).len) = false) → (moveS s k two a).2 = 0 → sttS (moveS s k two a).1 = true ∧ Kept s (moveS s k two a).1 ∧ (moveS s k two a).1.base ≤ s.base ∧ ((moveS s k two a).1.mode = 1 ∨ ((moveS s k two a).1.mode = 4 ∧ leftD (moveS s k two a).1 < leftD s)) := by
  intro two a ha hz
  obtain ⟨m, hkm, _, h1, h2, h3, e, hr⟩ := moveS_cases hz
  obtain rfl : k = m := by omega
  rw [e]
  refine ⟨hr, kept_lay h1, Int.le_refl _, .inr ⟨hm, ?_⟩⟩
  have hcnt : backN (layAt s k two a) + 1 = backN s := by
   unfold backN
   rw [show (layAt s k two a).slots.length = s.slots.length by simp [layAt]]
   refine cnt_less (m := k) ?_ ?_ hk fun i hi hne => ?_
   · simp [backB, ht, hcv]
   · show backB (layAt s k two a) (nth (s.slots.set k (atS (nth s.slots k) two a)) k) = false
     rw [nth_set2 hk, if_pos rfl]
     unfold backB isTwo atS
     rcases ha with rfl | ha
     · simp
     · show (_ && coverB s.base (s.base - 1) (a, (nth s.slots k).len)) = false
       rw [ha]; simp
   · show backB s (nth s.slots i) = backB (layAt s k two a) (nth (s.slots.set k (atS (nth s.slots k) two a)) i)
     rw [nth_set2 hk, if_neg (by omega)]
     rfl
  show (if s.base = 0 then 1 else 15 * (s.base - 1).toNat + backN (layAt s k two a) + 2) < leftD s
  unfold leftD
  rw [if_neg hb, if_neg hb]
  omega
 simp only at he ⊢
 cases hr : roomS s false (nth s.slots k).len with
 | some a => rw [hr] at he; exact main (.inl rfl) he
 | none =>
  rw [hr] at he
  simp only at he ⊢
  cases hq : placeS (s.base - 1) (restS (twosO s.slots) (matesS s.base (twosO s.slots) (s.base - 1))) (nth s.slots k).len with
  | some a =>
   rw [hq] at he
   refine main (.inr ?_) he
   obtain ⟨p1, _⟩ := place_some hq
   have g := (spot_words p1).good
   rw [spot_page (p := s.base - 1) (q := s.base)] at g
   have := g.p1; have := g.c1
   simp only [coverB, Bool.and_eq_false_iff, decide_eq_false_iff_not]
   omega
  | none => rw [hq] at he; cases he
def movingS (s : Stt) : Bool := decide (s.mode = 3) || decide (s.mode = 4)
def leftS (s : Stt) : Nat := if s.mode = 3 then leftU s else leftD s
theorem step_ok {s : Stt} (he : (stepS s).2 = 0) : sttS s = true ∧ movingS s = true ∧ sttS (stepS s).1 = true ∧ Kept s (stepS s).1 ∧ (s.mode = 3 → s.base ≤ (stepS s).1.base ∧ ((stepS s).1.mode = 2 ∨ (stepS s).1.mode = 3)) ∧ (s.mode = 4 → (stepS s).1.base ≤ s.base ∧ ((stepS s).1.mode = 1 ∨ (stepS s).1.mode = 4)) ∧ (movingS (stepS s).1 = true → leftS (stepS s).1 < leftS s) := by
 unfold stepS at he ⊢
 by_cases h : sttS s = true
 · rw [if_pos h] at he ⊢
   by_cases h3 : s.mode = 3
   · rw [if_pos h3] at he ⊢
     obtain ⟨u1, u2, u3, u4⟩ := up_ok h h3 he
     refine ⟨h, by simp [movingS, h3], u1, u2, fun _ => ⟨u3, ?_⟩, fun e => by omega, fun hv => ?_⟩
     · rcases u4 with u4 | u4
       · exact .inl u4
       · exact .inr u4.1
     · rcases u4 with u4 | ⟨u4, u5⟩
       · simp [movingS, u4] at hv
       · unfold leftS; rw [if_pos h3, if_pos u4]; exact u5
   · rw [if_neg h3] at he ⊢
     by_cases h4 : s.mode = 4
     · rw [if_pos h4] at he ⊢
       obtain ⟨u1, u2, u3, u4⟩ := down_ok h h4 he
       refine ⟨h, by simp [movingS, h4], u1, u2, fun e => by omega, fun _ => ⟨u3, ?_⟩, fun hv => ?_⟩
       · rcases u4 with u4 | u4
         · exact .inl u4
         · exact .inr u4.1
       · rcases u4 with u4 | ⟨u4, u5⟩
         · simp [movingS, u4] at hv
         · unfold leftS; rw [if_neg h3, if_neg (by omega)]; exact u5
     · rw [if_neg h4] at he; cases he
 · rw [if_neg h] at he; cases he
open Go.Awp
def endF : Nat → Nat → Stt → Stt × Nat × Int
 | 0, n, _ => (zStt, n, 1)
 | f + 1, n, s => if 0 < n ∧ movingS s = false then (s, n, 0) else if (stepS s).2 ≠ 0 then (zStt, n, (stepS s).2) else endF f (n + 1) (stepS s).1
def needE (n : Nat) (s : Stt) : Nat := if movingS s = true then leftS s + 1 else 1
def endS (s : Stt) : Stt × Nat × Int := endF (needE 0 s) 0 s
theorem leftS_pos {s : Stt} : 1 ≤ leftS s := by
 unfold leftS leftU leftD
 split <;> split <;> omega
theorem endF_more : ∀ {f : Nat} {n : Nat} {s : Stt}, needE n s ≤ f → endF f n s = endF (needE n s) n s
 | 0, n, s, h => by
  have : needE n s = 0 := by omega
  rw [this]
 | f + 1, n, s, h => by
  obtain ⟨k, hk⟩ : ∃ k, needE n s = k + 1 := ⟨needE n s - 1, by unfold needE; split <;> omega⟩
  rw [hk]
  show (if 0 < n ∧ movingS s = false then (s, n, 0) else if (stepS s).2 ≠ 0 then (zStt, n, (stepS s).2) else endF f (n + 1) (stepS s).1) = (if 0 < n ∧ movingS s = false then (s, n, 0) else if (stepS s).2 ≠ 0 then (zStt, n, (stepS s).2) else endF k (n + 1) (stepS s).1)
  split
  · rfl
  · split
    · rfl
    · rename_i he
      have he : (stepS s).2 = 0 := by omega
      obtain ⟨_, hm, _, _, _, _, hd⟩ := step_ok he
      have hn : needE n s = leftS s + 1 := by unfold needE; rw [if_pos hm]
      have hp := leftS_pos (s := s)
      have hn2 : needE (n + 1) (stepS s).1 ≤ leftS s := by
       unfold needE
       split
       · rename_i h2; have := hd h2; omega
       · omega
      rw [endF_more (f := f) (by omega), endF_more (f := k) (by omega)]
theorem endF_stop {f n : Nat} {s : Stt} (h : 0 < n ∧ movingS s = false) : endF (f + 1) n s = (s, n, 0) := by
 show (if _ then _ else _) = _
 rw [if_pos h]
theorem endF_err {f n : Nat} {s : Stt} (h : ¬ (0 < n ∧ movingS s = false)) (he : (stepS s).2 ≠ 0) : endF (f + 1) n s = (zStt, n, (stepS s).2) := by
 show (if _ then _ else _) = _
 rw [if_neg h, if_pos he]
theorem endF_step {f n : Nat} {s : Stt} (h : ¬ (0 < n ∧ movingS s = false)) (he : (stepS s).2 = 0) : endF (f + 1) n s = endF f (n + 1) (stepS s).1 := by
 show (if _ then _ else _) = _
 rw [if_neg h, if_neg (by omega)]
theorem end_next {n : Nat} {s : Stt} (h : ¬ (0 < n ∧ movingS s = false)) (he : (stepS s).2 = 0) : endF (needE n s) n s = endF (needE (n + 1) (stepS s).1) (n + 1) (stepS s).1 ∧ needE (n + 1) (stepS s).1 < needE n s := by
 obtain ⟨_, hm, _, _, _, _, hd⟩ := step_ok he
 have hn : needE n s = leftS s + 1 := by unfold needE; rw [if_pos hm]
 have hp := leftS_pos (s := s)
 have hn2 : needE (n + 1) (stepS s).1 ≤ leftS s := by
  unfold needE
  split
  · rename_i h2; have := hd h2; omega
  · omega
 refine ⟨?_, by omega⟩
 rw [hn, endF_step h he]
 exact endF_more hn2
theorem need_pos {n : Nat} {s : Stt} : 0 < needE n s := by unfold needE; split <;> omega
structure Went (s t : Stt) (n k : Nat) : Prop where
 right : sttS t = true
 kept : Kept s t
 mode : (s.mode = 3 → t.mode = 2 ∨ t.mode = 3) ∧ (s.mode = 4 → t.mode = 1 ∨ t.mode = 4)
 left : movingS t = true → k + leftS t ≤ n + leftS s
 few : k ≤ n + leftS s
def boundS (s : Stt) : Int := if s.mode = 3 then 9 * s.sh.pages + 1 else if s.mode = 4 then 15 * s.sh.pages + 1 else 0
theorem left_bound {s : Stt} (h : sttS s = true) (hm : movingS s = true) : (leftS s : Int) ≤ boundS s := by
 have hsb := superS_b (sttS_super h)
 have f1 := front_le h
 have f2 := back_le h
 simp only [movingS, Bool.or_eq_true, decide_eq_true_eq] at hm
 unfold leftS boundS
 rcases hm with e | e
 · rw [if_pos e, if_pos e]
   unfold leftU
   split <;> omega
 · rw [if_neg (by omega), if_neg (by omega), if_pos e]
   unfold leftD
   split <;> omega
def fromM (up : Bool) : Int := if up = true then 1 else 2
def toM (up : Bool) : Int := if up = true then 3 else 4
def startS (s : Stt) (up : Bool) : Stt × Int := if sttS s = false then (zStt, 1) else if s.mode ≠ fromM up then (zStt, 12) else if (endS (turnS s (toM up) 0)).2.2 ≠ 0 then (zStt, (endS (turnS s (toM up) 0)).2.2) else (turnS s (toM up) 0, 0)
open Go.Awp
theorem clip_step {fr : Int} {l : List (Int × Int)} {i : Nat} (h : i < l.length) : clipS fr (l.take (i + 1)) = clipS fr (l.take i) ++ (if 0 < (clipG fr (nth l i)).2 then [clipG fr (nth l i)] else []) := by
 rw [take_succ h]
 unfold clipS
 rw [List.map_append, List.filter_append]
 congr 1
 simp only [List.map_cons, List.map_nil, List.filter_cons, List.filter_nil]
 split <;> rename_i q <;> simp at q
 · rw [if_pos q]
 · rw [if_neg (by omega)]
theorem clip_len {fr : Int} {l : List (Int × Int)} : (clipS fr l).length ≤ l.length := by
 unfold clipS
 exact Nat.le_trans (List.length_filter_le _ _) (by simp)
theorem gapsF_b {s : Stt} (h : sttS s = true) : ∀ g ∈ gapsOf s, 0 ≤ g.1 ∧ g.1 ≤ 2048 ∧ 0 < g.2 ∧ g.2 ≤ 2048 := by
 intro g hg
 have hG := sttS_gaps h
 simp only [gapsS, Bool.and_eq_true] at hG
 have hb := superS_b (sttS_super h)
 obtain ⟨h1, h2, h3, _⟩ := gapsF_mem hG.2 g hg
 omega
theorem turn_ok {s : Stt} {m b : Int} (h : s.Ok) : (turnS s m b).Ok := ⟨h.h1, h.h2, h.h3, h.h4, h.h5⟩
theorem stepS_Ok {s : Stt} (h : s.Ok) : (stepS s).1.Ok := by
 have hup : (upStep s).1.Ok := by
  unfold upStep
  split
  · exact turn_ok h
  · split
    · exact turn_ok h
    · split
      · exact moveS_ok h
      · split
        · exact moveS_ok h
        · exact zStt_ok
 have hdn : (downStep s).1.Ok := by
  unfold downStep
  split
  · exact turn_ok h
  · split
    · exact turn_ok h
    · split
      · exact moveS_ok h
      · split
        · exact moveS_ok h
        · exact zStt_ok
 unfold stepS
 split
 · split
   · exact hup
   · split
     · exact hdn
     · exact zStt_ok
 · exact zStt_ok
theorem need_le {n : Nat} {s : Stt} (h : sttS s = true) : needE n s ≤ 1000 := by
 have hsb := superS_b (sttS_super h)
 unfold needE
 split
 · rename_i hm
   have := left_bound h hm
   unfold boundS at this
   split at this
   · omega
   · split at this <;> omega
 · omega
open Go.Awp
def ixN (l : List Int) (x : Int) : Int := if l.contains x = true then (l.idxOf x : Int) else -1
theorem ixN_at {l : List Int} {x : Int} {i : Nat} (hi : i < l.length) (h : ∀ j, j < i → nth l j ≠ x) (hx : nth l i = x) : ixN l x = i := by
 have hm : x ∈ l := by rw [← hx]; exact nth_mem hi
 have hle : l.idxOf x = i := by
  have hlt := List.idxOf_lt_length_of_mem hm
  have hg : l[l.idxOf x] = x := List.getElem_idxOf hlt
  rcases Nat.lt_trichotomy (l.idxOf x) i with q | q | q
  · exact absurd (by rw [nth_eq hlt]; exact hg) (h _ q)
  · exact q
  · have := List.not_of_lt_findIdx (p := (· == x)) (xs := l) q
    rw [nth_eq hi] at hx
    simp [hx] at this
 unfold ixN
 rw [if_pos (by simpa using hm), hle]
theorem ixN_none {l : List Int} {x : Int} (h : ∀ j, j < l.length → nth l j ≠ x) : ixN l x = -1 := by
 unfold ixN
 rw [if_neg]
 intro hc
 have hm : x ∈ l := by simpa using hc
 obtain ⟨j, hj, e⟩ := List.mem_iff_getElem.1 hm
 exact h j hj (by rw [nth_eq hj]; exact e)
theorem ixN_nonneg {l : List Int} {x : Int} : decide (0 ≤ ixN l x) = l.contains x := by
 unfold ixN
 cases h : l.contains x <;> simp
theorem leastS_one {l : List (Int × Int)} {ms : List Nat} (h : ms ≠ []) : leastS l (ms.take 1) = nth ms 0 := by
 cases ms with
 | nil => exact absurd rfl h
 | cons a t => rfl
theorem leastS_step (l : List (Int × Int)) {ms : List Nat} {i : Nat} (h1 : 1 ≤ i) (h2 : i < ms.length) : leastS l (ms.take (i + 1)) = if (nth l (nth ms i)).1 < (nth l (leastS l (ms.take i))).1 then nth ms i else leastS l (ms.take i) := by
 cases ms with
 | nil => simp at h2
 | cons a t =>
  obtain ⟨k, rfl⟩ : ∃ k, i = k + 1 := ⟨i - 1, by omega⟩
  have hk : k < t.length := by simpa using h2
  rw [List.take_succ_cons, List.take_succ_cons, take_succ hk]
  simp only [leastS, List.foldl_append, List.foldl_cons, List.foldl_nil]
  rfl
theorem leastS_in {l : List (Int × Int)} {ms : List Nat} {i : Nat} (hne : ms ≠ []) (h : ∀ i, i < ms.length → nth ms i < l.length) (h1 : 1 ≤ i) : leastS l (ms.take i) < l.length := by
 have key : ∀ (t : List Nat) (a : Nat), a < l.length → (∀ x ∈ t, x < l.length) → t.foldl (fun m j => if (nth l j).1 < (nth l m).1 then j else m) a < l.length := by
  intro t
  induction t with
  | nil => intro a ha _; exact ha
  | cons x t ih =>
   intro a ha hx
   simp only [List.foldl_cons]
   refine ih _ ?_ (fun y hy => hx y (by simp [hy]))
   split
   · exact hx x (by simp)
   · exact ha
 have hmem : ∀ x ∈ ms, x < l.length := fun x hx => by
  obtain ⟨j, hj, e⟩ := List.mem_iff_getElem.1 hx
  have := h j hj
  rw [nth_eq hj, e] at this; exact this
 cases ms with
 | nil => exact absurd rfl hne
 | cons a t =>
  obtain ⟨k, rfl⟩ : ∃ k, i = k + 1 := ⟨i - 1, by omega⟩
  rw [List.take_succ_cons]
  exact key _ _ (hmem a (by simp)) (fun x hx => hmem x (by simp [List.mem_of_mem_take hx]))
theorem castN_contains {ms : List Nat} {k : Nat} : (ms.map fun (k : Nat) => (k : Int)).contains (k : Int) = ms.contains k := by
 rw [Bool.eq_iff_iff]
 simp only [List.contains_iff_mem, List.mem_map]
 exact ⟨fun ⟨a, h, e⟩ => by rw [← Int.ofNat_inj.1 e]; exact h, fun h => ⟨k, h, rfl⟩⟩
theorem down_facts {s : Stt} (hs : s.Ok) (hR : sttS s = true) : (twosO s.slots).length ≤ 2^40 ∧ (twosI s.slots).length = (twosO s.slots).length ∧ (laidS s.base (twosO s.slots)).isSome = true ∧ ∀ i, i < (twosO s.slots).length → 0 ≤ (nth (twosO s.slots) i).1 ∧ (nth (twosO s.slots) i).1 ≤ 2^40 := by
 refine ⟨Nat.le_trans twosO_len hs.h1, twosI_len, ?_, fun i hi => ⟨?_, twosO_le (sttS_rows hR) i hi⟩⟩
 · have h1 := hR
   simp only [sttS, Bool.and_eq_true] at h1
   exact h1.2.2.1
 · have hk := sttS_laid hR i hi
   have hsp : (spotS s.base (nth (twosO s.slots) i)).2 = true := by
    cases hq : (spotS s.base (nth (twosO s.slots) i)).2 with
    | true => rfl
    | false => simp only [okI, layO] at hk; rw [if_neg (by simp [hq])] at hk; cases hk
   unfold spotS at hsp
   split at hsp
   · cases hsp
   · omega
theorem rest_b {l : List (Int × Int)} {ms : List Nat} {b : Int} (h : ∀ k, k < l.length → (nth l k).1 ≤ b) : ∀ k, k < (restS l ms).length → (nth (restS l ms) k).1 ≤ b := fun k hk => by
 have hm := nth_mem hk
 simp only [restS, List.mem_map, List.mem_filter, List.mem_range] at hm
 obtain ⟨a, ⟨ha, _⟩, e⟩ := hm
 rw [restS, ← e]
 exact h a ha
open Go.Awp
def sh0 : Shape := ⟨4, 2, 2, 30⟩
theorem small_facts : ∃ A B C D E F : Stt, ∃ id : Int × Int, newS sh0 1 = (A, 0) ∧ startS A true = (B, 0) ∧ endS B = (C, 5, 0) ∧ C.mode = 2 ∧ putS A 16 = (D, id, 0) ∧ startS D true = (E, 0) ∧ endS E = (F, 7, 0) ∧ F.mode = 2 ∧ F.slots.length = 2 ∧ (nth F.slots 0).two = true ∧ (stepS A).2 = 12 ∧ fewStt A = true := by
 refine ⟨(newS sh0 1).1, (startS (newS sh0 1).1 true).1, (endS (startS (newS sh0 1).1 true).1).1, (putS (newS sh0 1).1 16).1, (startS (putS (newS sh0 1).1 16).1 true).1, (endS (startS (putS (newS sh0 1).1 16).1 true).1).1, (putS (newS sh0 1).1 16).2.1, ?_, ?_, ?_, ?_, ?_, ?_, ?_, ?_, ?_, ?_, ?_, ?_⟩
 · exact Prod.ext rfl (by decide +kernel)
 · exact Prod.ext rfl (by decide +kernel)
 · exact Prod.ext rfl (Prod.ext (by decide +kernel) (by decide +kernel))
 · decide +kernel
 · exact Prod.ext rfl (Prod.ext rfl (by decide +kernel))
 · exact Prod.ext rfl (by decide +kernel)
 · exact Prod.ext rfl (Prod.ext (by decide +kernel) (by decide +kernel))
 all_goals decide +kernel
theorem endS_Ok {s : Stt} (h : s.Ok) : (endS s).1.Ok := by
 have key : ∀ (f n : Nat) (s : Stt), s.Ok → (endF f n s).1.Ok := by
  intro f
  induction f with
  | zero => intro n s _; exact zStt_ok
  | succ f ih =>
   intro n s h
   unfold endF
   split
   · exact h
   · split
     · exact zStt_ok
     · exact ih _ _ (stepS_Ok h)
 exact key _ _ _ h
theorem startS_Ok {s : Stt} {up : Bool} (h : s.Ok) : (startS s up).1.Ok := by
 unfold startS
 split
 · exact zStt_ok
 · split
   · exact zStt_ok
   · split
     · exact zStt_ok
     · exact turn_ok h
open Go.Awp
open Go.Awp
theorem clipG_max {fr : Int} {g : Int × Int} : clipG fr g = (max g.1 fr, g.1 + g.2 - max g.1 fr) := by
 unfold clipG; split
 · rw [Int.max_eq_right (by omega)]; exact Prod.ext rfl (by show g.2 - (fr - g.1) = _; omega)
 · rw [Int.max_eq_left (by omega)]; exact Prod.ext rfl (by show g.2 = _; omega)
theorem gaps_b {s : Stt} (h : sttS s = true) : ∀ i, i < (gapsOf s).length → 0 ≤ (nth (gapsOf s) i).1 ∧ 0 < (nth (gapsOf s) i).2 ∧ (nth (gapsOf s) i).1 + (nth (gapsOf s) i).2 ≤ 2048 := fun i hi => by
 have hg := sttS_gaps h
 simp only [gapsS, Bool.and_eq_true] at hg
 have hb := superS_b (sttS_super h)
 obtain ⟨h1, h2, h3, _⟩ := gapsF_mem hg.2 _ (nth_mem hi)
 show 0 ≤ (nth (gapsF _ _ _) i).1 ∧ _
 have hh := gaps_head (sttS_super h)
 simp only [gapsHead, decide_eq_true_eq] at hh
 have e1 : (nth (gapsOf s) i) = nth (gapsF (s.sh.pages * 32) (s.base * 32) (spansS s.slots)) i := rfl
 rw [e1]
 omega
theorem up_facts {s : Stt} (hR : sttS s = true) : (onesS s.slots).length ≤ 2^40 ∧ (spansS s.slots).length = (onesS s.slots).length ∧ (gapsOf s).length ≤ 2^40 ∧ gapsR (s.base * 32) (s.sh.pages * 32) (spansS s.slots) = (gapsOf s, 0) := by
 have hT := tableS_len (sttS_rows hR)
 have hol := onesS_len (l := s.slots)
 have hsl : (spansS s.slots).length = (onesS s.slots).length := by simp [spansS]
 have hgl := gapsF_len (to := s.sh.pages * 32) (l := spansS s.slots) (a := s.base * 32)
 refine ⟨by omega, hsl, by show (gapsF _ _ _).length ≤ _; omega, ?_⟩
 unfold gapsR; rw [if_pos (sttS_gaps hR)]; rfl
open Go.Awp
theorem ct169 (g : Gl) (l : List (Int × Int)) (fr : Int) (hl : l.length ≤ 2^40) (hf : 0 ≤ fr ∧ fr ≤ 2^40) (hb : ∀ i, i < l.length → 0 ≤ (nth l i).1 ∧ 0 < (nth l i).2 ∧ (nth l i).1 + (nth l i).2 ≤ 2048) : CtAt Tryz.prog g 169 [rO l, vI fr] (oO (clipS fr l)) := by
 refine ctAt_of_W Tryz.func169 rfl rfl (Nat.le_of_ble_eq_true rfl) fun B S => ?_
 refine xU ?_
 refine xO ?_
 refine xG [0,1] ?_
 refine xO ?_
 refine xF [0,1,5] ?_
 refine W_seq (xU ?_)
 refine xO ?_
 refine xF [0,1,5,6] ?_
 refine W_block (W_rounds (fun m σ o => ∃ i : Nat, m = l.length - i ∧ i ≤ l.length ∧ σ = slots [(0, .d (rO l)), (1, .d (vI fr)), (5, .hdr 0 0 (clipS fr (l.take i)).length), (6, .d (vI i))] ∧ o = [.row 2 ((clipS fr (l.take i)).map eObj)]) l.length (Weak.trans (Weak.nilRow 5 2 rfl) (Weak.kills [0,1,5,6] rfl) (fun _ _ _ h1 h2 => by rw [← h1.len]; exact h2)) ⟨0, by simp, by simp, by simp [clipS], by simp [clipS]⟩ ?_)
 rintro m σ o ⟨i, rfl, hi, rfl, rfl⟩ _
 have hcl := clip_len (fr := fr) (l := l.take i)
 refine W_seq (xU ?_)
 iterate 4 refine xO ?_
 refine xF [0,1,5,6,12] ?_
 refine W_cond rfl ?_ ?_
 · intro h12
   have hi2 : i < l.length := by simpa using h12
   have hst := clip_step (fr := fr) hi2
   rw [clipG_max] at hst
   obtain ⟨C, hC⟩ : ∃ C, C = clipS fr (l.take i) := ⟨_, rfl⟩
   rw [← hC] at hst hcl ⊢
   have hcl2 : C.length ≤ i := by simp at hcl; omega
   have f1 : (C.length + 1) * 16 ≤ 140737488355328 := by omega
   have f2 : C.length ≤ 140737488355327 := by omega
   have hpb := hb i hi2
   obtain ⟨p, hp⟩ : ∃ p, p = nth l i := ⟨_, rfl⟩
   rw [← hp] at hpb hst
   have w1 : IntKind.i64.wrap (p.1 + p.2) = p.1 + p.2 := wrap64 (by omega) (by omega)
   obtain ⟨q, hq⟩ : ∃ q, q = max p.1 fr := ⟨_, rfl⟩
   have hqb : 0 ≤ q ∧ q ≤ 2^41 := by omega
   have w2 : IntKind.i64.wrap (p.1 + p.2 - q) = p.1 + p.2 - q := wrap64 (by omega) (by omega)
   have hif : (if fr < p.1 then p.1 else fr) = q := by rw [hq]; omega
   have hif2 : (if p.1 < fr then fr else p.1) = q := by rw [hq]; omega
   rw [← hq] at hst
   refine W_skip ?_
   rintro -
   refine W_seq (W_block ?_)
   refine W_seq ?_
   refine W_regD (by kernel_rfl) [] 4 [0,1,2,3,4,5,6,7,8,9,10,11] (by decide +kernel) ?_
   iterate 2 refine xO ?_
   refine xO ?_ (h := by simp [eObj, hi2]; exact .mk)
   refine xO ?_
   refine xO ?_ (h := by simp [-List.getElem?_map, map_get hi2, eObj, ← hp]; exact .mk)
   iterate 2 refine xO ?_
   refine xO ?_ (h := by simp [eObj, hi2]; exact .mk)
   refine xO ?_
   refine xO ?_ (h := by simp [-List.getElem?_map, map_get hi2, eObj, ← hp]; exact .mk)
   refine xO ?_ (h := by simp [w1]; exact .mk)
   refine xO ?_
   refine xG [0,1,5,6,7] ?_
   iterate 2 refine xO ?_
   refine xO ?_ (h := by simp [eObj, hi2]; exact .mk)
   refine xO ?_
   refine xO ?_ (h := by simp [-List.getElem?_map, map_get hi2, eObj, ← hp]; exact .mk)
   refine xO ?_
   refine xO ?_ (h := by simp [← hq, hif, hif2]; exact .mk)
   refine xO ?_
   refine xE [0,1,5,6,7,8] ?_
   simp only [hif2]
   refine xT ?_
   iterate 3 refine xO ?_
   refine xF [0,1,5,6,7,8,35] ?_
   refine W_cond rfl ?_ ?_
   · intro h35
     rw [if_pos (by simp at h35; show 0 < p.1 + p.2 - q; omega)] at hst
     refine W_reg rfl ?_
     iterate 4 refine xO ?_
     refine xO ?_ (h := by simp [w2]; exact .mk)
     refine xO ?_ (h := by simp [splice]; exact .mk)
     refine xO ?_
     refine xO ?_ (h := by simp [rows, f1, f2]; exact .mk)
     refine xO ?_
     refine xF [0,1,5,6] ?_
     refine W_reg rfl ?_
     iterate 3 refine xO ?_
     refine xE [0,1,5,6] ?_
     refine rounds_kill [0,1,5,6] ?_
     first
     | (refine rounds_kills [0,1,5,6] rfl ?_
        refine rounds_next (m' := l.length - (i+1)) (by omega) ⟨i+1, rfl, by omega, ?_, ?_⟩
        · rw [wrap64 (by omega) (by omega), hst]; rfl
        rw [hst])
     | (refine rounds_kills [0,1,5,6] rfl ?_
        refine rounds_swap 0 2 1 (by decide) (by simp) (by decide) rfl rfl ?_
        refine rounds_drop 1 [0,1,5,6] (by decide) (by rfl) (by rfl) ?_
        refine rounds_next (m' := l.length - (i+1)) (by omega) ⟨i+1, rfl, by omega, ?_, ?_⟩
        · rw [wrap64 (by omega) (by omega), hst]; simp; try rfl
        rw [hst]; simp [eObj]; try rfl)
   intro h35
   rw [if_neg (by simp at h35; show ¬ 0 < p.1 + p.2 - q; omega), List.append_nil] at hst
   refine W_skip ?_
   rintro -
   refine W_reg rfl ?_
   iterate 3 refine xO ?_
   refine xE [0,1,5,6] ?_
   refine rounds_kill [0,1,5,6] ?_
   first
   | (refine rounds_kills [0,1,5,6] rfl ?_
      refine rounds_next (m' := l.length - (i+1)) (by omega) ⟨i+1, rfl, by omega, ?_, ?_⟩
      · rw [wrap64 (by omega) (by omega), hst]; rfl
      rw [hst])
   | (refine rounds_kills [0,1,5,6] rfl ?_
      refine rounds_swap 0 2 1 (by decide) (by simp) (by decide) rfl rfl ?_
      refine rounds_drop 1 [0,1,5,6] (by decide) (by rfl) (by rfl) ?_
      refine rounds_next (m' := l.length - (i+1)) (by omega) ⟨i+1, rfl, by omega, ?_, ?_⟩
      · rw [wrap64 (by omega) (by omega), hst]; simp; try rfl
      rw [hst]; simp [eObj]; try rfl)
 intro h12
 obtain rfl : i = l.length := by simp at h12; omega
 rw [List.take_length]
 refine W_exit (xT ?_)
 iterate 2 refine xO ?_
 refine xF [4] ?_
 refine W_ret (xR (by simp [Tryz.f169]; exact .mk) ?_)
 simp [Tryz.f169, ownR]; try rfl

theorem ct126 (g : Gl) (s : Stt) (hs : s.Ok) (hR : sttS s = true) : CtAt Tryz.prog g 126 [eStt s] (.tup [oStt (upStep s).1, vI (upStep s).2]) := by
 refine ctAt_of_W Tryz.func126 rfl rfl (Nat.le_of_ble_eq_true rfl) fun B S => ?_
 simp only [eStt, List.map, argD_agg, argD_v]
 have q0 := hs.h1
 have hb := superS_b (sttS_super hR)
 obtain ⟨u1, u2, u3, u4⟩ := up_facts hR
 have e1 : IntKind.i64.wrap (s.base + 1) = s.base + 1 := wrap64 (by omega) (by omega)
 have e2 : IntKind.i64.wrap (32 * (s.base + 1)) = (s.base + 1) * 32 := (wrap64 (by omega) (by omega)).trans (Int.mul_comm _ _)
 have e3 : IntKind.i64.wrap (32 * s.base) = s.base * 32 := (wrap64 (by omega) (by omega)).trans (Int.mul_comm _ _)
 have e4 : IntKind.i64.wrap (32 * s.sh.pages) = s.sh.pages * 32 := (wrap64 (by omega) (by omega)).trans (Int.mul_comm _ _)
 obtain ⟨L, hLL⟩ : ∃ L, L = onesS s.slots := ⟨_, rfl⟩
 have c29 := ct29 g s hs
 have c96 := ct96 g L (by rw [hLL]; exact u1)
 rw [show L.map spanOf = spansS s.slots by rw [hLL]; rfl] at c96
 rw [← hLL] at c29 u1 u2
 have c105 := ct105 g (s.base * 32) (s.sh.pages * 32) (spansS s.slots) (by omega)
 rw [u4] at c105
 refine xU ?_
 iterate 3 refine xO ?_
 refine xG [1,2] ?_
 refine xO ?_ (h := by simp [eSlot]; exact .mk)
 refine xC (ct21 g s hs) ?_ (he := by simp [row_rows, Function.comp_def]; exact .mk) (hi := by simp [oStt]; exact .mk)
 refine xO ?_
 refine xO ?_ (h := by simp [splice]; exact .mk)
 refine xF [1,2,4] ?_
 refine W_seq (xU ?_)
 refine xO ?_
 refine xO ?_ (h := by simp [eSlot]; exact .mk)
 iterate 2 refine xO ?_
 refine xO ?_ (h := by simp [eSlot]; exact .mk)
 refine xO ?_
 refine xF [1,2,4,21] ?_
 refine W_cond rfl ?_ ?_
 · intro h21
   have hq : s.base = s.sh.pages := by simpa using h21
   have hr : upStep s = (turnS s 2 0, 0) := by unfold upStep; rw [if_pos hq]
   refine xU ?_
   refine xO ?_
   refine xO ?_ (h := by simp [splice]; exact .mk)
   refine xG [2,4] ?_
   refine xO ?_ (h := by simp [eSlot]; exact .mk)
   refine xO ?_ (h := by simp [splice]; exact .mk)
   refine xO ?_
   refine xF [2,3] ?_
   refine W_ret (end_ret (by simp [Tryz.f126]; exact .mk) (by simp; exact .mk) ?_ (by simp [oStt]))
   first | (simp [Tryz.f126, hr, oStt, ownR]; done) | (simp [Tryz.f126, hr, oStt, zStt, ownR, turnS]; done)
 intro h21
 have hq : s.base ≠ s.sh.pages := by simpa using h21
 refine W_skip ?_
 refine xT ?_
 refine xO ?_
 refine xO ?_ (h := by simp [eSlot]; exact .mk)
 refine xO ?_ (h := by simp [e1]; exact .mk)
 refine xO ?_ (h := by simp [e1, e2]; exact .mk)
 refine xO ?_
 refine xG [1,2,4,5] ?_
 refine xO ?_ (h := by simp [eSlot]; exact .mk)
 refine xC (c29) ?_ (he := by simp [row_rows, Function.comp_def]; exact .mk) (hi := by simp [oStt]; exact .mk)
 refine xO ?_
 refine xF [1,2,4,5,6] ?_
 refine W_seq (xU ?_)
 iterate 4 refine xO ?_
 refine xI ?_
 refine run_if rfl (by simp; exact .mk) rfl (by simp <;> first | omega | grind) (fun hb => by simp at hb; have hl0 := List.length_pos_iff.2 hb; simp [hl0]; exact .mk) ?_
 refine xI ?_
 refine run_if rfl (by simp; exact .mk) rfl (by simp <;> first | omega | grind) (fun hb => by simp at hb; have hl0 := List.length_pos_iff.2 hb; simp [-List.getElem?_map, map_get hl0, eBlk]; exact .mk) ?_
 iterate 2 refine xI ?_
 refine xP ?_
 refine xF [1,2,4,5,6,40] ?_
 refine W_cond rfl ?_ ?_
 · intro h40
   have hc : onesS s.slots = [] ∨ (s.base + 1) * 32 ≤ (nth (onesS s.slots) 0).at_ := by rw [← hLL]; simp at h40; exact h40
   have hr : upStep s = (turnS s s.mode 1, 0) := by unfold upStep; rw [if_neg hq, if_pos hc]
   refine xU ?_
   refine xO ?_
   refine xO ?_ (h := by simp [eSlot]; exact .mk)
   refine xO ?_ (h := by simp [e1]; exact .mk)
   refine xO ?_
   refine xO ?_ (h := by simp [splice]; exact .mk)
   refine xG [2,4] ?_
   refine xO ?_ (h := by simp [eSlot]; exact .mk)
   refine xO ?_ (h := by simp [splice]; exact .mk)
   refine xO ?_
   refine xF [2,3] ?_
   refine W_ret (end_ret (by simp [Tryz.f126]; exact .mk) (by simp; exact .mk) ?_ (by simp [oStt]))
   first | (simp [Tryz.f126, hr, oStt, ownR]; done) | (simp [Tryz.f126, hr, oStt, zStt, ownR, turnS]; done)
 intro h40
 have hc : ¬ (onesS s.slots = [] ∨ (s.base + 1) * 32 ≤ (nth (onesS s.slots) 0).at_) := by rw [← hLL]; simp at h40 ⊢; exact h40
 have hne : onesS s.slots ≠ [] := fun e => hc (.inl e)
 obtain ⟨k, hk, hk1, hk2⟩ := ones_head hne
 have hsl : (nth L 0).slot = (k : Int) := by rw [hLL, hk2]; rfl
 have hl0 : 0 < L.length := by rw [hLL]; exact List.length_pos_iff.2 hne
 have hr0 : upStep s = (match roomS s true (nth s.slots k).len with | some a => moveS s k true a | none => match behindS s ((s.base + 1) * 32) (nth L 0).len with | some a => moveS s k false a | none => (zStt, 10)) := by unfold upStep lenAt; rw [← hLL]; rw [← hLL] at hc; rw [if_neg hq, if_neg hc, hsl]; rfl
 refine W_skip ?_
 refine xT ?_
 refine xO ?_
 refine xO ?_ (h := by simp [eSlot, hl0]; exact .mk)
 refine xO ?_
 refine xO ?_ (h := by simp [-List.getElem?_map, map_get hl0, eBlk, hsl]; exact .mk)
 refine xO ?_
 refine xF [1,2,5,6,7] ?_
 refine W_seq ?_
 refine W_regD (by kernel_rfl) [] 4 [0,1,2,3,4,5,6,7,8,9,10,11,12] (by decide +kernel) ?_
 refine xO ?_ (h := by simp [eSlot]; exact .mk)
 refine xO ?_
 refine xO ?_ (h := by simp [eSlot]; exact .mk)
 refine xO ?_
 refine xO ?_ (h := by simp [eSlot, hk]; exact .mk)
 refine xO ?_
 refine xO ?_ (h := by simp [-List.getElem?_map, map_get hk, eSlot]; exact .mk)
 refine xC (ct39 g s hs true (nth s.slots k).len) ?_ (he := by simp [row_rows, Function.comp_def]; exact .mk) (hi := by simp [oStt]; exact .mk)
 iterate 5 refine xO ?_
 refine xF [1,2,5,6,7,8,9] ?_
 refine W_seq (xU ?_)
 refine xO ?_
 refine xF [1,2,5,6,7,8,61] ?_
 refine W_cond rfl ?_ ?_
 · intro h61
   have hz := h61
   obtain ⟨a, ha⟩ : ∃ a, roomS s true (nth s.slots k).len = some a := Option.isSome_iff_exists.1 (by simpa using hz)
   rw [ha] at hr0 ⊢
   have hr : upStep s = moveS s k true a := hr0
   refine xU ?_
   refine xO ?_ (h := by simp [eSlot]; exact .mk)
   iterate 2 refine xO ?_
   refine xC (ct49 g s hs k true a) ?_ (he := by simp [row_rows, Function.comp_def]; exact .mk) (hi := by simp [oStt]; exact .mk)
   iterate 2 refine xO ?_
   refine xO ?_ (h := by simp [splice]; exact .mk)
   refine xO ?_
   refine xF [2,3] ?_
   refine W_ret (end_ret (by simp [Tryz.f126]; exact .mk) (by simp; exact .mk) ?_ (by simp [oStt]))
   first | (simp [Tryz.f126, hr, oStt, ownR]; done) | (simp [Tryz.f126, hr, oStt, zStt, ownR, turnS]; done)
 intro h61
 have ha : roomS s true (nth s.slots k).len = none := by simpa using h61
 rw [ha] at hr0
 obtain ⟨G, hG⟩ : ∃ G, G = gapsOf s := ⟨_, rfl⟩
 have hgb := gaps_b hR
 rw [← hG] at hgb u3 c105
 have c169 := ct169 g G ((s.base + 1) * 32) u3 (by omega) hgb
 obtain ⟨C, hC⟩ : ∃ C, C = clipS ((s.base + 1) * 32) G := ⟨_, rfl⟩
 have hcl := clip_len (fr := (s.base + 1) * 32) (l := G)
 rw [← hC] at c169 hcl
 have hbe : behindS s ((s.base + 1) * 32) (nth L 0).len = (bestS C (nth L 0).len).map (·.1) := by unfold behindS; rw [← hG, ← hC]
 obtain ⟨BB, hBB⟩ : ∃ BB, BB = bestS C (nth L 0).len := ⟨_, rfl⟩
 have c106 := ct106 g C (by omega) (nth L 0).len
 rw [← hBB] at hbe c106
 rw [hbe] at hr0
 refine W_skip ?_
 rintro -
 refine W_seq ?_
 refine W_regD (by kernel_rfl) [] 4 [0,1,2,3,4,5,6,7,8,9,10,11,12,13,14] (by decide +kernel) ?_
 refine xO ?_
 refine xO ?_ (h := by simp [eSlot]; exact .mk)
 refine xO ?_ (h := by simp [e3]; exact .mk)
 iterate 2 refine xO ?_
 refine xO ?_ (h := by simp [eSlot]; exact .mk)
 refine xO ?_ (h := by simp [e4]; exact .mk)
 refine xO ?_
 refine xC (c96) ?_ (he := by simp [row_rows, Function.comp_def]; exact .mk) (hi := by simp [oStt]; exact .mk)
 refine xC (c105) ?_ (he := by simp [row_rows, Function.comp_def]; exact .mk) (hi := by simp [oStt]; exact .mk)
 iterate 5 refine xO ?_
 refine xF [1,2,5,6,7,10] ?_
 refine W_seq ?_
 refine W_regDTK (hard := []) [2,7,11] (keepOk_lt (by decide)) (by kernel_rfl) 4 [0,1,3,4,5,6,2,7,8,9,10,11,12,13] [[0,1,3,4,5,6,2,11,7,8,9,10,12,13], [0,1,3,4,5,6,11,2,7,8,9,10,12,13]] (by decide +kernel) ?_
 iterate 3 refine xO ?_
 refine xO ?_ (h := by simp [eSlot, hl0]; exact .mk)
 refine xO ?_
 refine xO ?_ (h := by simp [-List.getElem?_map, map_get hl0, eBlk]; exact .mk)
 refine xC (c169) ?_ (he := by simp [row_rows, Function.comp_def]; exact .mk) (hi := by simp [oStt]; exact .mk)
 refine xC (c106) ?_ (he := by simp [row_rows, Function.comp_def]; exact .mk) (hi := by simp [oStt]; exact .mk)
 iterate 4 refine xO ?_
 refine xO ?_ (h := by simp [splice]; exact .mk)
 refine xO ?_
 refine xE [1,2,7,12,13] ?_
 refine ⟨_, rfl, ⟨?_, ?_, trivial⟩, ?_⟩
 · skip
   iterate 3 refine xO ?_
   refine xO ?_ (h := by simp [eSlot, hl0]; exact .mk)
   refine xO ?_
   refine xO ?_ (h := by simp [-List.getElem?_map, map_get hl0, eBlk]; exact .mk)
   refine xC (c169) ?_ (he := by simp [row_rows, Function.comp_def]; exact .mk) (hi := by simp [oStt]; exact .mk)
   refine xO ?_
   refine xC (c106) ?_ (he := by simp [row_rows, Function.comp_def]; exact .mk) (hi := by simp [oStt]; exact .mk)
   iterate 3 refine xO ?_
   refine xO ?_ (h := by simp [splice]; exact .mk)
   refine xO ?_
   refine xE [1,2,7,12,13] ?_
   exact Weak.perm [0,1,2,3,4,5,6,7,8,9,10] [0,1,2,3,4,5,6,7,8,9,10] rfl rfl rfl
 · skip
   iterate 3 refine xO ?_
   refine xO ?_ (h := by simp [eSlot, hl0]; exact .mk)
   refine xO ?_
   refine xO ?_ (h := by simp [-List.getElem?_map, map_get hl0, eBlk]; exact .mk)
   refine xO ?_
   refine xC (c169) ?_ (he := by simp [row_rows, Function.comp_def]; exact .mk) (hi := by simp [oStt]; exact .mk)
   refine xC (c106) ?_ (he := by simp [row_rows, Function.comp_def]; exact .mk) (hi := by simp [oStt]; exact .mk)
   iterate 3 refine xO ?_
   refine xO ?_ (h := by simp [splice]; exact .mk)
   refine xO ?_
   refine xE [1,2,7,12,13] ?_
   exact Weak.perm [0,1,2,3,4,5,6,7,8,10,9] [0,1,2,3,4,5,6,7,8,10,9] rfl rfl rfl
 rintro -
 refine W_seq (xU ?_)
 iterate 2 refine xO ?_
 refine xF [1,2,7,12,93] ?_
 refine W_cond rfl ?_ ?_
 · intro h93
   have ha2 : BB = none := by simpa using h93
   rw [ha2] at hr0
   have hr : upStep s = (zStt, 10) := hr0
   refine xU ?_
   iterate 2 (refine xO ?_ (h := by simp [splice]; exact .mk))
   refine xO ?_
   refine xF [2,3] ?_
   refine W_ret (end_ret (by simp [Tryz.f126]; exact .mk) (by simp; exact .mk) ?_ (by simp [oStt]))
   first | (simp [Tryz.f126, hr, oStt, ownR]; done) | (simp [Tryz.f126, hr, oStt, zStt, ownR, turnS]; done)
 intro h93
 obtain ⟨a, ha2⟩ : ∃ a, BB = some a := Option.isSome_iff_exists.1 (by simpa using h93)
 subst ha2
 have hr : upStep s = moveS s k false a.1 := hr0
 refine W_skip ?_
 refine xT ?_
 refine xO ?_ (h := by simp [eSlot]; exact .mk)
 iterate 2 refine xO ?_
 refine xO ?_ (h := by simp [eSlot]; exact .mk)
 refine xC (ct49 g s hs k false a.1) ?_ (he := by simp [row_rows, Function.comp_def]; exact .mk) (hi := by simp [oStt]; exact .mk)
 iterate 2 refine xO ?_
 refine xO ?_ (h := by simp [splice]; exact .mk)
 refine xO ?_
 refine xF [2,3] ?_
 refine W_ret (end_ret (by simp [Tryz.f126]; exact .mk) (by simp; exact .mk) ?_ (by simp [oStt]))
 first | (simp [Tryz.f126, hr, oStt, ownR]; done) | (simp [Tryz.f126, hr, oStt, zStt, ownR, turnS]; done)

open Go.Awp
theorem ct127 (g : Gl) (s : Stt) (hs : s.Ok) (hR : sttS s = true) : CtAt Tryz.prog g 127 [eStt s] (.tup [oStt (downStep s).1, vI (downStep s).2]) := by
 refine ctAt_of_W Tryz.func127 rfl rfl (Nat.le_of_ble_eq_true rfl) fun B S => ?_
 simp only [eStt, List.map, argD_agg, argD_v]
 have q0 := hs.h1
 have hb := superS_b (sttS_super hR)
 have e1 : IntKind.i64.wrap (s.base - 1) = s.base - 1 := wrap64 (by omega) (by omega)
 have c23 := ct23 g s hs
 obtain ⟨l, hL⟩ : ∃ l, l = twosO s.slots := ⟨_, rfl⟩
 obtain ⟨I, hI⟩ : ∃ I, I = twosI s.slots := ⟨_, rfl⟩
 rw [← hL, ← hI] at c23
 obtain ⟨hll, hIl, hlaid, hlb⟩ := down_facts hs hR
 rw [← hL] at hll hIl hlaid hlb
 rw [← hI] at hIl
 obtain ⟨ms, hM⟩ : ∃ ms, ms = matesS s.base l (s.base - 1) := ⟨_, rfl⟩
 obtain ⟨M, hMM⟩ : ∃ M : List Int, M = ms.map fun (k : Nat) => (k : Int) := ⟨_, rfl⟩
 have hMl : ms.length = M.length := by rw [hMM, List.length_map]
 have hml : ms.length ≤ l.length := by rw [hM, matesS]; exact Nat.le_trans (List.length_filter_le _ _) (by simp)
 have c170 := ct170 g s.base l (s.base - 1) (by omega) hll (fun i hi => by have := (hlb i hi).2; omega)
 rw [show matesR s.base l (s.base - 1) = ms by unfold matesR; rw [if_pos hlaid, hM], ← hMM] at c170
 have hmm : ∀ i, i < ms.length → nth ms i < l.length := fun i hi => by
  have := nth_mem hi
  rw [hM] at this
  simp only [matesS, List.mem_filter, List.mem_range] at this
  rw [hM]; exact this.1
 have hMn : ∀ i, i < ms.length → nth M i = ((nth ms i : Nat) : Int) := fun i hi => by rw [hMM, nth_map hi]
 refine xU ?_
 iterate 3 refine xO ?_
 refine xG [1,2] ?_
 refine xO ?_ (h := by simp [eSlot]; exact .mk)
 refine xC (ct21 g s hs) ?_ (he := by simp [row_rows, Function.comp_def]; exact .mk) (hi := by simp [oStt]; exact .mk)
 refine xO ?_
 refine xO ?_ (h := by simp [splice]; exact .mk)
 refine xF [1,2,4] ?_
 refine W_seq (xU ?_)
 refine xO ?_
 refine xO ?_ (h := by simp [eSlot]; exact .mk)
 refine xO ?_
 refine xF [1,2,4,20] ?_
 refine W_cond rfl ?_ ?_
 · intro h20
   have hq : s.base = 0 := by simpa using h20
   have hr : downStep s = (turnS s 1 0, 0) := by unfold downStep; rw [if_pos hq]
   refine xU ?_
   refine xO ?_
   refine xO ?_ (h := by simp [splice]; exact .mk)
   refine xG [2,4] ?_
   refine xO ?_ (h := by simp [eSlot]; exact .mk)
   refine xO ?_ (h := by simp [splice]; exact .mk)
   refine xO ?_
   refine xF [2,3] ?_
   refine W_ret (end_ret (by simp [Tryz.f127]; exact .mk) (by simp; exact .mk) ?_ (by simp [oStt]))
   first | (simp [Tryz.f127, hr, oStt, ownR]; done) | (simp [Tryz.f127, hr, oStt, zStt, ownR, turnS]; done) | (simp [Tryz.f127, hr, oStt, zStt, ownR, turnS]; omega)
 intro h20
 have hq : s.base ≠ 0 := by simpa using h20
 refine W_skip ?_
 refine xT ?_
 refine xO ?_ (h := by simp [eSlot]; exact .mk)
 refine xC (c23) ?_ (he := by simp [row_rows, Function.comp_def]; exact .mk) (hi := by simp [oStt]; exact .mk)
 iterate 5 refine xO ?_
 refine xG [1,2,4,5,6] ?_
 refine xO ?_
 refine xO ?_ (h := by simp [eSlot]; exact .mk)
 iterate 2 refine xO ?_
 refine xO ?_ (h := by simp [eSlot]; exact .mk)
 refine xO ?_ (h := by simp [e1]; exact .mk)
 refine xC (c170) ?_ (he := by simp [row_rows, Function.comp_def]; exact .mk) (hi := by simp [oStt]; exact .mk)
 refine xO ?_
 refine xF [1,2,4,5,6,7] ?_
 refine W_seq (xU ?_)
 iterate 3 refine xO ?_
 refine xF [1,2,4,5,6,7,37] ?_
 refine W_cond rfl ?_ ?_
 · intro h37
   have hc : ms = [] := List.length_eq_zero_iff.1 (by rw [hMl]; simp at h37; simp [h37])
   have hr : downStep s = (turnS s s.mode (-1), 0) := by unfold downStep; rw [← hL, ← hM, if_neg hq, if_pos hc]
   refine xU ?_
   refine xO ?_
   refine xO ?_ (h := by simp [eSlot]; exact .mk)
   refine xO ?_ (h := by simp [e1]; exact .mk)
   refine xO ?_
   refine xO ?_ (h := by simp [splice]; exact .mk)
   refine xG [2,4] ?_
   refine xO ?_ (h := by simp [eSlot]; exact .mk)
   refine xO ?_ (h := by simp [splice]; exact .mk)
   refine xO ?_
   refine xF [2,3] ?_
   refine W_ret (end_ret (by simp [Tryz.f127]; exact .mk) (by simp; exact .mk) ?_ (by simp [oStt]))
   first | (simp [Tryz.f127, hr, oStt, ownR]; done) | (simp [Tryz.f127, hr, oStt, zStt, ownR, turnS]; done) | (simp [Tryz.f127, hr, oStt, zStt, ownR, turnS]; omega)
 intro h37
 have hne : ms ≠ [] := fun e => by rw [e] at hMl; simp at h37; simp [List.length_eq_zero_iff] at hMl; exact absurd hMl.symm (by simpa using h37)
 obtain ⟨j, hj⟩ : ∃ j, j = leastS l ms := ⟨_, rfl⟩
 have hm0 : 0 < ms.length := List.length_pos_iff.2 hne
 have hM0 : 0 < M.length := by omega
 have hjl : j < l.length := by have := leastS_in (l := l) hne hmm (i := ms.length) hm0; rwa [List.take_length, ← hj] at this
 have hjI : j < I.length := by omega
 have hr0 : downStep s = (match roomS s false (nth l j).2 with | some a => moveS s (nth I j) false a | none => match placeS (s.base - 1) (restS l ms) (nth l j).2 with | some a => moveS s (nth I j) true a | none => (zStt, 10)) := by unfold downStep; rw [← hL, ← hI, ← hM, if_neg hq, if_neg hne, ← hj]; rfl
 refine W_skip ?_
 refine xT ?_
 refine xO ?_
 refine xO ?_ (h := by simp [eSlot, hM0]; exact .mk)
 refine xO ?_ (h := by simp [-List.getElem?_map, map_get hM0]; exact .mk)
 refine xO ?_
 refine xE [1,2,5,6,7,8] ?_
 rw [hMn 0 hm0, ← leastS_one (l := l) hne]
 rintro -
 refine W_seq (xU ?_)
 refine xO ?_
 refine xF [1,2,5,6,7,8,9] ?_
 refine W_block (W_rounds (fun m σ o => ∃ i : Nat, m = ms.length - i ∧ 1 ≤ i ∧ i ≤ ms.length ∧ σ = slots [(1, .ptr 0 0 0), (2, .ptr 1 0 0), (5, .hdr 6 0 l.length), (6, .hdr 7 0 I.length), (7, .hdr 8 0 M.length), (8, .d (vI ((leastS l (ms.take i) : Nat) : Int))), (9, .d (vI i))] ∧ o = [.var 28 [.d (vI s.sh.pages), .d (vI s.sh.slots), .d (vI s.sh.roots), .d (vI s.sh.room), .d (vI s.mode), .d (vI s.base), .d (rSl s.slots), .d (rR s.roots), .d (rBB s.data)], .var 28 [.d (vI 0), .d (vI 0), .d (vI 0), .d (vI 0), .d (vI 0), .d (vI 0), .d (.v (.slice none 0 0)), .d (.v (.slice none 0 0)), .d (.v (.slice none 0 0))], .row 5 (s.slots.map eSlot), .row 3 (s.roots.map eRoot), .row 1 (s.data.map oB), .var 28 [.d (vI s.sh.pages), .d (vI s.sh.slots), .d (vI s.sh.roots), .d (vI s.sh.room), .d (vI s.mode), .d (vI s.base), .hdr 2 0 s.slots.length, .hdr 3 0 s.roots.length, .hdr 4 0 s.data.length], .row 2 (l.map eObj), .row 1 (I.map vI), .row 1 (M.map vI)]) (ms.length - 1) .refl ⟨1, rfl, by omega, by omega, rfl, rfl⟩ ?_)
 rintro m σ o ⟨i, rfl, hi1, hi, rfl, rfl⟩ _
 have hlin := leastS_in (l := l) hne hmm hi1 (i := i)
 refine W_seq (xU ?_)
 iterate 4 refine xO ?_
 refine xF [1,2,5,6,7,8,9,49] ?_
 refine W_cond rfl ?_ ?_
 · intro h49
   have hi2 : i < ms.length := by rw [hMl]; simpa using h49
   have hi3 : i < M.length := by omega
   have hmi := hmm i hi2
   have hMi := hMn i hi2
   have hstp := leastS_step l hi1 hi2
   refine W_skip ?_
   rintro -
   refine W_seq (W_block ?_)
   refine W_seq ?_
   refine W_regD (by kernel_rfl) [] 4 [0,1,2,3,4,5,6,7,8,9,10,11,12,13] (by decide +kernel) ?_
   iterate 3 refine xO ?_
   refine xO ?_ (h := by simp [eSlot, hi3]; exact .mk)
   refine xO ?_ (h := by simp [-List.getElem?_map, map_get hi3, hMi]; exact .mk)
   refine xO ?_ (h := by simp [eSlot, hmi]; exact .mk)
   refine xO ?_
   refine xO ?_ (h := by simp [-List.getElem?_map, map_get hmi, eObj]; exact .mk)
   iterate 2 refine xO ?_
   refine xO ?_ (h := by simp [eSlot, hlin]; exact .mk)
   refine xO ?_
   refine xO ?_ (h := by simp [-List.getElem?_map, map_get hlin, eObj]; exact .mk)
   refine xO ?_
   refine xF [1,2,5,6,7,8,9,65] ?_
   refine W_cond rfl ?_ ?_
   · intro h65
     rw [if_pos (by simpa using h65)] at hstp
     refine W_reg rfl ?_
     iterate 2 refine xO ?_
     refine xO ?_ (h := by simp [eSlot, hi3]; exact .mk)
     refine xO ?_ (h := by simp [-List.getElem?_map, map_get hi3, hMi]; exact .mk)
     refine xO ?_
     refine xF [1,2,5,6,7,8,9] ?_
     refine W_reg rfl ?_
     iterate 3 refine xO ?_
     refine xE [1,2,5,6,7,8,9] ?_
     refine rounds_kill [1,2,5,6,7,8,9] ?_
     refine rounds_next (m' := ms.length - (i+1)) (by omega) ⟨i+1, rfl, by omega, by omega, ?_, rfl⟩
     rw [wrap64 (by omega) (by omega), hstp]; rfl
   intro h65
   rw [if_neg (by simpa using h65)] at hstp
   refine W_skip ?_
   rintro -
   refine W_reg rfl ?_
   iterate 3 refine xO ?_
   refine xE [1,2,5,6,7,8,9] ?_
   refine rounds_kill [1,2,5,6,7,8,9] ?_
   refine rounds_next (m' := ms.length - (i+1)) (by omega) ⟨i+1, rfl, by omega, by omega, ?_, rfl⟩
   rw [wrap64 (by omega) (by omega), hstp]; rfl
 intro h49
 obtain rfl : i = ms.length := by have h9 := h49; rw [← hMl] at h9; simp at h9; omega
 rw [List.take_length, ← hj]
 refine W_exit ?_
 rintro -
 refine W_seq ?_
 refine W_regD (by kernel_rfl) [] 4 [0,1,2,3,4,5,6,7,8,9,10,11] (by decide +kernel) ?_
 refine xO ?_ (h := by simp [eSlot]; exact .mk)
 iterate 2 refine xO ?_
 refine xO ?_ (h := by simp [eSlot, hjl]; exact .mk)
 refine xO ?_
 refine xO ?_ (h := by simp [-List.getElem?_map, map_get hjl, eObj]; exact .mk)
 refine xC (ct39 g s hs false (nth l j).2) ?_ (he := by simp [row_rows, Function.comp_def]; exact .mk) (hi := by simp [oStt]; exact .mk)
 iterate 5 refine xO ?_
 refine xF [1,2,5,6,7,8,10,11] ?_
 refine W_seq (xU ?_)
 refine xO ?_
 refine xF [1,2,5,6,7,8,10,80] ?_
 refine W_cond rfl ?_ ?_
 · intro h80
   have hz := h80
   obtain ⟨a, ha⟩ : ∃ a, roomS s false (nth l j).2 = some a := Option.isSome_iff_exists.1 (by simpa using hz)
   rw [ha] at hr0 ⊢
   have hr : downStep s = moveS s (nth I j) false a := hr0
   refine W_seq ?_
   refine W_regD (by kernel_rfl) [] 4 [0,1,2,3,4,5,6,7,8,9,10] (by decide +kernel) ?_
   refine xO ?_ (h := by simp [eSlot]; exact .mk)
   iterate 2 refine xO ?_
   refine xO ?_ (h := by simp [eSlot, hjI]; exact .mk)
   refine xO ?_ (h := by simp [-List.getElem?_map, map_get hjI]; exact .mk)
   refine xO ?_
   refine xC (ct49 g s hs (nth I j) false a) ?_ (he := by simp [row_rows, Function.comp_def]; exact .mk) (hi := by simp [oStt]; exact .mk)
   iterate 2 refine xO ?_
   refine xO ?_ (h := by simp [splice]; exact .mk)
   refine xO ?_
   refine xF [2,3] ?_
   refine W_ret (end_ret (by simp [Tryz.f127]; exact .mk) (by simp; exact .mk) ?_ (by simp [oStt]))
   first | (simp [Tryz.f127, hr, oStt, ownR]; done) | (simp [Tryz.f127, hr, oStt, zStt, ownR, turnS]; done) | (simp [Tryz.f127, hr, oStt, zStt, ownR, turnS]; omega)
 intro h80
 have ha : roomS s false (nth l j).2 = none := by simpa using h80
 rw [ha] at hr0
 refine W_skip ?_
 refine xT ?_
 refine xO ?_
 refine xF [1,2,5,6,7,8,12] ?_
 refine W_seq (xU ?_)
 refine xO ?_
 refine xF [1,2,5,6,7,8,12,13] ?_
 refine W_block ?_
 obtain ⟨R, hRR⟩ : ∃ R : Nat → List (Int × Int), R = fun i => ((List.range i).filter fun i => !ms.contains i).map (nth l) := ⟨_, rfl⟩
 have hR0 : R 0 = [] := by rw [hRR]; rfl
 have hRl : R l.length = restS l ms := by rw [hRR]; rfl
 have hRn : ∀ i, (R i).length ≤ i := fun i => by rw [hRR]; simp only [List.length_map]; exact Nat.le_trans (List.length_filter_le _ _) (by simp)
 have hR1 : ∀ i, R (i + 1) = R i ++ (if ms.contains i = true then [] else [nth l i]) := fun i => by
  rw [hRR]; simp only [List.range_succ, List.filter_append, List.map_append]; congr 1
  cases hq : ms.contains i <;> simp only [List.filter_cons, List.filter_nil, hq] <;> rfl
 refine W_rounds (fun m σ o => ∃ i : Nat, m = l.length - i ∧ i ≤ l.length ∧ σ = slots [(1, .ptr 0 0 0), (2, .ptr 1 0 0), (5, .hdr 6 0 l.length), (6, .hdr 7 0 I.length), (7, .hdr 8 0 M.length), (8, .d (vI j)), (12, .hdr 9 0 (R i).length), (13, .d (vI i))] ∧ o = [.var 28 [.d (vI s.sh.pages), .d (vI s.sh.slots), .d (vI s.sh.roots), .d (vI s.sh.room), .d (vI s.mode), .d (vI s.base), .d (rSl s.slots), .d (rR s.roots), .d (rBB s.data)], .var 28 [.d (vI 0), .d (vI 0), .d (vI 0), .d (vI 0), .d (vI 0), .d (vI 0), .d (.v (.slice none 0 0)), .d (.v (.slice none 0 0)), .d (.v (.slice none 0 0))], .row 5 (s.slots.map eSlot), .row 3 (s.roots.map eRoot), .row 1 (s.data.map oB), .var 28 [.d (vI s.sh.pages), .d (vI s.sh.slots), .d (vI s.sh.roots), .d (vI s.sh.room), .d (vI s.mode), .d (vI s.base), .hdr 2 0 s.slots.length, .hdr 3 0 s.roots.length, .hdr 4 0 s.data.length], .row 2 (l.map eObj), .row 1 (I.map vI), .row 1 (M.map vI), .row 2 ((R i).map eObj)]) l.length
  (Weak.trans (Weak.nilRow 12 2 rfl) (Weak.kills [1,2,5,6,7,8,12,13] rfl) (fun _ _ _ h1 h2 => by rw [← h1.len]; exact h2)) ⟨0, by simp, by simp, by simp [hR0], by simp [hR0]⟩ ?_
 rintro m σ o ⟨i, rfl, hi, rfl, rfl⟩ _
 refine W_seq (xU ?_)
 iterate 4 refine xO ?_
 refine xF [1,2,5,6,7,8,12,13,93] ?_
 refine W_cond rfl ?_ ?_
 · intro h93
   have hi2 : i < l.length := by simpa using h93
   have hRi := hR1 i
   have e4 : ((R i).length + 1) * 16 ≤ 140737488355328 := by have := hRn i; omega
   have e5 : (R i).length ≤ 140737488355327 := by have := hRn i; omega
   refine W_skip ?_
   rintro -
   refine W_seq (W_block ?_)
   refine xU ?_
   refine xO ?_
   refine xF [1,2,5,6,7,8,12,13,14] ?_
   refine W_seq (xU ?_)
   refine xO ?_
   refine xF [1,2,5,6,7,8,12,13,14,15] ?_
   refine W_block (W_rounds (fun m σ o => ∃ q : Nat, m = ms.length - q ∧ q ≤ ms.length ∧ σ = slots [(1, .ptr 0 0 0), (2, .ptr 1 0 0), (5, .hdr 6 0 l.length), (6, .hdr 7 0 I.length), (7, .hdr 8 0 M.length), (8, .d (vI j)), (12, .hdr 9 0 (R i).length), (13, .d (vI i)), (14, .d (vT ((ms.take q).contains i))), (15, .d (vI q))] ∧ o = [.var 28 [.d (vI s.sh.pages), .d (vI s.sh.slots), .d (vI s.sh.roots), .d (vI s.sh.room), .d (vI s.mode), .d (vI s.base), .d (rSl s.slots), .d (rR s.roots), .d (rBB s.data)], .var 28 [.d (vI 0), .d (vI 0), .d (vI 0), .d (vI 0), .d (vI 0), .d (vI 0), .d (.v (.slice none 0 0)), .d (.v (.slice none 0 0)), .d (.v (.slice none 0 0))], .row 5 (s.slots.map eSlot), .row 3 (s.roots.map eRoot), .row 1 (s.data.map oB), .var 28 [.d (vI s.sh.pages), .d (vI s.sh.slots), .d (vI s.sh.roots), .d (vI s.sh.room), .d (vI s.mode), .d (vI s.base), .hdr 2 0 s.slots.length, .hdr 3 0 s.roots.length, .hdr 4 0 s.data.length], .row 2 (l.map eObj), .row 1 (I.map vI), .row 1 (M.map vI), .row 2 ((R i).map eObj)]) ms.length .refl ⟨0, by simp, by simp, rfl, rfl⟩ ?_)
   rintro m σ o ⟨q, rfl, hq1, rfl, rfl⟩ _
   refine W_seq (xU ?_)
   iterate 4 refine xO ?_
   refine xF [1,2,5,6,7,8,12,13,14,15,99] ?_
   refine W_cond rfl ?_ ?_
   · intro h99
     have hq2 : q < ms.length := by rw [hMl]; simpa using h99
     have hq3 : q < M.length := by omega
     have hMq := hMn q hq2
     have hcq : (ms.take (q + 1)).contains i = ((ms.take q).contains i || decide (nth ms q = i)) := by rw [take_succ hq2]; simp [eq_comm]
     refine W_skip ?_
     rintro -
     refine W_seq (W_block ?_)
     refine W_reg rfl ?_
     iterate 2 refine xO ?_
     iterate 2 refine xI ?_
     refine run_if rfl (by simp; exact .mk) rfl (by simp <;> first | omega | grind) (fun hb => by simp [eSlot, hq3]; exact .mk) ?_
     refine run_if rfl (by simp; exact .mk) rfl (by simp <;> first | omega | grind) (fun hb => by simp [-List.getElem?_map, map_get hq3, hMq]; exact .mk) ?_
     iterate 2 refine xI ?_
     refine xP ?_
     refine xB ?_
     refine xF [1,2,5,6,7,8,12,13,14,15] ?_
     refine W_reg rfl ?_
     iterate 3 refine xO ?_
     refine xE [1,2,5,6,7,8,12,13,14,15] ?_
     refine rounds_kill [1,2,5,6,7,8,12,13,14,15] ?_
     refine rounds_next (m' := ms.length - (q+1)) (by omega) ⟨q+1, rfl, by omega, ?_, rfl⟩
     rw [wrap64 (by omega) (by omega), hcq]
     simp [Int.natCast_inj, Bool.beq_eq_decide_eq]; try rfl
   intro h99
   obtain rfl : q = ms.length := by have h9 := h99; rw [← hMl] at h9; simp at h9; omega
   rw [List.take_length]
   refine W_exit (xT ?_)
   iterate 2 refine xO ?_
   refine xF [1,2,5,6,7,8,12,13,112] ?_
   refine W_cond rfl ?_ ?_
   · intro h112
     have hc : ms.contains i = false := by simpa using h112
     rw [if_neg (by rw [hc]; simp)] at hRi
     refine W_reg rfl ?_
     iterate 3 refine xO ?_
     refine xO ?_ (h := by simp [eSlot, hi2]; exact .mk)
     refine xO ?_ (h := by simp [-List.getElem?_map, map_get hi2, eObj]; exact .mk)
     refine xO ?_
     refine xO ?_ (h := by simp [rows, e4, e5]; exact .mk)
     refine xO ?_
     refine xF [1,2,5,6,7,8,12,13] ?_
     refine W_reg rfl ?_
     iterate 3 refine xO ?_
     refine xE [1,2,5,6,7,8,12,13] ?_
     refine rounds_kill [1,2,5,6,7,8,12,13] ?_
     first
     | (refine rounds_kills [1,2,5,6,7,8,12,13] rfl ?_
        refine rounds_next (m' := l.length - (i+1)) (by omega) ⟨i+1, rfl, by omega, ?_, ?_⟩
        · rw [wrap64 (by omega) (by omega), hRi]; rfl
        rw [hRi])
     | (refine rounds_kills [1,2,5,6,7,8,12,13] rfl ?_
        refine rounds_swap 9 11 1 (by decide) (by simp) (by decide) rfl rfl ?_
        refine rounds_drop 10 [1,2,5,6,7,8,12,13] (by decide) (by rfl) (by rfl) ?_
        refine rounds_next (m' := l.length - (i+1)) (by omega) ⟨i+1, rfl, by omega, ?_, ?_⟩
        · rw [wrap64 (by omega) (by omega), hRi]; simp; try rfl
        rw [hRi]; simp [eObj]; try rfl)
   intro h112
   have hc : ms.contains i = true := by simpa using h112
   rw [if_pos hc, List.append_nil] at hRi
   refine W_skip ?_
   rintro -
   refine W_reg rfl ?_
   iterate 3 refine xO ?_
   refine xE [1,2,5,6,7,8,12,13] ?_
   refine rounds_kill [1,2,5,6,7,8,12,13] ?_
   first
   | (refine rounds_kills [1,2,5,6,7,8,12,13] rfl ?_
      refine rounds_next (m' := l.length - (i+1)) (by omega) ⟨i+1, rfl, by omega, ?_, ?_⟩
      · rw [wrap64 (by omega) (by omega), hRi]; rfl
      rw [hRi])
   | (refine rounds_kills [1,2,5,6,7,8,12,13] rfl ?_
      refine rounds_swap 9 11 1 (by decide) (by simp) (by decide) rfl rfl ?_
      refine rounds_drop 10 [1,2,5,6,7,8,12,13] (by decide) (by rfl) (by rfl) ?_
      refine rounds_next (m' := l.length - (i+1)) (by omega) ⟨i+1, rfl, by omega, ?_, ?_⟩
      · rw [wrap64 (by omega) (by omega), hRi]; simp; try rfl
      rw [hRi]; simp [eObj]; try rfl)
 intro h93
 obtain rfl : i = l.length := by simp at h93; omega
 rw [hRl]
 obtain ⟨V, hV⟩ : ∃ V, V = restS l ms := ⟨_, rfl⟩
 have hVn := hRn l.length
 rw [hRl] at hVn
 have hVb : ∀ k, k < V.length → (nth V k).1 ≤ 2^40 := by rw [hV]; exact rest_b (fun k hk => (hlb k hk).2)
 rw [← hV] at hr0 hVn ⊢
 have c104 := ct104 g (s.base - 1) V (nth l j).2 (by omega) (fun k hk => by have := hVb k hk; omega)
 refine W_exit ?_
 rintro -
 refine W_seq ?_
 refine W_regD (by kernel_rfl) [] 4 [0,1,2,3,4,5,6,7,8,9,10,11,12,13,14] (by decide +kernel) ?_
 refine xO ?_
 refine xO ?_ (h := by simp [eSlot]; exact .mk)
 refine xO ?_ (h := by simp [e1]; exact .mk)
 iterate 3 refine xO ?_
 refine xO ?_ (h := by simp [eSlot, hjl]; exact .mk)
 refine xO ?_
 refine xO ?_ (h := by simp [-List.getElem?_map, map_get hjl, eObj]; exact .mk)
 refine xC (c104) ?_ (he := by simp [row_rows, Function.comp_def]; exact .mk) (hi := by simp [oStt]; exact .mk)
 iterate 5 refine xO ?_
 refine xF [1,2,6,8,10,11] ?_
 refine W_seq (xU ?_)
 iterate 2 refine xO ?_
 refine xF [1,2,6,8,10,134] ?_
 refine W_cond rfl ?_ ?_
 · intro h134
   have ha2 : placeS (s.base - 1) V (nth l j).2 = none := by simpa using h134
   rw [ha2] at hr0
   have hr : downStep s = (zStt, 10) := hr0
   refine xU ?_
   iterate 2 (refine xO ?_ (h := by simp [splice]; exact .mk))
   refine xO ?_
   refine xF [2,3] ?_
   refine W_ret (end_ret (by simp [Tryz.f127]; exact .mk) (by simp; exact .mk) ?_ (by simp [oStt]))
   first | (simp [Tryz.f127, hr, oStt, ownR]; done) | (simp [Tryz.f127, hr, oStt, zStt, ownR, turnS]; done) | (simp [Tryz.f127, hr, oStt, zStt, ownR, turnS]; omega)
 intro h134
 have hz : (placeS (s.base - 1) V (nth l j).2).isNone = false := by simpa using h134
 obtain ⟨a, ha2⟩ : ∃ a, placeS (s.base - 1) V (nth l j).2 = some a := Option.isSome_iff_exists.1 (by cases hp : placeS (s.base - 1) V (nth l j).2 <;> simp_all)
 rw [ha2] at hr0 ⊢
 have hr : downStep s = moveS s (nth I j) true a := hr0
 refine W_skip ?_
 rintro -
 refine W_seq ?_
 refine W_regD (by kernel_rfl) [] 4 [0,1,2,3,4,5,6,7,8,9,10] (by decide +kernel) ?_
 refine xO ?_ (h := by simp [eSlot]; exact .mk)
 iterate 2 refine xO ?_
 refine xO ?_ (h := by simp [eSlot, hjI]; exact .mk)
 refine xO ?_ (h := by simp [-List.getElem?_map, map_get hjI]; exact .mk)
 refine xO ?_
 refine xC (ct49 g s hs (nth I j) true a) ?_ (he := by simp [row_rows, Function.comp_def]; exact .mk) (hi := by simp [oStt]; exact .mk)
 iterate 2 refine xO ?_
 refine xO ?_ (h := by simp [splice]; exact .mk)
 refine xO ?_
 refine xF [2,3] ?_
 refine W_ret (end_ret (by simp [Tryz.f127]; exact .mk) (by simp; exact .mk) ?_ (by simp [oStt]))
 first | (simp [Tryz.f127, hr, oStt, ownR]; done) | (simp [Tryz.f127, hr, oStt, zStt, ownR, turnS]; done) | (simp [Tryz.f127, hr, oStt, zStt, ownR, turnS]; omega)

open Go.Awp
theorem in199m (g : Gl) (o0 o1 o2 : Awp.Obj) (pages : Int) (l : List (Int × Int)) : ∀ B S, CallsA Tryz.prog g B S ⟨3, true⟩ 199 [.d (vI pages), .d (rO l)] [o0, o1, o2]
    (fun x r => x = .fn (.func 231) [] [.ptr 4 0 0, .ptr 3 0 0] ∧ r = [o0, o1, o2, .var 3 [.d (vI pages)], .var 32 [.d (rO l)]]) := by
 refine callsA_at Tryz.func199 rfl (Nat.le_of_ble_eq_true rfl) fun B S => ?_
 refine xU ?_
 iterate 3 refine xO ?_
 refine xE [2,3] ?_
 refine xT ?_
 iterate 2 refine xO ?_
 refine xE [4] fun _ => ?_
 refine W_ret (endAt_ret (by simp [Tryz.f199]; exact .mk) ?_ ?_)
 · simp
 simp
theorem in231m (g : Gl) (pages page : Int) (l : List (Int × Int)) (hp : 0 ≤ pages ∧ pages ≤ 64) (hl : l.length ≤ 2^40) (ho : ∀ i, i < l.length → (nth l i).1 ≤ 2^40) (b lb : Nat) (c : LoopC) (L : List (Nat × AV)) (hc1 : c.params.size = 2) (hc2 : ∀ p ∈ c.params.toList, p < c.n)
    (U : Nat → List Nat) (hU : U 0 = []) (zL : (L.all fun p => p.2.lt 7) = true) (zK : (L.all fun p => p.2.lt 8) = true) (zR : (L.map fun p => (p.1, p.2.ren (swapB 7 11 1))) = L)
    (hround : ∀ i, i < l.length → ∀ B S, RoundI Tryz.prog g B S lb 6 c L [.agg [.d (vI (spotS pages (nth l i)).1.page), .d (vI (spotS pages (nth l i)).1.count), .d (vT (spotS pages (nth l i)).1.small), .d (vI (spotS pages (nth l i)).1.cls), .d (vI (spotS pages (nth l i)).1.cell)], .d (vT (spotS pages (nth l i)).2)] [.var 3 [.d (vI page)], .var 33 [.hdr 7 0 (U (i)).length], .var 3 [.d (vI (i : Nat))], .var 3 [.d (vI pages)], .var 32 [.d (rO l)], .blk b, .lp lb c L .ready none, .row 1 ((U (i)).map fun (k : Nat) => vI k), .var 98 [.d (vI (nth l i).1), .d (vI (nth l i).2)]] (fun bb o => bb = true ∧ ((∃ Y : Awp.Obj, o = [.var 3 [.d (vI page)], .var 33 [.hdr 7 0 (U (i + 1)).length], .var 3 [.d (vI (i + 1 : Nat))], .var 3 [.d (vI pages)], .var 32 [.d (rO l)], .blk b, .lp lb c L .ready none, .row 1 ((U (i + 1)).map fun (k : Nat) => vI k), .var 98 [.d (vI (nth l i).1), .d (vI (nth l i).2)], Y]) ∨ ∃ X Y Y2 : Awp.Obj, o = [.var 3 [.d (vI page)], .var 33 [.hdr 11 0 (U (i + 1)).length], .var 3 [.d (vI (i + 1 : Nat))], .var 3 [.d (vI pages)], .var 32 [.d (rO l)], .blk b, .lp lb c L .ready none, X, .var 98 [.d (vI (nth l i).1), .d (vI (nth l i).2)], Y, Y2, .row 1 ((U (i + 1)).map fun (k : Nat) => vI k)]))) :
    ∀ B S, CallsA Tryz.prog g B S ⟨7, true⟩ 231 [.fn (.yield lb) [] [], .ptr 4 0 0, .ptr 3 0 0] [.var 3 [.d (vI page)], .var 33 [.d (.v (.slice none 0 0))], .var 3 [.d (vI 0)], .var 3 [.d (vI pages)], .var 32 [.d (rO l)], .blk b, .lp lb c L .ready none] (fun x r => x = .tup [] ∧ r = [.var 3 [.d (vI page)], .var 33 [.hdr 7 0 (U (l.length)).length], .var 3 [.d (vI (l.length : Nat))], .var 3 [.d (vI pages)], .var 32 [.d (rO l)], .blk b, .lp lb c L .ready none, .row 1 ((U (l.length)).map fun (k : Nat) => vI k)]) := by
 refine callsA_WI Tryz.func231 rfl (Nat.le_of_ble_eq_true rfl) fun B S => ?_
 refine WI_seq ?_
 refine WI_reg rfl ?_ (by decide +kernel)
 refine xO ?_ (h := by simp [zL, eObj]; exact .mk)
 iterate 2 (refine xO ?_ (h := by simp [zL]; exact .mk))
 refine xE [0,2,6,7,8] fun _ => ?_
 refine WI_block ?_
 refine WI_weak (Weak.nilCell 1 0 1 rfl rfl) ?_
 refine WI_rounds (fun m σ o => ∃ i : Nat, m = l.length - i ∧ i ≤ l.length ∧ σ = slots [(0, .fn (.yield lb) [] []), (2, .ptr 3 0 0), (6, .d (rO l)), (7, .d (vI l.length)), (8, .d (vI i))] ∧ o = [.var 3 [.d (vI page)], .var 33 [.hdr 7 0 (U (i)).length], .var 3 [.d (vI (i : Nat))], .var 3 [.d (vI pages)], .var 32 [.d (rO l)], .blk b, .lp lb c L .ready none, .row 1 ((U (i)).map fun (k : Nat) => vI k)]) l.length .refl ⟨0, by simp, by simp, by simp, by simp [hU]⟩ ?_
 rintro m σ o ⟨i, rfl, hi, rfl, rfl⟩ _
 refine WI_seq ?_
 refine WI_reg rfl ?_ (by decide +kernel)
 refine xO ?_ (h := by simp [zL]; exact .mk)
 refine xE [0,2,6,7,8,9] fun _ => ?_
 refine WI_seq ?_
 refine WI_cond rfl ?_ ?_
 · intro h9
   have hi2 : i < l.length := by simpa using h9
   refine WI_skip ?_
   rintro -
   refine WI_seq ?_
   refine WI_block ?_
   refine WI_seq ?_
   refine WI_reg rfl ?_ (by decide +kernel)
   refine xO ?_ (h := by simp [zL, zK, eObj, *]; exact .mk)
   refine xO ?_ (h := by simp [zL, zK, eObj]; exact .mk)
   refine xO ?_ (h := by simp [zL, zK]; exact .mk)
   refine xO ?_ (h := by simp [zL, zK, splice]; exact .mk)
   refine xE [0,2,5,6,7,8] fun _ => ?_
   refine WI_seq ?_
   refine WI_regY [0,1,2,3,4,5] 6 [7] rfl ?_ (by decide +kernel)
   refine xO ?_ (h := by simp [zL, zK]; exact .mk)
   iterate 2 (refine xO ?_ (h := by simp [zL, zK, eObj]; exact .mk))
   refine run_call0 rfl rfl rfl rfl (by simp [zL, zK]; exact .mk) (by simp [zL, zK]; exact .mk) (ct232 g pages (nth l i) hp (ho i hi2)) (by simp [zL, zK]) (by simp [zL, zK]; exact .mk) ?_
   iterate 2 (refine xO ?_ (h := by simp [zL, zK]; exact .mk))
   refine run_yieldA (fun bb o => bb = true ∧ ((∃ Y : Awp.Obj, o = [.var 3 [.d (vI page)], .var 33 [.hdr 7 0 (U (i + 1)).length], .var 3 [.d (vI (i + 1 : Nat))], .var 3 [.d (vI pages)], .var 32 [.d (rO l)], .blk b, .lp lb c L .ready none, .row 1 ((U (i + 1)).map fun (k : Nat) => vI k), .var 98 [.d (vI (nth l i).1), .d (vI (nth l i).2)], Y]) ∨ ∃ X Y Y2 : Awp.Obj, o = [.var 3 [.d (vI page)], .var 33 [.hdr 11 0 (U (i + 1)).length], .var 3 [.d (vI (i + 1 : Nat))], .var 3 [.d (vI pages)], .var 32 [.d (rO l)], .blk b, .lp lb c L .ready none, X, .var 98 [.d (vI (nth l i).1), .d (vI (nth l i).2)], Y, Y2, .row 1 ((U (i + 1)).map fun (k : Nat) => vI k)])) rfl rfl rfl rfl rfl (by simp) (by simp; exact .mk) (by simp [eSpot]; exact .mk) rfl hc1 hc2 (hround i hi2) ?_
   rintro bb o2 ⟨rfl, ⟨Y, rfl⟩ | ⟨X, Y, Y2, rfl⟩⟩
   · refine xO ?_ (h := by simp [zL, zK]; exact .mk)
     refine xE [0,2,6,7,8,19] fun _ => ?_
     refine WI_cond rfl ?_ ?_
     · intro h19
       simp at h19
     intro h19
     refine WI_skip ?_
     rintro -
     refine WI_reg rfl ?_ (by decide +kernel)
     iterate 2 (refine xO ?_ (h := by simp [zL, zK]; exact .mk))
     refine xE [0,2,6,7,8] ?_
     refine roundsI_of ?_
     refine rounds_drop 8 [0,2,6,7,8] (by simp) (by simp [boxA, AV.cells, AV.isCell, zL, zK]) (by simp [boxA, AV.cells, AV.isCell, zL, zK]) ?_
     exact rounds_next (m' := l.length - (i + 1)) (by omega) ⟨i + 1, rfl, by omega, by rw [wrap64 (by omega) (by omega)]; rfl, rfl⟩
   refine xO ?_ (h := by simp [zL, zK]; exact .mk)
   refine xE [0,2,6,7,8,19] fun _ => ?_
   refine WI_cond rfl ?_ ?_
   · intro h19
     simp at h19
   intro h19
   refine WI_skip ?_
   rintro -
   refine WI_reg rfl ?_ (by decide +kernel)
   iterate 2 (refine xO ?_ (h := by simp [zL, zK]; exact .mk))
   refine xE [0,2,6,7,8] ?_
   refine roundsI_of ?_
   refine rounds_kills [0,2,6,7,8] rfl ?_
   have hlp : Obj.ren (swapB 7 11 1) (.lp lb c L .ready none) = .lp lb c L .ready none := by
    show Obj.lp _ _ (L.map _) _ _ = _
    rw [zR]
   refine rounds_swap 7 11 1 (objs2 := [.var 3 [.d (vI page)], .var 33 [.hdr 7 0 (U (i + 1)).length], .var 3 [.d (vI (i + 1 : Nat))], .var 3 [.d (vI pages)], .var 32 [.d (rO l)], .blk b, .lp lb c L .ready none, .row 1 ((U (i + 1)).map fun (k : Nat) => vI k), .var 98 [.d (vI (nth l i).1), .d (vI (nth l i).2)], Y.ren (swapB 7 11 1), Y2.ren (swapB 7 11 1), X.ren (swapB 7 11 1)]) (by decide) (by simp) (by simp) (by show _ = [_, _, _, _, _, _, Obj.ren (swapB 7 11 1) (.lp lb c L .ready none), _, _, _, _, _]; rw [hlp]; rfl) rfl ?_
   refine rounds_drop 8 [0,2,6,7,8] (by simp) (by rfl) (by simp [zL, zK]) ?_
   exact rounds_next (m' := l.length - (i + 1)) (by omega) ⟨i + 1, rfl, by omega, by rw [wrap64 (by omega) (by omega)]; rfl, rfl⟩
 intro h9
 obtain rfl : i = l.length := by simp at h9; omega
 refine WI_exit ?_
 try simp only [thenI_ret, roundsI_ret, inBlkI_ret, thenI_exit, roundsI_exit, inBlkI_exit, if_true]
 refine endInM_normal (fn := Tryz.f231) (rs := []) 8 .nil ?_ (by simp) ?_ ?_ ?_
 · simp [Tryz.f231]; exact .mk
 · rfl
 · simp [zL, zK]
 exact ⟨rfl, rfl⟩
end Go.Proofs
