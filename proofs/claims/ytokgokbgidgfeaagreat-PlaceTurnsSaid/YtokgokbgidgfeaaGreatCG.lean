/- Contracts of the program's functions and plain facts, for arguments as each lemma says. -/
import Derived.Test.YtokgokbgidgfeaaGreatAwpD
import Derived.Test.YtokgokbgidgfeaaGreatCF
import Derived.Test.YtokgokbgidgfeaaGreatCE
import Derived.Test.YtokgokbgidgfeaaGreatCA
set_option linter.all false
set_option maxHeartbeats 4000000
set_option maxRecDepth 4000
namespace Go.Proofs
open Go.Awp
theorem ct97 (g : Gl) (pages : Int) (l : List (Int × Int)) (hl : l.length ≤ 2^40) (hb : ∀ i, i < l.length → (nth l i).1 ≤ 2^62) : CtAt Tryz.prog g 97 [vI pages, rO l] (.tup [oI (kindsR pages l).1, .v (.bool (kindsR pages l).2)]) := by
 refine xA Tryz.func97 fun B S => ?_
 refine xU ?_
 refine xH2 [0,1] ?_
 refine W_seq (xU ?_)
 refine xO3 ?_
 iterate 2 refine xI ?_
 refine xP ?_
 refine xQ [0,1,22] ?_ ?_
 · intro h22
   have hr : kindsR pages l = ([], false) := kindsR_out (by simp at h22; omega)
   refine xU ?_
   refine xH2 [4,5] ?_
   refine W_ret (xR (by simp [Tryz.f97]; exact .mk) ?_)
   simp [Tryz.f97, hr, ownR]
 intro h22
 have h0 : 0 ≤ pages ∧ pages ≤ 64 := by simp at h22; omega
 obtain ⟨N, rfl⟩ : ∃ N : Nat, pages = N := ⟨pages.toNat, by omega⟩
 have n1 : (N : Int) * 8 ≤ 140737488355328 := by omega
 have n2 : (N : Int) ≤ 140737488355328 := by omega
 have n3 : (8 : Int) * N ≤ 140737488355328 := by omega
 have n4 : 8 * N ≤ 140737488355328 := by omega
 have n5 : N ≤ 140737488355328 := by omega
 refine W_skip ?_
 refine xT ?_
 refine xO ?_
 refine xO ?_ (h := by simp [n1, n2, n3, n4, n5]; exact .mk)
 refine xH [0,1,6] ?_
 refine W_seq (xU ?_)
 refine xH [0,1,6,7] ?_
 refine W_block (W_rounds (fun m σ o => ∃ i : Nat, m = N - i ∧ i ≤ N ∧ σ = slots [(0, .d (vI N)), (1, .d (rO l)), (6, .hdr 0 0 N), (7, .d (vI i))] ∧ o = [.row 1 ((fillL N i).map vI)]) (N) .refl ⟨0, by simp, by simp, by simp, by rw [fillL_0]; simp⟩ ?_)
 rintro m σ o ⟨i, rfl, hi, rfl, rfl⟩ _
 refine W_seq (xU ?_)
 refine xO3 ?_
 refine xQ [0,1,6,7,27] ?_ ?_
 · intro h27
   have hi2 : i < N := by simp at h27; omega
   have r1 : i < (fillL N i).length := by rw [fillL_len hi]; exact hi2
   refine W_skip fun _ => ?_
   refine W_seq (W_block ?_)
   refine xY ?_
   refine xO2 ?_
   refine xO ?_ (h := by simp [eObj, hi2]; exact .mk)
   refine xO ?_ (h := by simp [splice, hi2, r1, nrmL, nrm, putC]; exact .mk)
   refine xF [0,1,6,7] ?_
   refine xY ?_
   refine xO3 ?_
   refine xE [0,1,6,7] ?_
   refine rounds_kill [0,1,6,7] ?_
   exact rounds_next (m' := N - (i + 1)) (by omega) ⟨i + 1, rfl, by omega, by rw [wrap64 (by omega) (by omega)]; rfl, by simp [fillL_set hi2]⟩
 intro h27
 obtain rfl : i = N := by simp at h27; omega
 rw [show fillL i i = (stI (i : Int) l 0).1 by rw [fillL_n]; simp [stI]]
 obtain ⟨N, rfl⟩ : ∃ N, N = i := ⟨_, rfl⟩
 refine W_exit ?_
 rintro -
 refine W_seq (xU ?_)
 refine xH [0,1,6,8] ?_
 refine W_block (W_rounds (fun m σ o => ∃ i : Nat, m = l.length - i ∧ i ≤ l.length ∧ (∀ j, j < i → okI (N : Int) l j = true) ∧ σ = slots [(0, .d (vI N)), (1, .d (rO l)), (6, .hdr 0 0 N), (8, .d (vI i))] ∧ o = [.row 1 ((stI (N : Int) l i).1.map vI)]) l.length .refl ⟨0, by simp, by simp, by simp, rfl, rfl⟩ ?_)
 rintro m σ o ⟨i, rfl, hi, hinv, rfl, rfl⟩ _
 have hkl : (stI (N : Int) l i).1.length = N := by rw [stI_len.1]; simp
 refine W_seq (xU ?_)
 refine xO4 ?_
 refine xQ [0,1,6,8,36] ?_ ?_
 · intro h36
   have hi2 : i < l.length := by simpa using h36
   obtain ⟨q1, q2⟩ := spanR_eq (pages := (N : Int)) (o := nth l i)
   refine W_skip fun _ => ?_
   refine W_seq (W_block ?_)
   refine xU ?_
   refine xO3 ?_
   refine xO ?_ (h := by simp [eObj, hi2]; exact .mk)
   refine xO ?_ (h := by simp [-List.getElem?_map, map_get hi2, eObj]; exact .mk)
   refine xC (ct149 g N (nth l i) h0 (hb i hi2)) ?_
   refine xO4 ?_
   refine xOs ?_
   refine xH [0,1,6,8,9,10] ?_
   refine W_seq (xU ?_)
   refine xO2 ?_
   refine xQ [0,1,6,8,9,49] ?_ ?_
   · intro h49
     have hr : kindsR (N : Int) l = ([], false) := kindsR_bad hi2 (okI_bad (by rw [← q1]; simpa using h49))
     refine xU ?_
     refine xH2 [4,5] ?_
     refine W_ret (xR (by simp [Tryz.f97]; exact .mk) ?_)
     simp [Tryz.f97, hr, ownR]
   intro h49
   have hs : (spotS (N : Int) (nth l i)).2 = true := by rw [← q1]; simpa using h49
   obtain ⟨q3, q4, q5⟩ := q2 hs
   rw [q3]
   refine W_skip ?_
   refine xT ?_
   refine xO2 ?_
   refine xO ?_ (h := by simp [eObj, hi2]; exact .mk)
   refine xO ?_ (h := by simp [-List.getElem?_map, map_get hi2, eObj]; exact .mk)
   refine xC (ct150 g (nth l i) (hb i hi2)) ?_
   iterate 9 refine xO ?_
   refine xF [0,1,6,8,9,11,12,14] ?_
   refine W_seq (xU ?_)
   refine xO ?_
   refine xQ [0,1,6,8,9,11,12,60] ?_ ?_
   · intro h60
     have hsm : (spotI (N : Int) l i).small = true := by show (spotS (N : Int) (nth l i)).1.small = true; rw [← q4]; simpa using h60
     have q6 := q5 hsm
     obtain ⟨p, c, k, e1, e2, e3, hc6, hpN, hk64, ha, hq⟩ := spot_cell hs hsm
     have hp2 : p < N := by omega
     have hpl : p < (stI (N : Int) l i).1.length := by omega
     have hpt : (spotI (N : Int) l i).page.toNat = p := by show (spotS (N : Int) (nth l i)).1.page.toNat = p; omega
     have hct : (spotI (N : Int) l i).cls = c := e2
     simp only [q6, e1, e2]
     refine W_seq (xU ?_)
     refine xO2 ?_
     refine xO ?_ (h := by simp [eObj, hp2]; exact .mk)
     refine xO ?_ (h := by simp [-List.getElem?_map, map_get hpl]; exact .mk)
     refine xO2 ?_
     iterate 2 refine xI ?_
     refine xI ?_ (h := fun hb => by simp [eObj, hp2]; exact .mk)
     refine xI ?_ (h := fun hb => by simp [-List.getElem?_map, map_get hpl]; exact .mk)
     iterate 2 refine xI ?_
     refine xP ?_
     refine xQ [0,1,6,8,11,12,73] ?_ ?_
     · intro h73
       have hr : kindsR (N : Int) l = ([], false) := kindsR_bad hi2 (small_kind hs hsm (by rw [hpt]; simp at h73; exact h73.1) (by rw [hpt, hct]; simp at h73; exact h73.2))
       refine xU ?_
       refine xH2 [4,5] ?_
       refine W_ret (xR (by simp [Tryz.f97]; exact .mk) ?_)
       simp [Tryz.f97, hr, ownR]
     intro h73
     have hk : nth (stI (N : Int) l i).1 p = -1 ∨ nth (stI (N : Int) l i).1 p = c := by simp at h73; grind
     refine W_skip fun _ => ?_
     refine W_seq (xU ?_)
     refine xH [0,1,6,8,11,12,15] ?_
     refine W_block (W_rounds (fun m σ o => ∃ j : Nat, m = i - j ∧ j ≤ i ∧ (∀ t, t < j → (nth l t).1 ≠ (nth l i).1) ∧ σ = slots [(0, .d (vI N)), (1, .d (rO l)), (6, .hdr 0 0 N), (8, .d (vI i)), (11, .d (vI p)), (12, .d (vI c)), (15, .d (vI j))] ∧ o = [.row 1 ((stI (N : Int) l i).1.map vI), .var 115 [.d (vI (p : Int)), .d (vI (spotS (N : Int) (nth l i)).1.count)]]) i .refl ⟨0, by simp, by simp, by simp, rfl, rfl⟩ ?_)
     rintro m σ o ⟨j, rfl, hj, hinv2, rfl, rfl⟩ _
     refine W_seq (xU ?_)
     refine xO3 ?_
     refine xQ [0,1,6,8,11,12,15,76] ?_ ?_
     · intro h76
       have hj2 : j < i := by simpa using h76
       have hj3 : j < l.length := by omega
       refine W_skip fun _ => ?_
       refine W_seq (W_block ?_)
       refine W_seq ?_
       refine W_regD (by kernel_rfl) [] 4 [0,1,2,3,4,5,6,7,8,9,10] (by decide +kernel) ?_
       refine xO2 ?_
       refine xO ?_ (h := by simp [eObj, hj3]; exact .mk)
       refine xO ?_
       refine xO ?_ (h := by simp [-List.getElem?_map, map_get hj3, eObj]; exact .mk)
       refine xO2 ?_
       refine xO ?_ (h := by simp [eObj, hi2]; exact .mk)
       refine xO ?_
       refine xO ?_ (h := by simp [-List.getElem?_map, map_get hi2, eObj]; exact .mk)
       refine xO ?_
       refine xQ [0,1,6,8,11,12,15,89] ?_ ?_
       · intro h89
         have hr : kindsR (N : Int) l = ([], false) := kindsR_bad hi2 (small_had h0 hi2 hinv hs hsm hj2 (by simpa using h89))
         refine xU ?_
         refine xH2 [4,5] ?_
         refine W_ret (xR (by simp [Tryz.f97]; exact .mk) ?_)
         simp [Tryz.f97, hr, ownR]
       intro h89
       have hne : (nth l j).1 ≠ (nth l i).1 := by simpa using h89
       refine W_skip fun _ => ?_
       refine xY ?_
       refine xO3 ?_
       refine xE [0,1,6,8,11,12,15] ?_
       refine rounds_kill [0,1,6,8,11,12,15] ?_
       refine rounds_next (m' := i - (j+1)) (by omega) ⟨j+1, rfl, by omega, ?_, ?_, rfl⟩
       · intro t ht
         rcases Nat.lt_succ_iff_lt_or_eq.1 ht with ht | rfl
         · exact hinv2 t ht
         exact hne
       rw [wrap64 (by omega) (by omega)]; rfl
     intro h76
     have hok := small_ok h0 hi2 hinv hs hsm (by rw [hpt, hct]; exact hk) (fun t ht => hinv2 t (by simp at h76; omega))
     rw [hpt, hct] at hok
     refine W_exit (xT ?_)
     refine xO3 ?_
     refine xO ?_ (h := by simp [eObj, hp2]; exact .mk)
     refine xO ?_ (h := by simp [splice, hp2, hpl]; exact .mk)
     refine xF [0,1,6,8] ?_
     refine W_exit ?_
     rintro -
     refine xY ?_
     refine xO3 ?_
     refine xE [0,1,6,8] ?_
     refine rounds_kill [0,1,6,8] ?_
     refine rounds_drop 1 [0,1,6,8] (by decide) (by rfl) (by rfl) ?_
     refine rounds_next (m' := l.length - (i+1)) (by omega) ⟨i+1, rfl, by omega, ?_, ?_, ?_⟩
     · intro j hj
       rcases Nat.lt_succ_iff_lt_or_eq.1 hj with hj | rfl
       · exact hinv j hj
       exact hok.1
     · rw [wrap64 (by omega) (by omega)]; rfl
     rw [hok.2, List.map_set]; rfl
   intro h60
   have hsm : (spotI (N : Int) l i).small = false := by show (spotS (N : Int) (nth l i)).1.small = false; rw [← q4]; simpa using h60
   obtain ⟨p, n, c, e0, hpN, hn1, hpn, _⟩ := spot_ok hs
   have e1 : (spotS (N : Int) (nth l i)).1.page = p := by rw [e0]
   have e2 : (spotS (N : Int) (nth l i)).1.count = n := by rw [e0]
   have hp2 : p < N := by omega
   obtain ⟨l1, l2⟩ := large_eq hs hsm
   have hpt : (spotI (N : Int) l i).page.toNat = p := by show (spotS (N : Int) (nth l i)).1.page.toNat = p; omega
   have hnt : (spotI (N : Int) l i).count.toNat = n := by show (spotS (N : Int) (nth l i)).1.count.toNat = n; omega
   rw [hpt, hnt] at l1 l2
   have w1 : IntKind.i64.wrap ((p : Int) + n) = p + n := wrap64 (by omega) (by omega)
   simp only [e1, e2]
   refine W_skip fun _ => ?_
   refine W_seq (xU ?_)
   refine xO ?_
   refine xO ?_ (h := by simp [eObj]; exact .mk)
   refine xH [0,1,6,8,9,16] ?_
   refine W_block (W_rounds (fun m σ o => ∃ (t : Nat) (cur : List Int), m = n - t ∧ t ≤ n ∧ cur.length = N ∧ fillF p (n - t) t cur = fillF p n 0 (stI (N : Int) l i).1 ∧ σ = slots [(0, .d (vI N)), (1, .d (rO l)), (6, .hdr 0 0 N), (8, .d (vI i)), (9, .ptr 1 0 0), (16, .d (vI ((p + t : Nat) : Int)))] ∧ o = [.row 1 (cur.map vI), .var 115 [.d (vI (p : Int)), .d (vI (n : Int))]]) n .refl ⟨0, _, by simp, by simp, hkl, rfl, rfl, rfl⟩ ?_)
   rintro m σ o ⟨t, cur, rfl, ht, hcl, hfl, rfl, rfl⟩ _
   refine W_seq (xU ?_)
   refine xO2 ?_
   refine xO ?_ (h := by simp [eObj]; exact .mk)
   refine xO ?_
   refine xO ?_ (h := by simp [eObj]; exact .mk)
   refine xO ?_ (h := by simp [w1]; exact .mk)
   refine xO ?_
   refine xQ [0,1,6,8,9,16,102] ?_ ?_
   · intro h102
     have ht2 : t < n := by simp at h102; omega
     have ht3 : p + t < N := by omega
     have ht4 : p + t < cur.length := by omega
     have ht5 : (p : Int) + t < N := by omega
     have ht6 : (0 : Int) ≤ (p : Int) + t := by omega
     have ht7 : ((p : Int) + t).toNat = p + t := by omega
     obtain ⟨f, hf⟩ : ∃ f, n - t = f + 1 := ⟨n - t - 1, by omega⟩
     rw [hf] at hfl
     refine W_skip fun _ => ?_
     refine W_seq (W_block ?_)
     refine W_seq (xU ?_)
     refine xO2 ?_
     refine xO ?_ (h := by simp [eObj, ht3, ht5, ht6, ht7]; exact .mk)
     refine xO ?_ (h := by simp [-List.getElem?_map, map_get ht4]; exact .mk)
     refine xO ?_
     refine xQ [0,1,6,8,9,16,109] ?_ ?_
     · intro h109
       have hr : kindsR (N : Int) l = ([], false) := kindsR_bad hi2 (by rw [l1, ← hfl, fillF_f (by simpa using h109)])
       refine xU ?_
       refine xH2 [4,5] ?_
       refine W_ret (xR (by simp [Tryz.f97]; exact .mk) ?_)
       simp [Tryz.f97, hr, ownR]
     intro h109
     rw [fillF_t (by simpa using h109)] at hfl
     refine W_skip fun _ => ?_
     refine xY ?_
     refine xO2 ?_
     refine xO ?_ (h := by simp [eObj, ht3, ht5, ht6, ht7]; exact .mk)
     refine xO ?_ (h := by simp [splice, ht3, ht4]; exact .mk)
     refine xF [0,1,6,8,9,16] ?_
     refine xY ?_
     refine xO3 ?_
     refine xE [0,1,6,8,9,16] ?_
     refine rounds_kill [0,1,6,8,9,16] ?_
     refine rounds_next (m' := n - (t+1)) (by omega) ⟨t+1, cur.set (p + t) 7, rfl, by omega, by simpa using hcl, by rw [← hfl, show n - (t + 1) = f by omega], ?_, ?_⟩
     · rw [wrap64 (by omega) (by omega)]; rfl
     rw [List.map_set]; rfl
   intro h102
   obtain rfl : t = n := by simp at h102; omega
   rw [Nat.sub_self] at hfl
   have hfl2 : (true, cur) = fillF p t 0 (stI (N : Int) l i).1 := hfl
   rw [← hfl2] at l1 l2
   have hok : okI (N : Int) l i = true ∧ (stI (N : Int) l (i + 1)).1 = cur.set p 6 := ⟨l1, l2 l1⟩
   have hpc : p < cur.length := by omega
   refine W_exit ?_
   rintro -
   refine xY ?_
   refine xO2 ?_
   refine xO ?_ (h := by simp [eObj]; exact .mk)
   refine xO ?_ (h := by simp [eObj, hp2]; exact .mk)
   refine xO ?_ (h := by simp [splice, hp2, hpc]; exact .mk)
   refine xF [0,1,6,8] ?_
   refine xY ?_
   refine xO3 ?_
   refine xE [0,1,6,8] ?_
   refine rounds_kill [0,1,6,8] ?_
   refine rounds_drop 1 [0,1,6,8] (by decide) (by rfl) (by rfl) ?_
   refine rounds_next (m' := l.length - (i+1)) (by omega) ⟨i+1, rfl, by omega, ?_, ?_, ?_⟩
   · intro j hj
     rcases Nat.lt_succ_iff_lt_or_eq.1 hj with hj | rfl
     · exact hinv j hj
     exact hok.1
   · rw [wrap64 (by omega) (by omega)]; rfl
   rw [hok.2, List.map_set]; rfl
 intro h36
 obtain rfl : i = l.length := by simp at h36; omega
 have hr := kindsR_good h0 hinv
 obtain ⟨K, hK⟩ : ∃ K, K = (stI (N : Int) l l.length).1 := ⟨_, rfl⟩
 rw [← hK] at hr hkl ⊢
 subst hkl
 refine W_exit (xT ?_)
 refine xH3 [4,5] ?_
 refine W_ret (xR (by simp [Tryz.f97]; exact .mk) ?_)
 simp [Tryz.f97, hr, ownR]

open Go.Awp
/- Facts for the document's walks: taken cells, places, mates. -/
def takenB (l : List (Int × Int)) (a : Int) : Bool := (List.range l.length).any fun j => (nth l j).1 == a
theorem takenB_t {l : List (Int × Int)} {a : Int} {j : Nat} (hj : j < l.length) (h : ((nth l j).1 == a) = true) : takenB l a = true := by
 unfold takenB; rw [List.any_eq_true]; exact ⟨j, by simpa using hj, h⟩
theorem takenB_f {l : List (Int × Int)} {a : Int} (h : ∀ j, j < l.length → ((nth l j).1 == a) = false) : takenB l a = false := by
 unfold takenB; rw [List.any_eq_false]; intro j hj; simpa using h j (by simpa using hj)
theorem takenB_iff {l : List (Int × Int)} {a : Int} : takenB l a = true ↔ ∃ j, j < l.length ∧ (nth l j).1 = a := by
 unfold takenB; simp [List.any_eq_true]
theorem bestR_neg {ks : List Int} {n : Int} (h : ¬ 1 ≤ n) : bestR ks n = none := by
 have : ∀ l : List (Int × Int), l.foldl (bestRStep n) none = none := by
  intro l
  induction l with
  | nil => rfl
  | cons a l ih => rw [List.foldl_cons, show bestRStep n none a = none by unfold bestRStep; simp [h], ih]
 exact this _
theorem place_no {pages n : Int} {l : List (Int × Int)} (h : laidS pages l = none) : placeS pages l n = none := by unfold placeS; rw [h]
theorem place_large {pages n : Int} {l : List (Int × Int)} {st} (h : laidS pages l = some st) (hc : (classS n).2 = false) :
    (placeS pages l n).getD 0 = ((bestR st.1 (pagesS n).1).getD (0, 0)).1 * 32 ∧ (placeS pages l n).isSome = ((bestR st.1 (pagesS n).1).isSome && decide ((pagesS n).2 = 0)) := by
 unfold placeS
 rw [h]
 simp only
 rw [if_neg (by simp [hc])]
 by_cases he : (pagesS n).2 = 0
 · rw [if_neg (by simp [he])]
   cases bestR st.1 (pagesS n).1 <;> simp [he]
 · have e0 : (pagesS n).1 = 0 := by unfold pagesS at he ⊢; split at he <;> simp_all
   rw [if_pos he, e0, bestR_neg (by omega)]; simp
theorem place_small {pages n : Int} {l : List (Int × Int)} {st} (h : laidS pages l = some st) (hc : (classS n).2 = true) : placeS pages l n = cellR st.1 st.2 (classS n).1 := by
 unfold placeS; rw [h]; simp only; rw [if_pos hc]
theorem kinds_none {pages : Int} {l : List (Int × Int)} (h : (kindsR pages l).2 = false) : laidS pages l = none := by
 unfold kindsR at h; split at h
 · cases h
 · assumption
theorem kinds_some {pages : Int} {l : List (Int × Int)} (h : (kindsR pages l).2 = true) : ∃ st, laidS pages l = some st ∧ kindsR pages l = (st.1, true) := by
 cases hl : laidS pages l with
 | none => unfold kindsR at h; rw [hl] at h; cases h
 | some st => exact ⟨st, rfl, by unfold kindsR; rw [hl]⟩
def mateIx (pages : Int) (l : List (Int × Int)) (page : Int) (i : Nat) : List Nat := (List.range i).filter fun j => coverB pages page (nth l j)
def matesR (pages : Int) (l : List (Int × Int)) (page : Int) : List Nat := if (laidS pages l).isSome = true then matesS pages l page else []
open Go.Awp
theorem ct158 (g : Gl) (l : List (Int × Int)) (hl : l.length ≤ 2^40) (a : Int) : CtAt Tryz.prog g 158 [rO l, vI a] (.v (.bool (takenB l a))) := by
 refine xA Tryz.func158 fun B S => ?_
 refine xU ?_
 refine xH [0,1] ?_
 refine W_seq (xU ?_)
 refine xH [0,1,5] ?_
 refine W_block (W_rounds (fun m σ o => ∃ i : Nat, m = l.length - i ∧ i ≤ l.length ∧ (∀ j, j < i → ((nth l j).1 == a) = false) ∧ σ = slots [(0, .d (rO l)), (1, .d (vI a)), (5, .d (vI i))] ∧ o = []) l.length .refl ⟨0, by simp, by simp, by simp, rfl, rfl⟩ ?_)
 rintro m σ o ⟨i, rfl, hi, hinv, rfl, rfl⟩ _
 refine W_seq (xU ?_)
 refine xO4 ?_
 refine xQ [0,1,5,9] ?_ ?_
 · intro h9
   have hi2 : i < l.length := by simpa using h9
   refine W_skip fun _ => ?_
   refine W_seq (W_block ?_)
   refine xU ?_
   refine xO2 ?_
   refine xO ?_ (h := by simp [eObj, hi2]; exact .mk)
   refine xO ?_
   refine xO ?_ (h := by simp [-List.getElem?_map, map_get hi2, eObj]; exact .mk)
   refine xO2 ?_
   refine xQ [0,1,5,18] ?_ ?_
   · intro h18
     have hr := takenB_t hi2 h18
     refine xU ?_
     refine xH [4] ?_
     refine W_ret (xR (by simp [Tryz.f158]; exact .mk) ?_)
     simp [Tryz.f158, hr]
   intro h18
   refine W_skip fun _ => ?_
   refine xY ?_
   refine xO3 ?_
   refine xE [0,1,5] ?_
   refine rounds_kill [0,1,5] ?_
   refine rounds_next (m' := l.length - (i+1)) (by omega) ⟨i+1, rfl, by omega, ?_, ?_, rfl⟩
   · intro j hj
     rcases Nat.lt_succ_iff_lt_or_eq.1 hj with hj | rfl
     · exact hinv j hj
     exact h18
   rw [wrap64 (by omega) (by omega)]; rfl
 intro h9
 have hr : takenB l a = false := takenB_f (fun j hj => hinv j (by simp at h9; omega))
 refine W_exit (xT ?_)
 refine xH [4] ?_
 refine W_ret (xR (by simp [Tryz.f158]; exact .mk) ?_)
 simp [Tryz.f158, hr]

theorem ct212 (g : Gl) (ks : List Int) (hl : ks.length ≤ 2^40) : CtAt Tryz.prog g 212 [rI ks] (oO (runsS ks)) := by
 refine xA Tryz.func212 fun B S => ?_
 refine xU ?_
 refine xO ?_
 refine xG [0] ?_
 refine xH [0,3] ?_
 refine W_seq (xU ?_)
 refine xH [0,3,4] ?_
 refine W_block ?_
 refine W_rounds (fun m σ o => ∃ (i : Nat) (out : List (Int × Int)), m = ks.length + 1 - i ∧ i ≤ ks.length + 1 ∧ out.length ≤ ks.length ∧ ((i ≤ ks.length ∧ runsI ks i = (out, false)) ∨ (i = ks.length + 1 ∧ out = runsS ks)) ∧ σ = slots [(0, .d (rI ks)), (3, .hdr 0 0 out.length), (4, .d (vI i))] ∧ o = [.row 2 (out.map eObj)]) (ks.length + 1)
  (Weak.trans (Weak.nilRow 3 2 rfl) (Weak.kills [0,3,4] rfl) (fun _ _ _ h1 h2 => by rw [← h1.len]; exact h2)) ⟨0, [], by simp, by simp, by simp, .inl ⟨by simp, rfl⟩, by simp, by simp⟩ ?_
 rintro m σ o ⟨i, out, rfl, hi, hol, hinv, rfl, rfl⟩ _
 refine W_seq (xU ?_)
 refine xO4 ?_
 refine xQ [0,3,4,9] ?_ ?_
 · intro h9
   have hi2 : i < ks.length := by simpa using h9
   have hri := (hinv.resolve_right (fun h => by omega)).2
   have hf : (runsI ks i).2 = false := by rw [hri]
   have hol2 := runsI_len (ks := ks) (i := i)
   rw [hri] at hol2
   simp only at hol2
   refine W_skip fun _ => ?_
   refine W_seq (W_block ?_)
   refine W_seq (xU ?_)
   refine xO2 ?_
   refine xO ?_ (h := by simp [hi2]; exact .mk)
   refine xO ?_ (h := by simp [-List.getElem?_map, map_get hi2]; exact .mk)
   refine xO ?_
   refine xQ [0,3,4,16] ?_ ?_
   · intro h16
     have hq : nth ks i ≠ -1 := by simpa using h16
     refine W_exit ?_
     rintro -
     refine xY ?_
     refine xO3 ?_
     refine xE [0,3,4] ?_
     refine rounds_kill [0,3,4] ?_
     first
     | (refine rounds_kills [0,3,4] rfl ?_
        refine rounds_next (m' := ks.length + 1 - (i+1)) (by omega) ⟨i+1, out, rfl, by omega, hol, .inl ⟨by omega, by rw [runsI_skip hq, hri]⟩, ?_, rfl⟩
        rw [wrap64 (by omega) (by omega)]; rfl)
     | (refine rounds_kills [0,3,4] rfl ?_
        refine rounds_swap 0 2 1 (by decide) (by simp) (by decide) rfl rfl ?_
        refine rounds_drop 1 [0,3,4] (by decide) (by rfl) (by rfl) ?_
        refine rounds_next (m' := ks.length + 1 - (i+(k+1)+1)) (by omega) ⟨i+(k+1)+1, out ++ [((i : Int), ((k + 1 : Nat) : Int))], rfl, by omega, by have := runsI_len (ks := ks) (i := i + (k + 1)); rw [hrun] at this; simp at this ⊢; omega, ?_, ?_, ?_⟩
        · by_cases hlast : i + (k + 1) = ks.length
          · right; refine ⟨by omega, ?_⟩; unfold runsS; rw [← hlast, hrun]
          left; refine ⟨by omega, ?_⟩; rw [runsI_skip (fun q => hz ⟨by omega, q⟩), hrun]
        · rw [wrap64 (by omega) (by omega)]; simp; try rfl
        simp [eObj]; try rfl)
   intro h16
   have hq : nth ks i = -1 := by simpa using h16
   refine W_skip ?_
   refine xT ?_
   refine xH [0,3,4,5] ?_
   refine W_seq (W_block ?_)
   refine W_rounds (fun m σ o => ∃ n : Nat, m = ks.length - (i + n) ∧ i + n ≤ ks.length ∧ (∀ t, t < n → nth ks (i + t) = -1) ∧ σ = slots [(0, .d (rI ks)), (3, .hdr 0 0 out.length), (4, .d (vI i)), (5, .d (vI n))] ∧ o = [.row 2 (out.map eObj)]) (ks.length - i) .refl ⟨0, by simp, by omega, by simp, rfl, rfl⟩ ?_
   rintro m σ o ⟨n, rfl, hn, hin, rfl, rfl⟩ _
   have w1 : IntKind.i64.wrap ((i : Int) + n) = i + n := wrap64 (by omega) (by omega)
   have w2 : (0 : Int) ≤ (i : Int) + n := by omega
   have w3 : ((i : Int) + n).toNat = i + n := by omega
   refine W_seq (xU ?_)
   refine xO2 ?_
   refine xO ?_ (h := by simp [w1]; exact .mk)
   refine xO4 ?_
   iterate 3 refine xI ?_
   refine xI ?_ (h := fun hb => by simp [w1]; exact .mk)
   refine run_if rfl (by simp; exact .mk) rfl (by simp <;> first | omega | grind) (fun hb => by simp [w1] at hb; simp [w2, w3, show (i : Int) + n < ks.length from by omega, show i + n < ks.length from by omega]; exact .mk) ?_
   refine run_if rfl (by simp; exact .mk) rfl (by simp <;> first | omega | grind) (fun hb => by simp [w1] at hb; have h5 : i + n < ks.length := (by omega); simp [-List.getElem?_map, map_get h5]; exact .mk) ?_
   refine xI ?_
   refine xP ?_
   refine xQ [0,3,4,5,31] ?_ ?_
   · intro h31
     have hz : i + n < ks.length ∧ nth ks (i + n) = -1 := by simp at h31; omega
     refine W_skip fun _ => ?_
     refine W_block ?_
     refine xY ?_
     refine xO3 ?_
     refine xE [0,3,4,5] ?_
     refine rounds_kill [0,3,4,5] ?_
     refine rounds_next (m' := ks.length - (i + (n + 1))) (by omega) ⟨n+1, rfl, by omega, ?_, ?_, rfl⟩
     · intro t ht
       rcases Nat.lt_succ_iff_lt_or_eq.1 ht with ht | rfl
       · exact hin t ht
       exact hz.2
     rw [wrap64 (by omega) (by omega)]; rfl
   intro h31
   have hz : ¬ (i + n < ks.length ∧ nth ks (i + n) = -1) := by simp at h31; omega
   have hn1 : 1 ≤ n := Nat.pos_of_ne_zero fun q => by subst q; exact hz ⟨by omega, hq⟩
   obtain ⟨k, rfl⟩ : ∃ k, n = k + 1 := ⟨n - 1, by omega⟩
   have hrun := runsI_free hf (n := k) hin
   rw [hri] at hrun
   simp only at hrun
   have e1 : (out.length + 1) * 16 ≤ 140737488355328 := by omega
   have e2 : out.length ≤ 140737488355327 := by omega
   have w4 : IntKind.i64.wrap ((i : Int) + ((k : Int) + 1)) = i + ((k : Int) + 1) := wrap64 (by omega) (by omega)
   refine W_exit (xT ?_)
   refine xO3 ?_
   refine xOs ?_
   refine xO ?_
   refine xO ?_ (h := by simp [rows, e1, e2]; exact .mk)
   refine xH [0,3,4,5] ?_
   refine xY ?_
   refine xO2 ?_
   refine xO ?_ (h := by simp [w4]; exact .mk)
   refine xH [0,3,4] ?_
   refine xY ?_
   refine xO3 ?_
   refine xE [0,3,4] ?_
   refine rounds_kill [0,3,4] ?_
   first
   | (refine rounds_kills [0,3,4] rfl ?_
      refine rounds_next (m' := ks.length + 1 - (i+1)) (by omega) ⟨i+1, out, rfl, by omega, hol, .inl ⟨by omega, by rw [runsI_skip hq, hri]⟩, ?_, rfl⟩
      rw [wrap64 (by omega) (by omega)]; rfl)
   | (refine rounds_kills [0,3,4] rfl ?_
      refine rounds_swap 0 2 1 (by decide) (by simp) (by decide) rfl rfl ?_
      refine rounds_drop 1 [0,3,4] (by decide) (by rfl) (by rfl) ?_
      refine rounds_next (m' := ks.length + 1 - (i+(k+1)+1)) (by omega) ⟨i+(k+1)+1, out ++ [((i : Int), ((k + 1 : Nat) : Int))], rfl, by omega, by have := runsI_len (ks := ks) (i := i + (k + 1)); rw [hrun] at this; simp at this ⊢; omega, ?_, ?_, ?_⟩
      · by_cases hlast : i + (k + 1) = ks.length
        · right; refine ⟨by omega, ?_⟩; unfold runsS; rw [← hlast, hrun]
        left; refine ⟨by omega, ?_⟩; rw [runsI_skip (fun q => hz ⟨by omega, q⟩), hrun]
      · rw [wrap64 (by omega) (by omega)]; simp; try rfl
      simp [eObj]; try rfl)
 intro h9
 have hi3 : ks.length ≤ i := by simp at h9; omega
 have hout : out = runsS ks := by
  rcases hinv with ⟨h1, h2⟩ | ⟨_, h2⟩
  · obtain rfl : i = ks.length := by omega
    unfold runsS; rw [h2]
  exact h2
 refine W_exit (xT ?_)
 refine xH2 [2] ?_
 refine W_ret (xR (by simp [Tryz.f212]; exact .mk) ?_)
 simp [Tryz.f212, ownR, ← hout]; try rfl

theorem ct155 (g : Gl) (ks : List Int) (n : Int) (hl : ks.length ≤ 2^40) : CtAt Tryz.prog g 155 [rI ks, vI n] (.tup [vI ((bestR ks n).getD (0, 0)).1, .v (.bool (bestR ks n).isSome)]) := by
 refine xA Tryz.func155 fun B S => ?_
 obtain ⟨L, hL⟩ : ∃ L, L = runsS ks := ⟨_, rfl⟩
 have c212 := ct212 g ks hl
 rw [← hL] at c212
 have hbr : bestR ks n = L.foldl (bestRStep n) none := by rw [hL]; rfl
 have hLn : L.length ≤ ks.length := by rw [hL]; exact runsI_len
 refine xU ?_
 refine xO2 ?_
 refine xG [0,1] ?_
 refine xO ?_
 refine xC (c212) ?_
 refine xO ?_
 refine xG [1,6] ?_
 refine xH [1,6,7] ?_
 refine W_seq (xU ?_)
 refine xH [1,6,7,8] ?_
 refine W_block (W_rounds (fun m σ o => ∃ (i : Nat) (k : Int), m = L.length - i ∧ i ≤ L.length ∧ ((k = -1 ∧ (L.take i).foldl (bestRStep n) none = none) ∨ ∃ q : Nat, k = q ∧ q < L.length ∧ (L.take i).foldl (bestRStep n) none = some (nth L q)) ∧ σ = slots [(1, .d (vI n)), (6, .hdr 0 0 L.length), (7, .d (vI k)), (8, .d (vI i))] ∧ o = [.row 2 (L.map eObj)]) L.length .refl ⟨0, -1, by simp, by simp, .inl ⟨rfl, rfl⟩, rfl, by simp [ownR]⟩ ?_)
 rintro m σ o ⟨i, k, rfl, hi, ⟨rfl, hfo⟩ | ⟨q, rfl, hq, hfo⟩, rfl, rfl⟩ _
 · skip
   skip
   refine W_seq (xU ?_)
   refine xO4 ?_
   refine xQ [1,6,7,8,14] ?_ ?_
   · intro h14
     have hi2 : i < L.length := by simpa using h14
     have hst : (L.take (i + 1)).foldl (bestRStep n) none = bestRStep n ((L.take i).foldl (bestRStep n) none) (nth L i) := by rw [take_succ hi2, List.foldl_append]; rfl
     rw [hfo] at hst
     refine W_skip fun _ => ?_
     refine W_seq (W_block ?_)
     refine W_seq ?_
     refine W_regD (by kernel_rfl) [] 4 [0,1,2,3,4,5,6,7,8,9,10,11,12,13,14,15,16,17,18,19,20,21,22,23,24,25,26,27] (by decide +kernel) ?_
     refine xO2 ?_
     refine xO ?_ (h := by simp [eObj, hi2]; exact .mk)
     refine xO ?_
     refine xO ?_ (h := by simp [-List.getElem?_map, map_get hi2, eObj]; exact .mk)
     refine xO3 ?_
     iterate 2 refine xI ?_
     refine xP ?_
     refine xB ?_
     iterate 3 refine xI ?_
     iterate 11 (refine run_not (av := .d (.v (.bool false))) rfl (by simp; exact .mk) rfl ?_)
     iterate 2 refine xP ?_
     refine xQ [1,6,7,8,44] ?_ ?_
     · intro h44
       have hst2 : (L.take (i + 1)).foldl (bestRStep n) none = some (nth L i) := by rw [hst]; unfold bestRStep; rw [if_pos]; simp at h44 ⊢; omega
       refine xY ?_
       refine xH2 [1,6,7,8] ?_
       refine xY ?_
       refine xO3 ?_
       refine xE [1,6,7,8] ?_
       refine rounds_kill [1,6,7,8] ?_
       first
       | exact rounds_next (m' := L.length - (i+1)) (by omega) ⟨i+1, i, rfl, by omega, .inr ⟨i, rfl, hi2, hst2⟩, by rw [wrap64 (by omega) (by omega)]; rfl, rfl⟩
       | exact rounds_next (m' := L.length - (i+1)) (by omega) ⟨i+1, -1, rfl, by omega, .inl ⟨rfl, hst2⟩, by rw [wrap64 (by omega) (by omega)]; rfl, rfl⟩
       | exact rounds_next (m' := L.length - (i+1)) (by omega) ⟨i+1, q, rfl, by omega, .inr ⟨q, rfl, hq, hst2⟩, by rw [wrap64 (by omega) (by omega)]; rfl, rfl⟩
     intro h44
     have hst2 : (L.take (i + 1)).foldl (bestRStep n) none = (L.take i).foldl (bestRStep n) none := by rw [hst, hfo]; unfold bestRStep; rw [if_neg]; simp at h44 ⊢; omega
     rw [hfo] at hst2
     refine W_skip fun _ => ?_
     refine xY ?_
     refine xO3 ?_
     refine xE [1,6,7,8] ?_
     refine rounds_kill [1,6,7,8] ?_
     first
     | exact rounds_next (m' := L.length - (i+1)) (by omega) ⟨i+1, i, rfl, by omega, .inr ⟨i, rfl, hi2, hst2⟩, by rw [wrap64 (by omega) (by omega)]; rfl, rfl⟩
     | exact rounds_next (m' := L.length - (i+1)) (by omega) ⟨i+1, -1, rfl, by omega, .inl ⟨rfl, hst2⟩, by rw [wrap64 (by omega) (by omega)]; rfl, rfl⟩
     | exact rounds_next (m' := L.length - (i+1)) (by omega) ⟨i+1, q, rfl, by omega, .inr ⟨q, rfl, hq, hst2⟩, by rw [wrap64 (by omega) (by omega)]; rfl, rfl⟩
   intro h14
   obtain rfl : i = L.length := by simp at h14; omega
   rw [List.take_length] at hfo
   rw [hfo] at hbr
   refine W_exit ?_
   rintro -
   refine W_seq (xU ?_)
   refine xO2 ?_
   refine xQ [6,7,47] ?_ ?_
   · intro h47
     refine xU ?_
     refine xH2 [4,5] ?_
     refine W_ret (xR (by simp [Tryz.f155]; exact .mk) ?_)
     simp [Tryz.f155, hbr]
   intro h47
   simp at h47
 skip
 skip
 refine W_seq (xU ?_)
 refine xO4 ?_
 refine xQ [1,6,7,8,14] ?_ ?_
 · intro h14
   have hi2 : i < L.length := by simpa using h14
   have hst : (L.take (i + 1)).foldl (bestRStep n) none = bestRStep n ((L.take i).foldl (bestRStep n) none) (nth L i) := by rw [take_succ hi2, List.foldl_append]; rfl
   rw [hfo] at hst
   refine W_skip fun _ => ?_
   refine W_seq (W_block ?_)
   refine W_seq ?_
   refine W_regD (by kernel_rfl) [] 4 [0,1,2,3,4,5,6,7,8,9,10,11,12,13,14,15,16,17,18,19,20,21,22,23,24,25,26,27] (by decide +kernel) ?_
   refine xO2 ?_
   refine xO ?_ (h := by simp [eObj, hi2]; exact .mk)
   refine xO ?_
   refine xO ?_ (h := by simp [-List.getElem?_map, map_get hi2, eObj]; exact .mk)
   refine xO3 ?_
   iterate 2 refine xI ?_
   refine xP ?_
   refine xB ?_
   iterate 5 refine xI ?_
   refine xI ?_ (h := fun hb => by simp [eObj, hi2]; exact .mk)
   refine xI ?_
   refine xI ?_ (h := fun hb => by simp [-List.getElem?_map, map_get hi2, eObj]; exact .mk)
   iterate 2 refine xI ?_
   refine xI ?_ (h := fun hb => by simp [eObj, hq]; exact .mk)
   refine xI ?_
   refine xI ?_ (h := fun hb => by simp [-List.getElem?_map, map_get hq, eObj]; exact .mk)
   refine xI ?_
   iterate 2 refine xP ?_
   refine xQ [1,6,7,8,44] ?_ ?_
   · intro h44
     have hst2 : (L.take (i + 1)).foldl (bestRStep n) none = some (nth L i) := by rw [hst]; unfold bestRStep; rw [if_pos]; simp at h44 ⊢; omega
     refine xY ?_
     refine xH2 [1,6,7,8] ?_
     refine xY ?_
     refine xO3 ?_
     refine xE [1,6,7,8] ?_
     refine rounds_kill [1,6,7,8] ?_
     first
     | exact rounds_next (m' := L.length - (i+1)) (by omega) ⟨i+1, i, rfl, by omega, .inr ⟨i, rfl, hi2, hst2⟩, by rw [wrap64 (by omega) (by omega)]; rfl, rfl⟩
     | exact rounds_next (m' := L.length - (i+1)) (by omega) ⟨i+1, -1, rfl, by omega, .inl ⟨rfl, hst2⟩, by rw [wrap64 (by omega) (by omega)]; rfl, rfl⟩
     | exact rounds_next (m' := L.length - (i+1)) (by omega) ⟨i+1, q, rfl, by omega, .inr ⟨q, rfl, hq, hst2⟩, by rw [wrap64 (by omega) (by omega)]; rfl, rfl⟩
   intro h44
   have hst2 : (L.take (i + 1)).foldl (bestRStep n) none = (L.take i).foldl (bestRStep n) none := by rw [hst, hfo]; unfold bestRStep; rw [if_neg]; simp at h44 ⊢; omega
   rw [hfo] at hst2
   refine W_skip fun _ => ?_
   refine xY ?_
   refine xO3 ?_
   refine xE [1,6,7,8] ?_
   refine rounds_kill [1,6,7,8] ?_
   first
   | exact rounds_next (m' := L.length - (i+1)) (by omega) ⟨i+1, i, rfl, by omega, .inr ⟨i, rfl, hi2, hst2⟩, by rw [wrap64 (by omega) (by omega)]; rfl, rfl⟩
   | exact rounds_next (m' := L.length - (i+1)) (by omega) ⟨i+1, -1, rfl, by omega, .inl ⟨rfl, hst2⟩, by rw [wrap64 (by omega) (by omega)]; rfl, rfl⟩
   | exact rounds_next (m' := L.length - (i+1)) (by omega) ⟨i+1, q, rfl, by omega, .inr ⟨q, rfl, hq, hst2⟩, by rw [wrap64 (by omega) (by omega)]; rfl, rfl⟩
 intro h14
 obtain rfl : i = L.length := by simp at h14; omega
 rw [List.take_length] at hfo
 rw [hfo] at hbr
 refine W_exit ?_
 rintro -
 refine W_seq (xU ?_)
 refine xO2 ?_
 refine xQ [6,7,47] ?_ ?_
 · intro h47
   simp at h47; omega
 intro h47
 refine W_skip ?_
 refine xT ?_
 refine xO2 ?_
 refine xO ?_ (h := by simp [eObj, hq]; exact .mk)
 refine xO ?_
 refine xO ?_ (h := by simp [-List.getElem?_map, map_get hq, eObj]; exact .mk)
 refine xH2 [4,5] ?_
 refine W_ret (xR (by simp [Tryz.f155]; exact .mk) ?_)
 simp [Tryz.f155, hbr]

open Go.Awp
theorem ct104 (g : Gl) (pages : Int) (l : List (Int × Int)) (n : Int) (hl : l.length ≤ 2^40) (hb : ∀ i, i < l.length → (nth l i).1 ≤ 2^62) : CtAt Tryz.prog g 104 [vI pages, rO l, vI n] (.tup [vI ((placeS pages l n).getD 0), .v (.bool (placeS pages l n).isSome)]) := by
 refine xA Tryz.func104 fun B S => ?_
 refine xU ?_
 refine xO2 ?_
 refine xG [0,1,2] ?_
 refine xO2 ?_
 refine xC (ct97 g pages l hl hb) ?_
 refine xO5 ?_
 refine xF [0,1,2,8,9] ?_
 refine W_seq (xU ?_)
 refine xO2 ?_
 refine xQ [0,1,2,8,33] ?_ ?_
 · intro h33
   have hr := place_no (n := n) (kinds_none (pages := pages) (l := l) (by simpa using h33))
   refine xU ?_
   refine xH2 [6,7] ?_
   refine W_ret (xR (by simp [Tryz.f104]; exact .mk) ?_)
   first | (simp [Tryz.f104, hr]; done) | (simp [Tryz.f104, hr1, hr2]; done) | (simp [Tryz.f104, hr1, hr2]; rw [Bool.beq_eq_decide_eq])
 intro h33
 obtain ⟨st, hst, hkr⟩ := kinds_some (pages := pages) (l := l) (by simpa using h33)
 simp only [hkr]
 have LP := laidP hst
 have hp0 := LP.p0
 have hlen := LP.len
 obtain ⟨N, rfl⟩ : ∃ N : Nat, pages = N := ⟨pages.toNat, by omega⟩
 have hlen2 : st.1.length = N := by rw [hlen]; simp
 refine W_skip ?_
 refine xT ?_
 refine xO ?_
 refine xC (ct153 g n) ?_
 refine xO5 ?_
 refine xF [0,1,2,8,10,11] ?_
 refine W_seq (xU ?_)
 refine xO2 ?_
 refine xQ [0,1,2,8,10,40] ?_ ?_
 · intro h40
   obtain ⟨hr1, hr2⟩ := place_large (n := n) hst (by simpa using h40)
   have hbb := bestR_b (ks := st.1) (n := (pagesS n).1)
   have w1 : IntKind.i64.wrap (32 * ((bestR st.1 (pagesS n).1).getD (0, 0)).1) = ((bestR st.1 (pagesS n).1).getD (0, 0)).1 * 32 := (wrap64 (by omega) (by omega)).trans (Int.mul_comm _ _)
   refine xU ?_
   refine xO ?_
   refine xC (ct154 g n) ?_
   refine xO5 ?_
   refine xG [8,12,13] ?_
   refine xO2 ?_
   refine xC (ct155 g st.1 (pagesS n).1 (by omega)) ?_
   refine xO5 ?_
   refine xG [13,14,15] ?_
   refine xO ?_
   refine xO ?_ (h := by simp [w1]; exact .mk)
   refine xO2 ?_
   iterate 2 refine xI ?_
   refine xP ?_
   iterate 2 refine xB ?_
   refine xF [6,7] ?_
   refine W_ret (xR (by simp [Tryz.f104]; exact .mk) ?_)
   first | (simp [Tryz.f104, hr]; done) | (simp [Tryz.f104, hr1, hr2]; done) | (simp [Tryz.f104, hr1, hr2]; rw [Bool.beq_eq_decide_eq])
 intro h40
 have hcs : (classS n).2 = true := by simpa using h40
 obtain ⟨c, hc6, hcc⟩ := classS_c hcs
 have hps := place_small (n := n) hst hcs
 rw [hcc] at hps
 simp only [hcc]
 obtain ⟨b1, b2, b3, b4⟩ := cellsS_b (c := (c : Int)) (by omega)
 obtain ⟨M, hM⟩ : ∃ M : Nat, (cellsS c).1 = M := ⟨(cellsS c).1.toNat, by omega⟩
 have hMt : (cellsS c).1.toNat = M := by omega
 have c156 := ct156 g c
 rw [hM] at c156
 refine W_skip ?_
 refine xT ?_
 refine xO ?_
 refine xC (c156) ?_
 refine xO5 ?_
 refine xF [0,1,8,10,16] ?_
 refine W_seq (xU ?_)
 refine xH [0,1,8,10,16,18] ?_
 refine W_block (W_rounds (fun m σ o => ∃ i : Nat, m = N - i ∧ i ≤ N ∧ (∀ p, p < i → (openC st.1 st.2 c M p).isSome = false) ∧ σ = slots [(0, .d (vI N)), (1, .d (rO l)), (8, .hdr 0 0 N), (10, .d (vI c)), (16, .d (vI M)), (18, .d (vI i))] ∧ o = [.row 1 (st.1.map vI)]) (N) .refl ⟨0, by simp, by simp, by simp, by simp [hlen2], by simp [ownR]⟩ ?_)
 rintro m σ o ⟨i, rfl, hi, hinv, rfl, rfl⟩ _
 refine W_seq (xU ?_)
 refine xO3 ?_
 refine xQ [0,1,8,10,16,18,66] ?_ ?_
 · intro h66
   have hi2 : i < N := by simpa using h66
   have hi3 : i < st.1.length := by omega
   refine W_skip fun _ => ?_
   refine W_seq (W_block ?_)
   refine xU ?_
   refine xH [0,1,8,10,16,18,19] ?_
   refine W_block (W_rounds (fun m σ o => ∃ k : Nat, m = M - k ∧ k ≤ M ∧ (∀ j, j < k → (nth st.2 i).testBit j = true) ∧ σ = slots [(0, .d (vI N)), (1, .d (rO l)), (8, .hdr 0 0 N), (10, .d (vI c)), (16, .d (vI M)), (18, .d (vI i)), (19, .d (vI k))] ∧ o = [.row 1 (st.1.map vI)]) M .refl ⟨0, by simp, by simp, by simp, rfl, rfl⟩ ?_)
   rintro m σ o ⟨k, rfl, hk, hinv2, rfl, rfl⟩ _
   refine W_seq (xU ?_)
   refine xO4 ?_
   iterate 2 refine xI ?_
   refine xI ?_ (h := fun hb => by simp [eObj, hi2]; exact .mk)
   refine xI ?_ (h := fun hb => by simp [-List.getElem?_map, map_get hi3]; exact .mk)
   iterate 2 refine xI ?_
   refine xP ?_
   refine xQ [0,1,8,10,16,18,19,79] ?_ ?_
   · intro h79
     have hkk : k < M ∧ nth st.1 i = c := by simpa using h79
     have hkc : (k : Int) < (cellsS c).1 := by omega
     obtain ⟨d1, d2, d3⟩ := cellS_b (c := (c : Int)) (by omega) hkc
     simp only [Int.toNat_natCast] at d1 d2 d3
     have c157 := ct157 g c k (by omega) (by omega)
     have hd : (cellS c k).1 = 4 + (k : Int) * nth wordsL c := by rw [d1]
     have w1 : IntKind.i64.wrap (32 * (i : Int)) = 32 * i := wrap64 (by omega) (by omega)
     have w2 : IntKind.i64.wrap (32 * (i : Int) + (cellS c k).1) = 32 * i + (cellS c k).1 := wrap64 (by omega) (by omega)
     have htk := taken_bit hst hc6 hi3 hkk.2 hkc
     refine W_skip fun _ => ?_
     refine W_seq (W_block ?_)
     refine xU ?_
     refine xO2 ?_
     refine xC (c157) ?_
     refine xO5 ?_
     refine xG [0,1,8,10,16,18,19,20] ?_
     refine xO2 ?_
     refine xO ?_ (h := by simp [w1]; exact .mk)
     refine xO ?_
     refine xO ?_ (h := by simp [w2]; exact .mk)
     refine xC (ct158 g l hl (32 * (i : Int) + (cellS c k).1)) ?_
     refine xO ?_
     refine xG [0,1,8,10,16,18,19,20,22] ?_
     refine xO2 ?_
     refine xQ [0,1,8,10,16,18,19,20,95] ?_ ?_
     · intro h95
       have hbt : (nth st.2 i).testBit k = false := by
        cases hz : (nth st.2 i).testBit k with
        | false => rfl
        | true => have := takenB_iff.2 (htk.2 hz); simp [this] at h95
       have ho := openC_some (ks := st.1) (ms := st.2) (of := (c : Int)) hkk.2 hkk.1 hinv2 hbt
       have hsl := slabR_some hMt hi3 hinv ho
       have hr : placeS (N : Int) l n = some (32 * (i : Int) + (cellS c k).1) := by rw [hps, cellR, hsl]; simp only; rw [hMt, ho]; simp; omega
       refine xU ?_
       refine xO ?_
       refine xO ?_ (h := by simp [w1]; exact .mk)
       refine xO ?_
       refine xO ?_ (h := by simp [w2]; exact .mk)
       refine xH2 [6,7] ?_
       refine W_ret (xR (by simp [Tryz.f104]; exact .mk) ?_)
       first | (simp [Tryz.f104, hr]; done) | (simp [Tryz.f104, hr1, hr2]; done) | (simp [Tryz.f104, hr1, hr2]; rw [Bool.beq_eq_decide_eq])
     intro h95
     have hbt : (nth st.2 i).testBit k = true := htk.1 (takenB_iff.1 (by simpa using h95))
     refine W_skip fun _ => ?_
     refine xY ?_
     refine xO3 ?_
     refine xE [0,1,8,10,16,18,19] ?_
     refine rounds_kill [0,1,8,10,16,18,19] ?_
     refine rounds_next (m' := M - (k+1)) (by omega) ⟨k+1, rfl, by omega, ?_, ?_, rfl⟩
     · intro j hj
       rcases Nat.lt_succ_iff_lt_or_eq.1 hj with hj | rfl
       · exact hinv2 j hj
       exact hbt
     rw [wrap64 (by omega) (by omega)]; rfl
   intro h79
   have hno : (openC st.1 st.2 c M i).isSome = false := openC_none (fun q j hj => hinv2 j (by simp at h79; omega))
   refine W_exit ?_
   rintro -
   refine xY ?_
   refine xO3 ?_
   refine xE [0,1,8,10,16,18] ?_
   refine rounds_kill [0,1,8,10,16,18] ?_
   refine rounds_next (m' := N - (i+1)) (by omega) ⟨i+1, rfl, by omega, ?_, ?_, rfl⟩
   · intro j hj
     rcases Nat.lt_succ_iff_lt_or_eq.1 hj with hj | rfl
     · exact hinv j hj
     exact hno
   rw [wrap64 (by omega) (by omega)]; rfl
 intro h66
 have hsl : slabR st.1 st.2 c = none := slabR_none hMt (fun q hq => hinv q (by simp at h66; omega))
 have hps2 : placeS (N : Int) l n = (freeR st.1).map fun (p : Nat) => (p : Int) * 32 + 4 := by rw [hps, cellR, hsl]
 have c157 := ct157 g c 0 (by omega) (by omega)
 obtain ⟨d1, d2, d3⟩ := cellS_b (c := (c : Int)) (k := 0) (by omega) (by omega)
 simp only [Int.toNat_natCast] at d1
 have hd : cellS c 0 = (4, 0) := by have := d1; simpa using this
 simp only [Int.natCast_zero] at c157
 rw [hd] at c157
 refine W_exit ?_
 rintro -
 refine W_seq (xU ?_)
 refine xH [0,8,10,23] ?_
 refine W_block (W_rounds (fun m σ o => ∃ i : Nat, m = N - i ∧ i ≤ N ∧ (∀ p, p < i → nth st.1 p ≠ -1) ∧ σ = slots [(0, .d (vI N)), (8, .hdr 0 0 N), (10, .d (vI c)), (23, .d (vI i))] ∧ o = [.row 1 (st.1.map vI)]) N .refl ⟨0, by simp, by simp, by simp, rfl, rfl⟩ ?_)
 rintro m σ o ⟨i, rfl, hi, hinv3, rfl, rfl⟩ _
 refine W_seq (xU ?_)
 refine xO3 ?_
 refine xQ [0,8,10,23,102] ?_ ?_
 · intro h102
   have hi2 : i < N := by simpa using h102
   have hi3 : i < st.1.length := by omega
   refine W_skip fun _ => ?_
   refine W_seq (W_block ?_)
   refine xU ?_
   refine xO2 ?_
   refine xO ?_ (h := by simp [eObj, hi2]; exact .mk)
   refine xO ?_ (h := by simp [-List.getElem?_map, map_get hi3]; exact .mk)
   refine xO ?_
   refine xQ [0,8,10,23,109] ?_ ?_
   · intro h109
     have hfr := freeR_some hi3 (by simpa using h109) hinv3
     have hr : placeS (N : Int) l n = some ((i : Int) * 32 + 4) := by rw [hps2, hfr]; rfl
     have w1 : IntKind.i64.wrap (32 * (i : Int)) = i * 32 := (wrap64 (by omega) (by omega)).trans (Int.mul_comm _ _)
     have w2 : IntKind.i64.wrap ((i : Int) * 32 + 4) = i * 32 + 4 := wrap64 (by omega) (by omega)
     refine xU ?_
     refine xO ?_
     refine xC (c157) ?_
     refine xO5 ?_
     refine xG [23,24] ?_
     refine xO ?_
     refine xO ?_ (h := by simp [w1]; exact .mk)
     refine xO ?_
     refine xO ?_ (h := by simp [w2]; exact .mk)
     refine xH2 [6,7] ?_
     refine W_ret (xR (by simp [Tryz.f104]; exact .mk) ?_)
     first | (simp [Tryz.f104, hr]; done) | (simp [Tryz.f104, hr1, hr2]; done) | (simp [Tryz.f104, hr1, hr2]; rw [Bool.beq_eq_decide_eq])
   intro h109
   have hno : nth st.1 i ≠ -1 := by simpa using h109
   refine W_skip fun _ => ?_
   refine xY ?_
   refine xO3 ?_
   refine xE [0,8,10,23] ?_
   refine rounds_kill [0,8,10,23] ?_
   refine rounds_next (m' := N - (i+1)) (by omega) ⟨i+1, rfl, by omega, ?_, ?_, rfl⟩
   · intro j hj
     rcases Nat.lt_succ_iff_lt_or_eq.1 hj with hj | rfl
     · exact hinv3 j hj
     exact hno
   rw [wrap64 (by omega) (by omega)]; rfl
 intro h102
 have hfr := freeR_none (ks := st.1) (fun q hq => hinv3 q (by simp at h102; omega))
 have hr : placeS (N : Int) l n = none := by rw [hps2, hfr]; rfl
 refine W_exit (xT ?_)
 refine xH2 [6,7] ?_
 refine W_ret (xR (by simp [Tryz.f104]; exact .mk) ?_)
 first | (simp [Tryz.f104, hr]; done) | (simp [Tryz.f104, hr1, hr2]; done) | (simp [Tryz.f104, hr1, hr2]; rw [Bool.beq_eq_decide_eq])

open Go.Awp
theorem ct95 (g : Gl) (fr to : Int) (l : List (Int × Int)) (hl : l.length ≤ 2^40) : CtAt Tryz.prog g 95 [vI fr, vI to, rO l] (.v (.bool (gapsS fr to l))) := by
 refine xA Tryz.func95 fun B S => ?_
 refine xU ?_
 refine xH [0,1,2] ?_
 refine W_seq (xU ?_)
 refine xO3 ?_
 iterate 3 refine xI ?_
 refine xP ?_
 refine xB ?_
 iterate 2 refine xI ?_
 refine xP ?_
 refine xB ?_
 iterate 3 refine xI ?_
 refine xP ?_
 refine xB ?_
 iterate 3 refine xI ?_
 refine xP ?_
 refine xQ [0,1,2,30] ?_ ?_
 · intro h30
   have hr : gapsS fr to l = false := by
    have : gapsHead fr to = false := by simp [gapsHead]; simp at h30; grind
    simp [gapsS, this]
   refine xU ?_
   refine xH [6] ?_
   refine W_ret (xR (by simp [Tryz.f95]; exact .mk) ?_)
   simp [Tryz.f95, hr]
 intro h30
 have hh : 0 ≤ fr ∧ fr ≤ to ∧ to ≤ 2048 ∧ fr.tmod 4 = 0 ∧ to.tmod 4 = 0 := by simp at h30; grind
 have hr0 : gapsS fr to l = gapsOk to fr l := by
  have : gapsHead fr to = true := by simp [gapsHead]; grind
  simp [gapsS, this]
 refine W_skip ?_
 refine xT ?_
 refine xH2 [1,2,7] ?_
 refine W_seq (xU ?_)
 refine xH [1,2,7,8] ?_
 refine W_block (W_rounds (fun m σ o => ∃ (i : Nat) (a : Int), m = l.length - i ∧ i ≤ l.length ∧ (0 ≤ a ∧ a ≤ 2048) ∧ gapsOk to fr l = gapsOk to a (l.drop i) ∧ σ = slots [(1, .d (vI to)), (2, .d (rO l)), (7, .d (vI a)), (8, .d (vI i))] ∧ o = []) l.length .refl ⟨0, fr, by simp, by simp, ⟨by omega, by omega⟩, by simp, rfl, rfl⟩ ?_)
 rintro m σ o ⟨i, a, rfl, hi, ha, hgo, rfl, rfl⟩ _
 refine W_seq (xU ?_)
 refine xO4 ?_
 refine xQ [1,2,7,8,35] ?_ ?_
 · intro h35
   have hi2 : i < l.length := by simpa using h35
   rw [gapsOk_drop hi2] at hgo
   obtain ⟨p, hp⟩ : ∃ p, p = nth l i := ⟨_, rfl⟩
   rw [← hp] at hgo
   refine W_skip fun _ => ?_
   refine W_seq (W_block ?_)
   refine xU ?_
   refine xO2 ?_
   refine xO ?_ (h := by simp [eObj, hi2]; exact .mk)
   refine xO ?_ (h := by simp [-List.getElem?_map, map_get hi2, eObj, ← hp]; exact .mk)
   refine xO ?_
   refine xOs ?_
   refine xF [1,2,7,8,9] ?_
   refine W_seq (xU ?_)
   refine xO ?_
   refine xO ?_ (h := by simp [eObj]; exact .mk)
   refine xO3 ?_
   refine xI ?_
   refine xI ?_ (h := fun hb => by simp [eObj]; exact .mk)
   iterate 2 refine xI ?_
   refine xP ?_
   refine xB ?_
   refine xI ?_
   refine xI ?_ (h := fun hb => by simp [eObj]; exact .mk)
   refine xI ?_
   refine xP ?_
   refine xB ?_
   refine xI ?_
   refine xI ?_ (h := fun hb => by simp [eObj]; exact .mk)
   iterate 2 refine xI ?_
   refine xI ?_ (h := fun hb => by simp [eObj]; exact .mk)
   refine run_if rfl (by simp; exact .mk) rfl (by simp <;> first | omega | grind) (fun hb => by simp at hb; have w := wrap64 (x := to - p.1) (by omega) (by omega); simp [w]; exact .mk) ?_
   refine xI ?_
   refine xP ?_
   refine xB ?_
   refine xI ?_
   refine xI ?_ (h := fun hb => by simp [eObj]; exact .mk)
   iterate 2 refine xI ?_
   refine xP ?_
   refine xB ?_
   refine xI ?_
   refine xI ?_ (h := fun hb => by simp [eObj]; exact .mk)
   iterate 2 refine xI ?_
   refine xP ?_
   refine xQ [1,2,8,9,77] ?_ ?_
   · intro h77
     have hbad : gapBad to a p = true := by simp [gapBad]; simp at h77; grind
     have hr : gapsS fr to l = false := by rw [hr0, hgo, hbad]; rfl
     refine xU ?_
     refine xH [6] ?_
     refine W_ret (xR (by simp [Tryz.f95]; exact .mk) ?_)
     simp [Tryz.f95, hr]
   intro h77
   have hbad : gapBad to a p = false := by simp [gapBad]; simp at h77; grind
   rw [hbad] at hgo
   have hgb := gapBad_f hbad
   have w2 : IntKind.i64.wrap (p.1 + p.2) = p.1 + p.2 := wrap64 (by omega) (by omega)
   refine W_skip fun _ => ?_
   refine xY ?_
   refine xO ?_
   refine xO ?_ (h := by simp [eObj]; exact .mk)
   refine xO ?_
   refine xO ?_ (h := by simp [eObj]; exact .mk)
   refine xO ?_ (h := by simp [w2]; exact .mk)
   refine xH [1,2,7,8] ?_
   refine xY ?_
   refine xO3 ?_
   refine xE [1,2,7,8] ?_
   refine rounds_drop 0 [1,2,7,8] (by simp) (by simp) (by simp) ?_
   refine rounds_next (m' := l.length - (i+1)) (by omega) ⟨i+1, p.1 + p.2, rfl, by omega, ⟨by omega, by omega⟩, by simpa using hgo, ?_, rfl⟩
   rw [wrap64 (by omega) (by omega)]; rfl
 intro h35
 obtain rfl : i = l.length := by simp at h35; omega
 have hr : gapsS fr to l = true := by rw [hr0, hgo, List.drop_length]; rfl
 refine W_exit (xT ?_)
 refine xH [6] ?_
 refine W_ret (xR (by simp [Tryz.f95]; exact .mk) ?_)
 simp [Tryz.f95, hr]

theorem ct87 (g : Gl) (n : Int) : CtAt Tryz.prog g 87 [vI n] (.tup [vI (needS n).1, vI (needS n).2]) := by
 refine xA Tryz.func87 fun B S => ?_
 refine xU ?_
 refine xH2 [0] ?_
 refine W_seq (xU ?_)
 refine xO3 ?_
 iterate 2 refine xI ?_
 refine xP ?_
 refine xQ [0,10] ?_ ?_
 · intro h10
   have hr : needS n = (0, 1) := by unfold needS; rw [if_pos]; simp at h10; omega
   refine xU ?_
   refine xH2 [2,3] ?_
   refine W_ret (xR (by simp [Tryz.f87]; exact .mk) ?_)
   simp [Tryz.f87, hr]
 intro h10
 have hn : ¬ (n < 1 ∨ 2048 < n) := by simp at h10; omega
 have hr : needS n = (upS (2 + (n + 8 - 1).tdiv 8), 0) := by unfold needS; rw [if_neg hn]
 have w1 : IntKind.i64.wrap (n + 7) = n + 7 := wrap64 (by omega) (by omega)
 have d1 : (n + 8 - 1).tdiv 8 = (n + 7).tdiv 8 := by congr 1; omega
 have d2 : 0 ≤ (n + 7).tdiv 8 ∧ (n + 7).tdiv 8 ≤ 300 := by rw [Int.tdiv_eq_ediv_of_nonneg (by omega)]; omega
 rw [d1] at hr
 obtain ⟨w, hw⟩ : ∃ w, w = 2 + (n + 7).tdiv 8 := ⟨_, rfl⟩
 have w2 : IntKind.i64.wrap ((n + 7).tdiv 8) = (n + 7).tdiv 8 := wrap64 (by omega) (by omega)
 have w3 : IntKind.i64.wrap (2 + (n + 7).tdiv 8) = w := (wrap64 (by omega) (by omega)).trans hw.symm
 have hup : upS w = (w + 3) / 4 * 4 := by unfold upS; rw [Int.tdiv_eq_ediv_of_nonneg (by omega), show w + 4 - 1 = w + 3 by omega]
 rw [← hw, hup] at hr
 refine W_skip ?_
 refine xT ?_
 refine xO ?_
 refine xO ?_ (h := by simp [w1]; exact .mk)
 refine xO ?_ (h := by simp [w2]; exact .mk)
 refine xO ?_ (h := by simp [w3]; exact .mk)
 refine xH [4] ?_
 refine W_seq (W_block ?_)
 refine W_rounds (fun m σ o => ∃ v : Int, m = ((w + 3) / 4 * 4 - v).toNat ∧ w ≤ v ∧ v ≤ (w + 3) / 4 * 4 ∧ σ = slots [(4, .d (vI v))] ∧ o = []) ((w + 3) / 4 * 4 - w).toNat .refl ⟨w, rfl, by omega, by omega, rfl, rfl⟩ ?_
 rintro m σ o ⟨v, rfl, hv1, hv2, rfl, rfl⟩ _
 have w4 : IntKind.i64.wrap (v.tmod 4) = v.tmod 4 := by rw [Int.tmod_eq_emod_of_nonneg (by omega)]; exact wrap64 (by omega) (by omega)
 have w5 : v.tmod 4 = v % 4 := Int.tmod_eq_emod_of_nonneg (by omega)
 refine W_seq (xU ?_)
 refine xO ?_
 refine xO ?_ (h := by simp [w4]; exact .mk)
 refine xO ?_
 refine xQ [4,17] ?_ ?_
 · intro h17
   have hz : v % 4 ≠ 0 := by rw [← w5]; simpa using h17
   refine W_skip fun _ => ?_
   refine W_block ?_
   refine xY ?_
   refine xO3 ?_
   refine xE [4] ?_
   refine rounds_kill [4] ?_
   refine rounds_next (m' := ((w + 3) / 4 * 4 - (v+1)).toNat) (by omega) ⟨v+1, rfl, by omega, by omega, ?_, rfl⟩
   rw [wrap64 (by omega) (by omega)]; rfl
 intro h17
 have hz : v % 4 = 0 := by rw [← w5]; simpa using h17
 obtain rfl : v = (w + 3) / 4 * 4 := by omega
 refine W_exit (xT ?_)
 refine xH3 [2,3] ?_
 refine W_ret (xR (by simp [Tryz.f87]; exact .mk) ?_)
 simp [Tryz.f87, hr]

theorem ct96 (g : Gl) (l : List Blk) (hl : l.length ≤ 2^40) : CtAt Tryz.prog g 96 [rBk l] (oO (l.map spanOf)) := by
 refine xA Tryz.func96 fun B S => ?_
 refine xU ?_
 refine xO ?_
 refine xG [0] ?_
 refine xH [0,3] ?_
 refine W_seq (xU ?_)
 refine xH [0,3,4] ?_
 refine W_block (W_rounds (fun m σ o => ∃ i : Nat, m = l.length - i ∧ i ≤ l.length ∧ σ = slots [(0, .d (rBk l)), (3, .hdr 0 0 i), (4, .d (vI i))] ∧ o = [.row 2 ((l.take i).map fun b => eObj (spanOf b))]) l.length (Weak.trans (Weak.nilRow 3 2 rfl) (Weak.kills [0,3,4] rfl) (fun _ _ _ h1 h2 => by rw [← h1.len]; exact h2)) ⟨0, by simp, by simp, by simp, by simp⟩ ?_)
 rintro m σ o ⟨i, rfl, hi, rfl, rfl⟩ _
 refine W_seq (xU ?_)
 refine xO4 ?_
 refine xQ [0,3,4,8] ?_ ?_
 · intro h8
   have hi2 : i < l.length := by simpa using h8
   have e1 : (i + 1) * 16 ≤ 140737488355328 := by omega
   have e2 : i ≤ 140737488355327 := by omega
   have htk : (l.take i).length = i := by simp; omega
   refine W_skip fun _ => ?_
   refine W_seq (W_block ?_)
   refine W_regD (by kernel_rfl) [] 4 [0,1,2,3,4,5,6,7,8,9,10,11,12,13,14] (by decide +kernel) ?_
   refine xO3 ?_
   refine xO ?_ (h := by simp [eBlk, hi2]; exact .mk)
   refine xO ?_
   refine xO ?_ (h := by simp [-List.getElem?_map, map_get hi2, eBlk]; exact .mk)
   refine xO2 ?_
   refine xO ?_ (h := by simp [eBlk, hi2]; exact .mk)
   refine xO ?_
   refine xO ?_ (h := by simp [-List.getElem?_map, map_get hi2, eBlk]; exact .mk)
   refine xOs ?_
   refine xO ?_
   refine xO ?_ (h := by simp [rows, e1, e2, htk, Nat.min_eq_left hi]; exact .mk)
   refine xH [0,3,4] ?_
   refine xY ?_
   refine xO3 ?_
   refine xE [0,3,4] ?_
   refine rounds_kill [0,3,4] ?_
   refine rounds_kills [0,3,4] rfl ?_
   refine rounds_swap 0 2 1 (by decide) (by simp) (by decide) rfl rfl ?_
   refine rounds_drop 1 [0,3,4] (by decide) (by rfl) (by rfl) ?_
   refine rounds_next (m' := l.length - (i+1)) (by omega) ⟨i+1, rfl, by omega, ?_, ?_⟩
   · rw [wrap64 (by omega) (by omega)]; simp; try rfl
   rw [take_succ hi2]; simp [eObj, spanOf]; try rfl
 intro h8
 obtain rfl : i = l.length := by simp at h8; omega
 rw [List.take_of_length_le (by simp)]
 refine W_exit (xT ?_)
 refine xH2 [2] ?_
 refine W_ret (xR (by simp [Tryz.f96]; exact .mk) ?_)
 simp [Tryz.f96, ownR, Function.comp_def]; try rfl

theorem ct23 (g : Gl) (s : Stt) (hs : s.Ok) : CtAt Tryz.prog g 23 [eStt s] (.tup [oO (twosO s.slots), oI (twosI s.slots)]) := by
 refine xA Tryz.func23 fun B S => ?_
 simp only [eStt, List.map, argD_agg, argD_v]
 have q0 := hs.h1
 refine xU ?_
 refine xO3 ?_
 refine xG [1] ?_
 refine xO ?_
 refine xG [1,4] ?_
 refine xH [1,4,5] ?_
 refine W_seq (xU ?_)
 refine xH [1,4,5,6] ?_
 refine W_block (W_rounds (fun m σ o => ∃ i : Nat, m = s.slots.length - i ∧ i ≤ s.slots.length ∧ σ = slots [(1, .ptr 0 0 0), (4, .hdr 1 0 (twoIx s.slots i).length), (5, .hdr 2 0 (twoIx s.slots i).length), (6, .d (vI i))] ∧ o = [.var 28 [.d (vI s.sh.pages), .d (vI s.sh.slots), .d (vI s.sh.roots), .d (vI s.sh.room), .d (vI s.mode), .d (vI s.base), .d (rSl s.slots), .d (rR s.roots), .d (rBB s.data)], .row 2 ((twoIx s.slots i).map fun j => eObj (objAt s.slots j)), .row 1 ((twoIx s.slots i).map fun (j : Nat) => vI j)]) s.slots.length (Weak.trans (Weak.nilRow 4 2 rfl) (Weak.trans (Weak.nilRow 5 1 rfl) (Weak.kills [1,4,5,6] rfl) (fun _ _ _ h1 h2 => by rw [← h1.len]; exact h2)) (fun _ _ _ h1 h2 => by rw [← h1.len]; exact h2)) ⟨0, by simp, by simp, by simp [twoIx], by simp [twoIx]⟩ ?_)
 rintro m σ o ⟨i, rfl, hi, rfl, rfl⟩ _
 have hle := twoIx_len (l := s.slots) (i := i)
 refine W_seq (xU ?_)
 refine xO2 ?_
 refine xOl ?_
 refine xO2 ?_
 refine xQ [1,4,5,6,12] ?_ ?_
 · intro h12
   have hi2 : i < s.slots.length := by simpa using h12
   refine W_skip fun _ => ?_
   refine W_seq (W_block ?_)
   refine xU ?_
   refine xO ?_
   refine xOl ?_
   refine xO ?_
   refine xO ?_ (h := by simp [eSlot, hi2]; exact .mk)
   refine xO ?_ (h := by simp [-List.getElem?_map, map_get hi2, eSlot]; exact .mk)
   refine xO ?_
   refine xOs ?_
   refine xG [1,4,5,6,7] ?_
   refine xO ?_
   refine xOl ?_
   refine xO ?_
   refine xI ?_
   refine xI ?_ (h := fun hb => by simp [eSlot]; exact .mk)
   refine xP ?_
   refine xQ [1,4,5,6,7,25] ?_ ?_
   · intro h25
     have h2 : isTwo (nth s.slots i) = true := by simpa [isTwo] using h25
     have e1 : ((twoIx s.slots i).length + 1) * 16 ≤ 140737488355328 := by omega
     have e2 : (twoIx s.slots i).length ≤ 140737488355327 := by omega
     have e3 : ((twoIx s.slots i).length + 1) * 8 ≤ 140737488355328 := by omega
     refine xU ?_
     refine xO2 ?_
     refine xOl ?_
     refine xO ?_
     refine xOl ?_
     refine xOs ?_
     refine xO ?_
     refine xO ?_ (h := by simp [rows, e1, e2]; exact .mk)
     refine xH [1,4,5,6] ?_
     refine xY ?_
     refine xO3 ?_
     refine xO ?_ (h := by simp [rows, e3, e2]; exact .mk)
     refine xH [1,4,5,6] ?_
     refine xY ?_
     refine xO3 ?_
     refine xE [1,4,5,6] ?_
     refine rounds_kill [1,4,5,6] ?_
     first
     | (refine rounds_kills [1,4,5,6] rfl ?_
        refine rounds_drop 3 [1,4,5,6] (by decide) (by rfl) (by rfl) ?_
        refine rounds_next (m' := s.slots.length - (i+1)) (by omega) ⟨i+1, rfl, by omega, ?_, ?_⟩
        · rw [wrap64 (by omega) (by omega), twoIx_f h2]; rfl
        rw [twoIx_f h2]; rfl)
     | (refine rounds_kills [1,4,5,6] rfl ?_
        refine rounds_swap 1 5 1 (by decide) (by simp) (by decide) rfl rfl ?_
        refine rounds_swap 2 7 1 (by decide) (by simp) (by decide) rfl rfl ?_
        refine rounds_drop 3 [1,4,5,6] (by decide) (by rfl) (by rfl) ?_
        refine rounds_next (m' := s.slots.length - (i+1)) (by omega) ⟨i+1, rfl, by omega, ?_, ?_⟩
        · rw [wrap64 (by omega) (by omega), twoIx_t h2]; simp; try rfl
        rw [twoIx_t h2]; simp [eObj, objAt]; try rfl)
   intro h25
   have h2 : isTwo (nth s.slots i) = false := by simpa [isTwo] using h25
   refine W_skip fun _ => ?_
   refine xY ?_
   refine xO3 ?_
   refine xE [1,4,5,6] ?_
   refine rounds_kill [1,4,5,6] ?_
   first
   | (refine rounds_kills [1,4,5,6] rfl ?_
      refine rounds_drop 3 [1,4,5,6] (by decide) (by rfl) (by rfl) ?_
      refine rounds_next (m' := s.slots.length - (i+1)) (by omega) ⟨i+1, rfl, by omega, ?_, ?_⟩
      · rw [wrap64 (by omega) (by omega), twoIx_f h2]; rfl
      rw [twoIx_f h2]; rfl)
   | (refine rounds_kills [1,4,5,6] rfl ?_
      refine rounds_swap 1 5 1 (by decide) (by simp) (by decide) rfl rfl ?_
      refine rounds_swap 2 7 1 (by decide) (by simp) (by decide) rfl rfl ?_
      refine rounds_drop 3 [1,4,5,6] (by decide) (by rfl) (by rfl) ?_
      refine rounds_next (m' := s.slots.length - (i+1)) (by omega) ⟨i+1, rfl, by omega, ?_, ?_⟩
      · rw [wrap64 (by omega) (by omega), twoIx_t h2]; simp; try rfl
      rw [twoIx_t h2]; simp [eObj, objAt]; try rfl)
 intro h12
 obtain rfl : i = s.slots.length := by simp at h12; omega
 refine W_exit (xT ?_)
 refine xO4 ?_
 refine xF [2,3] ?_
 refine W_ret (xR (by simp [Tryz.f23]; exact .mk) ?_)
 simp [Tryz.f23, ownR, twosO, twosI]; try rfl

open Go.Awp
theorem ct105 (g : Gl) (fr to : Int) (l : List (Int × Int)) (hl : l.length ≤ 2^40) : CtAt Tryz.prog g 105 [vI fr, vI to, rO l] (.tup [oO (gapsR fr to l).1, vI (gapsR fr to l).2]) := by
 refine xA Tryz.func105 fun B S => ?_
 refine xU ?_
 refine xO2 ?_
 refine xG [0,1,2] ?_
 refine xO3 ?_
 refine xC (ct95 g fr to l hl) ?_
 refine xH [0,1,2,8] ?_
 refine W_seq (xU ?_)
 refine xO2 ?_
 refine xQ [0,1,2,18] ?_ ?_
 · intro h18
   have hr : gapsR fr to l = ([], 1) := by unfold gapsR; rw [if_neg (by simpa using h18)]
   refine xU ?_
   refine xH2 [6,7] ?_
   refine W_ret (xR (by simp [Tryz.f105]; exact .mk) ?_)
   simp [Tryz.f105, hr, ownR]; try rfl
 intro h18
 have hgs : gapsS fr to l = true := by simpa using h18
 have hr : gapsR fr to l = (gapsF to fr l, 0) := by unfold gapsR; rw [if_pos hgs]
 obtain ⟨G, hG⟩ : ∃ G, G = gapsF to fr l := ⟨_, rfl⟩
 rw [← hG] at hr
 have hgs2 := hgs
 simp only [gapsS, Bool.and_eq_true, gapsHead, decide_eq_true_eq] at hgs2
 obtain ⟨hh, hok⟩ := hgs2
 refine W_skip ?_
 refine xT ?_
 refine xO ?_
 refine xG [0,1,2,9] ?_
 refine xH2 [1,2,9,10] ?_
 refine W_seq (xU ?_)
 refine xH [1,2,9,10,11] ?_
 refine W_block ?_
 refine W_rounds (fun m σ o => ∃ (i : Nat) (a : Int) (out : List (Int × Int)), m = l.length + 1 - i ∧ out.length ≤ i ∧ (0 ≤ a ∧ a ≤ 2048) ∧ ((i < l.length ∧ out ++ gapsF to a (l.drop i) = G ∧ gapsOk to a (l.drop i) = true) ∨ (i = l.length ∧ out ++ gapE a to = G) ∨ (i = l.length + 1 ∧ out = G)) ∧ σ = slots [(1, .d (vI to)), (2, .d (rO l)), (9, .hdr 0 0 out.length), (10, .d (vI a)), (11, .d (vI i))] ∧ o = [.row 2 (out.map eObj)]) (l.length + 1)
  (Weak.trans (Weak.nilRow 9 2 rfl) (Weak.kills [1,2,9,10,11] rfl) (fun _ _ _ h1 h2 => by rw [← h1.len]; exact h2)) ⟨0, fr, [], by simp, by simp, ⟨by omega, by omega⟩, by
    cases hz : l with
    | nil => right; left; rw [hz] at hG; exact ⟨rfl, hG.symm⟩
    | cons p t => left; rw [hz] at hG hok; exact ⟨by simp, hG.symm, hok⟩, by simp, by simp⟩ ?_
 rintro m σ o ⟨i, a, out, rfl, hol, ha, ⟨hi2, hgo, hok2⟩ | ⟨rfl, hgo⟩ | ⟨rfl, hgo⟩, rfl, rfl⟩ _
 · skip
   rw [gapsF_drop hi2] at hgo
   rw [gapsOk_drop hi2] at hok2
   simp only [Bool.and_eq_true, Bool.not_eq_true'] at hok2
   have hgb := gapBad_f hok2.1
   obtain ⟨p, hp⟩ : ∃ p, p = nth l i := ⟨_, rfl⟩
   rw [← hp] at hgo hok2 hgb
   have w1 : IntKind.i64.wrap (p.1 + p.2) = p.1 + p.2 := wrap64 (by omega) (by omega)
   have w2 : IntKind.i64.wrap (p.1 - a) = p.1 - a := wrap64 (by omega) (by omega)
   have e1 : (out.length + 1) * 16 ≤ 140737488355328 := by omega
   have e2 : out.length ≤ 140737488355327 := by omega
   refine W_seq (xU ?_)
   refine xO4 ?_
   refine xQ [1,2,9,10,11,23] ?_ ?_
   · intro h23
     refine W_skip fun _ => ?_
     refine W_seq (W_block ?_)
     refine xU ?_
     refine xH2 [1,2,9,10,11,12] ?_
     refine W_seq (xU ?_)
     refine xO4 ?_
     refine xQ [1,2,9,10,11,12,30] ?_ ?_
     · intro h30
       refine xY ?_
       refine xO2 ?_
       refine xO ?_ (h := by simp [eObj, hi2]; exact .mk)
       refine xO ?_
       refine xO ?_ (h := by simp [-List.getElem?_map, map_get hi2, eObj, ← hp]; exact .mk)
       refine xH [1,2,9,10,11,12] ?_
       refine W_seq (xU ?_)
       refine xO3 ?_
       refine xQ [1,2,9,10,11,12,38] ?_ ?_
       · intro h38
         have hge : gapE a p.1 = [(a, p.1 - a)] := by unfold gapE; rw [if_pos (by simpa using h38)]
         refine xY ?_
         refine xO4 ?_
         refine xO ?_ (h := by simp [w2]; exact .mk)
         refine xOs ?_
         refine xO ?_
         refine xO ?_ (h := by simp [rows, e1, e2]; exact .mk)
         refine xO ?_
         refine xG [1,2,9,10,11] ?_
         refine xO4 ?_
         refine xQ [1,2,9,10,11,50] ?_ ?_
         · intro h50
           refine W_regD (by kernel_rfl) [] 4 [0,1,2,3,4,5,6,7,8,9,10,11] (by decide +kernel) ?_
           refine xO2 ?_
           refine xO ?_ (h := by simp [eObj, hi2]; exact .mk)
           refine xO ?_
           refine xO ?_ (h := by simp [-List.getElem?_map, map_get hi2, eObj, ← hp]; exact .mk)
           refine xO2 ?_
           refine xO ?_ (h := by simp [eObj, hi2]; exact .mk)
           refine xO ?_
           refine xO ?_ (h := by simp [-List.getElem?_map, map_get hi2, eObj, ← hp]; exact .mk)
           refine xO ?_ (h := by simp [w1]; exact .mk)
           refine xH [1,2,9,10,11] ?_
           refine xY ?_
           refine xO3 ?_
           refine xE [1,2,9,10,11] ?_
           refine rounds_kill [1,2,9,10,11] ?_
           rw [hge] at hgo
           have hrest : ∀ out2, out2 ++ gapsF to (p.1 + p.2) (l.drop (i + 1)) = G → ((i + 1 < l.length ∧ out2 ++ gapsF to (p.1 + p.2) (l.drop (i + 1)) = G ∧ gapsOk to (p.1 + p.2) (l.drop (i + 1)) = true) ∨ (i + 1 = l.length ∧ out2 ++ gapE (p.1 + p.2) to = G) ∨ (i + 1 = l.length + 1 ∧ out2 = G)) := fun out2 h => by
            by_cases hl2 : i + 1 < l.length
            · exact .inl ⟨hl2, h, hok2.2⟩
            refine .inr (.inl ⟨by omega, ?_⟩)
            rw [List.drop_eq_nil_of_le (by omega)] at h; exact h
           first
           | (refine rounds_kills [1,2,9,10,11] rfl ?_
              refine rounds_next (m' := l.length + 1 - (i+1)) (by omega) ⟨i+1, p.1 + p.2, out, rfl, by omega, ⟨by omega, by omega⟩, hrest _ (by simpa using hgo), ?_, rfl⟩
              rw [wrap64 (by omega) (by omega)]; rfl)
           | (refine rounds_kills [1,2,9,10,11] rfl ?_
              refine rounds_swap 0 2 1 (by decide) (by simp) (by decide) rfl rfl ?_
              refine rounds_drop 1 [1,2,9,10,11] (by decide) (by rfl) (by rfl) ?_
              refine rounds_next (m' := l.length + 1 - (i+1)) (by omega) ⟨i+1, p.1 + p.2, out ++ [(a, p.1 - a)], rfl, by simp; omega, ⟨by omega, by omega⟩, hrest _ (by simpa using hgo), ?_, ?_⟩
              · rw [wrap64 (by omega) (by omega)]; simp; try rfl
              simp [eObj]; try rfl)
         intro h50
         simp at h50; omega
       intro h38
       have hge : gapE a p.1 = [] := by unfold gapE; rw [if_neg (by simpa using h38)]
       refine W_skip ?_
       refine xT ?_
       refine xO4 ?_
       refine xQ [1,2,9,10,11,50] ?_ ?_
       · intro h50
         refine W_regD (by kernel_rfl) [] 4 [0,1,2,3,4,5,6,7,8,9,10,11] (by decide +kernel) ?_
         refine xO2 ?_
         refine xO ?_ (h := by simp [eObj, hi2]; exact .mk)
         refine xO ?_
         refine xO ?_ (h := by simp [-List.getElem?_map, map_get hi2, eObj, ← hp]; exact .mk)
         refine xO2 ?_
         refine xO ?_ (h := by simp [eObj, hi2]; exact .mk)
         refine xO ?_
         refine xO ?_ (h := by simp [-List.getElem?_map, map_get hi2, eObj, ← hp]; exact .mk)
         refine xO ?_ (h := by simp [w1]; exact .mk)
         refine xH [1,2,9,10,11] ?_
         refine xY ?_
         refine xO3 ?_
         refine xE [1,2,9,10,11] ?_
         refine rounds_kill [1,2,9,10,11] ?_
         rw [hge] at hgo
         have hrest : ∀ out2, out2 ++ gapsF to (p.1 + p.2) (l.drop (i + 1)) = G → ((i + 1 < l.length ∧ out2 ++ gapsF to (p.1 + p.2) (l.drop (i + 1)) = G ∧ gapsOk to (p.1 + p.2) (l.drop (i + 1)) = true) ∨ (i + 1 = l.length ∧ out2 ++ gapE (p.1 + p.2) to = G) ∨ (i + 1 = l.length + 1 ∧ out2 = G)) := fun out2 h => by
          by_cases hl2 : i + 1 < l.length
          · exact .inl ⟨hl2, h, hok2.2⟩
          refine .inr (.inl ⟨by omega, ?_⟩)
          rw [List.drop_eq_nil_of_le (by omega)] at h; exact h
         first
         | (refine rounds_kills [1,2,9,10,11] rfl ?_
            refine rounds_next (m' := l.length + 1 - (i+1)) (by omega) ⟨i+1, p.1 + p.2, out, rfl, by omega, ⟨by omega, by omega⟩, hrest _ (by simpa using hgo), ?_, rfl⟩
            rw [wrap64 (by omega) (by omega)]; rfl)
         | (refine rounds_kills [1,2,9,10,11] rfl ?_
            refine rounds_swap 0 2 1 (by decide) (by simp) (by decide) rfl rfl ?_
            refine rounds_drop 1 [1,2,9,10,11] (by decide) (by rfl) (by rfl) ?_
            refine rounds_next (m' := l.length + 1 - (i+1)) (by omega) ⟨i+1, p.1 + p.2, out ++ [(a, p.1 - a)], rfl, by simp; omega, ⟨by omega, by omega⟩, hrest _ (by simpa using hgo), ?_, ?_⟩
            · rw [wrap64 (by omega) (by omega)]; simp; try rfl
            simp [eObj]; try rfl)
       intro h50
       simp at h50; omega
     intro h30
     simp at h30; omega
   intro h23
   simp at h23; omega
 · skip
   have w2 : IntKind.i64.wrap (to - a) = to - a := wrap64 (by omega) (by omega)
   have e1 : (out.length + 1) * 16 ≤ 140737488355328 := by omega
   have e2 : out.length ≤ 140737488355327 := by omega
   refine W_seq (xU ?_)
   refine xO4 ?_
   refine xQ [1,2,9,10,11,23] ?_ ?_
   · intro h23
     refine W_skip fun _ => ?_
     refine W_seq (W_block ?_)
     refine xU ?_
     refine xH2 [1,2,9,10,11,12] ?_
     refine W_seq (xU ?_)
     refine xO4 ?_
     refine xQ [1,2,9,10,11,12,30] ?_ ?_
     · intro h30
       simp at h30
     intro h30
     refine W_skip fun _ => ?_
     refine W_seq (xU ?_)
     refine xO3 ?_
     refine xQ [1,2,9,10,11,12,38] ?_ ?_
     · intro h38
       have hge : gapE a to = [(a, to - a)] := by unfold gapE; rw [if_pos (by simpa using h38)]
       refine xY ?_
       refine xO4 ?_
       refine xO ?_ (h := by simp [w2]; exact .mk)
       refine xOs ?_
       refine xO ?_
       refine xO ?_ (h := by simp [rows, e1, e2]; exact .mk)
       refine xO ?_
       refine xG [1,2,9,10,11] ?_
       refine xO4 ?_
       refine xQ [1,2,9,10,11,50] ?_ ?_
       · intro h50
         simp at h50
       intro h50
       refine W_skip fun _ => ?_
       refine xY ?_
       refine xO3 ?_
       refine xE [1,2,9,10,11] ?_
       refine rounds_kill [1,2,9,10,11] ?_
       rw [hge] at hgo
       first
       | (refine rounds_kills [1,2,9,10,11] rfl ?_
          refine rounds_next (m' := 0) (by omega) ⟨l.length+1, a, out, by omega, by omega, ha, .inr (.inr ⟨rfl, by simpa using hgo⟩), ?_, rfl⟩
          rw [wrap64 (by omega) (by omega)]; rfl)
       | (refine rounds_kills [1,2,9,10,11] rfl ?_
          refine rounds_swap 0 2 1 (by decide) (by simp) (by decide) rfl rfl ?_
          refine rounds_drop 1 [1,2,9,10,11] (by decide) (by rfl) (by rfl) ?_
          refine rounds_next (m' := 0) (by omega) ⟨l.length+1, a, out ++ [(a, to - a)], by omega, by simp; omega, ha, .inr (.inr ⟨rfl, hgo⟩), ?_, ?_⟩
          · rw [wrap64 (by omega) (by omega)]; simp; try rfl
          simp [eObj]; try rfl)
     intro h38
     have hge : gapE a to = [] := by unfold gapE; rw [if_neg (by simpa using h38)]
     refine W_skip ?_
     refine xT ?_
     refine xO4 ?_
     refine xQ [1,2,9,10,11,50] ?_ ?_
     · intro h50
       simp at h50
     intro h50
     refine W_skip fun _ => ?_
     refine xY ?_
     refine xO3 ?_
     refine xE [1,2,9,10,11] ?_
     refine rounds_kill [1,2,9,10,11] ?_
     rw [hge] at hgo
     first
     | (refine rounds_kills [1,2,9,10,11] rfl ?_
        refine rounds_next (m' := 0) (by omega) ⟨l.length+1, a, out, by omega, by omega, ha, .inr (.inr ⟨rfl, by simpa using hgo⟩), ?_, rfl⟩
        rw [wrap64 (by omega) (by omega)]; rfl)
     | (refine rounds_kills [1,2,9,10,11] rfl ?_
        refine rounds_swap 0 2 1 (by decide) (by simp) (by decide) rfl rfl ?_
        refine rounds_drop 1 [1,2,9,10,11] (by decide) (by rfl) (by rfl) ?_
        refine rounds_next (m' := 0) (by omega) ⟨l.length+1, a, out ++ [(a, to - a)], by omega, by simp; omega, ha, .inr (.inr ⟨rfl, hgo⟩), ?_, ?_⟩
        · rw [wrap64 (by omega) (by omega)]; simp; try rfl
        simp [eObj]; try rfl)
   intro h23
   simp at h23
 skip
 skip
 refine W_seq (xU ?_)
 refine xO4 ?_
 refine xQ [1,2,9,10,11,23] ?_ ?_
 · intro h23
   simp at h23; omega
 intro h23
 subst hgo
 refine W_exit (xT ?_)
 refine xH3 [6,7] ?_
 refine W_ret (xR (by simp [Tryz.f105]; exact .mk) ?_)
 simp [Tryz.f105, hr, ownR]; try rfl

theorem ct106 (g : Gl) (l : List (Int × Int)) (hl : l.length ≤ 2^40) (size : Int) : CtAt Tryz.prog g 106 [rO l, vI size] (.tup [eObj ((bestS l size).getD (0, 0)), .v (.bool (bestS l size).isSome)]) := by
 refine xA Tryz.func106 fun B S => ?_
 refine xU ?_
 refine xO2 ?_
 refine xG [0,1,4] ?_
 refine xH [0,1,4,6] ?_
 refine W_seq (xU ?_)
 refine xH [0,1,4,6,7] ?_
 refine W_block (W_rounds (fun m σ o => ∃ (i : Nat) (k : Int), m = l.length - i ∧ i ≤ l.length ∧ ((k = -1 ∧ bestS (l.take i) size = none) ∨ ∃ q : Nat, k = q ∧ q < l.length ∧ bestS (l.take i) size = some (nth l q)) ∧ σ = slots [(0, .d (rO l)), (1, .d (vI size)), (4, .ptr 0 0 0), (6, .d (vI k)), (7, .d (vI i))] ∧ o = [.var 115 [.d (vI 0), .d (vI 0)]]) l.length .refl ⟨0, -1, by simp, by simp, .inl ⟨rfl, rfl⟩, rfl, rfl⟩ ?_)
 rintro m σ o ⟨i, k, rfl, hi, ⟨rfl, hfo⟩ | ⟨q, rfl, hq, hfo⟩, rfl, rfl⟩ _
 · skip
   skip
   refine W_seq (xU ?_)
   refine xO4 ?_
   refine xQ [0,1,4,6,7,11] ?_ ?_
   · intro h11
     have hi2 : i < l.length := by simpa using h11
     have hst := bestS_step (size := size) hi2
     rw [hfo] at hst
     refine W_skip fun _ => ?_
     refine W_seq (W_block ?_)
     refine W_seq (xU ?_)
     refine xO2 ?_
     refine xO ?_ (h := by simp [eObj, hi2]; exact .mk)
     refine xO ?_
     refine xO ?_ (h := by simp [-List.getElem?_map, map_get hi2, eObj]; exact .mk)
     refine xO2 ?_
     refine xQ [0,1,4,6,7,20] ?_ ?_
     · intro h20
       have hst2 : bestS (l.take (i + 1)) size = bestS (l.take i) size := by rw [hst, hfo]; unfold bestStep; rw [if_neg]; simp at h20 ⊢; omega
       rw [hfo] at hst2
       refine W_exit ?_
       rintro -
       refine xY ?_
       refine xO3 ?_
       refine xE [0,1,4,6,7] ?_
       refine rounds_kill [0,1,4,6,7] ?_
       first
       | exact rounds_next (m' := l.length - (i+1)) (by omega) ⟨i+1, i, rfl, by omega, .inr ⟨i, rfl, hi2, hst2⟩, by rw [wrap64 (by omega) (by omega)]; rfl, rfl⟩
       | exact rounds_next (m' := l.length - (i+1)) (by omega) ⟨i+1, -1, rfl, by omega, .inl ⟨rfl, hst2⟩, by rw [wrap64 (by omega) (by omega)]; rfl, rfl⟩
       | exact rounds_next (m' := l.length - (i+1)) (by omega) ⟨i+1, q, rfl, by omega, .inr ⟨q, rfl, hq, hst2⟩, by rw [wrap64 (by omega) (by omega)]; rfl, rfl⟩
     intro h20
     have hsz : size ≤ (nth l i).2 := by simp at h20; omega
     refine W_skip fun _ => ?_
     refine W_seq ?_
     refine W_regD (by kernel_rfl) [] 4 [0,1,2,3,4,5,6,7,8,9,10,11,12,13,14,15,16,17,18,19,20,21,22,23,24,25,26,27,28,29,30,31,32,33,34,35,36,37,38,39,40] (by decide +kernel) ?_
     refine xO3 ?_
     iterate 11 (refine run_not (av := .d (.v (.bool false))) rfl (by simp; exact .mk) rfl ?_)
     refine xP ?_
     refine xB ?_
     iterate 24 (refine run_not (av := .d (.v (.bool false))) rfl (by simp; exact .mk) rfl ?_)
     refine xP ?_
     refine xQ [0,1,4,6,7,61] ?_ ?_
     · intro h61
       have hst2 : bestS (l.take (i + 1)) size = some (nth l i) := by rw [hst]; unfold bestStep; rw [if_pos]; simp [betterS] at h61 ⊢ <;> omega
       refine xY ?_
       refine xH2 [0,1,4,6,7] ?_
       refine xY ?_
       refine xO3 ?_
       refine xE [0,1,4,6,7] ?_
       refine rounds_kill [0,1,4,6,7] ?_
       first
       | exact rounds_next (m' := l.length - (i+1)) (by omega) ⟨i+1, i, rfl, by omega, .inr ⟨i, rfl, hi2, hst2⟩, by rw [wrap64 (by omega) (by omega)]; rfl, rfl⟩
       | exact rounds_next (m' := l.length - (i+1)) (by omega) ⟨i+1, -1, rfl, by omega, .inl ⟨rfl, hst2⟩, by rw [wrap64 (by omega) (by omega)]; rfl, rfl⟩
       | exact rounds_next (m' := l.length - (i+1)) (by omega) ⟨i+1, q, rfl, by omega, .inr ⟨q, rfl, hq, hst2⟩, by rw [wrap64 (by omega) (by omega)]; rfl, rfl⟩
     intro h61
     have hst2 : bestS (l.take (i + 1)) size = bestS (l.take i) size := by rw [hst, hfo]; unfold bestStep; rw [if_neg]; simp [betterS] at h61 ⊢ <;> omega
     rw [hfo] at hst2
     refine W_skip fun _ => ?_
     refine xY ?_
     refine xO3 ?_
     refine xE [0,1,4,6,7] ?_
     refine rounds_kill [0,1,4,6,7] ?_
     first
     | exact rounds_next (m' := l.length - (i+1)) (by omega) ⟨i+1, i, rfl, by omega, .inr ⟨i, rfl, hi2, hst2⟩, by rw [wrap64 (by omega) (by omega)]; rfl, rfl⟩
     | exact rounds_next (m' := l.length - (i+1)) (by omega) ⟨i+1, -1, rfl, by omega, .inl ⟨rfl, hst2⟩, by rw [wrap64 (by omega) (by omega)]; rfl, rfl⟩
     | exact rounds_next (m' := l.length - (i+1)) (by omega) ⟨i+1, q, rfl, by omega, .inr ⟨q, rfl, hq, hst2⟩, by rw [wrap64 (by omega) (by omega)]; rfl, rfl⟩
   intro h11
   obtain rfl : i = l.length := by simp at h11; omega
   rw [List.take_length] at hfo
   refine W_exit ?_
   rintro -
   refine W_seq (xU ?_)
   refine xO2 ?_
   refine xQ [0,4,6,64] ?_ ?_
   · intro h64
     refine xU ?_
     iterate 2 (refine xOs ?_)
     refine xH [4,5] ?_
     refine W_ret (xR (by simp [Tryz.f106]; exact .mk) ?_)
     simp [Tryz.f106, hfo, eObj]
   intro h64
   simp at h64
 skip
 skip
 refine W_seq (xU ?_)
 refine xO4 ?_
 refine xQ [0,1,4,6,7,11] ?_ ?_
 · intro h11
   have hi2 : i < l.length := by simpa using h11
   have hst := bestS_step (size := size) hi2
   rw [hfo] at hst
   refine W_skip fun _ => ?_
   refine W_seq (W_block ?_)
   refine W_seq (xU ?_)
   refine xO2 ?_
   refine xO ?_ (h := by simp [eObj, hi2]; exact .mk)
   refine xO ?_
   refine xO ?_ (h := by simp [-List.getElem?_map, map_get hi2, eObj]; exact .mk)
   refine xO2 ?_
   refine xQ [0,1,4,6,7,20] ?_ ?_
   · intro h20
     have hst2 : bestS (l.take (i + 1)) size = bestS (l.take i) size := by rw [hst, hfo]; unfold bestStep; rw [if_neg]; simp at h20 ⊢; omega
     rw [hfo] at hst2
     refine W_exit ?_
     rintro -
     refine xY ?_
     refine xO3 ?_
     refine xE [0,1,4,6,7] ?_
     refine rounds_kill [0,1,4,6,7] ?_
     first
     | exact rounds_next (m' := l.length - (i+1)) (by omega) ⟨i+1, i, rfl, by omega, .inr ⟨i, rfl, hi2, hst2⟩, by rw [wrap64 (by omega) (by omega)]; rfl, rfl⟩
     | exact rounds_next (m' := l.length - (i+1)) (by omega) ⟨i+1, -1, rfl, by omega, .inl ⟨rfl, hst2⟩, by rw [wrap64 (by omega) (by omega)]; rfl, rfl⟩
     | exact rounds_next (m' := l.length - (i+1)) (by omega) ⟨i+1, q, rfl, by omega, .inr ⟨q, rfl, hq, hst2⟩, by rw [wrap64 (by omega) (by omega)]; rfl, rfl⟩
   intro h20
   have hsz : size ≤ (nth l i).2 := by simp at h20; omega
   refine W_skip fun _ => ?_
   refine W_seq ?_
   refine W_regD (by kernel_rfl) [] 4 [0,1,2,3,4,5,6,7,8,9,10,11,12,13,14,15,16,17,18,19,20,21,22,23,24,25,26,27,28,29,30,31,32,33,34,35,36,37,38,39,40] (by decide +kernel) ?_
   refine xO3 ?_
   iterate 2 refine xI ?_
   refine xI ?_ (h := fun hb => by simp [eObj, hi2]; exact .mk)
   refine xI ?_
   refine xI ?_ (h := fun hb => by simp [-List.getElem?_map, map_get hi2, eObj]; exact .mk)
   iterate 2 refine xI ?_
   refine xI ?_ (h := fun hb => by simp [eObj, hq]; exact .mk)
   refine xI ?_
   refine xI ?_ (h := fun hb => by simp [-List.getElem?_map, map_get hq, eObj]; exact .mk)
   refine xI ?_
   refine xP ?_
   refine xB ?_
   iterate 2 refine xI ?_
   refine xI ?_ (h := fun hb => by simp [eObj, hi2]; exact .mk)
   refine xI ?_
   refine xI ?_ (h := fun hb => by simp [-List.getElem?_map, map_get hi2, eObj]; exact .mk)
   iterate 2 refine xI ?_
   refine xI ?_ (h := fun hb => by simp [eObj, hq]; exact .mk)
   refine xI ?_
   refine xI ?_ (h := fun hb => by simp [-List.getElem?_map, map_get hq, eObj]; exact .mk)
   iterate 4 refine xI ?_
   refine xI ?_ (h := fun hb => by simp [eObj, hi2]; exact .mk)
   refine xI ?_
   refine xI ?_ (h := fun hb => by simp [-List.getElem?_map, map_get hi2, eObj]; exact .mk)
   iterate 2 refine xI ?_
   refine xI ?_ (h := fun hb => by simp [eObj, hq]; exact .mk)
   refine xI ?_
   refine xI ?_ (h := fun hb => by simp [-List.getElem?_map, map_get hq, eObj]; exact .mk)
   refine xI ?_
   iterate 2 refine xP ?_
   refine xQ [0,1,4,6,7,61] ?_ ?_
   · intro h61
     have hst2 : bestS (l.take (i + 1)) size = some (nth l i) := by rw [hst]; unfold bestStep; rw [if_pos]; simp [betterS] at h61 ⊢ <;> omega
     refine xY ?_
     refine xH2 [0,1,4,6,7] ?_
     refine xY ?_
     refine xO3 ?_
     refine xE [0,1,4,6,7] ?_
     refine rounds_kill [0,1,4,6,7] ?_
     first
     | exact rounds_next (m' := l.length - (i+1)) (by omega) ⟨i+1, i, rfl, by omega, .inr ⟨i, rfl, hi2, hst2⟩, by rw [wrap64 (by omega) (by omega)]; rfl, rfl⟩
     | exact rounds_next (m' := l.length - (i+1)) (by omega) ⟨i+1, -1, rfl, by omega, .inl ⟨rfl, hst2⟩, by rw [wrap64 (by omega) (by omega)]; rfl, rfl⟩
     | exact rounds_next (m' := l.length - (i+1)) (by omega) ⟨i+1, q, rfl, by omega, .inr ⟨q, rfl, hq, hst2⟩, by rw [wrap64 (by omega) (by omega)]; rfl, rfl⟩
   intro h61
   have hst2 : bestS (l.take (i + 1)) size = bestS (l.take i) size := by rw [hst, hfo]; unfold bestStep; rw [if_neg]; simp [betterS] at h61 ⊢ <;> omega
   rw [hfo] at hst2
   refine W_skip fun _ => ?_
   refine xY ?_
   refine xO3 ?_
   refine xE [0,1,4,6,7] ?_
   refine rounds_kill [0,1,4,6,7] ?_
   first
   | exact rounds_next (m' := l.length - (i+1)) (by omega) ⟨i+1, i, rfl, by omega, .inr ⟨i, rfl, hi2, hst2⟩, by rw [wrap64 (by omega) (by omega)]; rfl, rfl⟩
   | exact rounds_next (m' := l.length - (i+1)) (by omega) ⟨i+1, -1, rfl, by omega, .inl ⟨rfl, hst2⟩, by rw [wrap64 (by omega) (by omega)]; rfl, rfl⟩
   | exact rounds_next (m' := l.length - (i+1)) (by omega) ⟨i+1, q, rfl, by omega, .inr ⟨q, rfl, hq, hst2⟩, by rw [wrap64 (by omega) (by omega)]; rfl, rfl⟩
 intro h11
 obtain rfl : i = l.length := by simp at h11; omega
 rw [List.take_length] at hfo
 refine W_exit ?_
 rintro -
 refine W_seq (xU ?_)
 refine xO2 ?_
 refine xQ [0,4,6,64] ?_ ?_
 · intro h64
   simp at h64; omega
 intro h64
 refine W_skip ?_
 refine xT ?_
 refine xO2 ?_
 refine xO ?_ (h := by simp [eObj, hq]; exact .mk)
 refine xO ?_ (h := by simp [-List.getElem?_map, map_get hq, eObj]; exact .mk)
 refine xOs ?_
 refine xH [4,5] ?_
 refine W_ret (xR (by simp [Tryz.f106]; exact .mk) ?_)
 simp [Tryz.f106, hfo, eObj]

open Go.Awp
/- The first rune of a text, as the document says. -/
def bt (s : ByteArray) (k : Nat) : Nat := (s.data.toList.getD k 0).toNat
theorem bt_lt (s : ByteArray) (k : Nat) : bt s k < 256 := UInt8.toNat_lt _
theorem get_bt (s : ByteArray) (k : Nat) : (s.get! k).toNat = bt s k := by
 unfold bt
 show (s.data[k]!).toNat = _
 congr 1
 rw [List.getD_eq_getElem?_getD, Array.getElem?_toList, getElem!_def]
 cases s.data[k]? <;> rfl
def clsN (b : Nat) : Nat × Nat × Nat := if 194 ≤ b ∧ b < 224 then (2, 128, 192) else if 224 ≤ b ∧ b < 240 then (3, 2048, 224) else if 240 ≤ b ∧ b < 245 then (4, 65536, 240) else (0, 0, 0)
def contB (b : Nat) : Bool := decide (128 ≤ b ∧ b < 192)
def accR (s : ByteArray) (a : Int) : Nat → Int
 | 0 => a
 | i + 1 => accR s a i * 64 + bt s (i + 1) - 128
def badR (a : Int) (least : Nat) : Bool := decide (a < least ∨ 1114111 < a ∨ (55296 ≤ a ∧ a ≤ 57343))
def runeR (s : ByteArray) : Int × Int :=
 if bt s 0 < 128 then (bt s 0, 1)
 else if (clsN (bt s 0)).1 = 0 ∨ s.size < (clsN (bt s 0)).1 then (0, 0)
 else if (List.range ((clsN (bt s 0)).1 - 1)).all (fun i => contB (bt s (i + 1))) = true then
  (if badR (accR s ((bt s 0 : Int) - (clsN (bt s 0)).2.2) ((clsN (bt s 0)).1 - 1)) (clsN (bt s 0)).2.1 = true then (0, 0) else (accR s ((bt s 0 : Int) - (clsN (bt s 0)).2.2) ((clsN (bt s 0)).1 - 1), (clsN (bt s 0)).1))
 else (0, 0)
theorem clsN_cases (b : Nat) : (194 ≤ b ∧ b < 224 ∧ clsN b = (2, 128, 192)) ∨ (224 ≤ b ∧ b < 240 ∧ clsN b = (3, 2048, 224)) ∨ (240 ≤ b ∧ b < 245 ∧ clsN b = (4, 65536, 240)) ∨ ((b < 194 ∨ 245 ≤ b) ∧ clsN b = (0, 0, 0)) := by
 unfold clsN
 by_cases h1 : 194 ≤ b ∧ b < 224
 · rw [if_pos h1]; exact .inl ⟨h1.1, h1.2, rfl⟩
 · rw [if_neg h1]
   by_cases h2 : 224 ≤ b ∧ b < 240
   · rw [if_pos h2]; exact .inr (.inl ⟨h2.1, h2.2, rfl⟩)
   · rw [if_neg h2]
     by_cases h3 : 240 ≤ b ∧ b < 245
     · rw [if_pos h3]; exact .inr (.inr (.inl ⟨h3.1, h3.2, rfl⟩))
     · rw [if_neg h3]; exact .inr (.inr (.inr ⟨by omega, rfl⟩))
theorem runeR_k {s : ByteArray} {k le ba : Nat} (h0 : ¬ bt s 0 < 128) (e : clsN (bt s 0) = (k, le, ba)) (hk : k ≠ 0) : runeR s = if s.size < k then (0, 0) else if (List.range (k - 1)).all (fun i => contB (bt s (i + 1))) = true then (if badR (accR s ((bt s 0 : Int) - ba) (k - 1)) le = true then (0, 0) else (accR s ((bt s 0 : Int) - ba) (k - 1), (k : Int))) else (0, 0) := by
 unfold runeR
 rw [if_neg h0, e]
 simp only
 by_cases h : s.size < k
 · rw [if_pos (.inr h), if_pos h]
 · rw [if_neg (by omega), if_neg h]
theorem pair_alt {r : Int × Int} {d : Nat × Nat} (h : (r = (0, 0) ∧ d.1 = 65533) ∨ (r = ((d.1 : Int), (d.2 : Int)) ∧ d.2 ≠ 0)) : (r.2 = 0 ∧ d.1 = 65533) ∨ (r.2 ≠ 0 ∧ r.1 = d.1 ∧ r.2 = d.2) := by
 rcases h with ⟨rfl, h⟩ | ⟨rfl, h⟩
 · exact .inl ⟨rfl, h⟩
 · exact .inr ⟨by simpa using h, rfl, rfl⟩
theorem runeR_decode {s : ByteArray} (h : 0 < s.size) : ((runeR s).2 = 0 ∧ (Utf8.decode s 0).1 = 65533) ∨ ((runeR s).2 ≠ 0 ∧ (runeR s).1 = (Utf8.decode s 0).1 ∧ (runeR s).2 = (Utf8.decode s 0).2) := by
 apply pair_alt
 have l0 := bt_lt s 0
 have l1 := bt_lt s 1
 have l2 := bt_lt s 2
 have l3 := bt_lt s 3
 unfold Utf8.decode
 simp only [Nat.zero_add, get_bt, Utf8.valid, Utf8.runeError]
 by_cases h0 : bt s 0 < 128
 · rw [if_pos h0]; right; unfold runeR; rw [if_pos h0]; exact ⟨rfl, by simp⟩
 have hn0 := h0
 rw [if_neg h0]
 rcases clsN_cases (bt s 0) with ⟨a1, a2, e⟩ | ⟨a1, a2, e⟩ | ⟨a1, a2, e⟩ | ⟨a1, e⟩
 · rw [runeR_k h0 e (by decide)]
   have hall : (List.range (2 - 1)).all (fun i => contB (bt s (i + 1))) = contB (bt s 1) := by simp [List.range_succ]
   have hacc : accR s ((bt s 0 : Int) - (192 : Nat)) (2 - 1) = ((bt s 0 : Int) - 192) * 64 + bt s 1 - 128 := rfl
   rw [hall, hacc]
   generalize bt s 0 = b0 at *
   generalize bt s 1 = b1 at *
   have d1 : b0 / 32 = 6 := by omega
   have d2 : b0 / 16 ≠ 14 := by omega
   have d3 : b0 / 8 ≠ 30 := by omega
   simp only [d1, d2, d3, contB, badR, beq_iff_eq, Bool.and_eq_true, decide_eq_true_eq, true_and, false_and, if_false, BEq.rfl]
   by_cases hz : 1 < s.size ∧ b1 / 64 = 2
   · rw [if_pos hz, if_neg (by omega), if_pos (by omega), if_neg (by omega), if_pos (by omega)]
     right; constructor
     · exact Prod.ext (by show _ = ((b0 % 32 * 64 + b1 % 64 : Nat) : Int); omega) rfl
     · show (2 : Nat) ≠ 0; decide
   · rw [if_neg hz]; left
     refine ⟨?_, rfl⟩
     by_cases hs : s.size < 2
     · rw [if_pos hs]
     · rw [if_neg hs, if_neg (by omega)]
 · rw [runeR_k h0 e (by decide)]
   have hall : (List.range (3 - 1)).all (fun i => contB (bt s (i + 1))) = (contB (bt s 1) && contB (bt s 2)) := by simp [List.range_succ]
   have hacc : accR s ((bt s 0 : Int) - (224 : Nat)) (3 - 1) = (((bt s 0 : Int) - 224) * 64 + bt s 1 - 128) * 64 + bt s 2 - 128 := rfl
   rw [hall, hacc]
   generalize bt s 0 = b0 at *
   generalize bt s 1 = b1 at *
   generalize bt s 2 = b2 at *
   have d1 : b0 / 32 ≠ 6 := by omega
   have d2 : b0 / 16 = 14 := by omega
   have d3 : b0 / 8 ≠ 30 := by omega
   simp only [d1, d2, d3, contB, badR, beq_iff_eq, Bool.and_eq_true, Bool.or_eq_true, decide_eq_true_eq, true_and, false_and, if_false, BEq.rfl]
   by_cases hz : (1 < s.size ∧ b1 / 64 = 2) ∧ 2 < s.size ∧ b2 / 64 = 2
   · rw [if_pos hz, if_neg (by omega), if_pos (by omega)]
     by_cases hb : (((b0 : Int) - 224) * 64 + b1 - 128) * 64 + b2 - 128 < (2048 : Nat) ∨ 1114111 < (((b0 : Int) - 224) * 64 + b1 - 128) * 64 + b2 - 128 ∨ 55296 ≤ (((b0 : Int) - 224) * 64 + b1 - 128) * 64 + b2 - 128 ∧ (((b0 : Int) - 224) * 64 + b1 - 128) * 64 + b2 - 128 ≤ 57343
     · rw [if_pos hb, if_neg (by omega)]; exact .inl ⟨rfl, rfl⟩
     · rw [if_neg hb, if_pos (by omega)]
       right; constructor
       · exact Prod.ext (by show _ = ((b0 % 16 * 4096 + b1 % 64 * 64 + b2 % 64 : Nat) : Int); omega) rfl
       · show (3 : Nat) ≠ 0; decide
   · rw [if_neg hz]; left
     refine ⟨?_, rfl⟩
     by_cases hs : s.size < 3
     · rw [if_pos hs]
     · rw [if_neg hs, if_neg (by omega)]
 · rw [runeR_k h0 e (by decide)]
   have hall : (List.range (4 - 1)).all (fun i => contB (bt s (i + 1))) = (contB (bt s 1) && (contB (bt s 2) && contB (bt s 3))) := by simp [List.range_succ, Bool.and_assoc]
   have hacc : accR s ((bt s 0 : Int) - (240 : Nat)) (4 - 1) = ((((bt s 0 : Int) - 240) * 64 + bt s 1 - 128) * 64 + bt s 2 - 128) * 64 + bt s 3 - 128 := rfl
   rw [hall, hacc]
   generalize bt s 0 = b0 at *
   generalize bt s 1 = b1 at *
   generalize bt s 2 = b2 at *
   generalize bt s 3 = b3 at *
   have d1 : b0 / 32 ≠ 6 := by omega
   have d2 : b0 / 16 ≠ 14 := by omega
   have d3 : b0 / 8 = 30 := by omega
   obtain ⟨A, hA⟩ : ∃ A : Int, A = ((((b0 : Int) - 240) * 64 + b1 - 128) * 64 + b2 - 128) * 64 + b3 - 128 := ⟨_, rfl⟩
   rw [← hA]
   simp only [d1, d2, d3, contB, badR, beq_iff_eq, Bool.and_eq_true, Bool.or_eq_true, decide_eq_true_eq, true_and, false_and, if_false, BEq.rfl]
   by_cases hz : ((1 < s.size ∧ b1 / 64 = 2) ∧ 2 < s.size ∧ b2 / 64 = 2) ∧ 3 < s.size ∧ b3 / 64 = 2
   · rw [if_pos hz, if_neg (by omega), if_pos (by omega)]
     have hv : ((b0 % 8 * 262144 + b1 % 64 * 4096 + b2 % 64 * 64 + b3 % 64 : Nat) : Int) = A := by omega
     by_cases hb : A < (65536 : Nat) ∨ 1114111 < A ∨ 55296 ≤ A ∧ A ≤ 57343
     · rw [if_pos hb, if_neg (by omega)]; exact .inl ⟨rfl, rfl⟩
     · rw [if_neg hb, if_pos (by omega)]
       right; constructor
       · exact Prod.ext (by show _ = ((b0 % 8 * 262144 + b1 % 64 * 4096 + b2 % 64 * 64 + b3 % 64 : Nat) : Int); omega) rfl
       · show (4 : Nat) ≠ 0; decide
   · rw [if_neg hz]; left
     refine ⟨?_, rfl⟩
     by_cases hs : s.size < 4
     · rw [if_pos hs]
     · rw [if_neg hs, if_neg (by omega)]
 · left
   have hr : runeR s = (0, 0) := by unfold runeR; rw [if_neg h0, if_pos (.inl (by rw [e]))]
   refine ⟨hr, ?_⟩
   generalize bt s 0 = b0 at *
   generalize bt s 1 = b1 at *
   generalize bt s 2 = b2 at *
   generalize bt s 3 = b3 at *
   simp only [beq_iff_eq, Bool.and_eq_true, Bool.or_eq_true, decide_eq_true_eq]
   repeat' split
   all_goals first | rfl | omega
open Go.Awp
theorem btF3 {s : ByteArray} {k : Nat} (h : k < s.data.size) : s.data[k].toNat = bt s k := by rw [bt, List.getD_eq_getElem?_getD, Array.getElem?_toList, Array.getElem?_eq_getElem h]; rfl
theorem runeR_le {s : ByteArray} (h : 0 < s.size) : (runeR s).2 ≤ s.size := by
 unfold runeR
 split
 · show (1 : Int) ≤ _; omega
 · split
   · show (0 : Int) ≤ _; omega
   · rename_i q
     split
     · split
       · show (0 : Int) ≤ _; omega
       · show (((clsN (bt s 0)).1 : Nat) : Int) ≤ _; omega
     · show (0 : Int) ≤ _; omega
theorem get_extract {t : ByteArray} {w p : Nat} (hw : w ≤ t.size) : (t.extract w t.size).get! p = t.get! (w + p) := by
 show (t.extract w t.size).data[p]! = t.data[w + p]!
 rw [ByteArray.data_extract, getElem!_def, getElem!_def, Array.getElem?_extract]
 have : t.data.size = t.size := rfl
 by_cases h : p < min t.size t.data.size - w
 · rw [if_pos h]
 · rw [if_neg h, Array.getElem?_eq_none (by omega)]
theorem decode_shift {t : ByteArray} {w p : Nat} (hw : w ≤ t.size) : Utf8.decode t (w + p) = Utf8.decode (t.extract w t.size) p := by
 unfold Utf8.decode
 have hs : (t.extract w t.size).size = t.size - w := by rw [ByteArray.size_extract]; omega
 have hc : ∀ k, decide (w + (p + k) < t.size) = decide (p + k < t.size - w) := fun k => decide_eq_decide.2 (by omega)
 simp only [get_extract hw, hs, Nat.add_assoc, hc]
theorem runesOk_shift {t : ByteArray} {w : Nat} (hw : w ≤ t.size) : ∀ (n p : Nat), t.size - (w + p) ≤ n → runesOk t (w + p) = runesOk (t.extract w t.size) p
 | n, p, hn => by
  have hs : (t.extract w t.size).size = t.size - w := by rw [ByteArray.size_extract]; omega
  conv => lhs; rw [runesOk]
  conv => rhs; rw [runesOk]
  rw [hs, decode_shift hw]
  by_cases h : w + p < t.size
  · rw [if_pos h, if_pos (by omega)]
    have hd := decode_pos (t.extract w t.size) p
    cases n with
    | zero => omega
    | succ n =>
     rw [Nat.add_assoc, runesOk_shift hw n (p + (Utf8.decode (t.extract w t.size) p).2) (by omega)]
  · rw [if_neg h, if_neg (by omega)]
theorem runesOk_step {t : ByteArray} (h : 0 < t.size) : ((runeR t).2 = 0 ∨ mayS (runeR t).1 = false → runesOk t 0 = false) ∧
    ((runeR t).2 ≠ 0 → mayS (runeR t).1 = true → ∃ w : Nat, (runeR t).2 = w ∧ 0 < w ∧ w ≤ t.size ∧ runesOk t 0 = runesOk (t.extract w t.size) 0) := by
 have hu : runesOk t 0 = (mayS (Utf8.decode t 0).1 && runesOk t (0 + (Utf8.decode t 0).2)) := by
  conv => lhs; rw [runesOk]
  rw [if_pos h]
 have hle := runeR_le h
 rcases runeR_decode h with ⟨h1, h2⟩ | ⟨h1, h2, h3⟩
 · refine ⟨fun _ => ?_, fun q => absurd h1 q⟩
   rw [hu, h2]; rfl
 · refine ⟨fun q => ?_, fun _ q => ?_⟩
   · rw [hu, ← h2, q.resolve_left h1]; rfl
   · refine ⟨(Utf8.decode t 0).2, h3, by omega, by omega, ?_⟩
     have := runesOk_shift (t := t) (w := (Utf8.decode t 0).2) (by omega) t.size 0 (by omega)
     rw [hu, ← h2, q, Nat.zero_add]; exact this
theorem nameS_long {s : ByteArray} (h : s.size < 1 ∨ 16 < s.size) : nameS s = false := by
 unfold nameS
 rcases h with h | h
 · have : s.toList = [] := by
    apply List.eq_nil_of_length_eq_zero
    have e := toList_size s
    omega
   simp [this]
 · simp [show ¬ (s.size : Int) ≤ 16 by omega]
theorem nameS_short {s : ByteArray} (h : 1 ≤ s.size ∧ s.size ≤ 16) : nameS s = runesOk s 0 := by
 unfold nameS
 have e := toList_size s
 have : s.toList ≠ [] := fun q => by rw [q] at e; simp at e; omega
 simp [this, show (s.size : Int) ≤ 16 by omega]
end Go.Proofs
