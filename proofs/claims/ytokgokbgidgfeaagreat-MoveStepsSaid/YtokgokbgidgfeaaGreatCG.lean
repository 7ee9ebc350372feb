/- Contracts of the program's functions and plain facts, for arguments as each lemma says. -/
import Derived.Test.YtokgokbgidgfeaaGreatCF
import Derived.Test.YtokgokbgidgfeaaGreatCA
import Derived.Test.YtokgokbgidgfeaaGreatAwpD
import Derived.Test.YtokgokbgidgfeaaGreatCE
set_option linter.all false
set_option maxHeartbeats 4000000
set_option maxRecDepth 4000
namespace Go.Proofs
open Go.Awp
theorem ct105 (g : Gl) (fr to : Int) (l : List (Int × Int)) (hl : l.length ≤ 2^40) : CtAt Tryz.prog g 105 [vI fr, vI to, rO l] (.tup [oO (gapsR fr to l).1, vI (gapsR fr to l).2]) := by
 refine xA Tryz.func105 fun B S => ?_
 refine xU ?_
 refine xO2 ?_
 refine xG [0,1,2] ?_
 refine xO3 ?_
 refine xC (ct95 g fr to l hl) ?_
 refine xH [0,1,2,8] ?_
 refine W_seq (xU ?_)
 refine xO2 ?_
 refine xQ [0,1,2,18] ?_ ?_
 · intro h18
   have hr : gapsR fr to l = ([], 1) := by unfold gapsR; rw [if_neg (by simpa using h18)]
   refine xU ?_
   refine xH2 [6,7] ?_
   refine W_ret (xR (by simp [Tryz.f105]; exact .mk) ?_)
   simp [Tryz.f105, hr, ownR]; try rfl
 intro h18
 have hgs : gapsS fr to l = true := by simpa using h18
 have hr : gapsR fr to l = (gapsF to fr l, 0) := by unfold gapsR; rw [if_pos hgs]
 obtain ⟨G, hG⟩ : ∃ G, G = gapsF to fr l := ⟨_, rfl⟩
 rw [← hG] at hr
 have hgs2 := hgs
 simp only [gapsS, Bool.and_eq_true, gapsHead, decide_eq_true_eq] at hgs2
 obtain ⟨hh, hok⟩ := hgs2
 refine W_skip ?_
 refine xT ?_
 refine xO ?_
 refine xG [0,1,2,9] ?_
 refine xH2 [1,2,9,10] ?_
 refine W_seq (xU ?_)
 refine xH [1,2,9,10,11] ?_
 refine W_block ?_
 refine W_rounds (fun m σ o => ∃ (i : Nat) (a : Int) (out : List (Int × Int)), m = l.length + 1 - i ∧ out.length ≤ i ∧ (0 ≤ a ∧ a ≤ 2048) ∧ ((i < l.length ∧ out ++ gapsF to a (l.drop i) = G ∧ gapsOk to a (l.drop i) = true) ∨ (i = l.length ∧ out ++ gapE a to = G) ∨ (i = l.length + 1 ∧ out = G)) ∧ σ = slots [(1, .d (vI to)), (2, .d (rO l)), (9, .hdr 0 0 out.length), (10, .d (vI a)), (11, .d (vI i))] ∧ o = [.row 2 (out.map eObj)]) (l.length + 1)
  (Weak.trans (Weak.nilRow 9 2 rfl) (Weak.kills [1,2,9,10,11] rfl) (fun _ _ _ h1 h2 => by rw [← h1.len]; exact h2)) ⟨0, fr, [], by simp, by simp, ⟨by omega, by omega⟩, by
    cases hz : l with
    | nil => right; left; rw [hz] at hG; exact ⟨rfl, hG.symm⟩
    | cons p t => left; rw [hz] at hG hok; exact ⟨by simp, hG.symm, hok⟩, by simp, by simp⟩ ?_
 rintro m σ o ⟨i, a, out, rfl, hol, ha, ⟨hi2, hgo, hok2⟩ | ⟨rfl, hgo⟩ | ⟨rfl, hgo⟩, rfl, rfl⟩ _
 · skip
   rw [gapsF_drop hi2] at hgo
   rw [gapsOk_drop hi2] at hok2
   simp only [Bool.and_eq_true, Bool.not_eq_true'] at hok2
   have hgb := gapBad_f hok2.1
   obtain ⟨p, hp⟩ : ∃ p, p = nth l i := ⟨_, rfl⟩
   rw [← hp] at hgo hok2 hgb
   have w1 : IntKind.i64.wrap (p.1 + p.2) = p.1 + p.2 := wrap64 (by omega) (by omega)
   have w2 : IntKind.i64.wrap (p.1 - a) = p.1 - a := wrap64 (by omega) (by omega)
   have e1 : (out.length + 1) * 16 ≤ 140737488355328 := by omega
   have e2 : out.length ≤ 140737488355327 := by omega
   refine W_seq (xU ?_)
   refine xO4 ?_
   refine xQ [1,2,9,10,11,23] ?_ ?_
   · intro h23
     refine W_skip fun _ => ?_
     refine W_seq (W_block ?_)
     refine xU ?_
     refine xH2 [1,2,9,10,11,12] ?_
     refine W_seq (xU ?_)
     refine xO4 ?_
     refine xQ [1,2,9,10,11,12,30] ?_ ?_
     · intro h30
       refine xY ?_
       refine xO2 ?_
       refine xO ?_ (h := by simp [eObj, hi2]; exact .mk)
       refine xO ?_
       refine xO ?_ (h := by simp [-List.getElem?_map, map_get hi2, eObj, ← hp]; exact .mk)
       refine xH [1,2,9,10,11,12] ?_
       refine W_seq (xU ?_)
       refine xO3 ?_
       refine xQ [1,2,9,10,11,12,38] ?_ ?_
       · intro h38
         have hge : gapE a p.1 = [(a, p.1 - a)] := by unfold gapE; rw [if_pos (by simpa using h38)]
         refine xY ?_
         refine xO4 ?_
         refine xO ?_ (h := by simp [w2]; exact .mk)
         refine xOs ?_
         refine xO ?_
         refine xO ?_ (h := by simp [rows, e1, e2]; exact .mk)
         refine xO ?_
         refine xG [1,2,9,10,11] ?_
         refine xO4 ?_
         refine xQ [1,2,9,10,11,50] ?_ ?_
         · intro h50
           refine W_regD (by kernel_rfl) [] 4 [0,1,2,3,4,5,6,7,8,9,10,11] (by decide +kernel) ?_
           refine xO2 ?_
           refine xO ?_ (h := by simp [eObj, hi2]; exact .mk)
           refine xO ?_
           refine xO ?_ (h := by simp [-List.getElem?_map, map_get hi2, eObj, ← hp]; exact .mk)
           refine xO2 ?_
           refine xO ?_ (h := by simp [eObj, hi2]; exact .mk)
           refine xO ?_
           refine xO ?_ (h := by simp [-List.getElem?_map, map_get hi2, eObj, ← hp]; exact .mk)
           refine xO ?_ (h := by simp [w1]; exact .mk)
           refine xH [1,2,9,10,11] ?_
           refine xY ?_
           refine xO3 ?_
           refine xE [1,2,9,10,11] ?_
           refine rounds_kill [1,2,9,10,11] ?_
           rw [hge] at hgo
           have hrest : ∀ out2, out2 ++ gapsF to (p.1 + p.2) (l.drop (i + 1)) = G → ((i + 1 < l.length ∧ out2 ++ gapsF to (p.1 + p.2) (l.drop (i + 1)) = G ∧ gapsOk to (p.1 + p.2) (l.drop (i + 1)) = true) ∨ (i + 1 = l.length ∧ out2 ++ gapE (p.1 + p.2) to = G) ∨ (i + 1 = l.length + 1 ∧ out2 = G)) := fun out2 h => by
            by_cases hl2 : i + 1 < l.length
            · exact .inl ⟨hl2, h, hok2.2⟩
            refine .inr (.inl ⟨by omega, ?_⟩)
            rw [List.drop_eq_nil_of_le (by omega)] at h; exact h
           first
           | (refine rounds_kills [1,2,9,10,11] rfl ?_
              refine rounds_next (m' := l.length + 1 - (i+1)) (by omega) ⟨i+1, p.1 + p.2, out, rfl, by omega, ⟨by omega, by omega⟩, hrest _ (by simpa using hgo), ?_, rfl⟩
              rw [wrap64 (by omega) (by omega)]; rfl)
           | (refine rounds_kills [1,2,9,10,11] rfl ?_
              refine rounds_swap 0 2 1 (by decide) (by simp) (by decide) rfl rfl ?_
              refine rounds_drop 1 [1,2,9,10,11] (by decide) (by rfl) (by rfl) ?_
              refine rounds_next (m' := l.length + 1 - (i+1)) (by omega) ⟨i+1, p.1 + p.2, out ++ [(a, p.1 - a)], rfl, by simp; omega, ⟨by omega, by omega⟩, hrest _ (by simpa using hgo), ?_, ?_⟩
              · rw [wrap64 (by omega) (by omega)]; simp; try rfl
              simp [eObj]; try rfl)
         intro h50
         simp at h50; omega
       intro h38
       have hge : gapE a p.1 = [] := by unfold gapE; rw [if_neg (by simpa using h38)]
       refine W_skip ?_
       refine xT ?_
       refine xO4 ?_
       refine xQ [1,2,9,10,11,50] ?_ ?_
       · intro h50
         refine W_regD (by kernel_rfl) [] 4 [0,1,2,3,4,5,6,7,8,9,10,11] (by decide +kernel) ?_
         refine xO2 ?_
         refine xO ?_ (h := by simp [eObj, hi2]; exact .mk)
         refine xO ?_
         refine xO ?_ (h := by simp [-List.getElem?_map, map_get hi2, eObj, ← hp]; exact .mk)
         refine xO2 ?_
         refine xO ?_ (h := by simp [eObj, hi2]; exact .mk)
         refine xO ?_
         refine xO ?_ (h := by simp [-List.getElem?_map, map_get hi2, eObj, ← hp]; exact .mk)
         refine xO ?_ (h := by simp [w1]; exact .mk)
         refine xH [1,2,9,10,11] ?_
         refine xY ?_
         refine xO3 ?_
         refine xE [1,2,9,10,11] ?_
         refine rounds_kill [1,2,9,10,11] ?_
         rw [hge] at hgo
         have hrest : ∀ out2, out2 ++ gapsF to (p.1 + p.2) (l.drop (i + 1)) = G → ((i + 1 < l.length ∧ out2 ++ gapsF to (p.1 + p.2) (l.drop (i + 1)) = G ∧ gapsOk to (p.1 + p.2) (l.drop (i + 1)) = true) ∨ (i + 1 = l.length ∧ out2 ++ gapE (p.1 + p.2) to = G) ∨ (i + 1 = l.length + 1 ∧ out2 = G)) := fun out2 h => by
          by_cases hl2 : i + 1 < l.length
          · exact .inl ⟨hl2, h, hok2.2⟩
          refine .inr (.inl ⟨by omega, ?_⟩)
          rw [List.drop_eq_nil_of_le (by omega)] at h; exact h
         first
         | (refine rounds_kills [1,2,9,10,11] rfl ?_
            refine rounds_next (m' := l.length + 1 - (i+1)) (by omega) ⟨i+1, p.1 + p.2, out, rfl, by omega, ⟨by omega, by omega⟩, hrest _ (by simpa using hgo), ?_, rfl⟩
            rw [wrap64 (by omega) (by omega)]; rfl)
         | (refine rounds_kills [1,2,9,10,11] rfl ?_
            refine rounds_swap 0 2 1 (by decide) (by simp) (by decide) rfl rfl ?_
            refine rounds_drop 1 [1,2,9,10,11] (by decide) (by rfl) (by rfl) ?_
            refine rounds_next (m' := l.length + 1 - (i+1)) (by omega) ⟨i+1, p.1 + p.2, out ++ [(a, p.1 - a)], rfl, by simp; omega, ⟨by omega, by omega⟩, hrest _ (by simpa using hgo), ?_, ?_⟩
            · rw [wrap64 (by omega) (by omega)]; simp; try rfl
            simp [eObj]; try rfl)
       intro h50
       simp at h50; omega
     intro h30
     simp at h30; omega
   intro h23
   simp at h23; omega
 · skip
   have w2 : IntKind.i64.wrap (to - a) = to - a := wrap64 (by omega) (by omega)
   have e1 : (out.length + 1) * 16 ≤ 140737488355328 := by omega
   have e2 : out.length ≤ 140737488355327 := by omega
   refine W_seq (xU ?_)
   refine xO4 ?_
   refine xQ [1,2,9,10,11,23] ?_ ?_
   · intro h23
     refine W_skip fun _ => ?_
     refine W_seq (W_block ?_)
     refine xU ?_
     refine xH2 [1,2,9,10,11,12] ?_
     refine W_seq (xU ?_)
     refine xO4 ?_
     refine xQ [1,2,9,10,11,12,30] ?_ ?_
     · intro h30
       simp at h30
     intro h30
     refine W_skip fun _ => ?_
     refine W_seq (xU ?_)
     refine xO3 ?_
     refine xQ [1,2,9,10,11,12,38] ?_ ?_
     · intro h38
       have hge : gapE a to = [(a, to - a)] := by unfold gapE; rw [if_pos (by simpa using h38)]
       refine xY ?_
       refine xO4 ?_
       refine xO ?_ (h := by simp [w2]; exact .mk)
       refine xOs ?_
       refine xO ?_
       refine xO ?_ (h := by simp [rows, e1, e2]; exact .mk)
       refine xO ?_
       refine xG [1,2,9,10,11] ?_
       refine xO4 ?_
       refine xQ [1,2,9,10,11,50] ?_ ?_
       · intro h50
         simp at h50
       intro h50
       refine W_skip fun _ => ?_
       refine xY ?_
       refine xO3 ?_
       refine xE [1,2,9,10,11] ?_
       refine rounds_kill [1,2,9,10,11] ?_
       rw [hge] at hgo
       first
       | (refine rounds_kills [1,2,9,10,11] rfl ?_
          refine rounds_next (m' := 0) (by omega) ⟨l.length+1, a, out, by omega, by omega, ha, .inr (.inr ⟨rfl, by simpa using hgo⟩), ?_, rfl⟩
          rw [wrap64 (by omega) (by omega)]; rfl)
       | (refine rounds_kills [1,2,9,10,11] rfl ?_
          refine rounds_swap 0 2 1 (by decide) (by simp) (by decide) rfl rfl ?_
          refine rounds_drop 1 [1,2,9,10,11] (by decide) (by rfl) (by rfl) ?_
          refine rounds_next (m' := 0) (by omega) ⟨l.length+1, a, out ++ [(a, to - a)], by omega, by simp; omega, ha, .inr (.inr ⟨rfl, hgo⟩), ?_, ?_⟩
          · rw [wrap64 (by omega) (by omega)]; simp; try rfl
          simp [eObj]; try rfl)
     intro h38
     have hge : gapE a to = [] := by unfold gapE; rw [if_neg (by simpa using h38)]
     refine W_skip ?_
     refine xT ?_
     refine xO4 ?_
     refine xQ [1,2,9,10,11,50] ?_ ?_
     · intro h50
       simp at h50
     intro h50
     refine W_skip fun _ => ?_
     refine xY ?_
     refine xO3 ?_
     refine xE [1,2,9,10,11] ?_
     refine rounds_kill [1,2,9,10,11] ?_
     rw [hge] at hgo
     first
     | (refine rounds_kills [1,2,9,10,11] rfl ?_
        refine rounds_next (m' := 0) (by omega) ⟨l.length+1, a, out, by omega, by omega, ha, .inr (.inr ⟨rfl, by simpa using hgo⟩), ?_, rfl⟩
        rw [wrap64 (by omega) (by omega)]; rfl)
     | (refine rounds_kills [1,2,9,10,11] rfl ?_
        refine rounds_swap 0 2 1 (by decide) (by simp) (by decide) rfl rfl ?_
        refine rounds_drop 1 [1,2,9,10,11] (by decide) (by rfl) (by rfl) ?_
        refine rounds_next (m' := 0) (by omega) ⟨l.length+1, a, out ++ [(a, to - a)], by omega, by simp; omega, ha, .inr (.inr ⟨rfl, hgo⟩), ?_, ?_⟩
        · rw [wrap64 (by omega) (by omega)]; simp; try rfl
        simp [eObj]; try rfl)
   intro h23
   simp at h23
 skip
 skip
 refine W_seq (xU ?_)
 refine xO4 ?_
 refine xQ [1,2,9,10,11,23] ?_ ?_
 · intro h23
   simp at h23; omega
 intro h23
 subst hgo
 refine W_exit (xT ?_)
 refine xH3 [6,7] ?_
 refine W_ret (xR (by simp [Tryz.f105]; exact .mk) ?_)
 simp [Tryz.f105, hr, ownR]; try rfl

theorem ct106 (g : Gl) (l : List (Int × Int)) (hl : l.length ≤ 2^40) (size : Int) : CtAt Tryz.prog g 106 [rO l, vI size] (.tup [eObj ((bestS l size).getD (0, 0)), .v (.bool (bestS l size).isSome)]) := by
 refine xA Tryz.func106 fun B S => ?_
 refine xU ?_
 refine xO2 ?_
 refine xG [0,1,4] ?_
 refine xH [0,1,4,6] ?_
 refine W_seq (xU ?_)
 refine xH [0,1,4,6,7] ?_
 refine W_block (W_rounds (fun m σ o => ∃ (i : Nat) (k : Int), m = l.length - i ∧ i ≤ l.length ∧ ((k = -1 ∧ bestS (l.take i) size = none) ∨ ∃ q : Nat, k = q ∧ q < l.length ∧ bestS (l.take i) size = some (nth l q)) ∧ σ = slots [(0, .d (rO l)), (1, .d (vI size)), (4, .ptr 0 0 0), (6, .d (vI k)), (7, .d (vI i))] ∧ o = [.var 115 [.d (vI 0), .d (vI 0)]]) l.length .refl ⟨0, -1, by simp, by simp, .inl ⟨rfl, rfl⟩, rfl, rfl⟩ ?_)
 rintro m σ o ⟨i, k, rfl, hi, ⟨rfl, hfo⟩ | ⟨q, rfl, hq, hfo⟩, rfl, rfl⟩ _
 · skip
   skip
   refine W_seq (xU ?_)
   refine xO4 ?_
   refine xQ [0,1,4,6,7,11] ?_ ?_
   · intro h11
     have hi2 : i < l.length := by simpa using h11
     have hst := bestS_step (size := size) hi2
     rw [hfo] at hst
     refine W_skip fun _ => ?_
     refine W_seq (W_block ?_)
     refine W_seq (xU ?_)
     refine xO2 ?_
     refine xO ?_ (h := by simp [eObj, hi2]; exact .mk)
     refine xO ?_
     refine xO ?_ (h := by simp [-List.getElem?_map, map_get hi2, eObj]; exact .mk)
     refine xO2 ?_
     refine xQ [0,1,4,6,7,20] ?_ ?_
     · intro h20
       have hst2 : bestS (l.take (i + 1)) size = bestS (l.take i) size := by rw [hst, hfo]; unfold bestStep; rw [if_neg]; simp at h20 ⊢; omega
       rw [hfo] at hst2
       refine W_exit ?_
       rintro -
       refine xY ?_
       refine xO3 ?_
       refine xE [0,1,4,6,7] ?_
       refine rounds_kill [0,1,4,6,7] ?_
       first
       | exact rounds_next (m' := l.length - (i+1)) (by omega) ⟨i+1, i, rfl, by omega, .inr ⟨i, rfl, hi2, hst2⟩, by rw [wrap64 (by omega) (by omega)]; rfl, rfl⟩
       | exact rounds_next (m' := l.length - (i+1)) (by omega) ⟨i+1, -1, rfl, by omega, .inl ⟨rfl, hst2⟩, by rw [wrap64 (by omega) (by omega)]; rfl, rfl⟩
       | exact rounds_next (m' := l.length - (i+1)) (by omega) ⟨i+1, q, rfl, by omega, .inr ⟨q, rfl, hq, hst2⟩, by rw [wrap64 (by omega) (by omega)]; rfl, rfl⟩
     intro h20
     have hsz : size ≤ (nth l i).2 := by simp at h20; omega
     refine W_skip fun _ => ?_
     refine W_seq ?_
     refine W_regD (by kernel_rfl) [] 4 [0,1,2,3,4,5,6,7,8,9,10,11,12,13,14,15,16,17,18,19,20,21,22,23,24,25,26,27,28,29,30,31,32,33,34,35,36,37,38,39,40] (by decide +kernel) ?_
     refine xO3 ?_
     iterate 11 (refine run_not (av := .d (.v (.bool false))) rfl (by simp; exact .mk) rfl ?_)
     refine xP ?_
     refine xB ?_
     iterate 24 (refine run_not (av := .d (.v (.bool false))) rfl (by simp; exact .mk) rfl ?_)
     refine xP ?_
     refine xQ [0,1,4,6,7,61] ?_ ?_
     · intro h61
       have hst2 : bestS (l.take (i + 1)) size = some (nth l i) := by rw [hst]; unfold bestStep; rw [if_pos]; simp [betterS] at h61 ⊢ <;> omega
       refine xY ?_
       refine xH2 [0,1,4,6,7] ?_
       refine xY ?_
       refine xO3 ?_
       refine xE [0,1,4,6,7] ?_
       refine rounds_kill [0,1,4,6,7] ?_
       first
       | exact rounds_next (m' := l.length - (i+1)) (by omega) ⟨i+1, i, rfl, by omega, .inr ⟨i, rfl, hi2, hst2⟩, by rw [wrap64 (by omega) (by omega)]; rfl, rfl⟩
       | exact rounds_next (m' := l.length - (i+1)) (by omega) ⟨i+1, -1, rfl, by omega, .inl ⟨rfl, hst2⟩, by rw [wrap64 (by omega) (by omega)]; rfl, rfl⟩
       | exact rounds_next (m' := l.length - (i+1)) (by omega) ⟨i+1, q, rfl, by omega, .inr ⟨q, rfl, hq, hst2⟩, by rw [wrap64 (by omega) (by omega)]; rfl, rfl⟩
     intro h61
     have hst2 : bestS (l.take (i + 1)) size = bestS (l.take i) size := by rw [hst, hfo]; unfold bestStep; rw [if_neg]; simp [betterS] at h61 ⊢ <;> omega
     rw [hfo] at hst2
     refine W_skip fun _ => ?_
     refine xY ?_
     refine xO3 ?_
     refine xE [0,1,4,6,7] ?_
     refine rounds_kill [0,1,4,6,7] ?_
     first
     | exact rounds_next (m' := l.length - (i+1)) (by omega) ⟨i+1, i, rfl, by omega, .inr ⟨i, rfl, hi2, hst2⟩, by rw [wrap64 (by omega) (by omega)]; rfl, rfl⟩
     | exact rounds_next (m' := l.length - (i+1)) (by omega) ⟨i+1, -1, rfl, by omega, .inl ⟨rfl, hst2⟩, by rw [wrap64 (by omega) (by omega)]; rfl, rfl⟩
     | exact rounds_next (m' := l.length - (i+1)) (by omega) ⟨i+1, q, rfl, by omega, .inr ⟨q, rfl, hq, hst2⟩, by rw [wrap64 (by omega) (by omega)]; rfl, rfl⟩
   intro h11
   obtain rfl : i = l.length := by simp at h11; omega
   rw [List.take_length] at hfo
   refine W_exit ?_
   rintro -
   refine W_seq (xU ?_)
   refine xO2 ?_
   refine xQ [0,4,6,64] ?_ ?_
   · intro h64
     refine xU ?_
     iterate 2 (refine xOs ?_)
     refine xH [4,5] ?_
     refine W_ret (xR (by simp [Tryz.f106]; exact .mk) ?_)
     simp [Tryz.f106, hfo, eObj]
   intro h64
   simp at h64
 skip
 skip
 refine W_seq (xU ?_)
 refine xO4 ?_
 refine xQ [0,1,4,6,7,11] ?_ ?_
 · intro h11
   have hi2 : i < l.length := by simpa using h11
   have hst := bestS_step (size := size) hi2
   rw [hfo] at hst
   refine W_skip fun _ => ?_
   refine W_seq (W_block ?_)
   refine W_seq (xU ?_)
   refine xO2 ?_
   refine xO ?_ (h := by simp [eObj, hi2]; exact .mk)
   refine xO ?_
   refine xO ?_ (h := by simp [-List.getElem?_map, map_get hi2, eObj]; exact .mk)
   refine xO2 ?_
   refine xQ [0,1,4,6,7,20] ?_ ?_
   · intro h20
     have hst2 : bestS (l.take (i + 1)) size = bestS (l.take i) size := by rw [hst, hfo]; unfold bestStep; rw [if_neg]; simp at h20 ⊢; omega
     rw [hfo] at hst2
     refine W_exit ?_
     rintro -
     refine xY ?_
     refine xO3 ?_
     refine xE [0,1,4,6,7] ?_
     refine rounds_kill [0,1,4,6,7] ?_
     first
     | exact rounds_next (m' := l.length - (i+1)) (by omega) ⟨i+1, i, rfl, by omega, .inr ⟨i, rfl, hi2, hst2⟩, by rw [wrap64 (by omega) (by omega)]; rfl, rfl⟩
     | exact rounds_next (m' := l.length - (i+1)) (by omega) ⟨i+1, -1, rfl, by omega, .inl ⟨rfl, hst2⟩, by rw [wrap64 (by omega) (by omega)]; rfl, rfl⟩
     | exact rounds_next (m' := l.length - (i+1)) (by omega) ⟨i+1, q, rfl, by omega, .inr ⟨q, rfl, hq, hst2⟩, by rw [wrap64 (by omega) (by omega)]; rfl, rfl⟩
   intro h20
   have hsz : size ≤ (nth l i).2 := by simp at h20; omega
   refine W_skip fun _ => ?_
   refine W_seq ?_
   refine W_regD (by kernel_rfl) [] 4 [0,1,2,3,4,5,6,7,8,9,10,11,12,13,14,15,16,17,18,19,20,21,22,23,24,25,26,27,28,29,30,31,32,33,34,35,36,37,38,39,40] (by decide +kernel) ?_
   refine xO3 ?_
   iterate 2 refine xI ?_
   refine xI ?_ (h := fun hb => by simp [eObj, hi2]; exact .mk)
   refine xI ?_
   refine xI ?_ (h := fun hb => by simp [-List.getElem?_map, map_get hi2, eObj]; exact .mk)
   iterate 2 refine xI ?_
   refine xI ?_ (h := fun hb => by simp [eObj, hq]; exact .mk)
   refine xI ?_
   refine xI ?_ (h := fun hb => by simp [-List.getElem?_map, map_get hq, eObj]; exact .mk)
   refine xI ?_
   refine xP ?_
   refine xB ?_
   iterate 2 refine xI ?_
   refine xI ?_ (h := fun hb => by simp [eObj, hi2]; exact .mk)
   refine xI ?_
   refine xI ?_ (h := fun hb => by simp [-List.getElem?_map, map_get hi2, eObj]; exact .mk)
   iterate 2 refine xI ?_
   refine xI ?_ (h := fun hb => by simp [eObj, hq]; exact .mk)
   refine xI ?_
   refine xI ?_ (h := fun hb => by simp [-List.getElem?_map, map_get hq, eObj]; exact .mk)
   iterate 4 refine xI ?_
   refine xI ?_ (h := fun hb => by simp [eObj, hi2]; exact .mk)
   refine xI ?_
   refine xI ?_ (h := fun hb => by simp [-List.getElem?_map, map_get hi2, eObj]; exact .mk)
   iterate 2 refine xI ?_
   refine xI ?_ (h := fun hb => by simp [eObj, hq]; exact .mk)
   refine xI ?_
   refine xI ?_ (h := fun hb => by simp [-List.getElem?_map, map_get hq, eObj]; exact .mk)
   refine xI ?_
   iterate 2 refine xP ?_
   refine xQ [0,1,4,6,7,61] ?_ ?_
   · intro h61
     have hst2 : bestS (l.take (i + 1)) size = some (nth l i) := by rw [hst]; unfold bestStep; rw [if_pos]; simp [betterS] at h61 ⊢ <;> omega
     refine xY ?_
     refine xH2 [0,1,4,6,7] ?_
     refine xY ?_
     refine xO3 ?_
     refine xE [0,1,4,6,7] ?_
     refine rounds_kill [0,1,4,6,7] ?_
     first
     | exact rounds_next (m' := l.length - (i+1)) (by omega) ⟨i+1, i, rfl, by omega, .inr ⟨i, rfl, hi2, hst2⟩, by rw [wrap64 (by omega) (by omega)]; rfl, rfl⟩
     | exact rounds_next (m' := l.length - (i+1)) (by omega) ⟨i+1, -1, rfl, by omega, .inl ⟨rfl, hst2⟩, by rw [wrap64 (by omega) (by omega)]; rfl, rfl⟩
     | exact rounds_next (m' := l.length - (i+1)) (by omega) ⟨i+1, q, rfl, by omega, .inr ⟨q, rfl, hq, hst2⟩, by rw [wrap64 (by omega) (by omega)]; rfl, rfl⟩
   intro h61
   have hst2 : bestS (l.take (i + 1)) size = bestS (l.take i) size := by rw [hst, hfo]; unfold bestStep; rw [if_neg]; simp [betterS] at h61 ⊢ <;> omega
   rw [hfo] at hst2
   refine W_skip fun _ => ?_
   refine xY ?_
   refine xO3 ?_
   refine xE [0,1,4,6,7] ?_
   refine rounds_kill [0,1,4,6,7] ?_
   first
   | exact rounds_next (m' := l.length - (i+1)) (by omega) ⟨i+1, i, rfl, by omega, .inr ⟨i, rfl, hi2, hst2⟩, by rw [wrap64 (by omega) (by omega)]; rfl, rfl⟩
   | exact rounds_next (m' := l.length - (i+1)) (by omega) ⟨i+1, -1, rfl, by omega, .inl ⟨rfl, hst2⟩, by rw [wrap64 (by omega) (by omega)]; rfl, rfl⟩
   | exact rounds_next (m' := l.length - (i+1)) (by omega) ⟨i+1, q, rfl, by omega, .inr ⟨q, rfl, hq, hst2⟩, by rw [wrap64 (by omega) (by omega)]; rfl, rfl⟩
 intro h11
 obtain rfl : i = l.length := by simp at h11; omega
 rw [List.take_length] at hfo
 refine W_exit ?_
 rintro -
 refine W_seq (xU ?_)
 refine xO2 ?_
 refine xQ [0,4,6,64] ?_ ?_
 · intro h64
   simp at h64; omega
 intro h64
 refine W_skip ?_
 refine xT ?_
 refine xO2 ?_
 refine xO ?_ (h := by simp [eObj, hq]; exact .mk)
 refine xO ?_ (h := by simp [-List.getElem?_map, map_get hq, eObj]; exact .mk)
 refine xOs ?_
 refine xH [4,5] ?_
 refine W_ret (xR (by simp [Tryz.f106]; exact .mk) ?_)
 simp [Tryz.f106, hfo, eObj]

open Go.Awp
/- The first rune of a text, as the document says. -/
def bt (s : ByteArray) (k : Nat) : Nat := (s.data.toList.getD k 0).toNat
theorem bt_lt (s : ByteArray) (k : Nat) : bt s k < 256 := UInt8.toNat_lt _
theorem get_bt (s : ByteArray) (k : Nat) : (s.get! k).toNat = bt s k := by
 unfold bt
 show (s.data[k]!).toNat = _
 congr 1
 rw [List.getD_eq_getElem?_getD, Array.getElem?_toList, getElem!_def]
 cases s.data[k]? <;> rfl
def clsN (b : Nat) : Nat × Nat × Nat := if 194 ≤ b ∧ b < 224 then (2, 128, 192) else if 224 ≤ b ∧ b < 240 then (3, 2048, 224) else if 240 ≤ b ∧ b < 245 then (4, 65536, 240) else (0, 0, 0)
def contB (b : Nat) : Bool := decide (128 ≤ b ∧ b < 192)
def accR (s : ByteArray) (a : Int) : Nat → Int
 | 0 => a
 | i + 1 => accR s a i * 64 + bt s (i + 1) - 128
def badR (a : Int) (least : Nat) : Bool := decide (a < least ∨ 1114111 < a ∨ (55296 ≤ a ∧ a ≤ 57343))
def runeR (s : ByteArray) : Int × Int :=
 if bt s 0 < 128 then (bt s 0, 1)
 else if (clsN (bt s 0)).1 = 0 ∨ s.size < (clsN (bt s 0)).1 then (0, 0)
 else if (List.range ((clsN (bt s 0)).1 - 1)).all (fun i => contB (bt s (i + 1))) = true then
  (if badR (accR s ((bt s 0 : Int) - (clsN (bt s 0)).2.2) ((clsN (bt s 0)).1 - 1)) (clsN (bt s 0)).2.1 = true then (0, 0) else (accR s ((bt s 0 : Int) - (clsN (bt s 0)).2.2) ((clsN (bt s 0)).1 - 1), (clsN (bt s 0)).1))
 else (0, 0)
theorem clsN_cases (b : Nat) : (194 ≤ b ∧ b < 224 ∧ clsN b = (2, 128, 192)) ∨ (224 ≤ b ∧ b < 240 ∧ clsN b = (3, 2048, 224)) ∨ (240 ≤ b ∧ b < 245 ∧ clsN b = (4, 65536, 240)) ∨ ((b < 194 ∨ 245 ≤ b) ∧ clsN b = (0, 0, 0)) := by
 unfold clsN
 by_cases h1 : 194 ≤ b ∧ b < 224
 · rw [if_pos h1]; exact .inl ⟨h1.1, h1.2, rfl⟩
 · rw [if_neg h1]
   by_cases h2 : 224 ≤ b ∧ b < 240
   · rw [if_pos h2]; exact .inr (.inl ⟨h2.1, h2.2, rfl⟩)
   · rw [if_neg h2]
     by_cases h3 : 240 ≤ b ∧ b < 245
     · rw [if_pos h3]; exact .inr (.inr (.inl ⟨h3.1, h3.2, rfl⟩))
     · rw [if_neg h3]; exact .inr (.inr (.inr ⟨by omega, rfl⟩))
theorem runeR_k {s : ByteArray} {k le ba : Nat} (h0 : ¬ bt s 0 < 128) (e : clsN (bt s 0) = (k, le, ba)) (hk : k ≠ 0) : runeR s = if s.size < k then (0, 0) else if (List.range (k - 1)).all (fun i => contB (bt s (i + 1))) = true then (if badR (accR s ((bt s 0 : Int) - ba) (k - 1)) le = true then (0, 0) else (accR s ((bt s 0 : Int) - ba) (k - 1), (k : Int))) else (0, 0) := by
 unfold runeR
 rw [if_neg h0, e]
 simp only
 by_cases h : s.size < k
 · rw [if_pos (.inr h), if_pos h]
 · rw [if_neg (by omega), if_neg h]
theorem pair_alt {r : Int × Int} {d : Nat × Nat} (h : (r = (0, 0) ∧ d.1 = 65533) ∨ (r = ((d.1 : Int), (d.2 : Int)) ∧ d.2 ≠ 0)) : (r.2 = 0 ∧ d.1 = 65533) ∨ (r.2 ≠ 0 ∧ r.1 = d.1 ∧ r.2 = d.2) := by
 rcases h with ⟨rfl, h⟩ | ⟨rfl, h⟩
 · exact .inl ⟨rfl, h⟩
 · exact .inr ⟨by simpa using h, rfl, rfl⟩
theorem runeR_decode {s : ByteArray} (h : 0 < s.size) : ((runeR s).2 = 0 ∧ (Utf8.decode s 0).1 = 65533) ∨ ((runeR s).2 ≠ 0 ∧ (runeR s).1 = (Utf8.decode s 0).1 ∧ (runeR s).2 = (Utf8.decode s 0).2) := by
 apply pair_alt
 have l0 := bt_lt s 0
 have l1 := bt_lt s 1
 have l2 := bt_lt s 2
 have l3 := bt_lt s 3
 unfold Utf8.decode
 simp only [Nat.zero_add, get_bt, Utf8.valid, Utf8.runeError]
 by_cases h0 : bt s 0 < 128
 · rw [if_pos h0]; right; unfold runeR; rw [if_pos h0]; exact ⟨rfl, by simp⟩
 have hn0 := h0
 rw [if_neg h0]
 rcases clsN_cases (bt s 0) with ⟨a1, a2, e⟩ | ⟨a1, a2, e⟩ | ⟨a1, a2, e⟩ | ⟨a1, e⟩
 · rw [runeR_k h0 e (by decide)]
   have hall : (List.range (2 - 1)).all (fun i => contB (bt s (i + 1))) = contB (bt s 1) := by simp [List.range_succ]
   have hacc : accR s ((bt s 0 : Int) - (192 : Nat)) (2 - 1) = ((bt s 0 : Int) - 192) * 64 + bt s 1 - 128 := rfl
   rw [hall, hacc]
   generalize bt s 0 = b0 at *
   generalize bt s 1 = b1 at *
   have d1 : b0 / 32 = 6 := by omega
   have d2 : b0 / 16 ≠ 14 := by omega
   have d3 : b0 / 8 ≠ 30 := by omega
   simp only [d1, d2, d3, contB, badR, beq_iff_eq, Bool.and_eq_true, decide_eq_true_eq, true_and, false_and, if_false, BEq.rfl]
   by_cases hz : 1 < s.size ∧ b1 / 64 = 2
   · rw [if_pos hz, if_neg (by omega), if_pos (by omega), if_neg (by omega), if_pos (by omega)]
     right; constructor
     · exact Prod.ext (by show _ = ((b0 % 32 * 64 + b1 % 64 : Nat) : Int); omega) rfl
     · show (2 : Nat) ≠ 0; decide
   · rw [if_neg hz]; left
     refine ⟨?_, rfl⟩
     by_cases hs : s.size < 2
     · rw [if_pos hs]
     · rw [if_neg hs, if_neg (by omega)]
 · rw [runeR_k h0 e (by decide)]
   have hall : (List.range (3 - 1)).all (fun i => contB (bt s (i + 1))) = (contB (bt s 1) && contB (bt s 2)) := by simp [List.range_succ]
   have hacc : accR s ((bt s 0 : Int) - (224 : Nat)) (3 - 1) = (((bt s 0 : Int) - 224) * 64 + bt s 1 - 128) * 64 + bt s 2 - 128 := rfl
   rw [hall, hacc]
   generalize bt s 0 = b0 at *
   generalize bt s 1 = b1 at *
   generalize bt s 2 = b2 at *
   have d1 : b0 / 32 ≠ 6 := by omega
   have d2 : b0 / 16 = 14 := by omega
   have d3 : b0 / 8 ≠ 30 := by omega
   simp only [d1, d2, d3, contB, badR, beq_iff_eq, Bool.and_eq_true, Bool.or_eq_true, decide_eq_true_eq, true_and, false_and, if_false, BEq.rfl]
   by_cases hz : (1 < s.size ∧ b1 / 64 = 2) ∧ 2 < s.size ∧ b2 / 64 = 2
   · rw [if_pos hz, if_neg (by omega), if_pos (by omega)]
     by_cases hb : (((b0 : Int) - 224) * 64 + b1 - 128) * 64 + b2 - 128 < (2048 : Nat) ∨ 1114111 < (((b0 : Int) - 224) * 64 + b1 - 128) * 64 + b2 - 128 ∨ 55296 ≤ (((b0 : Int) - 224) * 64 + b1 - 128) * 64 + b2 - 128 ∧ (((b0 : Int) - 224) * 64 + b1 - 128) * 64 + b2 - 128 ≤ 57343
     · rw [if_pos hb, if_neg (by omega)]; exact .inl ⟨rfl, rfl⟩
     · rw [if_neg hb, if_pos (by omega)]
       right; constructor
       · exact Prod.ext (by show _ = ((b0 % 16 * 4096 + b1 % 64 * 64 + b2 % 64 : Nat) : Int); omega) rfl
       · show (3 : Nat) ≠ 0; decide
   · rw [if_neg hz]; left
     refine ⟨?_, rfl⟩
     by_cases hs : s.size < 3
     · rw [if_pos hs]
     · rw [if_neg hs, if_neg (by omega)]
 · rw [runeR_k h0 e (by decide)]
   have hall : (List.range (4 - 1)).all (fun i => contB (bt s (i + 1))) = (contB (bt s 1) && (contB (bt s 2) && contB (bt s 3))) := by simp [List.range_succ, Bool.and_assoc]
   have hacc : accR s ((bt s 0 : Int) - (240 : Nat)) (4 - 1) = ((((bt s 0 : Int) - 240) * 64 + bt s 1 - 128) * 64 + bt s 2 - 128) * 64 + bt s 3 - 128 := rfl
   rw [hall, hacc]
   generalize bt s 0 = b0 at *
   generalize bt s 1 = b1 at *
   generalize bt s 2 = b2 at *
   generalize bt s 3 = b3 at *
   have d1 : b0 / 32 ≠ 6 := by omega
   have d2 : b0 / 16 ≠ 14 := by omega
   have d3 : b0 / 8 = 30 := by omega
   obtain ⟨A, hA⟩ : ∃ A : Int, A = ((((b0 : Int) - 240) * 64 + b1 - 128) * 64 + b2 - 128) * 64 + b3 - 128 := ⟨_, rfl⟩
   rw [← hA]
   simp only [d1, d2, d3, contB, badR, beq_iff_eq, Bool.and_eq_true, Bool.or_eq_true, decide_eq_true_eq, true_and, false_and, if_false, BEq.rfl]
   by_cases hz : ((1 < s.size ∧ b1 / 64 = 2) ∧ 2 < s.size ∧ b2 / 64 = 2) ∧ 3 < s.size ∧ b3 / 64 = 2
   · rw [if_pos hz, if_neg (by omega), if_pos (by omega)]
     have hv : ((b0 % 8 * 262144 + b1 % 64 * 4096 + b2 % 64 * 64 + b3 % 64 : Nat) : Int) = A := by omega
     by_cases hb : A < (65536 : Nat) ∨ 1114111 < A ∨ 55296 ≤ A ∧ A ≤ 57343
     · rw [if_pos hb, if_neg (by omega)]; exact .inl ⟨rfl, rfl⟩
     · rw [if_neg hb, if_pos (by omega)]
       right; constructor
       · exact Prod.ext (by show _ = ((b0 % 8 * 262144 + b1 % 64 * 4096 + b2 % 64 * 64 + b3 % 64 : Nat) : Int); omega) rfl
       · show (4 : Nat) ≠ 0; decide
   · rw [if_neg hz]; left
     refine ⟨?_, rfl⟩
     by_cases hs : s.size < 4
     · rw [if_pos hs]
     · rw [if_neg hs, if_neg (by omega)]
 · left
   have hr : runeR s = (0, 0) := by unfold runeR; rw [if_neg h0, if_pos (.inl (by rw [e]))]
   refine ⟨hr, ?_⟩
   generalize bt s 0 = b0 at *
   generalize bt s 1 = b1 at *
   generalize bt s 2 = b2 at *
   generalize bt s 3 = b3 at *
   simp only [beq_iff_eq, Bool.and_eq_true, Bool.or_eq_true, decide_eq_true_eq]
   repeat' split
   all_goals first | rfl | omega
open Go.Awp
theorem btF3 {s : ByteArray} {k : Nat} (h : k < s.data.size) : s.data[k].toNat = bt s k := by rw [bt, List.getD_eq_getElem?_getD, Array.getElem?_toList, Array.getElem?_eq_getElem h]; rfl
theorem runeR_le {s : ByteArray} (h : 0 < s.size) : (runeR s).2 ≤ s.size := by
 unfold runeR
 split
 · show (1 : Int) ≤ _; omega
 · split
   · show (0 : Int) ≤ _; omega
   · rename_i q
     split
     · split
       · show (0 : Int) ≤ _; omega
       · show (((clsN (bt s 0)).1 : Nat) : Int) ≤ _; omega
     · show (0 : Int) ≤ _; omega
theorem get_extract {t : ByteArray} {w p : Nat} (hw : w ≤ t.size) : (t.extract w t.size).get! p = t.get! (w + p) := by
 show (t.extract w t.size).data[p]! = t.data[w + p]!
 rw [ByteArray.data_extract, getElem!_def, getElem!_def, Array.getElem?_extract]
 have : t.data.size = t.size := rfl
 by_cases h : p < min t.size t.data.size - w
 · rw [if_pos h]
 · rw [if_neg h, Array.getElem?_eq_none (by omega)]
theorem decode_shift {t : ByteArray} {w p : Nat} (hw : w ≤ t.size) : Utf8.decode t (w + p) = Utf8.decode (t.extract w t.size) p := by
 unfold Utf8.decode
 have hs : (t.extract w t.size).size = t.size - w := by rw [ByteArray.size_extract]; omega
 have hc : ∀ k, decide (w + (p + k) < t.size) = decide (p + k < t.size - w) := fun k => decide_eq_decide.2 (by omega)
 simp only [get_extract hw, hs, Nat.add_assoc, hc]
theorem runesOk_shift {t : ByteArray} {w : Nat} (hw : w ≤ t.size) : ∀ (n p : Nat), t.size - (w + p) ≤ n → runesOk t (w + p) = runesOk (t.extract w t.size) p
 | n, p, hn => by
  have hs : (t.extract w t.size).size = t.size - w := by rw [ByteArray.size_extract]; omega
  conv => lhs; rw [runesOk]
  conv => rhs; rw [runesOk]
  rw [hs, decode_shift hw]
  by_cases h : w + p < t.size
  · rw [if_pos h, if_pos (by omega)]
    have hd := decode_pos (t.extract w t.size) p
    cases n with
    | zero => omega
    | succ n =>
     rw [Nat.add_assoc, runesOk_shift hw n (p + (Utf8.decode (t.extract w t.size) p).2) (by omega)]
  · rw [if_neg h, if_neg (by omega)]
theorem runesOk_step {t : ByteArray} (h : 0 < t.size) : ((runeR t).2 = 0 ∨ mayS (runeR t).1 = false → runesOk t 0 = false) ∧
    ((runeR t).2 ≠ 0 → mayS (runeR t).1 = true → ∃ w : Nat, (runeR t).2 = w ∧ 0 < w ∧ w ≤ t.size ∧ runesOk t 0 = runesOk (t.extract w t.size) 0) := by
 have hu : runesOk t 0 = (mayS (Utf8.decode t 0).1 && runesOk t (0 + (Utf8.decode t 0).2)) := by
  conv => lhs; rw [runesOk]
  rw [if_pos h]
 have hle := runeR_le h
 rcases runeR_decode h with ⟨h1, h2⟩ | ⟨h1, h2, h3⟩
 · refine ⟨fun _ => ?_, fun q => absurd h1 q⟩
   rw [hu, h2]; rfl
 · refine ⟨fun q => ?_, fun _ q => ?_⟩
   · rw [hu, ← h2, q.resolve_left h1]; rfl
   · refine ⟨(Utf8.decode t 0).2, h3, by omega, by omega, ?_⟩
     have := runesOk_shift (t := t) (w := (Utf8.decode t 0).2) (by omega) t.size 0 (by omega)
     rw [hu, ← h2, q, Nat.zero_add]; exact this
theorem nameS_long {s : ByteArray} (h : s.size < 1 ∨ 16 < s.size) : nameS s = false := by
 unfold nameS
 rcases h with h | h
 · have : s.toList = [] := by
    apply List.eq_nil_of_length_eq_zero
    have e := toList_size s
    omega
   simp [this]
 · simp [show ¬ (s.size : Int) ≤ 16 by omega]
theorem nameS_short {s : ByteArray} (h : 1 ≤ s.size ∧ s.size ≤ 16) : nameS s = runesOk s 0 := by
 unfold nameS
 have e := toList_size s
 have : s.toList ≠ [] := fun q => by rw [q] at e; simp at e; omega
 simp [this, show (s.size : Int) ≤ 16 by omega]
open Go.Awp
theorem ct203 (g : Gl) (s : ByteArray) (hs : 0 < s.size) : CtAt Tryz.prog g 203 [vS s] (.tup [vI (runeR s).1, vI (runeR s).2]) := by
 refine xA Tryz.func203 fun B S => ?_
 have wb : ∀ k, IntKind.i64.wrap (bt s k : Int) = bt s k := fun k => wrap64 (by have := bt_lt s k; omega) (by have := bt_lt s k; omega)
 have hb0 := bt_lt s 0
 refine xU ?_
 refine xO2 ?_
 refine xG [0] ?_
 refine xO3 ?_
 refine xG [0,4] ?_
 refine xO ?_
 refine xO ?_ (h := by simp [indexA, hs, btF3 (k := 0) hs]; exact .mk)
 refine xO ?_ (h := by simp [convA, isIntTy, wb]; exact .mk)
 refine xH [0,4,5] ?_
 refine W_seq (xU ?_)
 refine xO2 ?_
 refine xQ [0,4,5,16] ?_ ?_
 · intro h16
   have hr : runeR s = ((bt s 0 : Int), 1) := by unfold runeR; rw [if_pos (by simp at h16; omega)]
   refine xU ?_
   refine xH3 [2,3] ?_
   refine W_ret (xR (by simp [Tryz.f203]; exact .mk) ?_)
   simp [Tryz.f203, hr]
 intro h16
 have h0 : ¬ bt s 0 < 128 := by simp at h16; omega
 obtain ⟨k, le, ba, e⟩ : ∃ k le ba, clsN (bt s 0) = (k, le, ba) := ⟨_, _, _, rfl⟩
 have hcc := clsN_cases (bt s 0)
 rw [e] at hcc
 simp only [Prod.mk.injEq] at hcc
 refine W_skip ?_
 refine xT ?_
 refine xO ?_
 refine xG [0,4,5,6] ?_
 refine xH [0,4,5,6,7] ?_
 refine W_seq (xU ?_)
 refine xO3 ?_
 iterate 2 refine xI ?_
 refine xP ?_
 refine xF [0,4,5,6,7,23] ?_
 refine W_joinW ([(0, .d (vS s)), (4, .d (vI s.size)), (5, .d (vI ((bt s 0 : Int) - ba))), (6, .d (vI k)), (7, .d (vI le))]) ([]) ?_ ?_
 · skip
   refine W_cond rfl ?_ ?_
   · intro h23
     obtain ⟨rfl, rfl, rfl⟩ : k = 2 ∧ le = 128 ∧ ba = 192 := by simp at h23; omega
     have w1 : IntKind.i64.wrap ((bt s 0 : Int) - 192) = (bt s 0 : Int) - 192 := wrap64 (by omega) (by omega)
     refine xU ?_
     refine xO ?_
     refine xG [0,4,5,6] ?_
     refine xH [0,4,5,6,7] ?_
     refine xY ?_
     refine xO ?_
     refine xO ?_ (h := by simp [w1]; exact .mk)
     refine xO ?_
     refine xE [0,4,5,6,7] ?_
     exact ⟨rfl, Weak.kills [0,4,5,6,7] (by simp)⟩
   intro h23
   refine xU ?_
   refine xO3 ?_
   iterate 2 refine xI ?_
   refine xP ?_
   refine xQ [0,4,5,6,7,31] ?_ ?_
   · intro h31
     obtain ⟨rfl, rfl, rfl⟩ : k = 3 ∧ le = 2048 ∧ ba = 224 := by simp at h31; omega
     have w1 : IntKind.i64.wrap ((bt s 0 : Int) - 224) = (bt s 0 : Int) - 224 := wrap64 (by omega) (by omega)
     refine xU ?_
     refine xO ?_
     refine xG [0,4,5,6] ?_
     refine xH [0,4,5,6,7] ?_
     refine xY ?_
     refine xO ?_
     refine xO ?_ (h := by simp [w1]; exact .mk)
     refine xO ?_
     refine xE [0,4,5,6,7] ?_
     exact ⟨rfl, Weak.kills [0,4,5,6,7] (by simp)⟩
   intro h31
   refine xU ?_
   refine xO3 ?_
   iterate 2 refine xI ?_
   refine xP ?_
   refine xQ [0,4,5,6,7,39] ?_ ?_
   · intro h39
     obtain ⟨rfl, rfl, rfl⟩ : k = 4 ∧ le = 65536 ∧ ba = 240 := by simp at h39; omega
     have w1 : IntKind.i64.wrap ((bt s 0 : Int) - 240) = (bt s 0 : Int) - 240 := wrap64 (by omega) (by omega)
     refine xU ?_
     refine xO ?_
     refine xG [0,4,5,6] ?_
     refine xH [0,4,5,6,7] ?_
     refine xY ?_
     refine xO ?_
     refine xO ?_ (h := by simp [w1]; exact .mk)
     refine xO ?_
     refine xE [0,4,5,6,7] ?_
     exact ⟨rfl, Weak.kills [0,4,5,6,7] (by simp)⟩
   intro h39
   obtain ⟨rfl, rfl, rfl⟩ : k = 0 ∧ le = 0 ∧ ba = 0 := by simp at *; omega
   refine W_skip ?_
   exact ⟨rfl, Weak.kills [0,4,5,6,7] (by simp)⟩
 rintro -
 refine W_seq (xU ?_)
 refine xO3 ?_
 iterate 3 refine xI ?_
 refine xP ?_
 refine xQ [0,5,6,7,48] ?_ ?_
 · intro h48
   have hr : runeR s = (0, 0) := by unfold runeR; rw [if_neg h0, if_pos (by rw [e]; simp at h48; omega)]
   refine xU ?_
   refine xH2 [2,3] ?_
   refine W_ret (xR (by simp [Tryz.f203]; exact .mk) ?_)
   simp [Tryz.f203, hr]
 intro h48
 have hk : k ≠ 0 ∧ k ≤ s.size := by simp at h48; omega
 have hr0 := runeR_k h0 e hk.1
 rw [if_neg (by omega)] at hr0
 have hk4 : 2 ≤ k ∧ k ≤ 4 ∧ (ba : Int) ≤ bt s 0 ∧ (bt s 0 : Int) - ba < 32 := by omega
 obtain ⟨a, ha⟩ : ∃ a : Int, a = (bt s 0 : Int) - ba := ⟨_, rfl⟩
 rw [← ha] at hr0 hk4 ⊢
 refine W_skip fun _ => ?_
 refine W_seq (xU ?_)
 refine xH [0,5,6,7,8] ?_
 refine W_block (W_rounds (fun m σ o => ∃ j : Nat, m = k - (j + 1) ∧ j + 1 ≤ k ∧ (∀ t, t < j → contB (bt s (t + 1)) = true) ∧ (0 ≤ accR s a j ∧ accR s a j < 32 * 64 ^ j) ∧ σ = slots [(0, .d (vS s)), (5, .d (vI (accR s a j))), (6, .d (vI k)), (7, .d (vI le)), (8, .d (vI ((j + 1 : Nat) : Int)))] ∧ o = []) (k - 1) .refl ⟨0, by simp, by omega, by simp, ⟨by show 0 ≤ a; omega, by show a < 32; omega⟩, rfl, rfl⟩ ?_)
 rintro m σ o ⟨j, rfl, hj, hinv, hab, rfl, rfl⟩ _
 have hpw : (64 : Int) ^ j ≤ 64 ^ 3 := by exact_mod_cast Nat.pow_le_pow_right (by decide : 0 < 64) (by omega : j ≤ 3)
 refine W_seq (xU ?_)
 refine xO3 ?_
 refine xQ [0,5,6,7,8,51] ?_ ?_
 · intro h51
   have hj2 : j + 1 < k := by simp at h51; omega
   have hj3 : j + 1 < s.size := by omega
   have hj4 : (j : Int) + 1 < s.size := by omega
   have hj5 : (0 : Int) ≤ (j : Int) + 1 := by omega
   have hj6 : ((j : Int) + 1).toNat = j + 1 := by omega
   have hbj := bt_lt s (j + 1)
   refine W_skip fun _ => ?_
   refine W_seq (W_block ?_)
   refine xU ?_
   refine xO2 ?_
   refine xO ?_ (h := by simp [indexA, hj3, hj4, hj5, hj6, btF3 hj3]; exact .mk)
   refine xO ?_ (h := by simp [convA, isIntTy, wb]; exact .mk)
   refine xH [0,5,6,7,8,9] ?_
   refine W_seq (xU ?_)
   refine xO3 ?_
   iterate 2 refine xI ?_
   refine xP ?_
   refine xQ [0,5,6,7,8,9,63] ?_ ?_
   · intro h63
     have hr : runeR s = (0, 0) := by
      rw [hr0, if_neg]
      rw [all_bad (i := j) (by omega) (by simp [contB]; simp at h63; omega)]; simp
     refine xU ?_
     refine xH2 [2,3] ?_
     refine W_ret (xR (by simp [Tryz.f203]; exact .mk) ?_)
     simp [Tryz.f203, hr]
   intro h63
   have hct : contB (bt s (j + 1)) = true := by simp [contB]; simp at h63; omega
   have hcb : 128 ≤ bt s (j + 1) ∧ bt s (j + 1) < 192 := by simpa [contB] using hct
   have w1 : IntKind.i64.wrap (accR s a j * 64) = accR s a j * 64 := wrap64 (by omega) (by omega)
   have w2 : IntKind.i64.wrap (accR s a j * 64 + bt s (j + 1)) = accR s a j * 64 + bt s (j + 1) := wrap64 (by omega) (by omega)
   have w3 : IntKind.i64.wrap (accR s a j * 64 + bt s (j + 1) - 128) = accR s a j * 64 + bt s (j + 1) - 128 := wrap64 (by omega) (by omega)
   refine W_skip fun _ => ?_
   refine xY ?_
   refine xO ?_
   refine xO ?_ (h := by simp [w1]; exact .mk)
   refine xO ?_
   refine xO ?_ (h := by simp [w2]; exact .mk)
   refine xO ?_ (h := by simp [w3]; exact .mk)
   refine xH [0,5,6,7,8] ?_
   refine xY ?_
   refine xO3 ?_
   refine xE [0,5,6,7,8] ?_
   refine rounds_kill [0,5,6,7,8] ?_
   refine rounds_next (m' := k - (j+1+1)) (by omega) ⟨j+1, rfl, by omega, ?_, ?_, ?_, rfl⟩
   · intro t ht
     rcases Nat.lt_succ_iff_lt_or_eq.1 ht with ht | rfl
     · exact hinv t ht
     exact hct
   · have : accR s a (j + 1) = accR s a j * 64 + bt s (j + 1) - 128 := rfl
     have hp : (64 : Int) ^ (j + 1) = 64 ^ j * 64 := Int.pow_succ 64 j
     omega
   rw [wrap64 (by omega) (by omega)]; rfl
 intro h51
 obtain rfl : k = j + 1 := by simp at h51; omega
 have hall : (List.range (j + 1 - 1)).all (fun i => contB (bt s (i + 1))) = true := all_good (fun t ht => hinv t (by omega))
 rw [if_pos hall, Nat.add_sub_cancel] at hr0
 refine W_exit ?_
 rintro -
 refine W_seq (xU ?_)
 refine xO4 ?_
 iterate 2 refine xI ?_
 refine xP ?_
 refine xB ?_
 iterate 5 refine xI ?_
 iterate 2 refine xP ?_
 refine xQ [5,6,83] ?_ ?_
 · intro h83
   have hr : runeR s = (0, 0) := by rw [hr0, if_pos]; simp [badR]; simp at h83; grind
   refine xU ?_
   refine xH2 [2,3] ?_
   refine W_ret (xR (by simp [Tryz.f203]; exact .mk) ?_)
   simp [Tryz.f203, hr]
 intro h83
 have hr : runeR s = (accR s a j, ((j + 1 : Nat) : Int)) := by rw [hr0, if_neg]; simp [badR]; simp at h83; grind
 refine W_skip ?_
 refine xT ?_
 refine xO4 ?_
 refine xF [2,3] ?_
 refine W_ret (xR (by simp [Tryz.f203]; exact .mk) ?_)
 simp [Tryz.f203, hr]

theorem ct146 (g : Gl) (s : ByteArray) : CtAt Tryz.prog g 146 [vS s] (.v (.bool (nameS s))) := by
 refine xA Tryz.func146 fun B S => ?_
 refine xU ?_
 refine xH [0] ?_
 refine W_seq (xU ?_)
 refine xO4 ?_
 iterate 3 refine xI ?_
 refine xP ?_
 refine xQ [0,12] ?_ ?_
 · intro h12
   have hr : nameS s = false := nameS_long (by simp at h12; omega)
   refine xU ?_
   refine xH [2] ?_
   refine W_ret (xR (by simp [Tryz.f146]; exact .mk) ?_)
   simp [Tryz.f146, hr]
 intro h12
 have hsz : 1 ≤ s.size ∧ s.size ≤ 16 := by simp at h12; omega
 have hr0 := nameS_short hsz
 refine W_skip fun _ => ?_
 refine W_seq (W_block ?_)
 refine W_rounds (fun m σ o => ∃ t : ByteArray, m = t.size ∧ runesOk s 0 = runesOk t 0 ∧ σ = slots [(0, .d (vS t))] ∧ o = []) s.size (Weak.kills [0] rfl) ⟨s, rfl, rfl, rfl, rfl⟩ ?_
 rintro m σ o ⟨t, rfl, hro, rfl, rfl⟩ _
 refine W_seq (xU ?_)
 refine xO3 ?_
 refine xQ [0,15] ?_ ?_
 · intro h15
   have ht0 : 0 < t.size := by simp at h15; omega
   obtain ⟨s1, s2⟩ := runesOk_step ht0
   refine W_skip fun _ => ?_
   refine W_block (xU ?_)
   refine xO ?_
   refine xC (ct203 g t ht0) ?_
   refine xO5 ?_
   refine xF [0,3,4] ?_
   refine W_seq (xU ?_)
   refine xO3 ?_
   iterate 2 refine xI ?_
   refine xP ?_
   refine xB ?_
   iterate 5 refine xI ?_
   iterate 2 refine xP ?_
   refine xB ?_
   iterate 2 refine xI ?_
   refine xP ?_
   refine xQ [0,4,38] ?_ ?_
   · intro h38
     have hr : nameS s = false := by rw [hr0, hro]; apply s1; simp [mayS]; simp at h38; grind
     refine xU ?_
     refine xH [2] ?_
     refine W_ret (xR (by simp [Tryz.f146]; exact .mk) ?_)
     simp [Tryz.f146, hr]
   intro h38
   obtain ⟨w, w1, w2, w3, w4⟩ := s2 (by simp at h38; grind) (by simp [mayS]; simp at h38; grind)
   have w5 : (w : Int) ≤ t.size := by omega
   refine W_skip fun _ => ?_
   refine xY ?_
   refine xO2 ?_
   refine xO ?_ (h := by simp [sliceA, optA, w1, w3, w5]; exact .mk)
   refine xO ?_
   refine xE [0] ?_
   refine rounds_kill [0] ?_
   refine rounds_next (m' := (t.extract w t.size).size) (by have q1 : 0 < w := w2; have q2 : w ≤ t.size := w3; rw [ByteArray.size_extract, Nat.min_self]; omega) ⟨t.extract w t.size, rfl, by rw [hro, w4], rfl, rfl⟩
 intro h15
 have hz : ¬ 0 < t.size := by have q := of_decide_eq_false h15; omega
 have hr : nameS s = true := by
  rw [hr0, hro]
  conv => lhs; rw [runesOk]
  exact if_neg hz
 refine W_exit (xT ?_)
 refine xH [2] ?_
 refine W_ret (xR (by simp [Tryz.f146]; exact .mk) ?_)
 simp [Tryz.f146, hr]

theorem ct147 (g : Gl) (a b : Int) : CtAt Tryz.prog g 147 [.agg [vI a, vI b]] (.v (.bool (handleS a b))) := by
 refine xA Tryz.func147 fun B S => ?_
 simp only [List.map, argD_agg]
 refine xU ?_
 refine xO2 ?_
 refine xG [1] ?_
 refine xO4 ?_
 iterate 3 refine xI ?_
 refine xP ?_
 refine xB ?_
 iterate 3 refine xI ?_
 refine xP ?_
 refine xB ?_
 iterate 3 refine xI ?_
 refine xP ?_
 refine xB ?_
 refine xF [2] ?_
 refine W_ret (xR (by simp [Tryz.f147]; exact .mk) ?_)
 first | (simp [Tryz.f147, handleS, Bool.and_assoc]; done) | (simp [Tryz.f147, handleS, Bool.and_assoc]; grind)

theorem ct148 (g : Gl) (l : List Root) (nm : ByteArray) (hl : l.length ≤ 2^40) : CtAt Tryz.prog g 148 [rR l, vS nm] (vI (firstS l nm)) := by
 refine xA Tryz.func148 fun B S => ?_
 refine xU ?_
 refine xH [0,1] ?_
 refine W_seq (xU ?_)
 refine xH [0,1,5] ?_
 refine W_block (W_rounds (fun m σ o => ∃ i : Nat, m = l.length - i ∧ i ≤ l.length ∧ (∀ j, j < i → ((nth l j).name.toList == nm.toList) = false) ∧ σ = slots [(0, .d (rR l)), (1, .d (vS nm)), (5, .d (vI i))] ∧ o = []) l.length .refl ⟨0, by simp, by simp, by simp, rfl, rfl⟩ ?_)
 rintro m σ o ⟨i, rfl, hi, hinv, rfl, rfl⟩ _
 refine W_seq (xU ?_)
 refine xO4 ?_
 refine xQ [0,1,5,9] ?_ ?_
 · intro h9
   have hi2 : i < l.length := by simpa using h9
   refine W_skip fun _ => ?_
   refine W_seq (W_block ?_)
   refine xU ?_
   refine xO2 ?_
   refine xO ?_ (h := by simp [eRoot, hi2]; exact .mk)
   refine xO ?_
   refine xO ?_ (h := by simp [-List.getElem?_map, map_get hi2, eRoot]; exact .mk)
   refine xO2 ?_
   refine xQ [0,1,5,18] ?_ ?_
   · intro h18
     have hr := firstS_at hi2 hinv h18
     refine xU ?_
     refine xH2 [4] ?_
     refine W_ret (xR (by simp [Tryz.f148]; exact .mk) ?_)
     simp [Tryz.f148, hr]
   intro h18
   refine W_skip fun _ => ?_
   refine xY ?_
   refine xO3 ?_
   refine xE [0,1,5] ?_
   refine rounds_kill [0,1,5] ?_
   refine rounds_next (m' := l.length - (i+1)) (by omega) ⟨i+1, rfl, by omega, ?_, ?_, rfl⟩
   · intro j hj
     rcases Nat.lt_succ_iff_lt_or_eq.1 hj with hj | rfl
     · exact hinv j hj
     exact h18
   rw [wrap64 (by omega) (by omega)]; rfl
 intro h9
 have hr := firstS_none (l := l) (nm := nm) (fun j hj => hinv j (by simp at h9; omega))
 refine W_exit (xT ?_)
 refine xH [4] ?_
 refine W_ret (xR (by simp [Tryz.f148]; exact .mk) ?_)
 simp [Tryz.f148, hr]

theorem ct94 (g : Gl) (l : List Root) (hl : l.length ≤ 2^40) : CtAt Tryz.prog g 94 [rR l] (.v (.bool (rootsS l))) := by
 refine xA Tryz.func94 fun B S => ?_
 refine xU ?_
 refine xO ?_
 refine xG [0] ?_
 refine xOs ?_
 refine xO ?_
 refine xOs ?_
 refine xF [0,3] ?_
 refine W_seq (xU ?_)
 refine xH [0,3,4] ?_
 refine W_block (W_rounds (fun m σ o => ∃ i : Nat, m = l.length - i ∧ i ≤ l.length ∧ (∀ j, j < i → rootOk l j = true) ∧ σ = slots [(0, .d (rR l)), (3, .ptr 0 0 0), (4, .d (vI i))] ∧ o = [.var 50 [.d (vI 0), .d (vI 0)]]) l.length .refl ⟨0, by simp, by simp, by simp, rfl, rfl⟩ ?_)
 rintro m σ o ⟨i, rfl, hi, hinv, rfl, rfl⟩ _
 refine W_seq (xU ?_)
 refine xO4 ?_
 refine xQ [0,3,4,11] ?_ ?_
 · intro h11
   have hi2 : i < l.length := by simpa using h11
   refine W_skip fun _ => ?_
   refine W_seq (W_block ?_)
   refine W_seq (xU ?_)
   refine xO2 ?_
   refine xO ?_ (h := by simp [eRoot, hi2]; exact .mk)
   refine xO ?_
   refine xO ?_ (h := by simp [-List.getElem?_map, map_get hi2, eRoot]; exact .mk)
   refine xO ?_
   refine xQ [0,3,4,19] ?_ ?_
   · intro h19
     have hz0 : (nth l i).name.toList = [] := by simpa using h19
     have hz : ((nth l i).name.toList == (⟨#[]⟩ : ByteArray).toList) = true := by rw [hz0, toList_eq]; rfl
     refine W_seq (W_seq ?_)
     refine W_regD (by kernel_rfl) [] 4 [0,1,2,3,4,5,6] (by decide +kernel) ?_
     refine xO2 ?_
     refine xO ?_ (h := by simp [eRoot, hi2]; exact .mk)
     refine xO ?_
     refine xO ?_ (h := by simp [-List.getElem?_map, map_get hi2, eRoot]; exact .mk)
     refine xO ?_ (h := by simp [eRoot]; exact .mk)
     refine xO ?_
     refine xQ [0,3,4,26] ?_ ?_
     · intro h26
       have hr : rootsS l = false := roots_bad hi2 (by
         have hn : nameS (nth l i).name = false := by unfold nameS; rw [hz0]; simp
         unfold rootOk isZero; rw [hn, hz]; simp at h26; simp; grind)
       refine xU ?_
       refine xH [2] ?_
       refine W_ret (xR (by simp [Tryz.f94]; exact .mk) ?_)
       first | (simp [Tryz.f94, hr]; done) | (simp [Tryz.f94, hr, newOk]; grind)
     intro h26
     have hok : rootOk l i = true := by unfold rootOk isZero; rw [hz]; simp at h26; simp; grind
     refine W_skip fun _ => ?_
     refine W_exit ?_
     rintro -
     refine xY ?_
     refine xO3 ?_
     refine xE [0,3,4] ?_
     refine rounds_kill [0,3,4] ?_
     refine rounds_next (m' := l.length - (i+1)) (by omega) ⟨i+1, rfl, by omega, ?_, ?_, rfl⟩
     · intro j hj
       rcases Nat.lt_succ_iff_lt_or_eq.1 hj with hj | rfl
       · exact hinv j hj
       exact hok
     rw [wrap64 (by omega) (by omega)]; rfl
   intro h19
   have hz : ((nth l i).name.toList == (⟨#[]⟩ : ByteArray).toList) = false := by
    have hz0 : (nth l i).name.toList ≠ [] := by simpa using h19
    rw [toList_eq ⟨#[]⟩]; simpa using hz0
   refine W_skip ?_
   refine xT ?_
   refine xO2 ?_
   refine xO ?_ (h := by simp [eRoot, hi2]; exact .mk)
   refine xO ?_
   refine xO ?_ (h := by simp [-List.getElem?_map, map_get hi2, eRoot]; exact .mk)
   refine xC (ct146 g (nth l i).name) ?_
   refine xO ?_
   refine xG [0,3,4,5] ?_
   refine xO2 ?_
   refine xO ?_ (h := by simp [eRoot, hi2]; exact .mk)
   refine xO ?_
   refine xO ?_ (h := by simp [-List.getElem?_map, map_get hi2, eRoot]; exact .mk)
   refine xC (ct147 g (nth l i).ix (nth l i).gen) ?_
   refine xH [0,3,4,5,6] ?_
   refine W_seq ?_
   refine W_regD (by kernel_rfl) [] 4 [0,1,2,3,4,5,6,7,8,9,10,11,12,13,14,15,16,17] (by decide +kernel) ?_
   refine xO3 ?_
   iterate 2 refine xI ?_
   refine xP ?_
   refine xB ?_
   iterate 2 refine xI ?_
   refine xI ?_ (h := fun hb => by simp [optA, hi2, Nat.le_of_lt hi2]; exact .mk)
   iterate 2 refine xI ?_
   refine xI ?_ (h := fun hb => by simp [eRoot, hi2]; exact .mk)
   refine xI ?_
   refine xI ?_ (h := fun hb => by simp [-List.getElem?_map, map_get hi2, eRoot]; exact .mk)
   refine run_call rfl (by simp; exact .mk) rfl rfl (by simp) (by simp; exact .mk) (by simp; exact .mk) (fun hb => ct148 g (l.take i) (nth l i).name (by simp; omega)) (by simp) (by simp; exact .mk) (by simp) ?_
   refine xI ?_
   refine xP ?_
   refine xQ [0,3,4,56] ?_ ?_
   · intro h56
     have hr : rootsS l = false := roots_bad hi2 (by unfold rootOk isZero; rw [hz]; simp at h56; simp; grind)
     refine xU ?_
     refine xH [2] ?_
     refine W_ret (xR (by simp [Tryz.f94]; exact .mk) ?_)
     first | (simp [Tryz.f94, hr]; done) | (simp [Tryz.f94, hr, newOk]; grind)
   intro h56
   have hok : rootOk l i = true := by unfold rootOk isZero; rw [hz]; simp at h56; simp; grind
   refine W_skip fun _ => ?_
   refine xY ?_
   refine xO3 ?_
   refine xE [0,3,4] ?_
   refine rounds_kill [0,3,4] ?_
   refine rounds_next (m' := l.length - (i+1)) (by omega) ⟨i+1, rfl, by omega, ?_, ?_, rfl⟩
   · intro j hj
     rcases Nat.lt_succ_iff_lt_or_eq.1 hj with hj | rfl
     · exact hinv j hj
     exact hok
   rw [wrap64 (by omega) (by omega)]; rfl
 intro h11
 have hr : rootsS l = newOk l.length := roots_good (fun j hj => hinv j (by simp at h11; omega))
 refine W_exit (xT ?_)
 refine xO4 ?_
 iterate 3 refine xI ?_
 refine xP ?_
 refine xB ?_
 iterate 4 refine xI ?_
 refine xP ?_
 refine xB ?_
 refine xF [2] ?_
 refine W_ret (xR (by simp [Tryz.f94]; exact .mk) ?_)
 first | (simp [Tryz.f94, hr]; done) | (simp [Tryz.f94, hr, newOk]; grind)

open Go.Awp
theorem kindsR_is {pages : Int} {l : List (Int × Int)} : (kindsR pages l).2 = (laidS pages l).isSome := by
 unfold kindsR; cases laidS pages l <;> rfl
theorem needS_err {n : Int} : (needS n).2 = 0 ↔ sizedN n = true := by
 rw [sizedN_iff]; unfold needS; split
 · simp; omega
 · simp; omega
theorem insI_t {l : List Slot} {i : Nat} (h : isOne (nth l i) = true) : insI l (i + 1) = insR (insI l i) (blkAt l i) := by
 conv => lhs; unfold insI
 rw [if_pos h]
theorem insI_f {l : List Slot} {i : Nat} (h : isOne (nth l i) = false) : insI l (i + 1) = insI l i := by
 conv => lhs; unfold insI
 rw [if_neg (by simp [h])]
def ordF (mode : Int) : List Bool := if mode = 1 then [false] else if mode = 2 then [true] else if mode = 3 then [true, false] else if mode = 4 then [false, true] else []
def firstO (s : Stt) (n : Int) : List Bool → Option (Bool × Int)
 | [] => none
 | b :: l => (tryR s n b).or (firstO s n l)
theorem twos_bound {s : Stt} (h : tableS s.slots = true) : ∀ i, i < (twosO s.slots).length → (nth (twosO s.slots) i).1 ≤ 2^62 := fun i hi => by
 have := twosO_le h i hi; omega
open Go.Awp
theorem ct29 (g : Gl) (s : Stt) (hs : s.Ok) : CtAt Tryz.prog g 29 [eStt s] (oBk (onesS s.slots)) := by
 refine xA Tryz.func29 fun B S => ?_
 simp only [eStt, List.map, argD_agg, argD_v]
 have q0 := hs.h1
 refine xU ?_
 refine xO2 ?_
 refine xG [1] ?_
 refine xH [1,3] ?_
 refine W_seq (xU ?_)
 refine xH [1,3,4] ?_
 refine W_block (W_rounds (fun m σ o => ∃ i : Nat, m = s.slots.length - i ∧ i ≤ s.slots.length ∧ σ = slots [(1, .ptr 0 0 0), (3, .hdr 1 0 (insI s.slots i).length), (4, .d (vI i))] ∧ o = [.var 28 [.d (vI s.sh.pages), .d (vI s.sh.slots), .d (vI s.sh.roots), .d (vI s.sh.room), .d (vI s.mode), .d (vI s.base), .d (rSl s.slots), .d (rR s.roots), .d (rBB s.data)], .row 3 ((insI s.slots i).map eBlk)]) s.slots.length (Weak.trans (Weak.nilRow 3 3 rfl) (Weak.kills [1,3,4] rfl) (fun _ _ _ h1 h2 => by rw [← h1.len]; exact h2)) ⟨0, by simp, by simp, by simp [insI], by simp [insI]⟩ ?_)
 rintro m σ o ⟨i, rfl, hi, rfl, rfl⟩ _
 have hle := insI_len (l := s.slots) (i := i)
 obtain ⟨L, hL⟩ : ∃ L, L = insI s.slots i := ⟨_, rfl⟩
 rw [← hL] at hle ⊢
 refine W_seq (xU ?_)
 refine xO2 ?_
 refine xO ?_ (h := by simp [eBlk]; exact .mk)
 refine xO2 ?_
 refine xQ [1,3,4,14] ?_ ?_
 · intro h14
   have hi2 : i < s.slots.length := by simpa using h14
   refine W_skip fun _ => ?_
   refine W_seq (W_block ?_)
   refine xU ?_
   refine xO ?_
   refine xO ?_ (h := by simp [eBlk]; exact .mk)
   refine xO ?_
   refine xO ?_ (h := by simp [eBlk, hi2]; exact .mk)
   refine xO ?_ (h := by simp [-List.getElem?_map, map_get hi2, eSlot]; exact .mk)
   refine xO ?_
   refine xOs ?_
   refine xF [1,3,4,5] ?_
   refine W_seq (xU ?_)
   refine xO ?_
   refine xO ?_ (h := by simp [eBlk]; exact .mk)
   refine xO2 ?_
   refine xI ?_
   refine xI ?_ (h := fun hb => by simp [eBlk]; exact .mk)
   refine xP ?_
   refine xQ [1,3,4,5,28] ?_ ?_
   · intro h28
     have h2 : isOne (nth s.slots i) = false := by simp [isOne]; simp at h28; grind
     have hI : insI s.slots (i + 1) = L := by rw [hL]; exact insI_f h2
     refine W_exit ?_
     rintro -
     refine xY ?_
     refine xO3 ?_
     refine xE [1,3,4] ?_
     refine rounds_kill [1,3,4] ?_
     first
     | (refine rounds_kills [1,3,4] rfl ?_
        refine rounds_drop 2 [1,3,4] (by decide) (by rfl) (by rfl) ?_
        refine rounds_next (m' := s.slots.length - (i+1)) (by omega) ⟨i+1, rfl, by omega, ?_, ?_⟩
        · rw [wrap64 (by omega) (by omega), hI]; rfl
        rw [hI]; rfl)
     | (refine rounds_kills [1,3,4] rfl ?_
        refine rounds_swap 1 6 1 (by decide) (by simp) (by decide) rfl rfl ?_
        refine rounds_drop 2 [1,3,4] (by decide) (by rfl) (by rfl) ?_
        refine rounds_next (m' := s.slots.length - (i+1)) (by omega) ⟨i+1, rfl, by omega, ?_, ?_⟩
        · rw [wrap64 (by omega) (by omega), hI]; simp [em, e12]
        rw [hI, List.map_append, List.map_cons, List.map_take, List.map_drop, htk, List.append_cons (List.take k (L.map eBlk)) (eBlk (blkAt s.slots i)) (List.drop k (L.map eBlk))]; simp [eBlk, blkAt]; rfl)
   intro h28
   have h2 : isOne (nth s.slots i) = true := by simp [isOne]; simp at h28; grind
   have hI : insI s.slots (i + 1) = insR L (blkAt s.slots i) := by rw [hL]; exact insI_t h2
   refine W_skip ?_
   refine xT ?_
   refine xO ?_
   refine xO ?_ (h := by simp [eBlk]; exact .mk)
   refine xC (ct87 g (nth s.slots i).len) ?_
   refine xO5 ?_
   refine xG [1,3,4,5,6] ?_
   refine xH [1,3,4,5,6,8] ?_
   refine W_seq (W_block ?_)
   refine W_rounds (fun m σ o => ∃ k : Nat, m = L.length - k ∧ k ≤ L.length ∧ (∀ j, j < k → (nth L j).at_ ≤ (nth s.slots i).at_) ∧ σ = slots [(1, .ptr 0 0 0), (3, .hdr 1 0 L.length), (4, .d (vI i)), (5, .ptr 2 0 0), (6, .d (vI (needS (nth s.slots i).len).1)), (8, .d (vI k))] ∧ o = [.var 28 [.d (vI s.sh.pages), .d (vI s.sh.slots), .d (vI s.sh.roots), .d (vI s.sh.room), .d (vI s.mode), .d (vI s.base), .d (rSl s.slots), .d (rR s.roots), .d (rBB s.data)], .row 3 (L.map eBlk), .var 92 [.d (vI (nth s.slots i).gen), .d (vT (nth s.slots i).live), .d (vT (nth s.slots i).two), .d (vI (nth s.slots i).at_), .d (vI (nth s.slots i).len)]]) L.length .refl ⟨0, by simp, by simp, by simp, rfl, rfl⟩ ?_
   rintro m σ o ⟨k, rfl, hk, hinv2, rfl, rfl⟩ _
   refine W_seq (W_seq ?_)
   refine W_regD (by kernel_rfl) [] 4 [0,1,2,3,4,5,6,7,8,9,10,11,12,13] (by decide +kernel) ?_
   refine xO5 ?_
   iterate 2 refine xI ?_
   refine run_if rfl (by simp; exact .mk) rfl (by simp <;> first | omega | grind) (fun hb => by simp at hb; simp [hb]; exact .mk) ?_
   refine xI ?_
   refine run_if rfl (by simp; exact .mk) rfl (by simp <;> first | omega | grind) (fun hb => by simp at hb; simp [-List.getElem?_map, map_get hb, eBlk]; exact .mk) ?_
   refine xI ?_
   refine xI ?_ (h := fun hb => by simp [eBlk]; exact .mk)
   refine xI ?_
   refine xP ?_
   refine xQ [1,3,4,5,6,8,48] ?_ ?_
   · intro h48
     have hk2 : k < L.length ∧ (nth L k).at_ ≤ (nth s.slots i).at_ := by simpa using h48
     refine W_skip fun _ => ?_
     refine W_block ?_
     refine xY ?_
     refine xO3 ?_
     refine xE [1,3,4,5,6,8] ?_
     refine rounds_kill [1,3,4,5,6,8] ?_
     refine rounds_next (m' := L.length - (k+1)) (by omega) ⟨k+1, rfl, by omega, ?_, ?_, rfl⟩
     · intro t ht
       rcases Nat.lt_succ_iff_lt_or_eq.1 ht with ht | rfl
       · exact hinv2 t ht
       exact hk2.2
     rw [wrap64 (by omega) (by omega)]; rfl
   intro h48
   have hk3 : k < L.length → (nth s.slots i).at_ < (nth L k).at_ := by simp at h48; omega
   rw [insR_at (b := blkAt s.slots i) hk hinv2 hk3] at hI
   have e1 : (L.length + 1) * 24 ≤ 140737488355328 := by omega
   have e2 : L.length ≤ 140737488355327 := by omega
   have e3 : k * 24 ≤ 140737488355328 := by omega
   have e4 : k ≤ 140737488355328 := by omega
   have e5 : (k + 1) * 24 ≤ 140737488355328 := by omega
   have e6 : k ≤ 140737488355327 := by omega
   have e7 : (k + 1 + (L.length - k)) * 24 ≤ 140737488355328 := by omega
   have e8 : k + 1 + (L.length - k) ≤ 140737488355328 := by omega
   have em : min k L.length = k := by omega
   have e9 : (L.length - k) * 24 ≤ 140737488355328 := by omega
   have e10 : (k : Int) ≤ L.length := by omega
   have e11 : ¬ L.length < k + (L.length - k) := by omega
   have e12 : k + 1 + (L.length - k) = k + (L.length - k + 1) := by omega
   have htk : List.take (L.length - k) (List.drop k (L.map eBlk)) = List.drop k (L.map eBlk) := List.take_of_length_le (by simp)
   have hn1 : ∀ x, x ∈ List.take k (L.map eBlk) → x.noOwn = true := fun x hx => by obtain ⟨b, _, rfl⟩ := List.mem_map.1 (List.mem_of_mem_take hx); simp
   have hn2 : ∀ x, x ∈ List.drop k (L.map eBlk) → x.noOwn = true := fun x hx => by obtain ⟨b, _, rfl⟩ := List.mem_map.1 (List.mem_of_mem_drop hx); simp
   have hn3 : ∀ x, x ∈ List.take (L.length - k) (List.drop k (L.map eBlk)) → x.noOwn = true := fun x hx => hn2 x (List.mem_of_mem_take hx)
   refine W_exit (xT ?_)
   refine xO ?_
   refine xG [1,3,4,5,6,8,9] ?_
   refine xO3 ?_
   refine xO ?_ (h := by simp [optA, hk, e10]; exact .mk)
   refine xO ?_ (h := by simp [rows, em, e3, e4, Nat.not_lt.2 hk, if_pos hn1]; exact .mk)
   refine xO ?_
   refine xG [1,3,4,5,6,8,9] ?_
   refine xO2 ?_
   refine xO ?_ (h := by simp [eBlk]; exact .mk)
   refine xO2 ?_
   refine xOs ?_
   refine xO ?_
   refine xO ?_ (h := by simp [rows, em, e5, e6]; exact .mk)
   refine xH [1,3,4,8,9] ?_
   refine xY ?_
   refine xO3 ?_
   refine xO ?_ (h := by simp [optA, hk, e10]; exact .mk)
   refine xO ?_ (h := by simp [rows, em, e7, e8, e9, e11, Nat.not_lt.2 hk, if_pos hn2, if_pos hn3]; exact .mk)
   refine xH [1,3,4] ?_
   refine xY ?_
   refine xO3 ?_
   refine xE [1,3,4] ?_
   refine rounds_kill [1,3,4] ?_
   first
   | (refine rounds_kills [1,3,4] rfl ?_
      refine rounds_drop 2 [1,3,4] (by decide) (by rfl) (by rfl) ?_
      refine rounds_next (m' := s.slots.length - (i+1)) (by omega) ⟨i+1, rfl, by omega, ?_, ?_⟩
      · rw [wrap64 (by omega) (by omega), hI]; rfl
      rw [hI]; rfl)
   | (refine rounds_kills [1,3,4] rfl ?_
      refine rounds_swap 1 6 1 (by decide) (by simp) (by decide) rfl rfl ?_
      refine rounds_drop 2 [1,3,4] (by decide) (by rfl) (by rfl) ?_
      refine rounds_next (m' := s.slots.length - (i+1)) (by omega) ⟨i+1, rfl, by omega, ?_, ?_⟩
      · rw [wrap64 (by omega) (by omega), hI]; simp [em, e12]
      rw [hI, List.map_append, List.map_cons, List.map_take, List.map_drop, htk, List.append_cons (List.take k (L.map eBlk)) (eBlk (blkAt s.slots i)) (List.drop k (L.map eBlk))]; simp [eBlk, blkAt]; rfl)
 intro h14
 obtain rfl : i = s.slots.length := by simp at h14; omega
 rw [insI_onesS] at hL
 subst hL
 refine W_exit (xT ?_)
 refine xH2 [2] ?_
 refine W_ret (xR (by simp [Tryz.f29]; exact .mk) ?_)
 simp [Tryz.f29, ownR]; try rfl

theorem ct33 (g : Gl) (s : Stt) (hs : s.Ok) : CtAt Tryz.prog g 33 [eStt s] (.v (.bool (sttS s))) := by
 refine xA Tryz.func33 fun B S => ?_
 simp only [eStt, List.map, argD_agg, argD_v]
 have q0 := hs.h1
 refine xU ?_
 refine xO2 ?_
 refine xG [1] ?_
 iterate 6 refine xO ?_
 refine xC (ct92 g s.sh s.mode s.base) ?_
 refine xO ?_
 refine xG [1,3] ?_
 refine xO2 ?_
 refine xC (ct93 g s.slots hs.h1) ?_
 refine xO ?_
 refine xG [1,3,4] ?_
 refine xO2 ?_
 refine xC (ct94 g s.roots hs.h2) ?_
 refine xH [1,3,4,5] ?_
 refine W_seq (xU ?_)
 refine xO3 ?_
 iterate 2 refine xI ?_
 refine xP ?_
 refine xB ?_
 iterate 2 refine xI ?_
 refine xP ?_
 refine xB ?_
 iterate 7 refine xI ?_
 refine xP ?_
 refine xB ?_
 iterate 7 refine xI ?_
 refine xP ?_
 refine xB ?_
 iterate 7 refine xI ?_
 refine xP ?_
 refine xQ [1,62] ?_ ?_
 · intro h62
   have hr : sttS s = false := by
    cases hz : sttS s with
    | false => rfl
    | true =>
     exfalso
     obtain ⟨⟨z1, z2, z3⟩, _, _, z4, _⟩ := rowsS_iff.1 (sttS_rowsS hz)
     have z5 := sttS_super hz
     have z6 := sttS_rows hz
     simp [z1, z2, z3, z4, z5, z6] at h62
   refine xU ?_
   refine xH [2] ?_
   refine W_ret (xR (by simp [Tryz.f33]; exact .mk) ?_)
   first | (simp [Tryz.f33, hr]; done) | (cases b1 <;> cases b2 <;> by_cases m1 : s.mode = 1 <;> by_cases m2 : s.mode = 2 <;> simp [Tryz.f33, hr1, modeOk, hsl, m1, m2] <;> (rw [Bool.beq_eq_decide_eq]; simp))
 intro h62
 have hh : superS s.sh s.mode s.base = true ∧ tableS s.slots = true ∧ rootsS s.roots = true ∧ (s.slots.length : Int) = s.sh.slots ∧ (s.roots.length : Int) = s.sh.roots ∧ s.data.length = s.slots.length := by simp at h62; grind
 obtain ⟨z1, z2, z3, z4, z5, z6⟩ := hh
 have hr0 : sttS s = ((List.range s.slots.length).all (lenOk s) && ((laidS s.base (twosO s.slots)).isSome && (gapsS (s.base * 32) (s.sh.pages * 32) (spansS s.slots) && modeOk s))) := by simp [sttS, rowsS, z1, z2, z3, z4, z5, z6]
 refine W_skip fun _ => ?_
 refine W_seq (xU ?_)
 refine xH [1,6] ?_
 refine W_block (W_rounds (fun m σ o => ∃ i : Nat, m = s.slots.length - i ∧ i ≤ s.slots.length ∧ (∀ j, j < i → lenOk s j = true) ∧ σ = slots [(1, .ptr 0 0 0), (6, .d (vI i))] ∧ o = [.var 28 [.d (vI s.sh.pages), .d (vI s.sh.slots), .d (vI s.sh.roots), .d (vI s.sh.room), .d (vI s.mode), .d (vI s.base), .d (rSl s.slots), .d (rR s.roots), .d (rBB s.data)]]) s.slots.length .refl ⟨0, by simp, by simp, by simp, rfl, rfl⟩ ?_)
 rintro m σ o ⟨i, rfl, hi, hinv, rfl, rfl⟩ _
 refine W_seq (xU ?_)
 refine xO5 ?_
 refine xQ [1,6,67] ?_ ?_
 · intro h67
   have hi2 : i < s.slots.length := by simpa using h67
   have hi3 : i < s.data.length := by omega
   refine W_skip fun _ => ?_
   refine W_seq (W_block ?_)
   refine W_seq ?_
   refine W_regD (by kernel_rfl) [] 4 [0,1,2,3,4,5,6,7,8,9,10,11,12] (by decide +kernel) ?_
   refine xO3 ?_
   refine xO ?_ (h := by simp [hi3]; exact .mk)
   refine xO ?_ (h := by simp [-List.getElem?_map, map_get hi3]; exact .mk)
   refine xO4 ?_
   refine xO ?_ (h := by simp [hi2]; exact .mk)
   refine xO ?_
   refine xO ?_ (h := by simp [-List.getElem?_map, map_get hi2, eSlot]; exact .mk)
   refine xO ?_
   refine xQ [1,6,82] ?_ ?_
   · intro h82
     have hr : sttS s = false := by rw [hr0, all_bad hi2 (by simp [lenOk]; simpa using h82)]; rfl
     refine xU ?_
     refine xH [2] ?_
     refine W_ret (xR (by simp [Tryz.f33]; exact .mk) ?_)
     first | (simp [Tryz.f33, hr]; done) | (cases b1 <;> cases b2 <;> by_cases m1 : s.mode = 1 <;> by_cases m2 : s.mode = 2 <;> simp [Tryz.f33, hr1, modeOk, hsl, m1, m2] <;> (rw [Bool.beq_eq_decide_eq]; simp))
   intro h82
   have hok : lenOk s i = true := by simp [lenOk]; simpa using h82
   refine W_skip fun _ => ?_
   refine xY ?_
   refine xO3 ?_
   refine xE [1,6] ?_
   refine rounds_kill [1,6] ?_
   refine rounds_next (m' := s.slots.length - (i+1)) (by omega) ⟨i+1, rfl, by omega, ?_, ?_, rfl⟩
   · intro j hj
     rcases Nat.lt_succ_iff_lt_or_eq.1 hj with hj | rfl
     · exact hinv j hj
     exact hok
   rw [wrap64 (by omega) (by omega)]; rfl
 intro h67
 have hr1 : sttS s = ((laidS s.base (twosO s.slots)).isSome && (gapsS (s.base * 32) (s.sh.pages * 32) (spansS s.slots) && modeOk s)) := by rw [hr0, all_good (fun j hj => hinv j (by simp at h67; omega))]; rfl
 have hb := superS_b z1
 have w1 : IntKind.i64.wrap (32 * s.base) = s.base * 32 := (wrap64 (by omega) (by omega)).trans (Int.mul_comm _ _)
 have w2 : IntKind.i64.wrap (32 * s.sh.pages) = s.sh.pages * 32 := (wrap64 (by omega) (by omega)).trans (Int.mul_comm _ _)
 have hT := tableS_len z2
 have hol := onesS_len (l := s.slots)
 have htl := twosO_len (l := s.slots)
 have hsl : (spansS s.slots).length = (onesS s.slots).length := by simp [spansS]
 have c96 := ct96 g (onesS s.slots) (by omega)
 rw [show (onesS s.slots).map spanOf = spansS s.slots from rfl] at c96
 have c97 := ct97 g s.base (twosO s.slots) (by omega) (twos_bound z2)
 rw [kindsR_is] at c97
 have c95 := ct95 g (s.base * 32) (s.sh.pages * 32) (spansS s.slots) (by omega)
 obtain ⟨b1, hb1⟩ : ∃ b, b = (laidS s.base (twosO s.slots)).isSome := ⟨_, rfl⟩
 obtain ⟨b2, hb2⟩ : ∃ b, b = gapsS (s.base * 32) (s.sh.pages * 32) (spansS s.slots) := ⟨_, rfl⟩
 rw [← hb1] at c97 hr1
 rw [← hb2] at c95 hr1
 refine W_exit (xT ?_)
 refine xO ?_
 refine xC (ct29 g s hs) ?_
 refine xO ?_
 refine xG [1,7] ?_
 refine xO ?_
 refine xC (ct23 g s hs) ?_
 refine xO5 ?_
 refine xF [1,7,8] ?_
 refine W_seq ?_
 refine W_regD (by kernel_rfl) [] 4 [0,1,2,3,4,5,6,7,8,9,10] (by decide +kernel) ?_
 refine xO2 ?_
 refine xO ?_ (h := by simp [w1]; exact .mk)
 refine xO3 ?_
 refine xO ?_ (h := by simp [w2]; exact .mk)
 refine xO ?_
 refine xC (c96) ?_
 refine xC (c95) ?_
 refine xO ?_
 refine xG [1,7,8,10] ?_
 refine xO3 ?_
 refine xC (c97) ?_
 refine xO5 ?_
 refine xG [1,7,8,10,12] ?_
 refine xO2 ?_
 refine xI ?_
 refine xP ?_
 refine xB ?_
 iterate 7 refine xI ?_
 iterate 2 refine xP ?_
 refine xB ?_
 iterate 7 refine xI ?_
 iterate 2 refine xP ?_
 refine xB ?_
 refine xF [2] ?_
 refine W_ret (xR (by simp [Tryz.f33]; exact .mk) ?_)
 first | (simp [Tryz.f33, hr]; done) | (cases b1 <;> cases b2 <;> by_cases m1 : s.mode = 1 <;> by_cases m2 : s.mode = 2 <;> simp [Tryz.f33, hr1, modeOk, hsl, m1, m2] <;> (rw [Bool.beq_eq_decide_eq]; simp))

open Go.Awp
theorem ct117 (g : Gl) (s : Stt) (hs : s.Ok) (k : Int) : CtAt Tryz.prog g 117 [eStt s, vI k] (.v (.bool (liveS s k))) := by
 refine xA Tryz.func117 fun B S => ?_
 simp only [eStt, List.map, argD_agg, argD_v]
 refine xU ?_
 refine xO2 ?_
 refine xG [1,2] ?_
 refine xOl ?_
 refine xC (ct33 g s hs) ?_
 refine xO ?_
 refine xG [1,2,5] ?_
 refine xO2 ?_
 iterate 2 refine xI ?_
 refine xP ?_
 refine xB ?_
 iterate 2 refine xI ?_
 refine xI ?_ (h := fun hb => by simp [eSlot]; exact .mk)
 iterate 2 refine xI ?_
 refine xP ?_
 refine xB ?_
 refine xI ?_
 refine xI ?_ (h := fun hb => by simp [eSlot]; exact .mk)
 refine xI ?_
 refine run_if rfl (by simp; exact .mk) rfl (by simp <;> first | omega | grind) (fun hb => by simp at hb; simp [show 0 ≤ k ∧ k < s.slots.length from by omega]; exact .mk) ?_
 refine xI ?_
 refine xI ?_ (h := fun hb => by simp [eSlot]; exact .mk)
 refine xP ?_
 refine xB ?_
 refine xF [4] ?_
 refine W_ret (xR (by simp [Tryz.f117]; exact .mk) ?_)
 simp [Tryz.f117, liveS, liveT, Bool.and_assoc]

theorem ct39 (g : Gl) (s : Stt) (hs : s.Ok) (two : Bool) (n : Int) : CtAt Tryz.prog g 39 [eStt s, vT two, vI n] (.tup [vI ((roomS s two n).getD 0), .v (.bool (roomS s two n).isSome)]) := by
 refine xA Tryz.func39 fun B S => ?_
 simp only [eStt, List.map, argD_agg, argD_v]
 have q0 := hs.h1
 refine xU ?_
 refine xO3 ?_
 refine xG [1,2,3] ?_
 refine xO ?_ (h := by simp [eObj]; exact .mk)
 refine xC (ct33 g s hs) ?_
 refine xO ?_
 refine xG [1,2,3,8] ?_
 refine xO ?_
 refine xC (ct87 g n) ?_
 refine xO5 ?_
 refine xF [1,2,3,8,9,10] ?_
 refine W_seq (xU ?_)
 refine xO3 ?_
 iterate 2 refine xI ?_
 refine xP ?_
 refine xQ [1,2,3,9,29] ?_ ?_
 · intro h29
   have hr : roomS s two n = none := by
    unfold roomS; rw [if_neg]
    intro hq
    simp only [Bool.and_eq_true] at hq
    have := needS_err.2 hq.2
    simp [hq.1, this] at h29
   refine xU ?_
   refine xH2 [6,7] ?_
   refine W_ret (xR (by simp [Tryz.f39]; exact .mk) ?_)
   first | (simp [Tryz.f39, hr]; done) | (cases BB <;> simp [Tryz.f39, hr])
 intro h29
 have hz : sttS s = true ∧ (needS n).2 = 0 := by simp at h29; grind
 have hR := hz.1
 have hsz := needS_err.1 hz.2
 have hr0 : roomS s two n = roomW s two n := by unfold roomS; rw [if_pos (by simp [hR, hsz])]
 have hb := superS_b (sttS_super hR)
 have w1 : IntKind.i64.wrap (32 * s.base) = s.base * 32 := (wrap64 (by omega) (by omega)).trans (Int.mul_comm _ _)
 have w2 : IntKind.i64.wrap (32 * s.sh.pages) = s.sh.pages * 32 := (wrap64 (by omega) (by omega)).trans (Int.mul_comm _ _)
 have hT := tableS_len (sttS_rows hR)
 have hol := onesS_len (l := s.slots)
 have htl := twosO_len (l := s.slots)
 have hsl : (spansS s.slots).length = (onesS s.slots).length := by simp [spansS]
 refine W_skip fun _ => ?_
 refine W_seq (xU ?_)
 refine xO ?_
 refine xQ [2,3,9,30] ?_ ?_
 · intro h30
   obtain rfl : two = true := h30
   have hr : roomS s true n = placeS s.base (twosO s.slots) n := by rw [hr0]; rfl
   refine xU ?_
   refine xO ?_ (h := by simp [eObj]; exact .mk)
   refine xC (ct23 g s hs) ?_
   refine xO5 ?_
   refine xG [2,3,11] ?_
   refine xO ?_
   refine xO ?_ (h := by simp [eObj]; exact .mk)
   refine xO2 ?_
   refine xC (ct104 g s.base (twosO s.slots) n (by omega) (twos_bound (sttS_rows hR))) ?_
   refine xO4 ?_
   refine xF [6,7] ?_
   refine W_ret (xR (by simp [Tryz.f39]; exact .mk) ?_)
   first | (simp [Tryz.f39, hr]; done) | (cases BB <;> simp [Tryz.f39, hr])
 intro h30
 obtain rfl : two = false := h30
 have c96 := ct96 g (onesS s.slots) (by omega)
 rw [show (onesS s.slots).map spanOf = spansS s.slots from rfl] at c96
 have c105 := ct105 g (s.base * 32) (s.sh.pages * 32) (spansS s.slots) (by omega)
 have hgr : gapsR (s.base * 32) (s.sh.pages * 32) (spansS s.slots) = (gapsF (s.sh.pages * 32) (s.base * 32) (spansS s.slots), 0) := by unfold gapsR; rw [if_pos (sttS_gaps hR)]
 rw [hgr] at c105
 have hgl := gapsF_len (to := s.sh.pages * 32) (l := spansS s.slots) (a := s.base * 32)
 have hr : roomS s false n = (bestS (gapsF (s.sh.pages * 32) (s.base * 32) (spansS s.slots)) (needS n).1).map (·.1) := by rw [hr0]; show oneS s n = _; unfold oneS; rw [if_neg (by simp [hz.2])]
 obtain ⟨BB, hBB⟩ : ∃ BB, BB = bestS (gapsF (s.sh.pages * 32) (s.base * 32) (spansS s.slots)) (needS n).1 := ⟨_, rfl⟩
 have c106 := ct106 g (gapsF (s.sh.pages * 32) (s.base * 32) (spansS s.slots)) (by omega) (needS n).1
 rw [← hBB] at hr c106
 refine W_skip fun _ => ?_
 refine W_seq ?_
 refine W_regD (by kernel_rfl) [] 4 [0,1,2,3,4,5,6,7,8,9,10,11,12,13,14,15] (by decide +kernel) ?_
 refine xO ?_
 refine xO ?_ (h := by simp [eObj]; exact .mk)
 refine xO ?_ (h := by simp [w1]; exact .mk)
 refine xO2 ?_
 refine xO ?_ (h := by simp [eObj]; exact .mk)
 refine xO ?_ (h := by simp [w2]; exact .mk)
 refine xO ?_ (h := by simp [eObj]; exact .mk)
 refine xC (ct29 g s hs) ?_
 refine xC (c96) ?_
 refine xC (c105) ?_
 refine xO5 ?_
 refine xG [9,13] ?_
 refine xO2 ?_
 refine xC (c106) ?_
 refine xO4 ?_
 refine xOs ?_
 refine xO ?_
 refine xG [15,16] ?_
 refine xO ?_
 refine xO ?_ (h := by simp [eObj]; exact .mk)
 refine xH3 [6,7] ?_
 refine W_ret (xR (by simp [Tryz.f39]; exact .mk) ?_)
 first | (simp [Tryz.f39, hr]; done) | (cases BB <;> simp [Tryz.f39, hr])

open Go.Awp
def twoS (x : Slot) (two : Bool) : Slot := { x with two := two }
def posS (x : Slot) (a : Int) : Slot := { x with at_ := a }
theorem foldTwo {l : List Slot} {m : Nat} {two : Bool} : (l.map eSlot).set m (D.agg [vI (nth l m).gen, vT (nth l m).live, vT two, vI (nth l m).at_, vI (nth l m).len]) = (l.set m (twoS (nth l m) two)).map eSlot := (List.map_set (f := eSlot) (a := twoS (nth l m) two)).symm
theorem foldPos {l : List Slot} {m : Nat} {a : Int} : (l.map eSlot).set m (D.agg [vI (nth l m).gen, vT (nth l m).live, vT (nth l m).two, vI a, vI (nth l m).len]) = (l.set m (posS (nth l m) a)).map eSlot := (List.map_set (f := eSlot) (a := posS (nth l m) a)).symm
theorem lay_two {l : List Slot} {m : Nat} (h : m < l.length) {two : Bool} {a : Int} : (l.set m (twoS (nth l m) two)).set m (posS (nth (l.set m (twoS (nth l m) two)) m) a) = l.set m (atS (nth l m) two a) := by
 rw [List.set_set, nth_set2 h, if_pos rfl]; rfl
open Go.Awp
theorem ct49 (g : Gl) (s : Stt) (hs : s.Ok) (k : Int) (two : Bool) (at_ : Int) : CtAt Tryz.prog g 49 [eStt s, vI k, vT two, vI at_] (.tup [oStt (moveS s k two at_).1, vI (moveS s k two at_).2]) := by
 refine xA Tryz.func49 fun B S => ?_
 simp only [eStt, List.map, argD_agg, argD_v]
 refine xU ?_
 refine xO3 ?_
 refine xG [1,2,3,4,8] ?_
 refine xOl ?_
 refine xO ?_
 refine xC (ct117 g s hs k) ?_ (he := by simp [row_rows, Function.comp_def]; exact .mk) (hi := by simp [oStt]; exact .mk)
 refine xH [1,2,3,4,8,10] ?_
 refine W_seq (xU ?_)
 refine xO2 ?_
 refine xQ [1,2,3,4,8,17] ?_ ?_
 · intro h17
   have hr : moveS s k two at_ = (zStt, 1) := by unfold moveS; rw [if_neg (by simpa using h17)]
   refine xU ?_
   iterate 2 (refine xOs ?_)
   refine xH [8,9] ?_
   refine W_ret (end_ret (by simp [Tryz.f49]; exact .mk) (by simp; exact .mk) ?_ (by simp [oStt]))
   simp [Tryz.f49, hr, oStt, zStt, ownR]
 intro h17
 have hlv : liveS s k = true := by simpa using h17
 obtain ⟨n, rfl, hn, hnl, hnd, hg⟩ := liveS_nat hlv
 obtain ⟨m, hm⟩ : ∃ m, m = layAt s n two at_ := ⟨_, rfl⟩
 have hmo : m.Ok := by rw [hm]; exact layAt_ok hs
 refine W_skip ?_
 refine xT ?_
 refine xOl ?_
 refine xC (ct21 g s hs) ?_ (he := by simp [row_rows, Function.comp_def]; exact .mk) (hi := by simp [oStt]; exact .mk)
 refine xO ?_
 refine xOs ?_
 refine xG [1,2,3,8,11] ?_
 refine xO ?_
 refine xOl ?_
 refine xO2 ?_
 refine xO ?_ (h := by simp [eSlot, hn]; exact .mk)
 refine xO ?_
 refine xO ?_ (h := by simp [-List.getElem?_map, map_get hn, eSlot, nrmL, nrm, putC, splice]; exact .mk)
 refine xE [1,3,8,11] ?_
 simp only [foldTwo]
 obtain ⟨SL, hSL⟩ : ∃ x, x = s.slots.set n (twoS (nth s.slots n) two) := ⟨_, rfl⟩
 rw [show s.slots.length = (s.slots.set n (twoS (nth s.slots n) two)).length by simp, ← hSL]
 have hnS : n < SL.length := by rw [hSL]; simpa using hn
 refine xT ?_
 refine xO ?_
 refine xOl ?_
 refine xO2 ?_
 refine xO ?_ (h := by simp [eSlot, hnS]; exact .mk)
 refine xO ?_
 refine xO ?_ (h := by simp [-List.getElem?_map, map_get hnS, eSlot, nrmL, nrm, putC, splice]; exact .mk)
 refine xE [8,11] ?_
 simp only [foldPos]
 obtain ⟨SM, hSM⟩ : ∃ x, x = SL.set n (posS (nth SL n) at_) := ⟨_, rfl⟩
 rw [show SL.length = (SL.set n (posS (nth SL n) at_)).length by simp, ← hSM]
 have hX : layAt s n two at_ = ⟨s.sh, s.mode, s.base, SM, s.roots, s.data⟩ := by rw [hSM, hSL, lay_two hn]; rfl
 refine xT ?_
 refine xOl ?_
 refine run_call0 rfl rfl rfl rfl (by simp; exact .mk) (by simp [row_rows, Function.comp_def]; exact .mk) (by have := ct33 g m hmo; rw [hm, hX] at this; exact this) (by simp) (by simp [oStt]; exact .mk) ?_
 refine xH [8,11,12] ?_
 refine W_seq (xU ?_)
 refine xO2 ?_
 refine xQ [8,11,36] ?_ ?_
 · intro h36
   have hr : moveS s n two at_ = (zStt, 10) := by unfold moveS; rw [if_pos hlv]; simp only [Int.toNat_natCast]; rw [hX, if_neg (by simpa using h36)]
   refine xU ?_
   iterate 2 (refine xOs ?_)
   refine xH [8,9] ?_
   refine W_ret (end_ret (by simp [Tryz.f49]; exact .mk) (by simp; exact .mk) ?_ (by simp [oStt]))
   simp [Tryz.f49, hr, oStt, zStt, ownR]
 intro h36
 have hr : moveS s n two at_ = (⟨s.sh, s.mode, s.base, SM, s.roots, s.data⟩, 0) := by unfold moveS; rw [if_pos hlv]; simp only [Int.toNat_natCast]; rw [hX, if_pos (by simpa using h36)]
 refine W_skip ?_
 refine xT ?_
 refine xOl ?_
 refine xOs ?_
 refine xH [8,9] ?_
 refine W_ret (end_ret (by simp [Tryz.f49]; exact .mk) (by simp; exact .mk) ?_ (by simp [oStt]))
 simp [Tryz.f49, hr, oStt, zStt, ownR]

open Go.Awp
def cntIx (f : Nat → Bool) (n : Nat) : Nat := ((List.range n).filter f).length
theorem cnt_s {f : Nat → Bool} {n : Nat} : cntIx f (n + 1) = cntIx f n + (if f n = true then 1 else 0) := by
 unfold cntIx
 rw [List.range_succ, List.filter_append, List.length_append]
 cases h : f n <;> simp [h]
theorem cnt_congr {f g : Nat → Bool} : ∀ {n : Nat}, (∀ i, i < n → f i = g i) → cntIx f n = cntIx g n
 | 0, _ => rfl
 | n + 1, h => by rw [cnt_s, cnt_s, cnt_congr (fun i hi => h i (by omega)), h n (by omega)]
theorem cnt_less {f g : Nat → Bool} {m : Nat} (hf : f m = true) (hg : g m = false) : ∀ {n : Nat}, m < n → (∀ i, i < n → i ≠ m → f i = g i) → cntIx g n + 1 = cntIx f n
 | 0, h, _ => by omega
 | n + 1, h, he => by
  rw [cnt_s, cnt_s]
  by_cases e : n = m
  · subst e
    rw [hf, hg, cnt_congr (fun i hi => (he i (by omega) (by omega)).symm)]; simp
  · rw [he n (by omega) e]
    have := cnt_less hf hg (n := n) (by omega) (fun i hi hne => he i (by omega) hne)
    omega
theorem nodup_le : ∀ {n : Nat} {l : List Nat}, l.Nodup → (∀ x ∈ l, x < n) → l.length ≤ n
 | 0, l, _, h => by
  cases l with
  | nil => simp
  | cons a t => have := h a (by simp); omega
 | n + 1, l, hd, h => by
  by_cases hm : n ∈ l
  · have h1 : (l.erase n).Nodup := hd.erase n
    have h2 : ∀ x ∈ l.erase n, x < n := fun x hx => by
     have q := (List.Nodup.mem_erase_iff hd).1 hx
     have := h x q.2
     omega
    have := nodup_le h1 h2
    rw [List.length_erase_of_mem hm] at this
    omega
  · have := nodup_le hd (fun x hx => by have := h x hx; have : x ≠ n := fun e => hm (e ▸ hx); omega : ∀ x ∈ l, x < n)
    omega
theorem cnt_le {f : Nat → Bool} {n m : Nat} (v : Nat → Nat) (hv : ∀ i, i < n → f i = true → v i < m) (hd : ∀ i j, i < j → j < n → f i = true → f j = true → v i ≠ v j) : cntIx f n ≤ m := by
 have h1 : (((List.range n).filter f).map v).Nodup := by
  rw [List.Nodup, List.pairwise_map, List.pairwise_filter, range_pair]
  exact fun i j hij hj a b => hd i j hij hj a b
 have h2 : ∀ x ∈ ((List.range n).filter f).map v, x < m := by
  simp only [List.mem_map, List.mem_filter, List.mem_range]
  rintro x ⟨i, ⟨hi, hf⟩, rfl⟩
  exact hv i hi hf
 have := nodup_le h1 h2
 simpa [cntIx] using this
theorem one_fits {s : Stt} (h : sttS s = true) {i : Nat} (hi : i < s.slots.length) (h1 : isOne (nth s.slots i) = true) : s.base * 32 ≤ (nth s.slots i).at_ ∧ (nth s.slots i).at_.tmod 4 = 0 ∧ 4 ≤ (needS (nth s.slots i).len).1 ∧ (nth s.slots i).at_ + (needS (nth s.slots i).len).1 ≤ s.sh.pages * 32 := by
 simp only [isOne, Bool.and_eq_true, Bool.not_eq_true'] at h1
 have hf := ((sttS_iff.1 h).2.2.1 i hi h1.1).1
 unfold fitsS at hf
 rw [if_neg (by simp [h1.2])] at hf
 have hx := slotS1_live (tableS_slot (sttS_rows h) i hi) h1.1
 exact ⟨hf.1, hf.2.1, needS_pos hx.2.2, hf.2.2⟩
theorem front_le {s : Stt} (h : sttS s = true) : frontN s ≤ 8 := by
 have hsb := superS_b (sttS_super h)
 have key : ∀ i, i < s.slots.length → frontB s (nth s.slots i) = true → isOne (nth s.slots i) = true ∧ (nth s.slots i).at_ < (s.base + 1) * 32 := fun i _ hf => by
  simpa [frontB] using hf
 refine cnt_le (fun i => ((nth s.slots i).at_ / 4 - s.base * 8).toNat) (fun i hi hf => ?_) fun i j hij hj hf hg => ?_
 · obtain ⟨k1, k2⟩ := key i hi hf
   have := one_fits h hi k1
   show ((nth s.slots i).at_ / 4 - s.base * 8).toNat < 8
   omega
 · obtain ⟨k1, k2⟩ := key i (by omega) hf
   obtain ⟨k3, k4⟩ := key j hj hg
   have f1 := one_fits h (by omega) k1
   have f2 := one_fits h hj k3
   have q1 := f1.2.1
   have q2 := f2.2.1
   rw [quad_iff (by omega)] at q1 q2
   simp only [isOne, Bool.and_eq_true, Bool.not_eq_true'] at k1 k3
   have hc := ((sttS_iff.1 h).2.2.2 i j hij hj k1.1 k3.1).2 k1.2 k3.2
   unfold disjI at hc
   simp only at hc
   show ((nth s.slots i).at_ / 4 - s.base * 8).toNat ≠ ((nth s.slots j).at_ / 4 - s.base * 8).toNat
   omega
structure Kept (s t : Stt) : Prop where
 sh : t.sh = s.sh
 len : t.slots.length = s.slots.length
 slot : ∀ i, i < s.slots.length → (nth t.slots i).gen = (nth s.slots i).gen ∧ (nth t.slots i).live = (nth s.slots i).live ∧ (nth t.slots i).len = (nth s.slots i).len
 roots : t.roots = s.roots
 data : t.data = s.data
theorem Kept.refl (s : Stt) : Kept s s := ⟨rfl, rfl, fun _ _ => ⟨rfl, rfl, rfl⟩, rfl, rfl⟩
theorem Kept.trans {s t u : Stt} (h : Kept s t) (k : Kept t u) : Kept s u := ⟨k.sh.trans h.sh, k.len.trans h.len, fun i hi => by
  have a := h.slot i hi
  have b := k.slot i (by rw [h.len]; exact hi)
  exact ⟨b.1.trans a.1, b.2.1.trans a.2.1, b.2.2.trans a.2.2⟩, k.roots.trans h.roots, k.data.trans h.data⟩
theorem kept_turn {s : Stt} {m b : Int} : Kept s (turnS s m b) := ⟨rfl, rfl, fun _ _ => ⟨rfl, rfl, rfl⟩, rfl, rfl⟩
theorem kept_lay {s : Stt} {m : Nat} {two : Bool} {a : Int} (hm : m < s.slots.length) : Kept s (layAt s m two a) := ⟨rfl, by simp [layAt], fun i hi => by
  show (nth (s.slots.set m _) i).gen = _ ∧ (nth (s.slots.set m _) i).live = _ ∧ (nth (s.slots.set m _) i).len = _
  rw [nth_set2 hm]
  split
  · rename_i e; subst e; exact ⟨rfl, rfl, rfl⟩
  · exact ⟨rfl, rfl, rfl⟩, rfl, rfl⟩
theorem clip_mem {fr : Int} {l : List (Int × Int)} {g : Int × Int} (h : g ∈ clipS fr l) : fr ≤ g.1 ∧ ∃ p ∈ l, p.1 ≤ g.1 ∧ g.1 + g.2 = p.1 + p.2 := by
 simp only [clipS, List.mem_filter, List.mem_map] at h
 obtain ⟨⟨p, hp, rfl⟩, _⟩ := h
 unfold clipG
 split
 · exact ⟨by simp, p, hp, by simp only; omega, by simp only; omega⟩
 · exact ⟨by omega, p, hp, by omega, rfl⟩
theorem behind_ge {s : Stt} {fr size a : Int} (h : behindS s fr size = some a) : fr ≤ a := by
 unfold behindS at h
 obtain ⟨g, hg, rfl⟩ := Option.map_eq_some_iff.1 h
 exact (clip_mem (bestS_some hg).1).1
theorem up_ok {s : Stt} (h : sttS s = true) (hm : s.mode = 3) (he : (upStep s).2 = 0) : sttS (upStep s).1 = true ∧ Kept s (upStep s).1 ∧ s.base ≤ (upStep s).1.base ∧ ((upStep s).1.mode = 2 ∨ ((upStep s).1.mode = 3 ∧ leftU (upStep s).1 < leftU s)) := by
 have hsb := superS_b (sttS_super h)
 unfold upStep at he ⊢
 by_cases hb : s.base = s.sh.pages
 · rw [if_pos hb] at he ⊢
   exact ⟨up_last h hb, kept_turn, by show s.base ≤ s.base + 0; omega, .inl rfl⟩
 rw [if_neg hb] at he ⊢
 by_cases hc : onesS s.slots = [] ∨ (s.base + 1) * 32 ≤ (nth (onesS s.slots) 0).at_
 · rw [if_pos hc] at he ⊢
   have hr := up_turn h hm hb hc
   refine ⟨hr, kept_turn, by show s.base ≤ s.base + 1; omega, .inr ⟨hm, ?_⟩⟩
   have hf := front_le hr
   show (if s.base + 1 = s.sh.pages then 1 else 9 * (s.sh.pages - (s.base + 1) - 1).toNat + frontN (turnS s s.mode 1) + 2) < leftU s
   unfold leftU
   rw [if_neg hb]
   split <;> omega
 rw [if_neg hc] at he ⊢
 have hne : onesS s.slots ≠ [] := fun e => hc (.inl e)
 obtain ⟨k, hk, hk1, hk2⟩ := ones_head hne
 have hat : (nth s.slots k).at_ < (s.base + 1) * 32 := by
  have : (nth (onesS s.slots) 0).at_ = (nth s.slots k).at_ := by rw [hk2]; rfl
  omega
 have hsl : (nth (onesS s.slots) 0).slot = (k : Int) := by rw [hk2]; rfl
 rw [hsl] at he ⊢
 have main : ∀ {two : Bool} {a : Int}, (two = true ∨ (s.base + 1) * 32 ≤ a) → (moveS s k two a).2 = 0 → sttS (moveS s k two a).1 = true ∧ Kept s (moveS s k two a).1 ∧ s.base ≤ (moveS s k two a).1.base ∧ ((moveS s k two a).1.mode = 2 ∨ ((moveS s k two a).1.mode = 3 ∧ leftU (moveS s k two a).1 < leftU s)) := by
  intro two a ha hz
  obtain ⟨m, hkm, _, h1, h2, h3, e, hr⟩ := moveS_cases hz
  obtain rfl : k = m := by omega
  rw [e]
  refine ⟨hr, kept_lay h1, Int.le_refl _, .inr ⟨hm, ?_⟩⟩
  have hcnt : frontN (layAt s k two a) + 1 = frontN s := by
   unfold frontN
   rw [show (layAt s k two a).slots.length = s.slots.length by simp [layAt]]
   refine cnt_less (m := k) ?_ ?_ hk fun i hi hne => ?_
   · simp [frontB, hk1, hat]
   · show frontB (layAt s k two a) (nth (s.slots.set k (atS (nth s.slots k) two a)) k) = false
     rw [nth_set2 hk, if_pos rfl]
     unfold frontB isOne atS
     rcases ha with rfl | ha
     · simp
     · have : ¬ a < ((layAt s k two a).base + 1) * 32 := by show ¬ a < (s.base + 1) * 32; omega
       simp [this]
   · show frontB s (nth s.slots i) = frontB (layAt s k two a) (nth (s.slots.set k (atS (nth s.slots k) two a)) i)
     rw [nth_set2 hk, if_neg (by omega)]
     rfl
  show (if s.base = s.sh.pages then 1 else 9 * (s.sh.pages - s.base - 1).toNat + frontN (layAt s k two a) + 2) < leftU s
  unfold leftU
  rw [if_neg hb, if_neg hb]
  omega
 cases hr : roomS s true (lenAt s k) with
 | some a => rw [hr] at he; exact main (.inl rfl) he
 | none =>
  rw [hr] at he
  simp only at he ⊢
  cases hq : behindS s ((s.base + 1) * 32) (nth (onesS s.slots) 0).len with
  | some a => rw [hq] at he; exact main (.inr (behind_ge hq)) he
  | none => rw [hq] at he; cases he
open Go.Awp
def backB (s : Stt) (x : Slot) : Bool := isTwo x && coverB s.base (s.base - 1) (x.at_, x.len)
def backN (s : Stt) : Nat := cntIx (fun i => backB s (nth s.slots i)) s.slots.length
def leftD (s : Stt) : Nat := if s.base = 0 then 1 else 15 * (s.base - 1).toNat + backN s + 2
theorem two_fits {s : Stt} (h : sttS s = true) {i : Nat} (hi : i < s.slots.length) (h1 : isTwo (nth s.slots i) = true) : (spotS s.base ((nth s.slots i).at_, (nth s.slots i).len)).2 = true := by
 simp only [isTwo, Bool.and_eq_true] at h1
 have hf := ((sttS_iff.1 h).2.2.1 i hi h1.1).1
 unfold fitsS at hf
 rwa [if_pos h1.2] at hf
theorem cell_lt {pages : Int} {o : Int × Int} (h : (spotS pages o).2 = true) (hs : (spotS pages o).1.small = true) : 0 ≤ (spotS pages o).1.cell ∧ (spotS pages o).1.cell < 14 := by
 have W := spot_words h
 obtain ⟨k, hk, _, _, _, h5⟩ := W.sm hs
 have g := W.good.s1 hs
 rcases wordsL_k hk with e | e | e | e | e | e <;> rw [e] at h5 <;> omega
theorem back_le {s : Stt} (h : sttS s = true) : backN s ≤ 14 := by
 have key : ∀ i, i < s.slots.length → backB s (nth s.slots i) = true → isTwo (nth s.slots i) = true ∧ (spotS s.base ((nth s.slots i).at_, (nth s.slots i).len)).1.page ≤ s.base - 1 ∧ s.base - 1 - (spotS s.base ((nth s.slots i).at_, (nth s.slots i).len)).1.page < (spotS s.base ((nth s.slots i).at_, (nth s.slots i).len)).1.count := fun i _ hf => by
  simpa [backB, coverB] using hf
 refine cnt_le (fun i => if (spotS s.base ((nth s.slots i).at_, (nth s.slots i).len)).1.small = true then (spotS s.base ((nth s.slots i).at_, (nth s.slots i).len)).1.cell.toNat else 0) (fun i hi hf => ?_) fun i j hij hj hf hg => ?_
 · obtain ⟨k1, _⟩ := key i hi hf
   show (if _ then _ else _) < 14
   split
   · rename_i hs
     have := cell_lt (two_fits h hi k1) hs
     show (spotS s.base ((nth s.slots i).at_, (nth s.slots i).len)).1.cell.toNat < 14
     omega
   · omega
 · obtain ⟨k1, k2, k3⟩ := key i (by omega) hf
   obtain ⟨k4, k5, k6⟩ := key j hj hg
   have f1 := two_fits h (by omega) k1
   have f2 := two_fits h hj k4
   simp only [isTwo, Bool.and_eq_true] at k1 k4
   have hc := ((sttS_iff.1 h).2.2.2 i j hij hj k1.1 k4.1).1 k1.2 k4.2
   rcases hc with ⟨c1, c2, c3, c4⟩ | hc | hc
   · have q1 := cell_lt f1 c1
     have q2 := cell_lt f2 c2
     show (if _ then _ else _) ≠ (if _ then _ else _)
     rw [if_pos c1, if_pos c2]
     omega
   · omega
   · omega
theorem mates_nil {s : Stt} (h : matesS s.base (twosO s.slots) (s.base - 1) = []) : ∀ i, i < s.slots.length → isTwo (nth s.slots i) = true → coverB s.base (s.base - 1) ((nth s.slots i).at_, (nth s.slots i).len) = false := by
 refine (twos_nth (R := fun o => coverB s.base (s.base - 1) o = false)).1 fun j hj => ?_
 cases hc : coverB s.base (s.base - 1) (nth (twosO s.slots) j) with
 | false => rfl
 | true =>
  have : j ∈ matesS s.base (twosO s.slots) (s.base - 1) := by simp only [matesS, List.mem_filter, List.mem_range]; exact ⟨hj, hc⟩
  rw [h] at this; cases this
theorem least_mem {l : List (Int × Int)} : ∀ {ms : List Nat}, ms ≠ [] → leastS l ms ∈ ms := by
 have key : ∀ (t : List Nat) (i : Nat), t.foldl (fun m j => if (nth l j).1 < (nth l m).1 then j else m) i = i ∨ t.foldl (fun m j => if (nth l j).1 < (nth l m).1 then j else m) i ∈ t := by
  intro t
  induction t with
  | nil => exact fun i => .inl rfl
  | cons a t ih =>
   intro i
   simp only [List.foldl_cons]
   rcases ih (if (nth l a).1 < (nth l i).1 then a else i) with e | e
   · rw [e]
     split
     · exact .inr (by simp)
     · exact .inl rfl
   · exact .inr (List.mem_cons_of_mem _ e)
 intro ms h
 cases ms with
 | nil => exact absurd rfl h
 | cons i t =>
  rcases key t i with e | e
  · show t.foldl _ i ∈ _; rw [e]; simp
  · exact List.mem_cons_of_mem _ e
theorem mate_slot {s : Stt} (hne : matesS s.base (twosO s.slots) (s.base - 1) ≠ []) : ∃ (j k : Nat), leastS (twosO s.slots) (matesS s.base (twosO s.slots) (s.base - 1)) = j ∧ j < (twosO s.slots).length ∧ k < s.slots.length ∧ nth (twosI s.slots) j = k ∧ nth (twosO s.slots) j = ((nth s.slots k).at_, (nth s.slots k).len) ∧
    isTwo (nth s.slots k) = true ∧ coverB s.base (s.base - 1) ((nth s.slots k).at_, (nth s.slots k).len) = true := by
 have hm := least_mem (l := twosO s.slots) hne
 obtain ⟨j, hj⟩ : ∃ j, j = leastS (twosO s.slots) (matesS s.base (twosO s.slots) (s.base - 1)) := ⟨_, rfl⟩
 rw [← hj] at hm
 simp only [matesS, List.mem_filter, List.mem_range] at hm
 obtain ⟨h1, h2⟩ := hm
 have hl : j < (twoIx s.slots s.slots.length).length := by simpa [twosO] using h1
 have hmem := twoIx_mem (nth_mem hl)
 refine ⟨j, nth (twoIx s.slots s.slots.length) j, hj.symm, h1, hmem.1, ?_, ?_, hmem.2, ?_⟩
 · rw [twosI, nth_map hl]
 · rw [twosO, nth_map hl]; rfl
 · rw [twosO, nth_map hl] at h2; exact h2
theorem down_last {s : Stt} (h : sttS s = true) (hb : s.base = 0) : sttS (turnS s 1 0) = true := by
 have hsu := sttS_super h
 have hsb := superS_b hsu
 have one : ∀ i, i < s.slots.length → (nth s.slots i).live = true → (nth s.slots i).two = false := fun i hi hl => by
  cases ht : (nth s.slots i).two with
  | false => rfl
  | true =>
   exfalso
   have hf := two_fits h hi (by simp [isTwo, hl, ht])
   have g := (spot_words hf).good
   have := g.p0; have := g.p1; have := g.c1
   omega
 refine turn_right h (super_with hsu (by omega) (.inl ⟨rfl, by omega⟩)) fun i hi hl => ⟨?_, ?_⟩
 · have hf := ((sttS_iff.1 h).2.2.1 i hi hl).1
   unfold fitsS at hf ⊢
   rw [if_neg (by simp [one i hi hl])] at hf ⊢
   refine ⟨?_, hf.2⟩
   show (s.base + 0) * 32 ≤ _
   omega
 · exact ⟨fun _ => one i hi hl, fun e => by omega⟩
theorem down_turn {s : Stt} (h : sttS s = true) (hm : s.mode = 4) (hb : s.base ≠ 0) (hc : matesS s.base (twosO s.slots) (s.base - 1) = []) : sttS (turnS s s.mode (-1)) = true := by
 have hsu := sttS_super h
 have hsb := superS_b hsu
 refine turn_right h (super_with hsu (by omega) (.inr (.inr (.inr hm)))) fun i hi hl => ⟨?_, ⟨fun e => by omega, fun e => by omega⟩⟩
 have hf := ((sttS_iff.1 h).2.2.1 i hi hl).1
 unfold fitsS at hf ⊢
 cases ht : (nth s.slots i).two with
 | true =>
  rw [if_pos ht] at hf
  rw [if_pos rfl]
  have g := (spot_words hf).good
  have hn := mates_nil hc i hi (by simp [isTwo, hl, ht])
  simp only [coverB, Bool.and_eq_false_iff, decide_eq_false_iff_not] at hn
  have := g.p1; have := g.c1
  exact spot_more hf (by show _ ≤ s.base + -1; omega)
 | false =>
  rw [if_neg (by simp [ht])] at hf
  rw [if_neg (by simp)]
  refine ⟨?_, hf.2.1, hf.2.2⟩
  show (s.base + -1) * 32 ≤ _
  omega
theorem down_ok {s : Stt} (h : sttS s = true) (hm : s.mode = 4) (he : (downStep s).2 = 0) : sttS (downStep s).1 = true ∧ Kept s (downStep s).1 ∧ (downStep s).1.base ≤ s.base ∧ ((downStep s).1.mode = 1 ∨ ((downStep s).1.mode = 4 ∧ leftD (downStep s).1 < leftD s)) := by
 have hsb := superS_b (sttS_super h)
 unfold downStep at he ⊢
 by_cases hb : s.base = 0
 · rw [if_pos hb] at he ⊢
   exact ⟨down_last h hb, kept_turn, by show s.base + 0 ≤ s.base; omega, .inl rfl⟩
 rw [if_neg hb] at he ⊢
 by_cases hc : matesS s.base (twosO s.slots) (s.base - 1) = []
 · rw [if_pos hc] at he ⊢
   have hr := down_turn h hm hb hc
   refine ⟨hr, kept_turn, by show s.base + -1 ≤ s.base; omega, .inr ⟨hm, ?_⟩⟩
   have hf := back_le hr
   show (if s.base + -1 = 0 then 1 else 15 * (s.base + -1 - 1).toNat + backN (turnS s s.mode (-1)) + 2) < leftD s
   unfold leftD
   rw [if_neg hb]
   split <;> omega
 rw [if_neg hc] at he ⊢
 obtain ⟨j, k, e1, hj, hk, e2, e3, ht, hcv⟩ := mate_slot hc
 rw [e1, e2, e3] at he ⊢
 have main : ∀ {two : Bool} {a : Int}, (two = false ∨ coverB s.base (s.base - 1) (a, (nth s.slots k).len) = false) → (moveS s k two a).2 = 0 → sttS (moveS s k two a).1 = true ∧ Kept s (moveS s k two a).1 ∧ (moveS s k two a).1.base ≤ s.base ∧ ((moveS s k two a).1.mode = 1 ∨ ((moveS s k two a).1.mode = 4 ∧ leftD (moveS s k two a).1 < leftD s)) := by
  intro two a ha hz
  obtain ⟨m, hkm, _, h1, h2, h3, e, hr⟩ := moveS_cases hz
  obtain rfl : k = m := by omega
  rw [e]
  refine ⟨hr, kept_lay h1, Int.le_refl _, .inr ⟨hm, ?_⟩⟩
  have hcnt : backN (layAt s k two a) + 1 = backN s := by
   unfold backN
   rw [show (layAt s k two a).slots.length = s.slots.length by simp [layAt]]
   refine cnt_less (m := k) ?_ ?_ hk fun i hi hne => ?_
   · simp [backB, ht, hcv]
   · show backB (layAt s k two a) (nth (s.slots.set k (atS (nth s.slots k) two a)) k) = false
     rw [nth_set2 hk, if_pos rfl]
     unfold backB isTwo atS
     rcases ha with rfl | ha
     · simp
     · show (_ && coverB s.base (s.base - 1) (a, (nth s.slots k).len)) = false
       rw [ha]; simp
   · show backB s (nth s.slots i) = backB (layAt s k two a) (nth (s.slots.set k (atS (nth s.slots k) two a)) i)
     rw [nth_set2 hk, if_neg (by omega)]
     rfl
  show (if s.base = 0 then 1 else 15 * (s.base - 1).toNat + backN (layAt s k two a) + 2) < leftD s
  unfold leftD
  rw [if_neg hb, if_neg hb]
  omega
 simp only at he ⊢
 cases hr : roomS s false (nth s.slots k).len with
 | some a => rw [hr] at he; exact main (.inl rfl) he
 | none =>
  rw [hr] at he
  simp only at he ⊢
  cases hq : placeS (s.base - 1) (restS (twosO s.slots) (matesS s.base (twosO s.slots) (s.base - 1))) (nth s.slots k).len with
  | some a =>
   rw [hq] at he
   refine main (.inr ?_) he
   obtain ⟨p1, _⟩ := place_some hq
   have g := (spot_words p1).good
   rw [spot_page (p := s.base - 1) (q := s.base)] at g
   have := g.p1; have := g.c1
   simp only [coverB, Bool.and_eq_false_iff, decide_eq_false_iff_not]
   omega
  | none => rw [hq] at he; cases he
def movingS (s : Stt) : Bool := decide (s.mode = 3) || decide (s.mode = 4)
def leftS (s : Stt) : Nat := if s.mode = 3 then leftU s else leftD s
theorem step_ok {s : Stt} (he : (stepS s).2 = 0) : sttS s = true ∧ movingS s = true ∧ sttS (stepS s).1 = true ∧ Kept s (stepS s).1 ∧ (s.mode = 3 → s.base ≤ (stepS s).1.base ∧ ((stepS s).1.mode = 2 ∨ (stepS s).1.mode = 3)) ∧ (s.mode = 4 → (stepS s).1.base ≤ s.base ∧ ((stepS s).1.mode = 1 ∨ (stepS s).1.mode = 4)) ∧ (movingS (stepS s).1 = true → leftS (stepS s).1 < leftS s) := by
 unfold stepS at he ⊢
 by_cases h : sttS s = true
 · rw [if_pos h] at he ⊢
   by_cases h3 : s.mode = 3
   · rw [if_pos h3] at he ⊢
     obtain ⟨u1, u2, u3, u4⟩ := up_ok h h3 he
     refine ⟨h, by simp [movingS, h3], u1, u2, fun _ => ⟨u3, ?_⟩, fun e => by omega, fun hv => ?_⟩
     · rcases u4 with u4 | u4
       · exact .inl u4
       · exact .inr u4.1
     · rcases u4 with u4 | ⟨u4, u5⟩
       · simp [movingS, u4] at hv
       · unfold leftS; rw [if_pos h3, if_pos u4]; exact u5
   · rw [if_neg h3] at he ⊢
     by_cases h4 : s.mode = 4
     · rw [if_pos h4] at he ⊢
       obtain ⟨u1, u2, u3, u4⟩ := down_ok h h4 he
       refine ⟨h, by simp [movingS, h4], u1, u2, fun e => by omega, fun _ => ⟨u3, ?_⟩, fun hv => ?_⟩
       · rcases u4 with u4 | u4
         · exact .inl u4
         · exact .inr u4.1
       · rcases u4 with u4 | ⟨u4, u5⟩
         · simp [movingS, u4] at hv
         · unfold leftS; rw [if_neg h3, if_neg (by omega)]; exact u5
     · rw [if_neg h4] at he; cases he
 · rw [if_neg h] at he; cases he
open Go.Awp
def endF : Nat → Nat → Stt → Stt × Nat × Int
 | 0, n, _ => (zStt, n, 1)
 | f + 1, n, s => if 0 < n ∧ movingS s = false then (s, n, 0) else if (stepS s).2 ≠ 0 then (zStt, n, (stepS s).2) else endF f (n + 1) (stepS s).1
def needE (n : Nat) (s : Stt) : Nat := if movingS s = true then leftS s + 1 else 1
def endS (s : Stt) : Stt × Nat × Int := endF (needE 0 s) 0 s
theorem leftS_pos {s : Stt} : 1 ≤ leftS s := by
 unfold leftS leftU leftD
 split <;> split <;> omega
theorem endF_more : ∀ {f : Nat} {n : Nat} {s : Stt}, needE n s ≤ f → endF f n s = endF (needE n s) n s
 | 0, n, s, h => by
  have : needE n s = 0 := by omega
  rw [this]
 | f + 1, n, s, h => by
  obtain ⟨k, hk⟩ : ∃ k, needE n s = k + 1 := ⟨needE n s - 1, by unfold needE; split <;> omega⟩
  rw [hk]
  show (if 0 < n ∧ movingS s = false then (s, n, 0) else if (stepS s).2 ≠ 0 then (zStt, n, (stepS s).2) else endF f (n + 1) (stepS s).1) = (if 0 < n ∧ movingS s = false then (s, n, 0) else if (stepS s).2 ≠ 0 then (zStt, n, (stepS s).2) else endF k (n + 1) (stepS s).1)
  split
  · rfl
  · split
    · rfl
    · rename_i he
      have he : (stepS s).2 = 0 := by omega
      obtain ⟨_, hm, _, _, _, _, hd⟩ := step_ok he
      have hn : needE n s = leftS s + 1 := by unfold needE; rw [if_pos hm]
      have hp := leftS_pos (s := s)
      have hn2 : needE (n + 1) (stepS s).1 ≤ leftS s := by
       unfold needE
       split
       · rename_i h2; have := hd h2; omega
       · omega
      rw [endF_more (f := f) (by omega), endF_more (f := k) (by omega)]
theorem endF_stop {f n : Nat} {s : Stt} (h : 0 < n ∧ movingS s = false) : endF (f + 1) n s = (s, n, 0) := by
 show (if _ then _ else _) = _
 rw [if_pos h]
theorem endF_err {f n : Nat} {s : Stt} (h : ¬ (0 < n ∧ movingS s = false)) (he : (stepS s).2 ≠ 0) : endF (f + 1) n s = (zStt, n, (stepS s).2) := by
 show (if _ then _ else _) = _
 rw [if_neg h, if_pos he]
theorem endF_step {f n : Nat} {s : Stt} (h : ¬ (0 < n ∧ movingS s = false)) (he : (stepS s).2 = 0) : endF (f + 1) n s = endF f (n + 1) (stepS s).1 := by
 show (if _ then _ else _) = _
 rw [if_neg h, if_neg (by omega)]
theorem end_next {n : Nat} {s : Stt} (h : ¬ (0 < n ∧ movingS s = false)) (he : (stepS s).2 = 0) : endF (needE n s) n s = endF (needE (n + 1) (stepS s).1) (n + 1) (stepS s).1 ∧ needE (n + 1) (stepS s).1 < needE n s := by
 obtain ⟨_, hm, _, _, _, _, hd⟩ := step_ok he
 have hn : needE n s = leftS s + 1 := by unfold needE; rw [if_pos hm]
 have hp := leftS_pos (s := s)
 have hn2 : needE (n + 1) (stepS s).1 ≤ leftS s := by
  unfold needE
  split
  · rename_i h2; have := hd h2; omega
  · omega
 refine ⟨?_, by omega⟩
 rw [hn, endF_step h he]
 exact endF_more hn2
theorem need_pos {n : Nat} {s : Stt} : 0 < needE n s := by unfold needE; split <;> omega
structure Went (s t : Stt) (n k : Nat) : Prop where
 right : sttS t = true
 kept : Kept s t
 mode : (s.mode = 3 → t.mode = 2 ∨ t.mode = 3) ∧ (s.mode = 4 → t.mode = 1 ∨ t.mode = 4)
 left : movingS t = true → k + leftS t ≤ n + leftS s
 few : k ≤ n + leftS s
def boundS (s : Stt) : Int := if s.mode = 3 then 9 * s.sh.pages + 1 else if s.mode = 4 then 15 * s.sh.pages + 1 else 0
theorem left_bound {s : Stt} (h : sttS s = true) (hm : movingS s = true) : (leftS s : Int) ≤ boundS s := by
 have hsb := superS_b (sttS_super h)
 have f1 := front_le h
 have f2 := back_le h
 simp only [movingS, Bool.or_eq_true, decide_eq_true_eq] at hm
 unfold leftS boundS
 rcases hm with e | e
 · rw [if_pos e, if_pos e]
   unfold leftU
   split <;> omega
 · rw [if_neg (by omega), if_neg (by omega), if_pos e]
   unfold leftD
   split <;> omega
def fromM (up : Bool) : Int := if up = true then 1 else 2
def toM (up : Bool) : Int := if up = true then 3 else 4
def startS (s : Stt) (up : Bool) : Stt × Int := if sttS s = false then (zStt, 1) else if s.mode ≠ fromM up then (zStt, 12) else if (endS (turnS s (toM up) 0)).2.2 ≠ 0 then (zStt, (endS (turnS s (toM up) 0)).2.2) else (turnS s (toM up) 0, 0)
open Go.Awp
theorem clip_step {fr : Int} {l : List (Int × Int)} {i : Nat} (h : i < l.length) : clipS fr (l.take (i + 1)) = clipS fr (l.take i) ++ (if 0 < (clipG fr (nth l i)).2 then [clipG fr (nth l i)] else []) := by
 rw [take_succ h]
 unfold clipS
 rw [List.map_append, List.filter_append]
 congr 1
 simp only [List.map_cons, List.map_nil, List.filter_cons, List.filter_nil]
 split <;> rename_i q <;> simp at q
 · rw [if_pos q]
 · rw [if_neg (by omega)]
theorem clip_len {fr : Int} {l : List (Int × Int)} : (clipS fr l).length ≤ l.length := by
 unfold clipS
 exact Nat.le_trans (List.length_filter_le _ _) (by simp)
theorem gapsF_b {s : Stt} (h : sttS s = true) : ∀ g ∈ gapsOf s, 0 ≤ g.1 ∧ g.1 ≤ 2048 ∧ 0 < g.2 ∧ g.2 ≤ 2048 := by
 intro g hg
 have hG := sttS_gaps h
 simp only [gapsS, Bool.and_eq_true] at hG
 have hb := superS_b (sttS_super h)
 obtain ⟨h1, h2, h3, _⟩ := gapsF_mem hG.2 g hg
 omega
theorem turn_ok {s : Stt} {m b : Int} (h : s.Ok) : (turnS s m b).Ok := ⟨h.h1, h.h2, h.h3, h.h4, h.h5⟩
theorem stepS_Ok {s : Stt} (h : s.Ok) : (stepS s).1.Ok := by
 have hup : (upStep s).1.Ok := by
  unfold upStep
  split
  · exact turn_ok h
  · split
    · exact turn_ok h
    · split
      · exact moveS_ok h
      · split
        · exact moveS_ok h
        · exact zStt_ok
 have hdn : (downStep s).1.Ok := by
  unfold downStep
  split
  · exact turn_ok h
  · split
    · exact turn_ok h
    · split
      · exact moveS_ok h
      · split
        · exact moveS_ok h
        · exact zStt_ok
 unfold stepS
 split
 · split
   · exact hup
   · split
     · exact hdn
     · exact zStt_ok
 · exact zStt_ok
theorem need_le {n : Nat} {s : Stt} (h : sttS s = true) : needE n s ≤ 1000 := by
 have hsb := superS_b (sttS_super h)
 unfold needE
 split
 · rename_i hm
   have := left_bound h hm
   unfold boundS at this
   split at this
   · omega
   · split at this <;> omega
 · omega
open Go.Awp
def ixN (l : List Int) (x : Int) : Int := if l.contains x = true then (l.idxOf x : Int) else -1
theorem ixN_at {l : List Int} {x : Int} {i : Nat} (hi : i < l.length) (h : ∀ j, j < i → nth l j ≠ x) (hx : nth l i = x) : ixN l x = i := by
 have hm : x ∈ l := by rw [← hx]; exact nth_mem hi
 have hle : l.idxOf x = i := by
  have hlt := List.idxOf_lt_length_of_mem hm
  have hg : l[l.idxOf x] = x := List.getElem_idxOf hlt
  rcases Nat.lt_trichotomy (l.idxOf x) i with q | q | q
  · exact absurd (by rw [nth_eq hlt]; exact hg) (h _ q)
  · exact q
  · have := List.not_of_lt_findIdx (p := (· == x)) (xs := l) q
    rw [nth_eq hi] at hx
    simp [hx] at this
 unfold ixN
 rw [if_pos (by simpa using hm), hle]
theorem ixN_none {l : List Int} {x : Int} (h : ∀ j, j < l.length → nth l j ≠ x) : ixN l x = -1 := by
 unfold ixN
 rw [if_neg]
 intro hc
 have hm : x ∈ l := by simpa using hc
 obtain ⟨j, hj, e⟩ := List.mem_iff_getElem.1 hm
 exact h j hj (by rw [nth_eq hj]; exact e)
theorem ixN_nonneg {l : List Int} {x : Int} : decide (0 ≤ ixN l x) = l.contains x := by
 unfold ixN
 cases h : l.contains x <;> simp
theorem leastS_one {l : List (Int × Int)} {ms : List Nat} (h : ms ≠ []) : leastS l (ms.take 1) = nth ms 0 := by
 cases ms with
 | nil => exact absurd rfl h
 | cons a t => rfl
theorem leastS_step (l : List (Int × Int)) {ms : List Nat} {i : Nat} (h1 : 1 ≤ i) (h2 : i < ms.length) : leastS l (ms.take (i + 1)) = if (nth l (nth ms i)).1 < (nth l (leastS l (ms.take i))).1 then nth ms i else leastS l (ms.take i) := by
 cases ms with
 | nil => simp at h2
 | cons a t =>
  obtain ⟨k, rfl⟩ : ∃ k, i = k + 1 := ⟨i - 1, by omega⟩
  have hk : k < t.length := by simpa using h2
  rw [List.take_succ_cons, List.take_succ_cons, take_succ hk]
  simp only [leastS, List.foldl_append, List.foldl_cons, List.foldl_nil]
  rfl
theorem leastS_in {l : List (Int × Int)} {ms : List Nat} {i : Nat} (hne : ms ≠ []) (h : ∀ i, i < ms.length → nth ms i < l.length) (h1 : 1 ≤ i) : leastS l (ms.take i) < l.length := by
 have key : ∀ (t : List Nat) (a : Nat), a < l.length → (∀ x ∈ t, x < l.length) → t.foldl (fun m j => if (nth l j).1 < (nth l m).1 then j else m) a < l.length := by
  intro t
  induction t with
  | nil => intro a ha _; exact ha
  | cons x t ih =>
   intro a ha hx
   simp only [List.foldl_cons]
   refine ih _ ?_ (fun y hy => hx y (by simp [hy]))
   split
   · exact hx x (by simp)
   · exact ha
 have hmem : ∀ x ∈ ms, x < l.length := fun x hx => by
  obtain ⟨j, hj, e⟩ := List.mem_iff_getElem.1 hx
  have := h j hj
  rw [nth_eq hj, e] at this; exact this
 cases ms with
 | nil => exact absurd rfl hne
 | cons a t =>
  obtain ⟨k, rfl⟩ : ∃ k, i = k + 1 := ⟨i - 1, by omega⟩
  rw [List.take_succ_cons]
  exact key _ _ (hmem a (by simp)) (fun x hx => hmem x (by simp [List.mem_of_mem_take hx]))
theorem castN_contains {ms : List Nat} {k : Nat} : (ms.map fun (k : Nat) => (k : Int)).contains (k : Int) = ms.contains k := by
 rw [Bool.eq_iff_iff]
 simp only [List.contains_iff_mem, List.mem_map]
 exact ⟨fun ⟨a, h, e⟩ => by rw [← Int.ofNat_inj.1 e]; exact h, fun h => ⟨k, h, rfl⟩⟩
theorem down_facts {s : Stt} (hs : s.Ok) (hR : sttS s = true) : (twosO s.slots).length ≤ 2^40 ∧ (twosI s.slots).length = (twosO s.slots).length ∧ (laidS s.base (twosO s.slots)).isSome = true ∧ ∀ i, i < (twosO s.slots).length → 0 ≤ (nth (twosO s.slots) i).1 ∧ (nth (twosO s.slots) i).1 ≤ 2^40 := by
 refine ⟨Nat.le_trans twosO_len hs.h1, twosI_len, ?_, fun i hi => ⟨?_, twosO_le (sttS_rows hR) i hi⟩⟩
 · have h1 := hR
   simp only [sttS, Bool.and_eq_true] at h1
   exact h1.2.2.1
 · have hk := sttS_laid hR i hi
   have hsp : (spotS s.base (nth (twosO s.slots) i)).2 = true := by
    cases hq : (spotS s.base (nth (twosO s.slots) i)).2 with
    | true => rfl
    | false => simp only [okI, layO] at hk; rw [if_neg (by simp [hq])] at hk; cases hk
   unfold spotS at hsp
   split at hsp
   · cases hsp
   · omega
theorem rest_b {l : List (Int × Int)} {ms : List Nat} {b : Int} (h : ∀ k, k < l.length → (nth l k).1 ≤ b) : ∀ k, k < (restS l ms).length → (nth (restS l ms) k).1 ≤ b := fun k hk => by
 have hm := nth_mem hk
 simp only [restS, List.mem_map, List.mem_filter, List.mem_range] at hm
 obtain ⟨a, ⟨ha, _⟩, e⟩ := hm
 rw [restS, ← e]
 exact h a ha
end Go.Proofs
