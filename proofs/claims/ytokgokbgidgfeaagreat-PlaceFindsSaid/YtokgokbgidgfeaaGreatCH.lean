/- Contracts of the program's functions, each against a plain function over lists and numbers (it answers what that one answers, for arguments of at most 2^40 elements where a lemma says so), and plain facts about these. -/
import Derived.Test.YtokgokbgidgfeaaGreatCG
import Derived.Test.YtokgokbgidgfeaaGreatCA
import Derived.Test.YtokgokbgidgfeaaGreatAwpD
import Derived.Test.YtokgokbgidgfeaaGreatCD
import Derived.Test.YtokgokbgidgfeaaGreatCF
set_option linter.all false
set_option maxHeartbeats 4000000
set_option maxRecDepth 4000
namespace Go.Proofs
open Go.Awp
theorem ct105 (g : Gl) (fr to : Int) (l : List (Int × Int)) (hl : l.length ≤ 2^40) : CtAt Tryz.prog g 105 [vI fr, vI to, rO l] (.tup [oO (gapsR fr to l).1, vI (gapsR fr to l).2]) := by
 refine ctAt_of_W Tryz.func105 rfl rfl (Nat.le_of_ble_eq_true rfl) fun B S => ?_
 refine xU ?_
 iterate 2 refine xO ?_
 refine xE [0,1,2] ?_
 refine xT ?_
 iterate 3 refine xO ?_
 refine xC (ct95 g fr to l hl) ?_
 refine xO ?_
 refine xE [0,1,2,8] fun _ => ?_
 refine W_seq ?_
 refine xU ?_
 iterate 2 refine xO ?_
 refine xE [0,1,2,18] fun _ => ?_
 refine W_cond rfl ?_ ?_
 · intro h18
   have hr : gapsR fr to l = ([], 1) := by unfold gapsR; rw [if_neg (by simpa using h18)]
   refine xU ?_
   iterate 2 refine xO ?_
   refine xE [6,7] fun _ => ?_
   refine W_ret ?_
   refine xR (by simp [Tryz.f105]; exact .mk) ?_
   simp [Tryz.f105, hr, ownR]; try rfl
 intro h18
 have hgs : gapsS fr to l = true := by simpa using h18
 have hr : gapsR fr to l = (gapsF to fr l, 0) := by unfold gapsR; rw [if_pos hgs]
 obtain ⟨G, hG⟩ : ∃ G, G = gapsF to fr l := ⟨_, rfl⟩
 rw [← hG] at hr
 have hgs2 := hgs
 simp only [gapsS, Bool.and_eq_true, gapsHead, decide_eq_true_eq] at hgs2
 obtain ⟨hh, hok⟩ := hgs2
 refine W_skip ?_
 refine xT ?_
 refine xO ?_
 refine xE [0,1,2,9] ?_
 refine xT ?_
 iterate 2 refine xO ?_
 refine xE [1,2,9,10] fun _ => ?_
 refine W_seq ?_
 refine xU ?_
 refine xO ?_
 refine xE [1,2,9,10,11] fun _ => ?_
 refine W_block ?_
 refine W_rounds (fun m σ o => ∃ (i : Nat) (a : Int) (out : List (Int × Int)), m = l.length + 1 - i ∧ out.length ≤ i ∧ (0 ≤ a ∧ a ≤ 2048) ∧ ((i < l.length ∧ out ++ gapsF to a (l.drop i) = G ∧ gapsOk to a (l.drop i) = true) ∨ (i = l.length ∧ out ++ gapE a to = G) ∨ (i = l.length + 1 ∧ out = G)) ∧ σ = slots [(1, .d (vI to)), (2, .d (rO l)), (9, .hdr 0 0 out.length), (10, .d (vI a)), (11, .d (vI i))] ∧ o = [.row 2 (out.map eObj)]) (l.length + 1)
  (Weak.trans (Weak.nilRow 9 2 rfl) (Weak.kills [1,2,9,10,11] rfl) (fun _ _ _ h1 h2 => by rw [← h1.len]; exact h2)) ⟨0, fr, [], by simp, by simp, ⟨by omega, by omega⟩, by
    cases hz : l with
    | nil => right; left; rw [hz] at hG; exact ⟨rfl, hG.symm⟩
    | cons p t => left; rw [hz] at hG hok; exact ⟨by simp, hG.symm, hok⟩, by simp, by simp⟩ ?_
 rintro m σ o ⟨i, a, out, rfl, hol, ha, ⟨hi2, hgo, hok2⟩ | ⟨rfl, hgo⟩ | ⟨rfl, hgo⟩, rfl, rfl⟩ _
 · skip
   rw [gapsF_drop hi2] at hgo
   rw [gapsOk_drop hi2] at hok2
   simp only [Bool.and_eq_true, Bool.not_eq_true'] at hok2
   have hgb := gapBad_f hok2.1
   obtain ⟨p, hp⟩ : ∃ p, p = nth l i := ⟨_, rfl⟩
   rw [← hp] at hgo hok2 hgb
   have w1 : IntKind.i64.wrap (p.1 + p.2) = p.1 + p.2 := wrap64 (by omega) (by omega)
   have w2 : IntKind.i64.wrap (p.1 - a) = p.1 - a := wrap64 (by omega) (by omega)
   have e1 : (out.length + 1) * 16 ≤ 140737488355328 := by omega
   have e2 : out.length ≤ 140737488355327 := by omega
   refine W_seq ?_
   refine xU ?_
   iterate 4 refine xO ?_
   refine xE [1,2,9,10,11,23] fun _ => ?_
   refine W_cond rfl ?_ ?_
   · intro h23
     refine W_skip ?_
     rintro -
     refine W_seq ?_
     refine W_block ?_
     refine xU ?_
     iterate 2 refine xO ?_
     refine xE [1,2,9,10,11,12] fun _ => ?_
     refine W_seq ?_
     refine xU ?_
     iterate 4 refine xO ?_
     refine xE [1,2,9,10,11,12,30] fun _ => ?_
     refine W_cond rfl ?_ ?_
     · intro h30
       refine W_reg rfl ?_
       iterate 2 refine xO ?_
       refine xO ?_ (h := by simp [eObj, hi2]; exact .mk)
       refine xO ?_
       refine xO ?_ (h := by simp [-List.getElem?_map, map_get hi2, eObj, ← hp]; exact .mk)
       refine xO ?_
       refine xE [1,2,9,10,11,12] fun _ => ?_
       refine W_seq ?_
       refine xU ?_
       iterate 3 refine xO ?_
       refine xE [1,2,9,10,11,12,38] fun _ => ?_
       refine W_cond rfl ?_ ?_
       · intro h38
         have hge : gapE a p.1 = [(a, p.1 - a)] := by unfold gapE; rw [if_pos (by simpa using h38)]
         refine W_reg rfl ?_
         iterate 4 refine xO ?_
         refine xO ?_ (h := by simp [w2]; exact .mk)
         refine xO ?_ (h := by simp [splice]; exact .mk)
         refine xO ?_
         refine xO ?_ (h := by simp [rows, e1, e2]; exact .mk)
         refine xO ?_
         refine xE [1,2,9,10,11] ?_
         refine xT ?_
         iterate 4 refine xO ?_
         refine xE [1,2,9,10,11,50] fun _ => ?_
         refine W_cond rfl ?_ ?_
         · intro h50
           refine W_regD (by kernel_rfl) [] 4 [0,1,2,3,4,5,6,7,8,9,10,11] (by decide +kernel) ?_
           iterate 2 refine xO ?_
           refine xO ?_ (h := by simp [eObj, hi2]; exact .mk)
           refine xO ?_
           refine xO ?_ (h := by simp [-List.getElem?_map, map_get hi2, eObj, ← hp]; exact .mk)
           iterate 2 refine xO ?_
           refine xO ?_ (h := by simp [eObj, hi2]; exact .mk)
           refine xO ?_
           refine xO ?_ (h := by simp [-List.getElem?_map, map_get hi2, eObj, ← hp]; exact .mk)
           refine xO ?_ (h := by simp [w1]; exact .mk)
           refine xO ?_
           refine xE [1,2,9,10,11] fun _ => ?_
           refine W_reg rfl ?_
           iterate 3 refine xO ?_
           refine xE [1,2,9,10,11] ?_
           refine rounds_kill [1,2,9,10,11] ?_
           rw [hge] at hgo
           have hrest : ∀ out2, out2 ++ gapsF to (p.1 + p.2) (l.drop (i + 1)) = G → ((i + 1 < l.length ∧ out2 ++ gapsF to (p.1 + p.2) (l.drop (i + 1)) = G ∧ gapsOk to (p.1 + p.2) (l.drop (i + 1)) = true) ∨ (i + 1 = l.length ∧ out2 ++ gapE (p.1 + p.2) to = G) ∨ (i + 1 = l.length + 1 ∧ out2 = G)) := fun out2 h => by
            by_cases hl2 : i + 1 < l.length
            · exact .inl ⟨hl2, h, hok2.2⟩
            refine .inr (.inl ⟨by omega, ?_⟩)
            rw [List.drop_eq_nil_of_le (by omega)] at h; exact h
           first
           | (refine rounds_kills [1,2,9,10,11] rfl ?_
              refine rounds_next (m' := l.length + 1 - (i+1)) (by omega) ⟨i+1, p.1 + p.2, out, rfl, by omega, ⟨by omega, by omega⟩, hrest _ (by simpa using hgo), ?_, rfl⟩
              rw [wrap64 (by omega) (by omega)]; rfl)
           | (refine rounds_kills [1,2,9,10,11] rfl ?_
              refine rounds_swap 0 2 1 (by decide) (by simp) (by decide) rfl rfl ?_
              refine rounds_drop 1 [1,2,9,10,11] (by decide) (by rfl) (by rfl) ?_
              refine rounds_next (m' := l.length + 1 - (i+1)) (by omega) ⟨i+1, p.1 + p.2, out ++ [(a, p.1 - a)], rfl, by simp; omega, ⟨by omega, by omega⟩, hrest _ (by simpa using hgo), ?_, ?_⟩
              · rw [wrap64 (by omega) (by omega)]; simp; try rfl
              simp [eObj]; try rfl)
         intro h50
         simp at h50; omega
       intro h38
       have hge : gapE a p.1 = [] := by unfold gapE; rw [if_neg (by simpa using h38)]
       refine W_skip ?_
       refine xT ?_
       iterate 4 refine xO ?_
       refine xE [1,2,9,10,11,50] fun _ => ?_
       refine W_cond rfl ?_ ?_
       · intro h50
         refine W_regD (by kernel_rfl) [] 4 [0,1,2,3,4,5,6,7,8,9,10,11] (by decide +kernel) ?_
         iterate 2 refine xO ?_
         refine xO ?_ (h := by simp [eObj, hi2]; exact .mk)
         refine xO ?_
         refine xO ?_ (h := by simp [-List.getElem?_map, map_get hi2, eObj, ← hp]; exact .mk)
         iterate 2 refine xO ?_
         refine xO ?_ (h := by simp [eObj, hi2]; exact .mk)
         refine xO ?_
         refine xO ?_ (h := by simp [-List.getElem?_map, map_get hi2, eObj, ← hp]; exact .mk)
         refine xO ?_ (h := by simp [w1]; exact .mk)
         refine xO ?_
         refine xE [1,2,9,10,11] fun _ => ?_
         refine W_reg rfl ?_
         iterate 3 refine xO ?_
         refine xE [1,2,9,10,11] ?_
         refine rounds_kill [1,2,9,10,11] ?_
         rw [hge] at hgo
         have hrest : ∀ out2, out2 ++ gapsF to (p.1 + p.2) (l.drop (i + 1)) = G → ((i + 1 < l.length ∧ out2 ++ gapsF to (p.1 + p.2) (l.drop (i + 1)) = G ∧ gapsOk to (p.1 + p.2) (l.drop (i + 1)) = true) ∨ (i + 1 = l.length ∧ out2 ++ gapE (p.1 + p.2) to = G) ∨ (i + 1 = l.length + 1 ∧ out2 = G)) := fun out2 h => by
          by_cases hl2 : i + 1 < l.length
          · exact .inl ⟨hl2, h, hok2.2⟩
          refine .inr (.inl ⟨by omega, ?_⟩)
          rw [List.drop_eq_nil_of_le (by omega)] at h; exact h
         first
         | (refine rounds_kills [1,2,9,10,11] rfl ?_
            refine rounds_next (m' := l.length + 1 - (i+1)) (by omega) ⟨i+1, p.1 + p.2, out, rfl, by omega, ⟨by omega, by omega⟩, hrest _ (by simpa using hgo), ?_, rfl⟩
            rw [wrap64 (by omega) (by omega)]; rfl)
         | (refine rounds_kills [1,2,9,10,11] rfl ?_
            refine rounds_swap 0 2 1 (by decide) (by simp) (by decide) rfl rfl ?_
            refine rounds_drop 1 [1,2,9,10,11] (by decide) (by rfl) (by rfl) ?_
            refine rounds_next (m' := l.length + 1 - (i+1)) (by omega) ⟨i+1, p.1 + p.2, out ++ [(a, p.1 - a)], rfl, by simp; omega, ⟨by omega, by omega⟩, hrest _ (by simpa using hgo), ?_, ?_⟩
            · rw [wrap64 (by omega) (by omega)]; simp; try rfl
            simp [eObj]; try rfl)
       intro h50
       simp at h50; omega
     intro h30
     simp at h30; omega
   intro h23
   simp at h23; omega
 · skip
   have w2 : IntKind.i64.wrap (to - a) = to - a := wrap64 (by omega) (by omega)
   have e1 : (out.length + 1) * 16 ≤ 140737488355328 := by omega
   have e2 : out.length ≤ 140737488355327 := by omega
   refine W_seq ?_
   refine xU ?_
   iterate 4 refine xO ?_
   refine xE [1,2,9,10,11,23] fun _ => ?_
   refine W_cond rfl ?_ ?_
   · intro h23
     refine W_skip ?_
     rintro -
     refine W_seq ?_
     refine W_block ?_
     refine xU ?_
     iterate 2 refine xO ?_
     refine xE [1,2,9,10,11,12] fun _ => ?_
     refine W_seq ?_
     refine xU ?_
     iterate 4 refine xO ?_
     refine xE [1,2,9,10,11,12,30] fun _ => ?_
     refine W_cond rfl ?_ ?_
     · intro h30
       simp at h30
     intro h30
     refine W_skip ?_
     rintro -
     refine W_seq ?_
     refine xU ?_
     iterate 3 refine xO ?_
     refine xE [1,2,9,10,11,12,38] fun _ => ?_
     refine W_cond rfl ?_ ?_
     · intro h38
       have hge : gapE a to = [(a, to - a)] := by unfold gapE; rw [if_pos (by simpa using h38)]
       refine W_reg rfl ?_
       iterate 4 refine xO ?_
       refine xO ?_ (h := by simp [w2]; exact .mk)
       refine xO ?_ (h := by simp [splice]; exact .mk)
       refine xO ?_
       refine xO ?_ (h := by simp [rows, e1, e2]; exact .mk)
       refine xO ?_
       refine xE [1,2,9,10,11] ?_
       refine xT ?_
       iterate 4 refine xO ?_
       refine xE [1,2,9,10,11,50] fun _ => ?_
       refine W_cond rfl ?_ ?_
       · intro h50
         simp at h50
       intro h50
       refine W_skip ?_
       rintro -
       refine W_reg rfl ?_
       iterate 3 refine xO ?_
       refine xE [1,2,9,10,11] ?_
       refine rounds_kill [1,2,9,10,11] ?_
       rw [hge] at hgo
       first
       | (refine rounds_kills [1,2,9,10,11] rfl ?_
          refine rounds_next (m' := 0) (by omega) ⟨l.length+1, a, out, by omega, by omega, ha, .inr (.inr ⟨rfl, by simpa using hgo⟩), ?_, rfl⟩
          rw [wrap64 (by omega) (by omega)]; rfl)
       | (refine rounds_kills [1,2,9,10,11] rfl ?_
          refine rounds_swap 0 2 1 (by decide) (by simp) (by decide) rfl rfl ?_
          refine rounds_drop 1 [1,2,9,10,11] (by decide) (by rfl) (by rfl) ?_
          refine rounds_next (m' := 0) (by omega) ⟨l.length+1, a, out ++ [(a, to - a)], by omega, by simp; omega, ha, .inr (.inr ⟨rfl, hgo⟩), ?_, ?_⟩
          · rw [wrap64 (by omega) (by omega)]; simp; try rfl
          simp [eObj]; try rfl)
     intro h38
     have hge : gapE a to = [] := by unfold gapE; rw [if_neg (by simpa using h38)]
     refine W_skip ?_
     refine xT ?_
     iterate 4 refine xO ?_
     refine xE [1,2,9,10,11,50] fun _ => ?_
     refine W_cond rfl ?_ ?_
     · intro h50
       simp at h50
     intro h50
     refine W_skip ?_
     rintro -
     refine W_reg rfl ?_
     iterate 3 refine xO ?_
     refine xE [1,2,9,10,11] ?_
     refine rounds_kill [1,2,9,10,11] ?_
     rw [hge] at hgo
     first
     | (refine rounds_kills [1,2,9,10,11] rfl ?_
        refine rounds_next (m' := 0) (by omega) ⟨l.length+1, a, out, by omega, by omega, ha, .inr (.inr ⟨rfl, by simpa using hgo⟩), ?_, rfl⟩
        rw [wrap64 (by omega) (by omega)]; rfl)
     | (refine rounds_kills [1,2,9,10,11] rfl ?_
        refine rounds_swap 0 2 1 (by decide) (by simp) (by decide) rfl rfl ?_
        refine rounds_drop 1 [1,2,9,10,11] (by decide) (by rfl) (by rfl) ?_
        refine rounds_next (m' := 0) (by omega) ⟨l.length+1, a, out ++ [(a, to - a)], by omega, by simp; omega, ha, .inr (.inr ⟨rfl, hgo⟩), ?_, ?_⟩
        · rw [wrap64 (by omega) (by omega)]; simp; try rfl
        simp [eObj]; try rfl)
   intro h23
   simp at h23
 skip
 skip
 refine W_seq ?_
 refine xU ?_
 iterate 4 refine xO ?_
 refine xE [1,2,9,10,11,23] fun _ => ?_
 refine W_cond rfl ?_ ?_
 · intro h23
   simp at h23; omega
 intro h23
 subst hgo
 refine W_exit ?_
 refine xT ?_
 iterate 3 refine xO ?_
 refine xE [6,7] fun _ => ?_
 refine W_ret ?_
 refine xR (by simp [Tryz.f105]; exact .mk) ?_
 simp [Tryz.f105, hr, ownR]; try rfl

theorem ct106 (g : Gl) (l : List (Int × Int)) (hl : l.length ≤ 2^40) (size : Int) : CtAt Tryz.prog g 106 [rO l, vI size] (.tup [eObj ((bestS l size).getD (0, 0)), .v (.bool (bestS l size).isSome)]) := by
 refine ctAt_of_W Tryz.func106 rfl rfl (Nat.le_of_ble_eq_true rfl) fun B S => ?_
 refine xU ?_
 iterate 2 refine xO ?_
 refine xE [0,1,4] ?_
 refine xT ?_
 refine xO ?_
 refine xE [0,1,4,6] fun _ => ?_
 refine W_seq ?_
 refine xU ?_
 refine xO ?_
 refine xE [0,1,4,6,7] fun _ => ?_
 refine W_block ?_
 refine W_rounds (fun m σ o => ∃ (i : Nat) (k : Int), m = l.length - i ∧ i ≤ l.length ∧ ((k = -1 ∧ bestS (l.take i) size = none) ∨ ∃ q : Nat, k = q ∧ q < l.length ∧ bestS (l.take i) size = some (nth l q)) ∧ σ = slots [(0, .d (rO l)), (1, .d (vI size)), (4, .ptr 0 0 0), (6, .d (vI k)), (7, .d (vI i))] ∧ o = [.var 115 [.d (vI 0), .d (vI 0)]]) l.length .refl ⟨0, -1, by simp, by simp, .inl ⟨rfl, rfl⟩, rfl, rfl⟩ ?_
 rintro m σ o ⟨i, k, rfl, hi, ⟨rfl, hfo⟩ | ⟨q, rfl, hq, hfo⟩, rfl, rfl⟩ _
 · skip
   skip
   refine W_seq ?_
   refine xU ?_
   iterate 4 refine xO ?_
   refine xE [0,1,4,6,7,11] fun _ => ?_
   refine W_cond rfl ?_ ?_
   · intro h11
     have hi2 : i < l.length := by simpa using h11
     have hst := bestS_step (size := size) hi2
     rw [hfo] at hst
     refine W_skip ?_
     rintro -
     refine W_seq ?_
     refine W_block ?_
     refine W_seq ?_
     refine xU ?_
     iterate 2 refine xO ?_
     refine xO ?_ (h := by simp [eObj, hi2]; exact .mk)
     refine xO ?_
     refine xO ?_ (h := by simp [-List.getElem?_map, map_get hi2, eObj]; exact .mk)
     iterate 2 refine xO ?_
     refine xE [0,1,4,6,7,20] fun _ => ?_
     refine W_cond rfl ?_ ?_
     · intro h20
       have hst2 : bestS (l.take (i + 1)) size = bestS (l.take i) size := by rw [hst, hfo]; unfold bestStep; rw [if_neg]; simp at h20 ⊢; omega
       rw [hfo] at hst2
       refine W_exit ?_
       rintro -
       refine W_reg rfl ?_
       iterate 3 refine xO ?_
       refine xE [0,1,4,6,7] ?_
       refine rounds_kill [0,1,4,6,7] ?_
       first
       | exact rounds_next (m' := l.length - (i+1)) (by omega) ⟨i+1, i, rfl, by omega, .inr ⟨i, rfl, hi2, hst2⟩, by rw [wrap64 (by omega) (by omega)]; rfl, rfl⟩
       | exact rounds_next (m' := l.length - (i+1)) (by omega) ⟨i+1, -1, rfl, by omega, .inl ⟨rfl, hst2⟩, by rw [wrap64 (by omega) (by omega)]; rfl, rfl⟩
       | exact rounds_next (m' := l.length - (i+1)) (by omega) ⟨i+1, q, rfl, by omega, .inr ⟨q, rfl, hq, hst2⟩, by rw [wrap64 (by omega) (by omega)]; rfl, rfl⟩
     intro h20
     have hsz : size ≤ (nth l i).2 := by simp at h20; omega
     refine W_skip ?_
     rintro -
     refine W_seq ?_
     refine W_regD (by kernel_rfl) [] 4 [0,1,2,3,4,5,6,7,8,9,10,11,12,13,14,15,16,17,18,19,20,21,22,23,24,25,26,27,28,29,30,31,32,33,34,35,36,37,38,39,40] (by decide +kernel) ?_
     iterate 3 refine xO ?_
     iterate 11 (refine run_not (av := .d (.v (.bool false))) rfl (by simp; exact .mk) rfl ?_)
     refine xP ?_
     refine xB ?_
     iterate 24 (refine run_not (av := .d (.v (.bool false))) rfl (by simp; exact .mk) rfl ?_)
     refine xP ?_
     refine xE [0,1,4,6,7,61] fun _ => ?_
     refine W_cond rfl ?_ ?_
     · intro h61
       have hst2 : bestS (l.take (i + 1)) size = some (nth l i) := by rw [hst]; unfold bestStep; rw [if_pos]; simp [betterS] at h61 ⊢ <;> omega
       refine W_reg rfl ?_
       iterate 2 refine xO ?_
       refine xE [0,1,4,6,7] fun _ => ?_
       refine W_reg rfl ?_
       iterate 3 refine xO ?_
       refine xE [0,1,4,6,7] ?_
       refine rounds_kill [0,1,4,6,7] ?_
       first
       | exact rounds_next (m' := l.length - (i+1)) (by omega) ⟨i+1, i, rfl, by omega, .inr ⟨i, rfl, hi2, hst2⟩, by rw [wrap64 (by omega) (by omega)]; rfl, rfl⟩
       | exact rounds_next (m' := l.length - (i+1)) (by omega) ⟨i+1, -1, rfl, by omega, .inl ⟨rfl, hst2⟩, by rw [wrap64 (by omega) (by omega)]; rfl, rfl⟩
       | exact rounds_next (m' := l.length - (i+1)) (by omega) ⟨i+1, q, rfl, by omega, .inr ⟨q, rfl, hq, hst2⟩, by rw [wrap64 (by omega) (by omega)]; rfl, rfl⟩
     intro h61
     have hst2 : bestS (l.take (i + 1)) size = bestS (l.take i) size := by rw [hst, hfo]; unfold bestStep; rw [if_neg]; simp [betterS] at h61 ⊢ <;> omega
     rw [hfo] at hst2
     refine W_skip ?_
     rintro -
     refine W_reg rfl ?_
     iterate 3 refine xO ?_
     refine xE [0,1,4,6,7] ?_
     refine rounds_kill [0,1,4,6,7] ?_
     first
     | exact rounds_next (m' := l.length - (i+1)) (by omega) ⟨i+1, i, rfl, by omega, .inr ⟨i, rfl, hi2, hst2⟩, by rw [wrap64 (by omega) (by omega)]; rfl, rfl⟩
     | exact rounds_next (m' := l.length - (i+1)) (by omega) ⟨i+1, -1, rfl, by omega, .inl ⟨rfl, hst2⟩, by rw [wrap64 (by omega) (by omega)]; rfl, rfl⟩
     | exact rounds_next (m' := l.length - (i+1)) (by omega) ⟨i+1, q, rfl, by omega, .inr ⟨q, rfl, hq, hst2⟩, by rw [wrap64 (by omega) (by omega)]; rfl, rfl⟩
   intro h11
   obtain rfl : i = l.length := by simp at h11; omega
   rw [List.take_length] at hfo
   refine W_exit ?_
   rintro -
   refine W_seq ?_
   refine xU ?_
   iterate 2 refine xO ?_
   refine xE [0,4,6,64] fun _ => ?_
   refine W_cond rfl ?_ ?_
   · intro h64
     refine xU ?_
     iterate 2 (refine xO ?_ (h := by simp [splice]; exact .mk))
     refine xO ?_
     refine xE [4,5] fun _ => ?_
     refine W_ret ?_
     refine xR (by simp [Tryz.f106]; exact .mk) ?_
     simp [Tryz.f106, hfo, eObj]
   intro h64
   simp at h64
 skip
 skip
 refine W_seq ?_
 refine xU ?_
 iterate 4 refine xO ?_
 refine xE [0,1,4,6,7,11] fun _ => ?_
 refine W_cond rfl ?_ ?_
 · intro h11
   have hi2 : i < l.length := by simpa using h11
   have hst := bestS_step (size := size) hi2
   rw [hfo] at hst
   refine W_skip ?_
   rintro -
   refine W_seq ?_
   refine W_block ?_
   refine W_seq ?_
   refine xU ?_
   iterate 2 refine xO ?_
   refine xO ?_ (h := by simp [eObj, hi2]; exact .mk)
   refine xO ?_
   refine xO ?_ (h := by simp [-List.getElem?_map, map_get hi2, eObj]; exact .mk)
   iterate 2 refine xO ?_
   refine xE [0,1,4,6,7,20] fun _ => ?_
   refine W_cond rfl ?_ ?_
   · intro h20
     have hst2 : bestS (l.take (i + 1)) size = bestS (l.take i) size := by rw [hst, hfo]; unfold bestStep; rw [if_neg]; simp at h20 ⊢; omega
     rw [hfo] at hst2
     refine W_exit ?_
     rintro -
     refine W_reg rfl ?_
     iterate 3 refine xO ?_
     refine xE [0,1,4,6,7] ?_
     refine rounds_kill [0,1,4,6,7] ?_
     first
     | exact rounds_next (m' := l.length - (i+1)) (by omega) ⟨i+1, i, rfl, by omega, .inr ⟨i, rfl, hi2, hst2⟩, by rw [wrap64 (by omega) (by omega)]; rfl, rfl⟩
     | exact rounds_next (m' := l.length - (i+1)) (by omega) ⟨i+1, -1, rfl, by omega, .inl ⟨rfl, hst2⟩, by rw [wrap64 (by omega) (by omega)]; rfl, rfl⟩
     | exact rounds_next (m' := l.length - (i+1)) (by omega) ⟨i+1, q, rfl, by omega, .inr ⟨q, rfl, hq, hst2⟩, by rw [wrap64 (by omega) (by omega)]; rfl, rfl⟩
   intro h20
   have hsz : size ≤ (nth l i).2 := by simp at h20; omega
   refine W_skip ?_
   rintro -
   refine W_seq ?_
   refine W_regD (by kernel_rfl) [] 4 [0,1,2,3,4,5,6,7,8,9,10,11,12,13,14,15,16,17,18,19,20,21,22,23,24,25,26,27,28,29,30,31,32,33,34,35,36,37,38,39,40] (by decide +kernel) ?_
   iterate 3 refine xO ?_
   iterate 2 refine xI ?_
   refine run_if rfl (by simp; exact .mk) rfl (by simp <;> first | omega | grind) (fun hb => by simp [eObj, hi2]; exact .mk) ?_
   refine xI ?_
   refine run_if rfl (by simp; exact .mk) rfl (by simp <;> first | omega | grind) (fun hb => by simp [-List.getElem?_map, map_get hi2, eObj]; exact .mk) ?_
   iterate 2 refine xI ?_
   refine run_if rfl (by simp; exact .mk) rfl (by simp <;> first | omega | grind) (fun hb => by simp [eObj, hq]; exact .mk) ?_
   refine xI ?_
   refine run_if rfl (by simp; exact .mk) rfl (by simp <;> first | omega | grind) (fun hb => by simp [-List.getElem?_map, map_get hq, eObj]; exact .mk) ?_
   refine xI ?_
   refine xP ?_
   refine xB ?_
   iterate 2 refine xI ?_
   refine run_if rfl (by simp; exact .mk) rfl (by simp <;> first | omega | grind) (fun hb => by simp [eObj, hi2]; exact .mk) ?_
   refine xI ?_
   refine run_if rfl (by simp; exact .mk) rfl (by simp <;> first | omega | grind) (fun hb => by simp [-List.getElem?_map, map_get hi2, eObj]; exact .mk) ?_
   iterate 2 refine xI ?_
   refine run_if rfl (by simp; exact .mk) rfl (by simp <;> first | omega | grind) (fun hb => by simp [eObj, hq]; exact .mk) ?_
   refine xI ?_
   refine run_if rfl (by simp; exact .mk) rfl (by simp <;> first | omega | grind) (fun hb => by simp [-List.getElem?_map, map_get hq, eObj]; exact .mk) ?_
   iterate 4 refine xI ?_
   refine run_if rfl (by simp; exact .mk) rfl (by simp <;> first | omega | grind) (fun hb => by simp [eObj, hi2]; exact .mk) ?_
   refine xI ?_
   refine run_if rfl (by simp; exact .mk) rfl (by simp <;> first | omega | grind) (fun hb => by simp [-List.getElem?_map, map_get hi2, eObj]; exact .mk) ?_
   iterate 2 refine xI ?_
   refine run_if rfl (by simp; exact .mk) rfl (by simp <;> first | omega | grind) (fun hb => by simp [eObj, hq]; exact .mk) ?_
   refine xI ?_
   refine run_if rfl (by simp; exact .mk) rfl (by simp <;> first | omega | grind) (fun hb => by simp [-List.getElem?_map, map_get hq, eObj]; exact .mk) ?_
   refine xI ?_
   iterate 2 refine xP ?_
   refine xE [0,1,4,6,7,61] fun _ => ?_
   refine W_cond rfl ?_ ?_
   · intro h61
     have hst2 : bestS (l.take (i + 1)) size = some (nth l i) := by rw [hst]; unfold bestStep; rw [if_pos]; simp [betterS] at h61 ⊢ <;> omega
     refine W_reg rfl ?_
     iterate 2 refine xO ?_
     refine xE [0,1,4,6,7] fun _ => ?_
     refine W_reg rfl ?_
     iterate 3 refine xO ?_
     refine xE [0,1,4,6,7] ?_
     refine rounds_kill [0,1,4,6,7] ?_
     first
     | exact rounds_next (m' := l.length - (i+1)) (by omega) ⟨i+1, i, rfl, by omega, .inr ⟨i, rfl, hi2, hst2⟩, by rw [wrap64 (by omega) (by omega)]; rfl, rfl⟩
     | exact rounds_next (m' := l.length - (i+1)) (by omega) ⟨i+1, -1, rfl, by omega, .inl ⟨rfl, hst2⟩, by rw [wrap64 (by omega) (by omega)]; rfl, rfl⟩
     | exact rounds_next (m' := l.length - (i+1)) (by omega) ⟨i+1, q, rfl, by omega, .inr ⟨q, rfl, hq, hst2⟩, by rw [wrap64 (by omega) (by omega)]; rfl, rfl⟩
   intro h61
   have hst2 : bestS (l.take (i + 1)) size = bestS (l.take i) size := by rw [hst, hfo]; unfold bestStep; rw [if_neg]; simp [betterS] at h61 ⊢ <;> omega
   rw [hfo] at hst2
   refine W_skip ?_
   rintro -
   refine W_reg rfl ?_
   iterate 3 refine xO ?_
   refine xE [0,1,4,6,7] ?_
   refine rounds_kill [0,1,4,6,7] ?_
   first
   | exact rounds_next (m' := l.length - (i+1)) (by omega) ⟨i+1, i, rfl, by omega, .inr ⟨i, rfl, hi2, hst2⟩, by rw [wrap64 (by omega) (by omega)]; rfl, rfl⟩
   | exact rounds_next (m' := l.length - (i+1)) (by omega) ⟨i+1, -1, rfl, by omega, .inl ⟨rfl, hst2⟩, by rw [wrap64 (by omega) (by omega)]; rfl, rfl⟩
   | exact rounds_next (m' := l.length - (i+1)) (by omega) ⟨i+1, q, rfl, by omega, .inr ⟨q, rfl, hq, hst2⟩, by rw [wrap64 (by omega) (by omega)]; rfl, rfl⟩
 intro h11
 obtain rfl : i = l.length := by simp at h11; omega
 rw [List.take_length] at hfo
 refine W_exit ?_
 rintro -
 refine W_seq ?_
 refine xU ?_
 iterate 2 refine xO ?_
 refine xE [0,4,6,64] fun _ => ?_
 refine W_cond rfl ?_ ?_
 · intro h64
   simp at h64; omega
 intro h64
 refine W_skip ?_
 refine xT ?_
 iterate 2 refine xO ?_
 refine xO ?_ (h := by simp [eObj, hq]; exact .mk)
 refine xO ?_ (h := by simp [-List.getElem?_map, map_get hq, eObj]; exact .mk)
 refine xO ?_ (h := by simp [splice]; exact .mk)
 refine xO ?_
 refine xE [4,5] fun _ => ?_
 refine W_ret ?_
 refine xR (by simp [Tryz.f106]; exact .mk) ?_
 simp [Tryz.f106, hfo, eObj]

open Go.Awp
/- The first rune of a text, as the document says. -/
def bt (s : ByteArray) (k : Nat) : Nat := (s.data.toList.getD k 0).toNat
theorem bt_lt (s : ByteArray) (k : Nat) : bt s k < 256 := UInt8.toNat_lt _
theorem get_bt (s : ByteArray) (k : Nat) : (s.get! k).toNat = bt s k := by
 unfold bt
 show (s.data[k]!).toNat = _
 congr 1
 rw [List.getD_eq_getElem?_getD, Array.getElem?_toList, getElem!_def]
 cases s.data[k]? <;> rfl
def clsN (b : Nat) : Nat × Nat × Nat := if 194 ≤ b ∧ b < 224 then (2, 128, 192) else if 224 ≤ b ∧ b < 240 then (3, 2048, 224) else if 240 ≤ b ∧ b < 245 then (4, 65536, 240) else (0, 0, 0)
def contB (b : Nat) : Bool := decide (128 ≤ b ∧ b < 192)
def accR (s : ByteArray) (a : Int) : Nat → Int
 | 0 => a
 | i + 1 => accR s a i * 64 + bt s (i + 1) - 128
def badR (a : Int) (least : Nat) : Bool := decide (a < least ∨ 1114111 < a ∨ (55296 ≤ a ∧ a ≤ 57343))
def runeR (s : ByteArray) : Int × Int :=
 if bt s 0 < 128 then (bt s 0, 1)
 else if (clsN (bt s 0)).1 = 0 ∨ s.size < (clsN (bt s 0)).1 then (0, 0)
 else if (List.range ((clsN (bt s 0)).1 - 1)).all (fun i => contB (bt s (i + 1))) = true then
  (if badR (accR s ((bt s 0 : Int) - (clsN (bt s 0)).2.2) ((clsN (bt s 0)).1 - 1)) (clsN (bt s 0)).2.1 = true then (0, 0) else (accR s ((bt s 0 : Int) - (clsN (bt s 0)).2.2) ((clsN (bt s 0)).1 - 1), (clsN (bt s 0)).1))
 else (0, 0)
theorem clsN_cases (b : Nat) : (194 ≤ b ∧ b < 224 ∧ clsN b = (2, 128, 192)) ∨ (224 ≤ b ∧ b < 240 ∧ clsN b = (3, 2048, 224)) ∨ (240 ≤ b ∧ b < 245 ∧ clsN b = (4, 65536, 240)) ∨ ((b < 194 ∨ 245 ≤ b) ∧ clsN b = (0, 0, 0)) := by
 unfold clsN
 by_cases h1 : 194 ≤ b ∧ b < 224
 · rw [if_pos h1]; exact .inl ⟨h1.1, h1.2, rfl⟩
 · rw [if_neg h1]
   by_cases h2 : 224 ≤ b ∧ b < 240
   · rw [if_pos h2]; exact .inr (.inl ⟨h2.1, h2.2, rfl⟩)
   · rw [if_neg h2]
     by_cases h3 : 240 ≤ b ∧ b < 245
     · rw [if_pos h3]; exact .inr (.inr (.inl ⟨h3.1, h3.2, rfl⟩))
     · rw [if_neg h3]; exact .inr (.inr (.inr ⟨by omega, rfl⟩))
theorem runeR_k {s : ByteArray} {k le ba : Nat} (h0 : ¬ bt s 0 < 128) (e : clsN (bt s 0) = (k, le, ba)) (hk : k ≠ 0) : runeR s = if s.size < k then (0, 0) else if (List.range (k - 1)).all (fun i => contB (bt s (i + 1))) = true then (if badR (accR s ((bt s 0 : Int) - ba) (k - 1)) le = true then (0, 0) else (accR s ((bt s 0 : Int) - ba) (k - 1), (k : Int))) else (0, 0) := by
 unfold runeR
 rw [if_neg h0, e]
 simp only
 by_cases h : s.size < k
 · rw [if_pos (.inr h), if_pos h]
 · rw [if_neg (by omega), if_neg h]
theorem pair_alt {r : Int × Int} {d : Nat × Nat} (h : (r = (0, 0) ∧ d.1 = 65533) ∨ (r = ((d.1 : Int), (d.2 : Int)) ∧ d.2 ≠ 0)) : (r.2 = 0 ∧ d.1 = 65533) ∨ (r.2 ≠ 0 ∧ r.1 = d.1 ∧ r.2 = d.2) := by
 rcases h with ⟨rfl, h⟩ | ⟨rfl, h⟩
 · exact .inl ⟨rfl, h⟩
 · exact .inr ⟨by simpa using h, rfl, rfl⟩
theorem runeR_decode {s : ByteArray} (h : 0 < s.size) : ((runeR s).2 = 0 ∧ (Utf8.decode s 0).1 = 65533) ∨ ((runeR s).2 ≠ 0 ∧ (runeR s).1 = (Utf8.decode s 0).1 ∧ (runeR s).2 = (Utf8.decode s 0).2) := by
 apply pair_alt
 have l0 := bt_lt s 0
 have l1 := bt_lt s 1
 have l2 := bt_lt s 2
 have l3 := bt_lt s 3
 unfold Utf8.decode
 simp only [Nat.zero_add, get_bt, Utf8.valid, Utf8.runeError]
 by_cases h0 : bt s 0 < 128
 · rw [if_pos h0]; right; unfold runeR; rw [if_pos h0]; exact ⟨rfl, by simp⟩
 have hn0 := h0
 rw [if_neg h0]
 rcases clsN_cases (bt s 0) with ⟨a1, a2, e⟩ | ⟨a1, a2, e⟩ | ⟨a1, a2, e⟩ | ⟨a1, e⟩
 · rw [runeR_k h0 e (by decide)]
   have hall : (List.range (2 - 1)).all (fun i => contB (bt s (i + 1))) = contB (bt s 1) := by simp [List.range_succ]
   have hacc : accR s ((bt s 0 : Int) - (192 : Nat)) (2 - 1) = ((bt s 0 : Int) - 192) * 64 + bt s 1 - 128 := rfl
   rw [hall, hacc]
   generalize bt s 0 = b0 at *
   generalize bt s 1 = b1 at *
   have d1 : b0 / 32 = 6 := by omega
   have d2 : b0 / 16 ≠ 14 := by omega
   have d3 : b0 / 8 ≠ 30 := by omega
   simp only [d1, d2, d3, contB, badR, beq_iff_eq, Bool.and_eq_true, decide_eq_true_eq, true_and, false_and, if_false, BEq.rfl]
   by_cases hz : 1 < s.size ∧ b1 / 64 = 2
   · rw [if_pos hz, if_neg (by omega), if_pos (by omega), if_neg (by omega), if_pos (by omega)]
     right; constructor
     · exact Prod.ext (by show _ = ((b0 % 32 * 64 + b1 % 64 : Nat) : Int); omega) rfl
     · show (2 : Nat) ≠ 0; decide
   · rw [if_neg hz]; left
     refine ⟨?_, rfl⟩
     by_cases hs : s.size < 2
     · rw [if_pos hs]
     · rw [if_neg hs, if_neg (by omega)]
 · rw [runeR_k h0 e (by decide)]
   have hall : (List.range (3 - 1)).all (fun i => contB (bt s (i + 1))) = (contB (bt s 1) && contB (bt s 2)) := by simp [List.range_succ]
   have hacc : accR s ((bt s 0 : Int) - (224 : Nat)) (3 - 1) = (((bt s 0 : Int) - 224) * 64 + bt s 1 - 128) * 64 + bt s 2 - 128 := rfl
   rw [hall, hacc]
   generalize bt s 0 = b0 at *
   generalize bt s 1 = b1 at *
   generalize bt s 2 = b2 at *
   have d1 : b0 / 32 ≠ 6 := by omega
   have d2 : b0 / 16 = 14 := by omega
   have d3 : b0 / 8 ≠ 30 := by omega
   simp only [d1, d2, d3, contB, badR, beq_iff_eq, Bool.and_eq_true, Bool.or_eq_true, decide_eq_true_eq, true_and, false_and, if_false, BEq.rfl]
   by_cases hz : (1 < s.size ∧ b1 / 64 = 2) ∧ 2 < s.size ∧ b2 / 64 = 2
   · rw [if_pos hz, if_neg (by omega), if_pos (by omega)]
     by_cases hb : (((b0 : Int) - 224) * 64 + b1 - 128) * 64 + b2 - 128 < (2048 : Nat) ∨ 1114111 < (((b0 : Int) - 224) * 64 + b1 - 128) * 64 + b2 - 128 ∨ 55296 ≤ (((b0 : Int) - 224) * 64 + b1 - 128) * 64 + b2 - 128 ∧ (((b0 : Int) - 224) * 64 + b1 - 128) * 64 + b2 - 128 ≤ 57343
     · rw [if_pos hb, if_neg (by omega)]; exact .inl ⟨rfl, rfl⟩
     · rw [if_neg hb, if_pos (by omega)]
       right; constructor
       · exact Prod.ext (by show _ = ((b0 % 16 * 4096 + b1 % 64 * 64 + b2 % 64 : Nat) : Int); omega) rfl
       · show (3 : Nat) ≠ 0; decide
   · rw [if_neg hz]; left
     refine ⟨?_, rfl⟩
     by_cases hs : s.size < 3
     · rw [if_pos hs]
     · rw [if_neg hs, if_neg (by omega)]
 · rw [runeR_k h0 e (by decide)]
   have hall : (List.range (4 - 1)).all (fun i => contB (bt s (i + 1))) = (contB (bt s 1) && (contB (bt s 2) && contB (bt s 3))) := by simp [List.range_succ, Bool.and_assoc]
   have hacc : accR s ((bt s 0 : Int) - (240 : Nat)) (4 - 1) = ((((bt s 0 : Int) - 240) * 64 + bt s 1 - 128) * 64 + bt s 2 - 128) * 64 + bt s 3 - 128 := rfl
   rw [hall, hacc]
   generalize bt s 0 = b0 at *
   generalize bt s 1 = b1 at *
   generalize bt s 2 = b2 at *
   generalize bt s 3 = b3 at *
   have d1 : b0 / 32 ≠ 6 := by omega
   have d2 : b0 / 16 ≠ 14 := by omega
   have d3 : b0 / 8 = 30 := by omega
   obtain ⟨A, hA⟩ : ∃ A : Int, A = ((((b0 : Int) - 240) * 64 + b1 - 128) * 64 + b2 - 128) * 64 + b3 - 128 := ⟨_, rfl⟩
   rw [← hA]
   simp only [d1, d2, d3, contB, badR, beq_iff_eq, Bool.and_eq_true, Bool.or_eq_true, decide_eq_true_eq, true_and, false_and, if_false, BEq.rfl]
   by_cases hz : ((1 < s.size ∧ b1 / 64 = 2) ∧ 2 < s.size ∧ b2 / 64 = 2) ∧ 3 < s.size ∧ b3 / 64 = 2
   · rw [if_pos hz, if_neg (by omega), if_pos (by omega)]
     have hv : ((b0 % 8 * 262144 + b1 % 64 * 4096 + b2 % 64 * 64 + b3 % 64 : Nat) : Int) = A := by omega
     by_cases hb : A < (65536 : Nat) ∨ 1114111 < A ∨ 55296 ≤ A ∧ A ≤ 57343
     · rw [if_pos hb, if_neg (by omega)]; exact .inl ⟨rfl, rfl⟩
     · rw [if_neg hb, if_pos (by omega)]
       right; constructor
       · exact Prod.ext (by show _ = ((b0 % 8 * 262144 + b1 % 64 * 4096 + b2 % 64 * 64 + b3 % 64 : Nat) : Int); omega) rfl
       · show (4 : Nat) ≠ 0; decide
   · rw [if_neg hz]; left
     refine ⟨?_, rfl⟩
     by_cases hs : s.size < 4
     · rw [if_pos hs]
     · rw [if_neg hs, if_neg (by omega)]
 · left
   have hr : runeR s = (0, 0) := by unfold runeR; rw [if_neg h0, if_pos (.inl (by rw [e]))]
   refine ⟨hr, ?_⟩
   generalize bt s 0 = b0 at *
   generalize bt s 1 = b1 at *
   generalize bt s 2 = b2 at *
   generalize bt s 3 = b3 at *
   simp only [beq_iff_eq, Bool.and_eq_true, Bool.or_eq_true, decide_eq_true_eq]
   repeat' split
   all_goals first | rfl | omega
open Go.Awp
theorem btF3 {s : ByteArray} {k : Nat} (h : k < s.data.size) : s.data[k].toNat = bt s k := by rw [bt, List.getD_eq_getElem?_getD, Array.getElem?_toList, Array.getElem?_eq_getElem h]; rfl
theorem runeR_le {s : ByteArray} (h : 0 < s.size) : (runeR s).2 ≤ s.size := by
 unfold runeR
 split
 · show (1 : Int) ≤ _; omega
 · split
   · show (0 : Int) ≤ _; omega
   · rename_i q
     split
     · split
       · show (0 : Int) ≤ _; omega
       · show (((clsN (bt s 0)).1 : Nat) : Int) ≤ _; omega
     · show (0 : Int) ≤ _; omega
theorem get_extract {t : ByteArray} {w p : Nat} (hw : w ≤ t.size) : (t.extract w t.size).get! p = t.get! (w + p) := by
 show (t.extract w t.size).data[p]! = t.data[w + p]!
 rw [ByteArray.data_extract, getElem!_def, getElem!_def, Array.getElem?_extract]
 have : t.data.size = t.size := rfl
 by_cases h : p < min t.size t.data.size - w
 · rw [if_pos h]
 · rw [if_neg h, Array.getElem?_eq_none (by omega)]
theorem decode_shift {t : ByteArray} {w p : Nat} (hw : w ≤ t.size) : Utf8.decode t (w + p) = Utf8.decode (t.extract w t.size) p := by
 unfold Utf8.decode
 have hs : (t.extract w t.size).size = t.size - w := by rw [ByteArray.size_extract]; omega
 have hc : ∀ k, decide (w + (p + k) < t.size) = decide (p + k < t.size - w) := fun k => decide_eq_decide.2 (by omega)
 simp only [get_extract hw, hs, Nat.add_assoc, hc]
theorem runesOk_shift {t : ByteArray} {w : Nat} (hw : w ≤ t.size) : ∀ (n p : Nat), t.size - (w + p) ≤ n → runesOk t (w + p) = runesOk (t.extract w t.size) p
 | n, p, hn => by
  have hs : (t.extract w t.size).size = t.size - w := by rw [ByteArray.size_extract]; omega
  conv => lhs; rw [runesOk]
  conv => rhs; rw [runesOk]
  rw [hs, decode_shift hw]
  by_cases h : w + p < t.size
  · rw [if_pos h, if_pos (by omega)]
    have hd := decode_pos (t.extract w t.size) p
    cases n with
    | zero => omega
    | succ n =>
     rw [Nat.add_assoc, runesOk_shift hw n (p + (Utf8.decode (t.extract w t.size) p).2) (by omega)]
  · rw [if_neg h, if_neg (by omega)]
theorem runesOk_step {t : ByteArray} (h : 0 < t.size) : ((runeR t).2 = 0 ∨ mayS (runeR t).1 = false → runesOk t 0 = false) ∧
    ((runeR t).2 ≠ 0 → mayS (runeR t).1 = true → ∃ w : Nat, (runeR t).2 = w ∧ 0 < w ∧ w ≤ t.size ∧ runesOk t 0 = runesOk (t.extract w t.size) 0) := by
 have hu : runesOk t 0 = (mayS (Utf8.decode t 0).1 && runesOk t (0 + (Utf8.decode t 0).2)) := by
  conv => lhs; rw [runesOk]
  rw [if_pos h]
 have hle := runeR_le h
 rcases runeR_decode h with ⟨h1, h2⟩ | ⟨h1, h2, h3⟩
 · refine ⟨fun _ => ?_, fun q => absurd h1 q⟩
   rw [hu, h2]; rfl
 · refine ⟨fun q => ?_, fun _ q => ?_⟩
   · rw [hu, ← h2, q.resolve_left h1]; rfl
   · refine ⟨(Utf8.decode t 0).2, h3, by omega, by omega, ?_⟩
     have := runesOk_shift (t := t) (w := (Utf8.decode t 0).2) (by omega) t.size 0 (by omega)
     rw [hu, ← h2, q, Nat.zero_add]; exact this
theorem nameS_long {s : ByteArray} (h : s.size < 1 ∨ 16 < s.size) : nameS s = false := by
 unfold nameS
 rcases h with h | h
 · have : s.toList = [] := by
    apply List.eq_nil_of_length_eq_zero
    have e := toList_size s
    omega
   simp [this]
 · simp [show ¬ (s.size : Int) ≤ 16 by omega]
theorem nameS_short {s : ByteArray} (h : 1 ≤ s.size ∧ s.size ≤ 16) : nameS s = runesOk s 0 := by
 unfold nameS
 have e := toList_size s
 have : s.toList ≠ [] := fun q => by rw [q] at e; simp at e; omega
 simp [this, show (s.size : Int) ≤ 16 by omega]
open Go.Awp
theorem ct203 (g : Gl) (s : ByteArray) (hs : 0 < s.size) : CtAt Tryz.prog g 203 [vS s] (.tup [vI (runeR s).1, vI (runeR s).2]) := by
 refine ctAt_of_W Tryz.func203 rfl rfl (Nat.le_of_ble_eq_true rfl) fun B S => ?_
 have wb : ∀ k, IntKind.i64.wrap (bt s k : Int) = bt s k := fun k => wrap64 (by have := bt_lt s k; omega) (by have := bt_lt s k; omega)
 have hb0 := bt_lt s 0
 refine xU ?_
 iterate 2 refine xO ?_
 refine xE [0] ?_
 refine xT ?_
 iterate 3 refine xO ?_
 refine xE [0,4] ?_
 refine xT ?_
 refine xO ?_
 refine xO ?_ (h := by simp [indexA, hs, btF3 (k := 0) hs]; exact .mk)
 refine xO ?_ (h := by simp [convA, isIntTy, wb]; exact .mk)
 refine xO ?_
 refine xE [0,4,5] fun _ => ?_
 refine W_seq ?_
 refine xU ?_
 iterate 2 refine xO ?_
 refine xE [0,4,5,16] fun _ => ?_
 refine W_cond rfl ?_ ?_
 · intro h16
   have hr : runeR s = ((bt s 0 : Int), 1) := by unfold runeR; rw [if_pos (by simp at h16; omega)]
   refine xU ?_
   iterate 3 refine xO ?_
   refine xE [2,3] fun _ => ?_
   refine W_ret ?_
   refine xR (by simp [Tryz.f203]; exact .mk) ?_
   simp [Tryz.f203, hr]
 intro h16
 have h0 : ¬ bt s 0 < 128 := by simp at h16; omega
 obtain ⟨k, le, ba, e⟩ : ∃ k le ba, clsN (bt s 0) = (k, le, ba) := ⟨_, _, _, rfl⟩
 have hcc := clsN_cases (bt s 0)
 rw [e] at hcc
 simp only [Prod.mk.injEq] at hcc
 refine W_skip ?_
 refine xT ?_
 refine xO ?_
 refine xE [0,4,5,6] ?_
 refine xT ?_
 refine xO ?_
 refine xE [0,4,5,6,7] fun _ => ?_
 refine W_seq ?_
 refine xU ?_
 iterate 3 refine xO ?_
 iterate 2 refine xI ?_
 refine xP ?_
 refine xE [0,4,5,6,7,23] fun _ => ?_
 refine W_joinW ([(0, .d (vS s)), (4, .d (vI s.size)), (5, .d (vI ((bt s 0 : Int) - ba))), (6, .d (vI k)), (7, .d (vI le))]) ([]) ?_ ?_
 · skip
   refine W_cond rfl ?_ ?_
   · intro h23
     obtain ⟨rfl, rfl, rfl⟩ : k = 2 ∧ le = 128 ∧ ba = 192 := by simp at h23; omega
     have w1 : IntKind.i64.wrap ((bt s 0 : Int) - 192) = (bt s 0 : Int) - 192 := wrap64 (by omega) (by omega)
     refine xU ?_
     refine xO ?_
     refine xE [0,4,5,6] ?_
     refine xT ?_
     refine xO ?_
     refine xE [0,4,5,6,7] fun _ => ?_
     refine W_reg rfl ?_
     refine xO ?_
     refine xO ?_ (h := by simp [w1]; exact .mk)
     refine xO ?_
     refine xE [0,4,5,6,7] ?_
     exact ⟨rfl, Weak.kills [0,4,5,6,7] (by simp)⟩
   intro h23
   refine xU ?_
   iterate 3 refine xO ?_
   iterate 2 refine xI ?_
   refine xP ?_
   refine xE [0,4,5,6,7,31] fun _ => ?_
   refine W_cond rfl ?_ ?_
   · intro h31
     obtain ⟨rfl, rfl, rfl⟩ : k = 3 ∧ le = 2048 ∧ ba = 224 := by simp at h31; omega
     have w1 : IntKind.i64.wrap ((bt s 0 : Int) - 224) = (bt s 0 : Int) - 224 := wrap64 (by omega) (by omega)
     refine xU ?_
     refine xO ?_
     refine xE [0,4,5,6] ?_
     refine xT ?_
     refine xO ?_
     refine xE [0,4,5,6,7] fun _ => ?_
     refine W_reg rfl ?_
     refine xO ?_
     refine xO ?_ (h := by simp [w1]; exact .mk)
     refine xO ?_
     refine xE [0,4,5,6,7] ?_
     exact ⟨rfl, Weak.kills [0,4,5,6,7] (by simp)⟩
   intro h31
   refine xU ?_
   iterate 3 refine xO ?_
   iterate 2 refine xI ?_
   refine xP ?_
   refine xE [0,4,5,6,7,39] fun _ => ?_
   refine W_cond rfl ?_ ?_
   · intro h39
     obtain ⟨rfl, rfl, rfl⟩ : k = 4 ∧ le = 65536 ∧ ba = 240 := by simp at h39; omega
     have w1 : IntKind.i64.wrap ((bt s 0 : Int) - 240) = (bt s 0 : Int) - 240 := wrap64 (by omega) (by omega)
     refine xU ?_
     refine xO ?_
     refine xE [0,4,5,6] ?_
     refine xT ?_
     refine xO ?_
     refine xE [0,4,5,6,7] fun _ => ?_
     refine W_reg rfl ?_
     refine xO ?_
     refine xO ?_ (h := by simp [w1]; exact .mk)
     refine xO ?_
     refine xE [0,4,5,6,7] ?_
     exact ⟨rfl, Weak.kills [0,4,5,6,7] (by simp)⟩
   intro h39
   obtain ⟨rfl, rfl, rfl⟩ : k = 0 ∧ le = 0 ∧ ba = 0 := by simp at *; omega
   refine W_skip ?_
   exact ⟨rfl, Weak.kills [0,4,5,6,7] (by simp)⟩
 rintro -
 refine W_seq ?_
 refine xU ?_
 iterate 3 refine xO ?_
 iterate 3 refine xI ?_
 refine xP ?_
 refine xE [0,5,6,7,48] fun _ => ?_
 refine W_cond rfl ?_ ?_
 · intro h48
   have hr : runeR s = (0, 0) := by unfold runeR; rw [if_neg h0, if_pos (by rw [e]; simp at h48; omega)]
   refine xU ?_
   iterate 2 refine xO ?_
   refine xE [2,3] fun _ => ?_
   refine W_ret ?_
   refine xR (by simp [Tryz.f203]; exact .mk) ?_
   simp [Tryz.f203, hr]
 intro h48
 have hk : k ≠ 0 ∧ k ≤ s.size := by simp at h48; omega
 have hr0 := runeR_k h0 e hk.1
 rw [if_neg (by omega)] at hr0
 have hk4 : 2 ≤ k ∧ k ≤ 4 ∧ (ba : Int) ≤ bt s 0 ∧ (bt s 0 : Int) - ba < 32 := by omega
 obtain ⟨a, ha⟩ : ∃ a : Int, a = (bt s 0 : Int) - ba := ⟨_, rfl⟩
 rw [← ha] at hr0 hk4 ⊢
 refine W_skip ?_
 rintro -
 refine W_seq ?_
 refine xU ?_
 refine xO ?_
 refine xE [0,5,6,7,8] fun _ => ?_
 refine W_block ?_
 refine W_rounds (fun m σ o => ∃ j : Nat, m = k - (j + 1) ∧ j + 1 ≤ k ∧ (∀ t, t < j → contB (bt s (t + 1)) = true) ∧ (0 ≤ accR s a j ∧ accR s a j < 32 * 64 ^ j) ∧ σ = slots [(0, .d (vS s)), (5, .d (vI (accR s a j))), (6, .d (vI k)), (7, .d (vI le)), (8, .d (vI ((j + 1 : Nat) : Int)))] ∧ o = []) (k - 1) .refl ⟨0, by simp, by omega, by simp, ⟨by show 0 ≤ a; omega, by show a < 32; omega⟩, rfl, rfl⟩ ?_
 rintro m σ o ⟨j, rfl, hj, hinv, hab, rfl, rfl⟩ _
 have hpw : (64 : Int) ^ j ≤ 64 ^ 3 := by exact_mod_cast Nat.pow_le_pow_right (by decide : 0 < 64) (by omega : j ≤ 3)
 refine W_seq ?_
 refine xU ?_
 iterate 3 refine xO ?_
 refine xE [0,5,6,7,8,51] fun _ => ?_
 refine W_cond rfl ?_ ?_
 · intro h51
   have hj2 : j + 1 < k := by simp at h51; omega
   have hj3 : j + 1 < s.size := by omega
   have hj4 : (j : Int) + 1 < s.size := by omega
   have hj5 : (0 : Int) ≤ (j : Int) + 1 := by omega
   have hj6 : ((j : Int) + 1).toNat = j + 1 := by omega
   have hbj := bt_lt s (j + 1)
   refine W_skip ?_
   rintro -
   refine W_seq ?_
   refine W_block ?_
   refine xU ?_
   iterate 2 refine xO ?_
   refine xO ?_ (h := by simp [indexA, hj3, hj4, hj5, hj6, btF3 hj3]; exact .mk)
   refine xO ?_ (h := by simp [convA, isIntTy, wb]; exact .mk)
   refine xO ?_
   refine xE [0,5,6,7,8,9] fun _ => ?_
   refine W_seq ?_
   refine xU ?_
   iterate 3 refine xO ?_
   iterate 2 refine xI ?_
   refine xP ?_
   refine xE [0,5,6,7,8,9,63] fun _ => ?_
   refine W_cond rfl ?_ ?_
   · intro h63
     have hr : runeR s = (0, 0) := by
      rw [hr0, if_neg]
      rw [all_bad (i := j) (by omega) (by simp [contB]; simp at h63; omega)]; simp
     refine xU ?_
     iterate 2 refine xO ?_
     refine xE [2,3] fun _ => ?_
     refine W_ret ?_
     refine xR (by simp [Tryz.f203]; exact .mk) ?_
     simp [Tryz.f203, hr]
   intro h63
   have hct : contB (bt s (j + 1)) = true := by simp [contB]; simp at h63; omega
   have hcb : 128 ≤ bt s (j + 1) ∧ bt s (j + 1) < 192 := by simpa [contB] using hct
   have w1 : IntKind.i64.wrap (accR s a j * 64) = accR s a j * 64 := wrap64 (by omega) (by omega)
   have w2 : IntKind.i64.wrap (accR s a j * 64 + bt s (j + 1)) = accR s a j * 64 + bt s (j + 1) := wrap64 (by omega) (by omega)
   have w3 : IntKind.i64.wrap (accR s a j * 64 + bt s (j + 1) - 128) = accR s a j * 64 + bt s (j + 1) - 128 := wrap64 (by omega) (by omega)
   refine W_skip ?_
   rintro -
   refine W_reg rfl ?_
   refine xO ?_
   refine xO ?_ (h := by simp [w1]; exact .mk)
   refine xO ?_
   refine xO ?_ (h := by simp [w2]; exact .mk)
   refine xO ?_ (h := by simp [w3]; exact .mk)
   refine xO ?_
   refine xE [0,5,6,7,8] fun _ => ?_
   refine W_reg rfl ?_
   iterate 3 refine xO ?_
   refine xE [0,5,6,7,8] ?_
   refine rounds_kill [0,5,6,7,8] ?_
   refine rounds_next (m' := k - (j+1+1)) (by omega) ⟨j+1, rfl, by omega, ?_, ?_, ?_, rfl⟩
   · intro t ht
     rcases Nat.lt_succ_iff_lt_or_eq.1 ht with ht | rfl
     · exact hinv t ht
     exact hct
   · have : accR s a (j + 1) = accR s a j * 64 + bt s (j + 1) - 128 := rfl
     have hp : (64 : Int) ^ (j + 1) = 64 ^ j * 64 := Int.pow_succ 64 j
     omega
   rw [wrap64 (by omega) (by omega)]; rfl
 intro h51
 obtain rfl : k = j + 1 := by simp at h51; omega
 have hall : (List.range (j + 1 - 1)).all (fun i => contB (bt s (i + 1))) = true := all_good (fun t ht => hinv t (by omega))
 rw [if_pos hall, Nat.add_sub_cancel] at hr0
 refine W_exit ?_
 rintro -
 refine W_seq ?_
 refine xU ?_
 iterate 4 refine xO ?_
 iterate 2 refine xI ?_
 refine xP ?_
 refine xB ?_
 iterate 5 refine xI ?_
 iterate 2 refine xP ?_
 refine xE [5,6,83] fun _ => ?_
 refine W_cond rfl ?_ ?_
 · intro h83
   have hr : runeR s = (0, 0) := by rw [hr0, if_pos]; simp [badR]; simp at h83; grind
   refine xU ?_
   iterate 2 refine xO ?_
   refine xE [2,3] fun _ => ?_
   refine W_ret ?_
   refine xR (by simp [Tryz.f203]; exact .mk) ?_
   simp [Tryz.f203, hr]
 intro h83
 have hr : runeR s = (accR s a j, ((j + 1 : Nat) : Int)) := by rw [hr0, if_neg]; simp [badR]; simp at h83; grind
 refine W_skip ?_
 refine xT ?_
 iterate 4 refine xO ?_
 refine xE [2,3] fun _ => ?_
 refine W_ret ?_
 refine xR (by simp [Tryz.f203]; exact .mk) ?_
 simp [Tryz.f203, hr]

theorem ct146 (g : Gl) (s : ByteArray) : CtAt Tryz.prog g 146 [vS s] (.v (.bool (nameS s))) := by
 refine ctAt_of_W Tryz.func146 rfl rfl (Nat.le_of_ble_eq_true rfl) fun B S => ?_
 refine xU ?_
 refine xO ?_
 refine xE [0] fun _ => ?_
 refine W_seq ?_
 refine xU ?_
 iterate 4 refine xO ?_
 iterate 3 refine xI ?_
 refine xP ?_
 refine xE [0,12] fun _ => ?_
 refine W_cond rfl ?_ ?_
 · intro h12
   have hr : nameS s = false := nameS_long (by simp at h12; omega)
   refine xU ?_
   refine xO ?_
   refine xE [2] fun _ => ?_
   refine W_ret ?_
   refine xR (by simp [Tryz.f146]; exact .mk) ?_
   simp [Tryz.f146, hr]
 intro h12
 have hsz : 1 ≤ s.size ∧ s.size ≤ 16 := by simp at h12; omega
 have hr0 := nameS_short hsz
 refine W_skip ?_
 rintro -
 refine W_seq ?_
 refine W_block ?_
 refine W_rounds (fun m σ o => ∃ t : ByteArray, m = t.size ∧ runesOk s 0 = runesOk t 0 ∧ σ = slots [(0, .d (vS t))] ∧ o = []) s.size (Weak.kills [0] rfl) ⟨s, rfl, rfl, rfl, rfl⟩ ?_
 rintro m σ o ⟨t, rfl, hro, rfl, rfl⟩ _
 refine W_seq ?_
 refine xU ?_
 iterate 3 refine xO ?_
 refine xE [0,15] fun _ => ?_
 refine W_cond rfl ?_ ?_
 · intro h15
   have ht0 : 0 < t.size := by simp at h15; omega
   obtain ⟨s1, s2⟩ := runesOk_step ht0
   refine W_skip ?_
   rintro -
   refine W_block ?_
   refine xU ?_
   refine xO ?_
   refine xC (ct203 g t ht0) ?_
   iterate 5 refine xO ?_
   refine xE [0,3,4] fun _ => ?_
   refine W_seq ?_
   refine xU ?_
   iterate 3 refine xO ?_
   iterate 2 refine xI ?_
   refine xP ?_
   refine xB ?_
   iterate 5 refine xI ?_
   iterate 2 refine xP ?_
   refine xB ?_
   iterate 2 refine xI ?_
   refine xP ?_
   refine xE [0,4,38] fun _ => ?_
   refine W_cond rfl ?_ ?_
   · intro h38
     have hr : nameS s = false := by rw [hr0, hro]; apply s1; simp [mayS]; simp at h38; grind
     refine xU ?_
     refine xO ?_
     refine xE [2] fun _ => ?_
     refine W_ret ?_
     refine xR (by simp [Tryz.f146]; exact .mk) ?_
     simp [Tryz.f146, hr]
   intro h38
   obtain ⟨w, w1, w2, w3, w4⟩ := s2 (by simp at h38; grind) (by simp [mayS]; simp at h38; grind)
   have w5 : (w : Int) ≤ t.size := by omega
   refine W_skip ?_
   rintro -
   refine W_reg rfl ?_
   iterate 2 refine xO ?_
   refine xO ?_ (h := by simp [sliceA, optA, w1, w3, w5]; exact .mk)
   refine xO ?_
   refine xE [0] ?_
   refine rounds_kill [0] ?_
   refine rounds_next (m' := (t.extract w t.size).size) (by have q1 : 0 < w := w2; have q2 : w ≤ t.size := w3; rw [ByteArray.size_extract, Nat.min_self]; omega) ⟨t.extract w t.size, rfl, by rw [hro, w4], rfl, rfl⟩
 intro h15
 have hz : ¬ 0 < t.size := by have q := of_decide_eq_false h15; omega
 have hr : nameS s = true := by
  rw [hr0, hro]
  conv => lhs; rw [runesOk]
  exact if_neg hz
 refine W_exit ?_
 refine xT ?_
 refine xO ?_
 refine xE [2] fun _ => ?_
 refine W_ret ?_
 refine xR (by simp [Tryz.f146]; exact .mk) ?_
 simp [Tryz.f146, hr]

theorem ct147 (g : Gl) (a b : Int) : CtAt Tryz.prog g 147 [.agg [vI a, vI b]] (.v (.bool (handleS a b))) := by
 refine ctAt_of_W Tryz.func147 rfl rfl (Nat.le_of_ble_eq_true rfl) fun B S => ?_
 simp only [List.map, argD_agg]
 refine xU ?_
 iterate 2 refine xO ?_
 refine xE [1] ?_
 refine xT ?_
 iterate 4 refine xO ?_
 iterate 3 refine xI ?_
 refine xP ?_
 refine xB ?_
 iterate 3 refine xI ?_
 refine xP ?_
 refine xB ?_
 iterate 3 refine xI ?_
 refine xP ?_
 refine xB ?_
 refine xE [2] fun _ => ?_
 refine W_ret ?_
 refine xR (by simp [Tryz.f147]; exact .mk) ?_
 first | (simp [Tryz.f147, handleS, Bool.and_assoc]; done) | (simp [Tryz.f147, handleS, Bool.and_assoc]; grind)

theorem ct148 (g : Gl) (l : List Root) (nm : ByteArray) (hl : l.length ≤ 2^40) : CtAt Tryz.prog g 148 [rR l, vS nm] (vI (firstS l nm)) := by
 refine ctAt_of_W Tryz.func148 rfl rfl (Nat.le_of_ble_eq_true rfl) fun B S => ?_
 refine xU ?_
 refine xO ?_
 refine xE [0,1] fun _ => ?_
 refine W_seq ?_
 refine xU ?_
 refine xO ?_
 refine xE [0,1,5] fun _ => ?_
 refine W_block ?_
 refine W_rounds (fun m σ o => ∃ i : Nat, m = l.length - i ∧ i ≤ l.length ∧ (∀ j, j < i → ((nth l j).name.toList == nm.toList) = false) ∧ σ = slots [(0, .d (rR l)), (1, .d (vS nm)), (5, .d (vI i))] ∧ o = []) l.length .refl ⟨0, by simp, by simp, by simp, rfl, rfl⟩ ?_
 rintro m σ o ⟨i, rfl, hi, hinv, rfl, rfl⟩ _
 refine W_seq ?_
 refine xU ?_
 iterate 4 refine xO ?_
 refine xE [0,1,5,9] fun _ => ?_
 refine W_cond rfl ?_ ?_
 · intro h9
   have hi2 : i < l.length := by simpa using h9
   refine W_skip ?_
   rintro -
   refine W_seq ?_
   refine W_block ?_
   refine xU ?_
   iterate 2 refine xO ?_
   refine xO ?_ (h := by simp [eRoot, hi2]; exact .mk)
   refine xO ?_
   refine xO ?_ (h := by simp [-List.getElem?_map, map_get hi2, eRoot]; exact .mk)
   iterate 2 refine xO ?_
   refine xE [0,1,5,18] fun _ => ?_
   refine W_cond rfl ?_ ?_
   · intro h18
     have hr := firstS_at hi2 hinv h18
     refine xU ?_
     iterate 2 refine xO ?_
     refine xE [4] fun _ => ?_
     refine W_ret ?_
     refine xR (by simp [Tryz.f148]; exact .mk) ?_
     simp [Tryz.f148, hr]
   intro h18
   refine W_skip ?_
   rintro -
   refine W_reg rfl ?_
   iterate 3 refine xO ?_
   refine xE [0,1,5] ?_
   refine rounds_kill [0,1,5] ?_
   refine rounds_next (m' := l.length - (i+1)) (by omega) ⟨i+1, rfl, by omega, ?_, ?_, rfl⟩
   · intro j hj
     rcases Nat.lt_succ_iff_lt_or_eq.1 hj with hj | rfl
     · exact hinv j hj
     exact h18
   rw [wrap64 (by omega) (by omega)]; rfl
 intro h9
 have hr := firstS_none (l := l) (nm := nm) (fun j hj => hinv j (by simp at h9; omega))
 refine W_exit ?_
 refine xT ?_
 refine xO ?_
 refine xE [4] fun _ => ?_
 refine W_ret ?_
 refine xR (by simp [Tryz.f148]; exact .mk) ?_
 simp [Tryz.f148, hr]

theorem ct94 (g : Gl) (l : List Root) (hl : l.length ≤ 2^40) : CtAt Tryz.prog g 94 [rR l] (.v (.bool (rootsS l))) := by
 refine ctAt_of_W Tryz.func94 rfl rfl (Nat.le_of_ble_eq_true rfl) fun B S => ?_
 refine xU ?_
 refine xO ?_
 refine xE [0] ?_
 refine xT ?_
 refine xO ?_ (h := by simp [splice]; exact .mk)
 refine xO ?_
 refine xO ?_ (h := by simp [splice]; exact .mk)
 refine xE [0,3] fun _ => ?_
 refine W_seq ?_
 refine xU ?_
 refine xO ?_
 refine xE [0,3,4] fun _ => ?_
 refine W_block ?_
 refine W_rounds (fun m σ o => ∃ i : Nat, m = l.length - i ∧ i ≤ l.length ∧ (∀ j, j < i → rootOk l j = true) ∧ σ = slots [(0, .d (rR l)), (3, .ptr 0 0 0), (4, .d (vI i))] ∧ o = [.var 50 [.d (vI 0), .d (vI 0)]]) l.length .refl ⟨0, by simp, by simp, by simp, rfl, rfl⟩ ?_
 rintro m σ o ⟨i, rfl, hi, hinv, rfl, rfl⟩ _
 refine W_seq ?_
 refine xU ?_
 iterate 4 refine xO ?_
 refine xE [0,3,4,11] fun _ => ?_
 refine W_cond rfl ?_ ?_
 · intro h11
   have hi2 : i < l.length := by simpa using h11
   refine W_skip ?_
   rintro -
   refine W_seq ?_
   refine W_block ?_
   refine W_seq ?_
   refine xU ?_
   iterate 2 refine xO ?_
   refine xO ?_ (h := by simp [eRoot, hi2]; exact .mk)
   refine xO ?_
   refine xO ?_ (h := by simp [-List.getElem?_map, map_get hi2, eRoot]; exact .mk)
   refine xO ?_
   refine xE [0,3,4,19] fun _ => ?_
   refine W_cond rfl ?_ ?_
   · intro h19
     have hz0 : (nth l i).name.toList = [] := by simpa using h19
     have hz : ((nth l i).name.toList == (⟨#[]⟩ : ByteArray).toList) = true := by rw [hz0, toList_eq]; rfl
     refine W_seq ?_
     refine W_seq ?_
     refine W_regD (by kernel_rfl) [] 4 [0,1,2,3,4,5,6] (by decide +kernel) ?_
     iterate 2 refine xO ?_
     refine xO ?_ (h := by simp [eRoot, hi2]; exact .mk)
     refine xO ?_
     refine xO ?_ (h := by simp [-List.getElem?_map, map_get hi2, eRoot]; exact .mk)
     refine xO ?_ (h := by simp [eRoot]; exact .mk)
     refine xO ?_
     refine xE [0,3,4,26] fun _ => ?_
     refine W_cond rfl ?_ ?_
     · intro h26
       have hr : rootsS l = false := roots_bad hi2 (by
         have hn : nameS (nth l i).name = false := by unfold nameS; rw [hz0]; simp
         unfold rootOk isZero; rw [hn, hz]; simp at h26; simp; grind)
       refine xU ?_
       refine xO ?_
       refine xE [2] fun _ => ?_
       refine W_ret ?_
       refine xR (by simp [Tryz.f94]; exact .mk) ?_
       first | (simp [Tryz.f94, hr]; done) | (simp [Tryz.f94, hr, newOk]; grind)
     intro h26
     have hok : rootOk l i = true := by unfold rootOk isZero; rw [hz]; simp at h26; simp; grind
     refine W_skip ?_
     rintro -
     refine W_exit ?_
     rintro -
     refine W_reg rfl ?_
     iterate 3 refine xO ?_
     refine xE [0,3,4] ?_
     refine rounds_kill [0,3,4] ?_
     refine rounds_next (m' := l.length - (i+1)) (by omega) ⟨i+1, rfl, by omega, ?_, ?_, rfl⟩
     · intro j hj
       rcases Nat.lt_succ_iff_lt_or_eq.1 hj with hj | rfl
       · exact hinv j hj
       exact hok
     rw [wrap64 (by omega) (by omega)]; rfl
   intro h19
   have hz : ((nth l i).name.toList == (⟨#[]⟩ : ByteArray).toList) = false := by
    have hz0 : (nth l i).name.toList ≠ [] := by simpa using h19
    rw [toList_eq ⟨#[]⟩]; simpa using hz0
   refine W_skip ?_
   refine xT ?_
   iterate 2 refine xO ?_
   refine xO ?_ (h := by simp [eRoot, hi2]; exact .mk)
   refine xO ?_
   refine xO ?_ (h := by simp [-List.getElem?_map, map_get hi2, eRoot]; exact .mk)
   refine xC (ct146 g (nth l i).name) ?_
   refine xO ?_
   refine xE [0,3,4,5] ?_
   refine xT ?_
   iterate 2 refine xO ?_
   refine xO ?_ (h := by simp [eRoot, hi2]; exact .mk)
   refine xO ?_
   refine xO ?_ (h := by simp [-List.getElem?_map, map_get hi2, eRoot]; exact .mk)
   refine xC (ct147 g (nth l i).ix (nth l i).gen) ?_
   refine xO ?_
   refine xE [0,3,4,5,6] fun _ => ?_
   refine W_seq ?_
   refine W_regD (by kernel_rfl) [] 4 [0,1,2,3,4,5,6,7,8,9,10,11,12,13,14,15,16,17] (by decide +kernel) ?_
   iterate 3 refine xO ?_
   iterate 2 refine xI ?_
   refine xP ?_
   refine xB ?_
   iterate 2 refine xI ?_
   refine run_if rfl (by simp; exact .mk) rfl (by simp <;> first | omega | grind) (fun hb => by simp [optA, hi2, Nat.le_of_lt hi2]; exact .mk) ?_
   iterate 2 refine xI ?_
   refine run_if rfl (by simp; exact .mk) rfl (by simp <;> first | omega | grind) (fun hb => by simp [eRoot, hi2]; exact .mk) ?_
   refine xI ?_
   refine run_if rfl (by simp; exact .mk) rfl (by simp <;> first | omega | grind) (fun hb => by simp [-List.getElem?_map, map_get hi2, eRoot]; exact .mk) ?_
   refine run_call rfl (by simp; exact .mk) rfl rfl (by simp) (by simp; exact .mk) (by simp; exact .mk) (fun hb => ct148 g (l.take i) (nth l i).name (by simp; omega)) (by simp) (by simp; exact .mk) (by simp) ?_
   refine xI ?_
   refine xP ?_
   refine xE [0,3,4,56] fun _ => ?_
   refine W_cond rfl ?_ ?_
   · intro h56
     have hr : rootsS l = false := roots_bad hi2 (by unfold rootOk isZero; rw [hz]; simp at h56; simp; grind)
     refine xU ?_
     refine xO ?_
     refine xE [2] fun _ => ?_
     refine W_ret ?_
     refine xR (by simp [Tryz.f94]; exact .mk) ?_
     first | (simp [Tryz.f94, hr]; done) | (simp [Tryz.f94, hr, newOk]; grind)
   intro h56
   have hok : rootOk l i = true := by unfold rootOk isZero; rw [hz]; simp at h56; simp; grind
   refine W_skip ?_
   rintro -
   refine W_reg rfl ?_
   iterate 3 refine xO ?_
   refine xE [0,3,4] ?_
   refine rounds_kill [0,3,4] ?_
   refine rounds_next (m' := l.length - (i+1)) (by omega) ⟨i+1, rfl, by omega, ?_, ?_, rfl⟩
   · intro j hj
     rcases Nat.lt_succ_iff_lt_or_eq.1 hj with hj | rfl
     · exact hinv j hj
     exact hok
   rw [wrap64 (by omega) (by omega)]; rfl
 intro h11
 have hr : rootsS l = newOk l.length := roots_good (fun j hj => hinv j (by simp at h11; omega))
 refine W_exit ?_
 refine xT ?_
 iterate 4 refine xO ?_
 iterate 3 refine xI ?_
 refine xP ?_
 refine xB ?_
 iterate 4 refine xI ?_
 refine xP ?_
 refine xB ?_
 refine xE [2] fun _ => ?_
 refine W_ret ?_
 refine xR (by simp [Tryz.f94]; exact .mk) ?_
 first | (simp [Tryz.f94, hr]; done) | (simp [Tryz.f94, hr, newOk]; grind)

open Go.Awp
theorem kindsR_is {pages : Int} {l : List (Int × Int)} : (kindsR pages l).2 = (laidS pages l).isSome := by
 unfold kindsR; cases laidS pages l <;> rfl
theorem needS_err {n : Int} : (needS n).2 = 0 ↔ sizedN n = true := by
 rw [sizedN_iff]; unfold needS; split
 · simp; omega
 · simp; omega
theorem insI_t {l : List Slot} {i : Nat} (h : isOne (nth l i) = true) : insI l (i + 1) = insR (insI l i) (blkAt l i) := by
 conv => lhs; unfold insI
 rw [if_pos h]
theorem insI_f {l : List Slot} {i : Nat} (h : isOne (nth l i) = false) : insI l (i + 1) = insI l i := by
 conv => lhs; unfold insI
 rw [if_neg (by simp [h])]
def ordF (mode : Int) : List Bool := if mode = 1 then [false] else if mode = 2 then [true] else if mode = 3 then [true, false] else if mode = 4 then [false, true] else []
theorem ordF_len {mode : Int} : (ordF mode).length ≤ 2 := by unfold ordF; repeat' split
                                                             all_goals simp
def firstO (s : Stt) (n : Int) : List Bool → Option (Bool × Int)
 | [] => none
 | b :: l => (tryR s n b).or (firstO s n l)
theorem firstP_ord {s : Stt} {n : Int} : firstP s n = firstO s n (ordF s.mode) := by
 unfold firstP ordF
 repeat' split
 all_goals simp [firstO]
theorem firstO_some {s : Stt} {n a : Int} : ∀ {l : List Bool} {i : Nat}, i < l.length → roomS s (nth l i) n = some a → (∀ j, j < i → roomS s (nth l j) n = none) → firstO s n l = some (nth l i, a)
 | [], _, h, _, _ => by simp at h
 | b :: l, 0, _, h, _ => by
  have h : roomS s b n = some a := h
  simp [firstO, tryR, h, nth]
 | b :: l, i + 1, hi, h, hn => by
  have h0 : roomS s b n = none := hn 0 (by omega)
  have := firstO_some (s := s) (n := n) (a := a) (l := l) (i := i) (by simpa using hi) h (fun j hj => hn (j + 1) (by omega))
  simp only [firstO, tryR, h0, Option.map_none, Option.none_or, this]; rfl
theorem firstO_none {s : Stt} {n : Int} : ∀ {l : List Bool}, (∀ j, j < l.length → roomS s (nth l j) n = none) → firstO s n l = none
 | [], _ => rfl
 | b :: l, h => by
  have h0 : roomS s b n = none := h 0 (by simp)
  simp only [firstO, tryR, h0, Option.map_none, Option.none_or]
  exact firstO_none fun j hj => h (j + 1) (by simpa using hj)
theorem twos_bound {s : Stt} (h : tableS s.slots = true) : ∀ i, i < (twosO s.slots).length → (nth (twosO s.slots) i).1 ≤ 2^62 := fun i hi => by
 have := twosO_le h i hi; omega
open Go.Awp
theorem ct29 (g : Gl) (s : Stt) (hs : s.Ok) : CtAt Tryz.prog g 29 [eStt s] (oBk (onesS s.slots)) := by
 refine ctAt_of_W Tryz.func29 rfl rfl (Nat.le_of_ble_eq_true rfl) fun B S => ?_
 simp only [eStt, List.map, argD_agg, argD_v]
 have q0 := hs.h1
 refine xU ?_
 iterate 2 refine xO ?_
 refine xE [1] ?_
 refine xT ?_
 refine xO ?_
 refine xE [1,3] fun _ => ?_
 refine W_seq ?_
 refine xU ?_
 refine xO ?_
 refine xE [1,3,4] fun _ => ?_
 refine W_block ?_
 refine W_rounds (fun m σ o => ∃ i : Nat, m = s.slots.length - i ∧ i ≤ s.slots.length ∧ σ = slots [(1, .ptr 0 0 0), (3, .hdr 1 0 (insI s.slots i).length), (4, .d (vI i))] ∧ o = [.var 28 [.d (vI s.sh.pages), .d (vI s.sh.slots), .d (vI s.sh.roots), .d (vI s.sh.room), .d (vI s.mode), .d (vI s.base), .d (rSl s.slots), .d (rR s.roots), .d (rBB s.data)], .row 3 ((insI s.slots i).map eBlk)]) s.slots.length (Weak.trans (Weak.nilRow 3 3 rfl) (Weak.kills [1,3,4] rfl) (fun _ _ _ h1 h2 => by rw [← h1.len]; exact h2)) ⟨0, by simp, by simp, by simp [insI], by simp [insI]⟩ ?_
 rintro m σ o ⟨i, rfl, hi, rfl, rfl⟩ _
 have hle := insI_len (l := s.slots) (i := i)
 obtain ⟨L, hL⟩ : ∃ L, L = insI s.slots i := ⟨_, rfl⟩
 rw [← hL] at hle ⊢
 refine W_seq ?_
 refine xU ?_
 iterate 2 refine xO ?_
 refine xO ?_ (h := by simp [eBlk]; exact .mk)
 iterate 2 refine xO ?_
 refine xE [1,3,4,14] fun _ => ?_
 refine W_cond rfl ?_ ?_
 · intro h14
   have hi2 : i < s.slots.length := by simpa using h14
   refine W_skip ?_
   rintro -
   refine W_seq ?_
   refine W_block ?_
   refine xU ?_
   refine xO ?_
   refine xO ?_ (h := by simp [eBlk]; exact .mk)
   refine xO ?_
   refine xO ?_ (h := by simp [eBlk, hi2]; exact .mk)
   refine xO ?_ (h := by simp [-List.getElem?_map, map_get hi2, eSlot]; exact .mk)
   refine xO ?_
   refine xO ?_ (h := by simp [splice]; exact .mk)
   refine xE [1,3,4,5] fun _ => ?_
   refine W_seq ?_
   refine xU ?_
   refine xO ?_
   refine xO ?_ (h := by simp [eBlk]; exact .mk)
   iterate 2 refine xO ?_
   refine xI ?_
   refine run_if rfl (by simp; exact .mk) rfl (by simp <;> first | omega | grind) (fun hb => by simp [eBlk]; exact .mk) ?_
   refine xP ?_
   refine xE [1,3,4,5,28] fun _ => ?_
   refine W_cond rfl ?_ ?_
   · intro h28
     have h2 : isOne (nth s.slots i) = false := by simp [isOne]; simp at h28; grind
     have hI : insI s.slots (i + 1) = L := by rw [hL]; exact insI_f h2
     refine W_exit ?_
     rintro -
     refine W_reg rfl ?_
     iterate 3 refine xO ?_
     refine xE [1,3,4] ?_
     refine rounds_kill [1,3,4] ?_
     first
     | (refine rounds_kills [1,3,4] rfl ?_
        refine rounds_drop 2 [1,3,4] (by decide) (by rfl) (by rfl) ?_
        refine rounds_next (m' := s.slots.length - (i+1)) (by omega) ⟨i+1, rfl, by omega, ?_, ?_⟩
        · rw [wrap64 (by omega) (by omega), hI]; rfl
        rw [hI]; rfl)
     | (refine rounds_kills [1,3,4] rfl ?_
        refine rounds_swap 1 6 1 (by decide) (by simp) (by decide) rfl rfl ?_
        refine rounds_drop 2 [1,3,4] (by decide) (by rfl) (by rfl) ?_
        refine rounds_next (m' := s.slots.length - (i+1)) (by omega) ⟨i+1, rfl, by omega, ?_, ?_⟩
        · rw [wrap64 (by omega) (by omega), hI]; simp [em, e12]
        rw [hI, List.map_append, List.map_cons, List.map_take, List.map_drop, htk, List.append_cons (List.take k (L.map eBlk)) (eBlk (blkAt s.slots i)) (List.drop k (L.map eBlk))]; simp [eBlk, blkAt]; rfl)
   intro h28
   have h2 : isOne (nth s.slots i) = true := by simp [isOne]; simp at h28; grind
   have hI : insI s.slots (i + 1) = insR L (blkAt s.slots i) := by rw [hL]; exact insI_t h2
   refine W_skip ?_
   refine xT ?_
   refine xO ?_
   refine xO ?_ (h := by simp [eBlk]; exact .mk)
   refine xC (ct87 g (nth s.slots i).len) ?_
   iterate 5 refine xO ?_
   refine xE [1,3,4,5,6] ?_
   refine xT ?_
   refine xO ?_
   refine xE [1,3,4,5,6,8] fun _ => ?_
   refine W_seq ?_
   refine W_block ?_
   refine W_rounds (fun m σ o => ∃ k : Nat, m = L.length - k ∧ k ≤ L.length ∧ (∀ j, j < k → (nth L j).at_ ≤ (nth s.slots i).at_) ∧ σ = slots [(1, .ptr 0 0 0), (3, .hdr 1 0 L.length), (4, .d (vI i)), (5, .ptr 2 0 0), (6, .d (vI (needS (nth s.slots i).len).1)), (8, .d (vI k))] ∧ o = [.var 28 [.d (vI s.sh.pages), .d (vI s.sh.slots), .d (vI s.sh.roots), .d (vI s.sh.room), .d (vI s.mode), .d (vI s.base), .d (rSl s.slots), .d (rR s.roots), .d (rBB s.data)], .row 3 (L.map eBlk), .var 92 [.d (vI (nth s.slots i).gen), .d (vT (nth s.slots i).live), .d (vT (nth s.slots i).two), .d (vI (nth s.slots i).at_), .d (vI (nth s.slots i).len)]]) L.length .refl ⟨0, by simp, by simp, by simp, rfl, rfl⟩ ?_
   rintro m σ o ⟨k, rfl, hk, hinv2, rfl, rfl⟩ _
   refine W_seq ?_
   refine W_seq ?_
   refine W_regD (by kernel_rfl) [] 4 [0,1,2,3,4,5,6,7,8,9,10,11,12,13] (by decide +kernel) ?_
   iterate 5 refine xO ?_
   iterate 2 refine xI ?_
   refine run_if rfl (by simp; exact .mk) rfl (by simp <;> first | omega | grind) (fun hb => by simp at hb; simp [hb]; exact .mk) ?_
   refine xI ?_
   refine run_if rfl (by simp; exact .mk) rfl (by simp <;> first | omega | grind) (fun hb => by simp at hb; simp [-List.getElem?_map, map_get hb, eBlk]; exact .mk) ?_
   refine xI ?_
   refine run_if rfl (by simp; exact .mk) rfl (by simp <;> first | omega | grind) (fun hb => by simp [eBlk]; exact .mk) ?_
   refine xI ?_
   refine xP ?_
   refine xE [1,3,4,5,6,8,48] fun _ => ?_
   refine W_cond rfl ?_ ?_
   · intro h48
     have hk2 : k < L.length ∧ (nth L k).at_ ≤ (nth s.slots i).at_ := by simpa using h48
     refine W_skip ?_
     rintro -
     refine W_block ?_
     refine W_reg rfl ?_
     iterate 3 refine xO ?_
     refine xE [1,3,4,5,6,8] ?_
     refine rounds_kill [1,3,4,5,6,8] ?_
     refine rounds_next (m' := L.length - (k+1)) (by omega) ⟨k+1, rfl, by omega, ?_, ?_, rfl⟩
     · intro t ht
       rcases Nat.lt_succ_iff_lt_or_eq.1 ht with ht | rfl
       · exact hinv2 t ht
       exact hk2.2
     rw [wrap64 (by omega) (by omega)]; rfl
   intro h48
   have hk3 : k < L.length → (nth s.slots i).at_ < (nth L k).at_ := by simp at h48; omega
   rw [insR_at (b := blkAt s.slots i) hk hinv2 hk3] at hI
   have e1 : (L.length + 1) * 24 ≤ 140737488355328 := by omega
   have e2 : L.length ≤ 140737488355327 := by omega
   have e3 : k * 24 ≤ 140737488355328 := by omega
   have e4 : k ≤ 140737488355328 := by omega
   have e5 : (k + 1) * 24 ≤ 140737488355328 := by omega
   have e6 : k ≤ 140737488355327 := by omega
   have e7 : (k + 1 + (L.length - k)) * 24 ≤ 140737488355328 := by omega
   have e8 : k + 1 + (L.length - k) ≤ 140737488355328 := by omega
   have em : min k L.length = k := by omega
   have e9 : (L.length - k) * 24 ≤ 140737488355328 := by omega
   have e10 : (k : Int) ≤ L.length := by omega
   have e11 : ¬ L.length < k + (L.length - k) := by omega
   have e12 : k + 1 + (L.length - k) = k + (L.length - k + 1) := by omega
   have htk : List.take (L.length - k) (List.drop k (L.map eBlk)) = List.drop k (L.map eBlk) := List.take_of_length_le (by simp)
   have hn1 : ∀ x, x ∈ List.take k (L.map eBlk) → x.noOwn = true := fun x hx => by obtain ⟨b, _, rfl⟩ := List.mem_map.1 (List.mem_of_mem_take hx); simp
   have hn2 : ∀ x, x ∈ List.drop k (L.map eBlk) → x.noOwn = true := fun x hx => by obtain ⟨b, _, rfl⟩ := List.mem_map.1 (List.mem_of_mem_drop hx); simp
   have hn3 : ∀ x, x ∈ List.take (L.length - k) (List.drop k (L.map eBlk)) → x.noOwn = true := fun x hx => hn2 x (List.mem_of_mem_take hx)
   refine W_exit ?_
   refine xT ?_
   refine xO ?_
   refine xE [1,3,4,5,6,8,9] ?_
   refine xT ?_
   iterate 3 refine xO ?_
   refine xO ?_ (h := by simp [optA, hk, e10]; exact .mk)
   refine xO ?_ (h := by simp [rows, em, e3, e4, Nat.not_lt.2 hk, if_pos hn1]; exact .mk)
   refine xO ?_
   refine xE [1,3,4,5,6,8,9] ?_
   refine xT ?_
   iterate 2 refine xO ?_
   refine xO ?_ (h := by simp [eBlk]; exact .mk)
   iterate 2 refine xO ?_
   refine xO ?_ (h := by simp [splice]; exact .mk)
   refine xO ?_
   refine xO ?_ (h := by simp [rows, em, e5, e6]; exact .mk)
   refine xO ?_
   refine xE [1,3,4,8,9] fun _ => ?_
   refine W_reg rfl ?_
   iterate 3 refine xO ?_
   refine xO ?_ (h := by simp [optA, hk, e10]; exact .mk)
   refine xO ?_ (h := by simp [rows, em, e7, e8, e9, e11, Nat.not_lt.2 hk, if_pos hn2, if_pos hn3]; exact .mk)
   refine xO ?_
   refine xE [1,3,4] fun _ => ?_
   refine W_reg rfl ?_
   iterate 3 refine xO ?_
   refine xE [1,3,4] ?_
   refine rounds_kill [1,3,4] ?_
   first
   | (refine rounds_kills [1,3,4] rfl ?_
      refine rounds_drop 2 [1,3,4] (by decide) (by rfl) (by rfl) ?_
      refine rounds_next (m' := s.slots.length - (i+1)) (by omega) ⟨i+1, rfl, by omega, ?_, ?_⟩
      · rw [wrap64 (by omega) (by omega), hI]; rfl
      rw [hI]; rfl)
   | (refine rounds_kills [1,3,4] rfl ?_
      refine rounds_swap 1 6 1 (by decide) (by simp) (by decide) rfl rfl ?_
      refine rounds_drop 2 [1,3,4] (by decide) (by rfl) (by rfl) ?_
      refine rounds_next (m' := s.slots.length - (i+1)) (by omega) ⟨i+1, rfl, by omega, ?_, ?_⟩
      · rw [wrap64 (by omega) (by omega), hI]; simp [em, e12]
      rw [hI, List.map_append, List.map_cons, List.map_take, List.map_drop, htk, List.append_cons (List.take k (L.map eBlk)) (eBlk (blkAt s.slots i)) (List.drop k (L.map eBlk))]; simp [eBlk, blkAt]; rfl)
 intro h14
 obtain rfl : i = s.slots.length := by simp at h14; omega
 rw [insI_onesS] at hL
 subst hL
 refine W_exit ?_
 refine xT ?_
 iterate 2 refine xO ?_
 refine xE [2] fun _ => ?_
 refine W_ret ?_
 refine xR (by simp [Tryz.f29]; exact .mk) ?_
 simp [Tryz.f29, ownR]; try rfl

theorem ct33 (g : Gl) (s : Stt) (hs : s.Ok) : CtAt Tryz.prog g 33 [eStt s] (.v (.bool (sttS s))) := by
 refine ctAt_of_W Tryz.func33 rfl rfl (Nat.le_of_ble_eq_true rfl) fun B S => ?_
 simp only [eStt, List.map, argD_agg, argD_v]
 have q0 := hs.h1
 refine xU ?_
 iterate 2 refine xO ?_
 refine xE [1] ?_
 refine xT ?_
 iterate 6 refine xO ?_
 refine xC (ct92 g s.sh s.mode s.base) ?_
 refine xO ?_
 refine xE [1,3] ?_
 refine xT ?_
 iterate 2 refine xO ?_
 refine xC (ct93 g s.slots hs.h1) ?_
 refine xO ?_
 refine xE [1,3,4] ?_
 refine xT ?_
 iterate 2 refine xO ?_
 refine xC (ct94 g s.roots hs.h2) ?_
 refine xO ?_
 refine xE [1,3,4,5] fun _ => ?_
 refine W_seq ?_
 refine xU ?_
 iterate 3 refine xO ?_
 iterate 2 refine xI ?_
 refine xP ?_
 refine xB ?_
 iterate 2 refine xI ?_
 refine xP ?_
 refine xB ?_
 iterate 7 refine xI ?_
 refine xP ?_
 refine xB ?_
 iterate 7 refine xI ?_
 refine xP ?_
 refine xB ?_
 iterate 7 refine xI ?_
 refine xP ?_
 refine xE [1,62] fun _ => ?_
 refine W_cond rfl ?_ ?_
 · intro h62
   have hr : sttS s = false := by
    cases hz : sttS s with
    | false => rfl
    | true =>
     exfalso
     obtain ⟨⟨z1, z2, z3⟩, _, _, z4, _⟩ := rowsS_iff.1 (sttS_rowsS hz)
     have z5 := sttS_super hz
     have z6 := sttS_rows hz
     simp [z1, z2, z3, z4, z5, z6] at h62
   refine xU ?_
   refine xO ?_
   refine xE [2] fun _ => ?_
   refine W_ret ?_
   refine xR (by simp [Tryz.f33]; exact .mk) ?_
   first | (simp [Tryz.f33, hr]; done) | (cases b1 <;> cases b2 <;> by_cases m1 : s.mode = 1 <;> by_cases m2 : s.mode = 2 <;> simp [Tryz.f33, hr1, modeOk, hsl, m1, m2] <;> (rw [Bool.beq_eq_decide_eq]; simp))
 intro h62
 have hh : superS s.sh s.mode s.base = true ∧ tableS s.slots = true ∧ rootsS s.roots = true ∧ (s.slots.length : Int) = s.sh.slots ∧ (s.roots.length : Int) = s.sh.roots ∧ s.data.length = s.slots.length := by simp at h62; grind
 obtain ⟨z1, z2, z3, z4, z5, z6⟩ := hh
 have hr0 : sttS s = ((List.range s.slots.length).all (lenOk s) && ((laidS s.base (twosO s.slots)).isSome && (gapsS (s.base * 32) (s.sh.pages * 32) (spansS s.slots) && modeOk s))) := by simp [sttS, rowsS, z1, z2, z3, z4, z5, z6]
 refine W_skip ?_
 rintro -
 refine W_seq ?_
 refine xU ?_
 refine xO ?_
 refine xE [1,6] fun _ => ?_
 refine W_block ?_
 refine W_rounds (fun m σ o => ∃ i : Nat, m = s.slots.length - i ∧ i ≤ s.slots.length ∧ (∀ j, j < i → lenOk s j = true) ∧ σ = slots [(1, .ptr 0 0 0), (6, .d (vI i))] ∧ o = [.var 28 [.d (vI s.sh.pages), .d (vI s.sh.slots), .d (vI s.sh.roots), .d (vI s.sh.room), .d (vI s.mode), .d (vI s.base), .d (rSl s.slots), .d (rR s.roots), .d (rBB s.data)]]) s.slots.length .refl ⟨0, by simp, by simp, by simp, rfl, rfl⟩ ?_
 rintro m σ o ⟨i, rfl, hi, hinv, rfl, rfl⟩ _
 refine W_seq ?_
 refine xU ?_
 iterate 5 refine xO ?_
 refine xE [1,6,67] fun _ => ?_
 refine W_cond rfl ?_ ?_
 · intro h67
   have hi2 : i < s.slots.length := by simpa using h67
   have hi3 : i < s.data.length := by omega
   refine W_skip ?_
   rintro -
   refine W_seq ?_
   refine W_block ?_
   refine W_seq ?_
   refine W_regD (by kernel_rfl) [] 4 [0,1,2,3,4,5,6,7,8,9,10,11,12] (by decide +kernel) ?_
   iterate 3 refine xO ?_
   refine xO ?_ (h := by simp [hi3]; exact .mk)
   refine xO ?_ (h := by simp [-List.getElem?_map, map_get hi3]; exact .mk)
   iterate 4 refine xO ?_
   refine xO ?_ (h := by simp [hi2]; exact .mk)
   refine xO ?_
   refine xO ?_ (h := by simp [-List.getElem?_map, map_get hi2, eSlot]; exact .mk)
   refine xO ?_
   refine xE [1,6,82] fun _ => ?_
   refine W_cond rfl ?_ ?_
   · intro h82
     have hr : sttS s = false := by rw [hr0, all_bad hi2 (by simp [lenOk]; simpa using h82)]; rfl
     refine xU ?_
     refine xO ?_
     refine xE [2] fun _ => ?_
     refine W_ret ?_
     refine xR (by simp [Tryz.f33]; exact .mk) ?_
     first | (simp [Tryz.f33, hr]; done) | (cases b1 <;> cases b2 <;> by_cases m1 : s.mode = 1 <;> by_cases m2 : s.mode = 2 <;> simp [Tryz.f33, hr1, modeOk, hsl, m1, m2] <;> (rw [Bool.beq_eq_decide_eq]; simp))
   intro h82
   have hok : lenOk s i = true := by simp [lenOk]; simpa using h82
   refine W_skip ?_
   rintro -
   refine W_reg rfl ?_
   iterate 3 refine xO ?_
   refine xE [1,6] ?_
   refine rounds_kill [1,6] ?_
   refine rounds_next (m' := s.slots.length - (i+1)) (by omega) ⟨i+1, rfl, by omega, ?_, ?_, rfl⟩
   · intro j hj
     rcases Nat.lt_succ_iff_lt_or_eq.1 hj with hj | rfl
     · exact hinv j hj
     exact hok
   rw [wrap64 (by omega) (by omega)]; rfl
 intro h67
 have hr1 : sttS s = ((laidS s.base (twosO s.slots)).isSome && (gapsS (s.base * 32) (s.sh.pages * 32) (spansS s.slots) && modeOk s)) := by rw [hr0, all_good (fun j hj => hinv j (by simp at h67; omega))]; rfl
 have hb := superS_b z1
 have w1 : IntKind.i64.wrap (32 * s.base) = s.base * 32 := (wrap64 (by omega) (by omega)).trans (Int.mul_comm _ _)
 have w2 : IntKind.i64.wrap (32 * s.sh.pages) = s.sh.pages * 32 := (wrap64 (by omega) (by omega)).trans (Int.mul_comm _ _)
 have hT := tableS_len z2
 have hol := onesS_len (l := s.slots)
 have htl := twosO_len (l := s.slots)
 have hsl : (spansS s.slots).length = (onesS s.slots).length := by simp [spansS]
 have c96 := ct96 g (onesS s.slots) (by omega)
 rw [show (onesS s.slots).map spanOf = spansS s.slots from rfl] at c96
 have c97 := ct97 g s.base (twosO s.slots) (by omega) (twos_bound z2)
 rw [kindsR_is] at c97
 have c95 := ct95 g (s.base * 32) (s.sh.pages * 32) (spansS s.slots) (by omega)
 obtain ⟨b1, hb1⟩ : ∃ b, b = (laidS s.base (twosO s.slots)).isSome := ⟨_, rfl⟩
 obtain ⟨b2, hb2⟩ : ∃ b, b = gapsS (s.base * 32) (s.sh.pages * 32) (spansS s.slots) := ⟨_, rfl⟩
 rw [← hb1] at c97 hr1
 rw [← hb2] at c95 hr1
 refine W_exit ?_
 refine xT ?_
 refine xO ?_
 refine xC (ct29 g s hs) ?_
 refine xO ?_
 refine xE [1,7] ?_
 refine xT ?_
 refine xO ?_
 refine xC (ct23 g s hs) ?_
 iterate 5 refine xO ?_
 refine xE [1,7,8] fun _ => ?_
 refine W_seq ?_
 refine W_regD (by kernel_rfl) [] 4 [0,1,2,3,4,5,6,7,8,9,10] (by decide +kernel) ?_
 iterate 2 refine xO ?_
 refine xO ?_ (h := by simp [w1]; exact .mk)
 iterate 3 refine xO ?_
 refine xO ?_ (h := by simp [w2]; exact .mk)
 refine xO ?_
 refine xC (c96) ?_
 refine xC (c95) ?_
 refine xO ?_
 refine xE [1,7,8,10] ?_
 refine xT ?_
 iterate 3 refine xO ?_
 refine xC (c97) ?_
 iterate 5 refine xO ?_
 refine xE [1,7,8,10,12] ?_
 refine xT ?_
 iterate 2 refine xO ?_
 refine xI ?_
 refine xP ?_
 refine xB ?_
 iterate 7 refine xI ?_
 iterate 2 refine xP ?_
 refine xB ?_
 iterate 7 refine xI ?_
 iterate 2 refine xP ?_
 refine xB ?_
 refine xE [2] fun _ => ?_
 refine W_ret ?_
 refine xR (by simp [Tryz.f33]; exact .mk) ?_
 first | (simp [Tryz.f33, hr]; done) | (cases b1 <;> cases b2 <;> by_cases m1 : s.mode = 1 <;> by_cases m2 : s.mode = 2 <;> simp [Tryz.f33, hr1, modeOk, hsl, m1, m2] <;> (rw [Bool.beq_eq_decide_eq]; simp))

open Go.Awp
theorem ct39 (g : Gl) (s : Stt) (hs : s.Ok) (two : Bool) (n : Int) : CtAt Tryz.prog g 39 [eStt s, vT two, vI n] (.tup [vI ((roomS s two n).getD 0), .v (.bool (roomS s two n).isSome)]) := by
 refine ctAt_of_W Tryz.func39 rfl rfl (Nat.le_of_ble_eq_true rfl) fun B S => ?_
 simp only [eStt, List.map, argD_agg, argD_v]
 have q0 := hs.h1
 refine xU ?_
 iterate 3 refine xO ?_
 refine xE [1,2,3] ?_
 refine xT ?_
 refine xO ?_ (h := by simp [eObj]; exact .mk)
 refine xC (ct33 g s hs) ?_
 refine xO ?_
 refine xE [1,2,3,8] ?_
 refine xT ?_
 refine xO ?_
 refine xC (ct87 g n) ?_
 iterate 5 refine xO ?_
 refine xE [1,2,3,8,9,10] fun _ => ?_
 refine W_seq ?_
 refine xU ?_
 iterate 3 refine xO ?_
 iterate 2 refine xI ?_
 refine xP ?_
 refine xE [1,2,3,9,29] fun _ => ?_
 refine W_cond rfl ?_ ?_
 · intro h29
   have hr : roomS s two n = none := by
    unfold roomS; rw [if_neg]
    intro hq
    simp only [Bool.and_eq_true] at hq
    have := needS_err.2 hq.2
    simp [hq.1, this] at h29
   refine xU ?_
   iterate 2 refine xO ?_
   refine xE [6,7] fun _ => ?_
   refine W_ret ?_
   refine xR (by simp [Tryz.f39]; exact .mk) ?_
   first | (simp [Tryz.f39, hr]; done) | (cases BB <;> simp [Tryz.f39, hr])
 intro h29
 have hz : sttS s = true ∧ (needS n).2 = 0 := by simp at h29; grind
 have hR := hz.1
 have hsz := needS_err.1 hz.2
 have hr0 : roomS s two n = roomW s two n := by unfold roomS; rw [if_pos (by simp [hR, hsz])]
 have hb := superS_b (sttS_super hR)
 have w1 : IntKind.i64.wrap (32 * s.base) = s.base * 32 := (wrap64 (by omega) (by omega)).trans (Int.mul_comm _ _)
 have w2 : IntKind.i64.wrap (32 * s.sh.pages) = s.sh.pages * 32 := (wrap64 (by omega) (by omega)).trans (Int.mul_comm _ _)
 have hT := tableS_len (sttS_rows hR)
 have hol := onesS_len (l := s.slots)
 have htl := twosO_len (l := s.slots)
 have hsl : (spansS s.slots).length = (onesS s.slots).length := by simp [spansS]
 refine W_skip ?_
 rintro -
 refine W_seq ?_
 refine xU ?_
 refine xO ?_
 refine xE [2,3,9,30] fun _ => ?_
 refine W_cond rfl ?_ ?_
 · intro h30
   obtain rfl : two = true := h30
   have hr : roomS s true n = placeS s.base (twosO s.slots) n := by rw [hr0]; rfl
   refine xU ?_
   refine xO ?_ (h := by simp [eObj]; exact .mk)
   refine xC (ct23 g s hs) ?_
   iterate 5 refine xO ?_
   refine xE [2,3,11] ?_
   refine xT ?_
   refine xO ?_
   refine xO ?_ (h := by simp [eObj]; exact .mk)
   iterate 2 refine xO ?_
   refine xC (ct104 g s.base (twosO s.slots) n (by omega) (twos_bound (sttS_rows hR))) ?_
   iterate 4 refine xO ?_
   refine xE [6,7] fun _ => ?_
   refine W_ret ?_
   refine xR (by simp [Tryz.f39]; exact .mk) ?_
   first | (simp [Tryz.f39, hr]; done) | (cases BB <;> simp [Tryz.f39, hr])
 intro h30
 obtain rfl : two = false := h30
 have c96 := ct96 g (onesS s.slots) (by omega)
 rw [show (onesS s.slots).map spanOf = spansS s.slots from rfl] at c96
 have c105 := ct105 g (s.base * 32) (s.sh.pages * 32) (spansS s.slots) (by omega)
 have hgr : gapsR (s.base * 32) (s.sh.pages * 32) (spansS s.slots) = (gapsF (s.sh.pages * 32) (s.base * 32) (spansS s.slots), 0) := by unfold gapsR; rw [if_pos (sttS_gaps hR)]
 rw [hgr] at c105
 have hgl := gapsF_len (to := s.sh.pages * 32) (l := spansS s.slots) (a := s.base * 32)
 have hr : roomS s false n = (bestS (gapsF (s.sh.pages * 32) (s.base * 32) (spansS s.slots)) (needS n).1).map (·.1) := by rw [hr0]; show oneS s n = _; unfold oneS; rw [if_neg (by simp [hz.2])]
 obtain ⟨BB, hBB⟩ : ∃ BB, BB = bestS (gapsF (s.sh.pages * 32) (s.base * 32) (spansS s.slots)) (needS n).1 := ⟨_, rfl⟩
 have c106 := ct106 g (gapsF (s.sh.pages * 32) (s.base * 32) (spansS s.slots)) (by omega) (needS n).1
 rw [← hBB] at hr c106
 refine W_skip ?_
 rintro -
 refine W_seq ?_
 refine W_regD (by kernel_rfl) [] 4 [0,1,2,3,4,5,6,7,8,9,10,11,12,13,14,15] (by decide +kernel) ?_
 refine xO ?_
 refine xO ?_ (h := by simp [eObj]; exact .mk)
 refine xO ?_ (h := by simp [w1]; exact .mk)
 iterate 2 refine xO ?_
 refine xO ?_ (h := by simp [eObj]; exact .mk)
 refine xO ?_ (h := by simp [w2]; exact .mk)
 refine xO ?_ (h := by simp [eObj]; exact .mk)
 refine xC (ct29 g s hs) ?_
 refine xC (c96) ?_
 refine xC (c105) ?_
 iterate 5 refine xO ?_
 refine xE [9,13] ?_
 refine xT ?_
 iterate 2 refine xO ?_
 refine xC (c106) ?_
 iterate 4 refine xO ?_
 refine xO ?_ (h := by simp [splice]; exact .mk)
 refine xO ?_
 refine xE [15,16] ?_
 refine xT ?_
 refine xO ?_
 refine xO ?_ (h := by simp [eObj]; exact .mk)
 iterate 3 refine xO ?_
 refine xE [6,7] fun _ => ?_
 refine W_ret ?_
 refine xR (by simp [Tryz.f39]; exact .mk) ?_
 first | (simp [Tryz.f39, hr]; done) | (cases BB <;> simp [Tryz.f39, hr])

theorem ct41 (g : Gl) (s : Stt) (hs : s.Ok) (n : Int) : CtAt Tryz.prog g 41 [eStt s, vI n] (.tup [vT ((firstP s n).getD (false, 0)).1, vI ((firstP s n).getD (false, 0)).2, vT (firstP s n).isSome]) := by
 refine ctAt_of_W Tryz.func41 rfl rfl (Nat.le_of_ble_eq_true rfl) fun B S => ?_
 simp only [eStt, List.map, argD_agg, argD_v]
 refine xU ?_
 iterate 4 refine xO ?_
 refine xE [1,2] ?_
 refine xT ?_
 refine xO ?_
 refine xE [1,2,7] fun _ => ?_
 refine W_seq ?_
 refine xU ?_
 iterate 2 refine xO ?_
 refine xE [1,2,7,12] fun _ => ?_
 refine W_joinW ([(1, .d (vI n)), (2, .ptr 0 0 0), (7, .hdr 1 0 (ordF s.mode).length)]) ([.var 28 [.d (vI s.sh.pages), .d (vI s.sh.slots), .d (vI s.sh.roots), .d (vI s.sh.room), .d (vI s.mode), .d (vI s.base), .d (rSl s.slots), .d (rR s.roots), .d (rBB s.data)], .row 1 ((ordF s.mode).map vT)]) ?_ ?_
 · skip
   refine W_block ?_
   refine xU ?_
   iterate 2 refine xO ?_
   refine xE [1,2,7,12,13] fun _ => ?_
   refine W_cond rfl ?_ ?_
   · intro h13
     have ho : ordF s.mode = [false] := by simp [ordF] at h13 ⊢; simp [h13]
     refine W_reg rfl ?_
     iterate 2 refine xO ?_
     refine xE [1,2,7] ?_
     first
     | (simp only [ho]; exact ⟨rfl, Weak.kills [1,2,7] rfl⟩)
     | (simp only [ho]; exact ⟨rfl, Weak.trans (Weak.nilRow 7 1 rfl) (Weak.kills [1,2,7] rfl) (fun _ _ _ h1 h2 => by rw [← h1.len]; exact h2)⟩)
   intro h13
   refine xU ?_
   iterate 2 refine xO ?_
   refine xE [1,2,7,12,16] fun _ => ?_
   refine W_cond rfl ?_ ?_
   · intro h16
     have ho : ordF s.mode = [true] := by simp [ordF] at h16 ⊢; simp [h16]
     refine W_reg rfl ?_
     iterate 2 refine xO ?_
     refine xE [1,2,7] ?_
     first
     | (simp only [ho]; exact ⟨rfl, Weak.kills [1,2,7] rfl⟩)
     | (simp only [ho]; exact ⟨rfl, Weak.trans (Weak.nilRow 7 1 rfl) (Weak.kills [1,2,7] rfl) (fun _ _ _ h1 h2 => by rw [← h1.len]; exact h2)⟩)
   intro h16
   refine xU ?_
   iterate 2 refine xO ?_
   refine xE [1,2,7,12,19] fun _ => ?_
   refine W_cond rfl ?_ ?_
   · intro h19
     have ho : ordF s.mode = [true, false] := by simp [ordF] at h19 ⊢; simp [h19]
     refine W_reg rfl ?_
     iterate 2 refine xO ?_
     refine xE [1,2,7] ?_
     first
     | (simp only [ho]; exact ⟨rfl, Weak.kills [1,2,7] rfl⟩)
     | (simp only [ho]; exact ⟨rfl, Weak.trans (Weak.nilRow 7 1 rfl) (Weak.kills [1,2,7] rfl) (fun _ _ _ h1 h2 => by rw [← h1.len]; exact h2)⟩)
   intro h19
   refine xU ?_
   iterate 2 refine xO ?_
   refine xE [1,2,7,22] fun _ => ?_
   refine W_cond rfl ?_ ?_
   · intro h22
     have ho : ordF s.mode = [false, true] := by simp [ordF] at h22 ⊢; simp [h22]
     refine W_reg rfl ?_
     iterate 2 refine xO ?_
     refine xE [1,2,7] ?_
     first
     | (simp only [ho]; exact ⟨rfl, Weak.kills [1,2,7] rfl⟩)
     | (simp only [ho]; exact ⟨rfl, Weak.trans (Weak.nilRow 7 1 rfl) (Weak.kills [1,2,7] rfl) (fun _ _ _ h1 h2 => by rw [← h1.len]; exact h2)⟩)
   intro h22
   have ho : ordF s.mode = [] := by simp [ordF] at *; simp [*]
   refine W_skip ?_
   first
   | (simp only [ho]; exact ⟨rfl, Weak.kills [1,2,7] rfl⟩)
   | (simp only [ho]; exact ⟨rfl, Weak.trans (Weak.nilRow 7 1 rfl) (Weak.kills [1,2,7] rfl) (fun _ _ _ h1 h2 => by rw [← h1.len]; exact h2)⟩)
 rintro -
 refine W_seq ?_
 refine xU ?_
 refine xO ?_
 refine xE [1,2,7,8] fun _ => ?_
 refine W_block ?_
 refine W_rounds (fun m σ o => ∃ i : Nat, m = (ordF s.mode).length - i ∧ i ≤ (ordF s.mode).length ∧ (∀ j, j < i → roomS s (nth (ordF s.mode) j) n = none) ∧ σ = slots [(1, .d (vI n)), (2, .ptr 0 0 0), (7, .hdr 1 0 (ordF s.mode).length), (8, .d (vI i))] ∧ o = [.var 28 [.d (vI s.sh.pages), .d (vI s.sh.slots), .d (vI s.sh.roots), .d (vI s.sh.room), .d (vI s.mode), .d (vI s.base), .d (rSl s.slots), .d (rR s.roots), .d (rBB s.data)], .row 1 ((ordF s.mode).map vT)]) ((ordF s.mode).length) .refl ⟨0, by simp, by simp, by simp, rfl, rfl⟩ ?_
 rintro m σ o ⟨i, rfl, hi, hinv, rfl, rfl⟩ _
 have hol := ordF_len (mode := s.mode)
 refine W_seq ?_
 refine xU ?_
 iterate 4 refine xO ?_
 refine xE [1,2,7,8,28] fun _ => ?_
 refine W_cond rfl ?_ ?_
 · intro h28
   have hi2 : i < (ordF s.mode).length := by simpa using h28
   refine W_skip ?_
   rintro -
   refine W_seq ?_
   refine W_block ?_
   refine W_seq ?_
   refine W_regD (by kernel_rfl) [] 4 [0,1,2,3,4,5,6,7,8,9,10,11] (by decide +kernel) ?_
   iterate 3 refine xO ?_
   refine xO ?_ (h := by simp [hi2]; exact .mk)
   refine xO ?_ (h := by simp [-List.getElem?_map, map_get hi2]; exact .mk)
   refine xO ?_
   refine xC (ct39 g s hs (nth (ordF s.mode) i) n) ?_
   iterate 5 refine xO ?_
   refine xE [1,2,7,8,9,10] ?_
   refine xT ?_
   refine xO ?_
   refine xE [1,2,7,8,9,41] fun _ => ?_
   refine W_cond rfl ?_ ?_
   · intro h41
     obtain ⟨a, ha⟩ : ∃ a, roomS s (nth (ordF s.mode) i) n = some a := Option.isSome_iff_exists.1 h41
     have hr : firstP s n = some (nth (ordF s.mode) i, a) := by rw [firstP_ord]; exact firstO_some hi2 ha hinv
     refine xU ?_
     iterate 2 refine xO ?_
     refine xO ?_ (h := by simp [hi2]; exact .mk)
     refine xO ?_ (h := by simp [-List.getElem?_map, map_get hi2]; exact .mk)
     iterate 4 refine xO ?_
     refine xE [4,5,6] fun _ => ?_
     refine W_ret ?_
     refine xR (by simp [Tryz.f41]; exact .mk) ?_
     first | (simp [Tryz.f41, hr]; done) | simp [Tryz.f41, hr, ha]
   intro h41
   have hno : roomS s (nth (ordF s.mode) i) n = none := by simpa using h41
   refine W_skip ?_
   rintro -
   refine W_reg rfl ?_
   iterate 3 refine xO ?_
   refine xE [1,2,7,8] ?_
   refine rounds_kill [1,2,7,8] ?_
   refine rounds_next (m' := (ordF s.mode).length - (i+1)) (by omega) ⟨i+1, rfl, by omega, ?_, ?_, rfl⟩
   · intro j hj
     rcases Nat.lt_succ_iff_lt_or_eq.1 hj with hj | rfl
     · exact hinv j hj
     exact hno
   rw [wrap64 (by omega) (by omega)]; rfl
 intro h28
 have hr : firstP s n = none := by rw [firstP_ord]; exact firstO_none (fun j hj => hinv j (by simp at h28; omega))
 refine W_exit ?_
 refine xT ?_
 iterate 3 refine xO ?_
 refine xE [4,5,6] fun _ => ?_
 refine W_ret ?_
 refine xR (by simp [Tryz.f41]; exact .mk) ?_
 first | (simp [Tryz.f41, hr]; done) | simp [Tryz.f41, hr, ha]

open Go.Awp
theorem ct80 (g : Gl) (x y : List Slot) (hx : x.length ≤ 2^40) : CtAt Tryz.prog g 80 [rSl x, rSl y] (.v (.bool (sameL sameSlot x y))) := by
 refine ctAt_of_W Tryz.func80 rfl rfl (Nat.le_of_ble_eq_true rfl) fun B S => ?_
 refine xU ?_
 refine xO ?_
 refine xE [0,1] fun _ => ?_
 refine W_seq ?_
 refine xU ?_
 iterate 5 refine xO ?_
 refine xE [0,1,10] fun _ => ?_
 refine W_cond rfl ?_ ?_
 · intro h10
   have hr : sameL sameSlot x y = false := sameL_len (by simp at h10; omega)
   refine xU ?_
   refine xO ?_
   refine xE [4] fun _ => ?_
   refine W_ret ?_
   refine xR (by simp [Tryz.f80]; exact .mk) ?_
   simp [Tryz.f80, hr]
 intro h10
 have hxy : x.length = y.length := by simp at h10; omega
 refine W_skip ?_
 rintro -
 refine W_seq ?_
 refine xU ?_
 refine xO ?_
 refine xE [0,1,5] fun _ => ?_
 refine W_block ?_
 refine W_rounds (fun m σ o => ∃ i : Nat, m = x.length - i ∧ i ≤ x.length ∧ (∀ j, j < i → sameSlot (nth x j) (nth y j) = true) ∧ σ = slots [(0, .d (rSl x)), (1, .d (rSl y)), (5, .d (vI i))] ∧ o = []) x.length .refl ⟨0, by simp, by simp, by simp, rfl, rfl⟩ ?_
 rintro m σ o ⟨i, rfl, hi, hinv, rfl, rfl⟩ _
 refine W_seq ?_
 refine xU ?_
 iterate 4 refine xO ?_
 refine xE [0,1,5,14] fun _ => ?_
 refine W_cond rfl ?_ ?_
 · intro h14
   have h2 : i < x.length := by simpa using h14
   have h3 : i < y.length := by omega
   refine W_skip ?_
   rintro -
   refine W_seq ?_
   refine W_block ?_
   refine W_seq ?_
   refine W_regD (by kernel_rfl) [] 4 [0,1,2,3,4,5,6,7,8] (by decide +kernel) ?_
   iterate 2 refine xO ?_
   refine xO ?_ (h := by simp [eSlot, *]; exact .mk)
   refine xO ?_ (h := by simp [eSlot]; exact .mk)
   iterate 2 refine xO ?_
   refine xO ?_ (h := by simp [eSlot, *]; exact .mk)
   refine xO ?_ (h := by simp [eSlot]; exact .mk)
   refine xO ?_
   refine xE [0,1,5,25] fun _ => ?_
   refine W_cond rfl ?_ ?_
   · intro h25
     have hr : sameL sameSlot x y = false := sameL_bad h2 (by simp [sameSlot] at h25 ⊢; grind)
     refine xU ?_
     refine xO ?_
     refine xE [4] fun _ => ?_
     refine W_ret ?_
     refine xR (by simp [Tryz.f80]; exact .mk) ?_
     simp [Tryz.f80, hr]
   intro h25
   refine W_skip ?_
   rintro -
   refine W_reg rfl ?_
   iterate 3 refine xO ?_
   refine xE [0,1,5] ?_
   refine rounds_kill [0,1,5] ?_
   refine rounds_next (m' := x.length - (i+1)) (by omega) ⟨i+1, rfl, by omega, ?_, ?_, rfl⟩
   · intro j hj
     rcases Nat.lt_succ_iff_lt_or_eq.1 hj with hj | rfl
     · exact hinv j hj
     simp [sameSlot] at h25 ⊢; grind
   rw [wrap64 (by omega) (by omega)]; rfl
 intro h14
 have hr : sameL sameSlot x y = true := sameL_good hxy (fun j hj => hinv j (by simp at h14; omega))
 refine W_exit ?_
 refine xT ?_
 refine xO ?_
 refine xE [4] fun _ => ?_
 refine W_ret ?_
 refine xR (by simp [Tryz.f80]; exact .mk) ?_
 simp [Tryz.f80, hr]

theorem ct25 (g : Gl) (s t : Stt) (hs : s.Ok) : CtAt Tryz.prog g 25 [eStt s, eStt t] (.v (.bool (sameStt s t))) := by
 refine ctAt_of_W Tryz.func25 rfl rfl (Nat.le_of_ble_eq_true rfl) fun B S => ?_
 simp only [eStt, List.map, argD_agg, argD_v]
 refine xU ?_
 iterate 3 refine xO ?_
 refine xE [2,3] ?_
 refine xT ?_
 iterate 6 refine xO ?_
 iterate 5 refine xI ?_
 refine xP ?_
 refine xB ?_
 iterate 5 refine xI ?_
 refine xP ?_
 refine xB ?_
 iterate 4 refine xI ?_
 refine run_call rfl (by simp; exact .mk) rfl rfl (by simp) (by simp; exact .mk) (by simp; exact .mk) (fun hb => ct80 g _ _ hs.h1) (by simp) (by simp; exact .mk) (by simp) ?_
 refine xP ?_
 refine xB ?_
 iterate 4 refine xI ?_
 refine run_call rfl (by simp; exact .mk) rfl rfl (by simp) (by simp; exact .mk) (by simp; exact .mk) (fun hb => ct81 g _ _ hs.h2) (by simp) (by simp; exact .mk) (by simp) ?_
 refine xP ?_
 refine xB ?_
 iterate 4 refine xI ?_
 refine run_call rfl (by simp; exact .mk) rfl rfl (by simp) (by simp; exact .mk) (by simp; exact .mk) (fun hb => ct82 g _ _ hs.h3) (by simp) (by simp; exact .mk) (by simp) ?_
 refine xP ?_
 refine xB ?_
 refine xE [4] fun _ => ?_
 refine W_ret ?_
 refine xR (by simp [Tryz.f25]; exact .mk) ?_
 simp [Tryz.f25, sameShape, sameStt, sameB, Bool.and_assoc]

open Go.Awp
theorem ct4 (g : Gl) (s : Stt) (two : Bool) (n : Int) : CtAt Tryz.prog g 4 [eStt s, vT two, vI n] (.v (.bool true)) := by
 refine ctAt_of_W Tryz.func4 rfl rfl (Nat.le_of_ble_eq_true rfl) fun B S => ?_
 simp only [eStt, List.map, argD_agg, argD_v]
 refine xU ?_
 iterate 2 refine xO ?_
 refine xE [1,2,3] ?_
 refine xT ?_
 refine xC (ct37 g) ?_ (he := by simp [row_rows, Function.comp_def]; exact .mk) (hi := by simp [oStt]; exact .mk)
 refine xO ?_
 refine xE [1,2,3,7] ?_
 refine xT ?_
 refine xO ?_ (h := by simp [eSlot]; exact .mk)
 refine xC (ct20 g s) ?_ (he := by simp [row_rows, Function.comp_def]; exact .mk) (hi := by simp [oStt]; exact .mk)
 refine xO ?_
 refine xE [1,2,3,7,8] fun _ => ?_
 refine W_seq ?_
 refine xU ?_
 iterate 2 refine xO ?_
 refine xE [1,2,3,7,24] fun _ => ?_
 refine W_cond rfl ?_ ?_
 · intro h24
   refine xU ?_
   iterate 2 refine xO ?_
   refine xE [6] fun _ => ?_
   refine W_ret ?_
   refine xR (by simp [Tryz.f4]; exact .mk) ?_
   simp [Tryz.f4]
 intro h24
 have hs := fewStt_ok (s := s) (by simpa using h24)
 have c25 := ct25 g s s hs
 rw [sameStt_refl] at c25
 have c38 := ct38 g s hs two n
 have c39 := ct39 g s hs two n
 have c40 := ct40 g s hs n
 have c41 := ct41 g s hs n
 refine W_skip ?_
 refine xT ?_
 refine xO ?_ (h := by simp [eSlot]; exact .mk)
 refine xC (ct21 g s hs) ?_ (he := by simp [row_rows, Function.comp_def]; exact .mk) (hi := by simp [oStt]; exact .mk)
 refine xO ?_
 refine xO ?_ (h := by simp [splice]; exact .mk)
 refine xE [1,2,3,7,9] ?_
 refine xT ?_
 refine xO ?_ (h := by simp [eSlot]; exact .mk)
 iterate 2 refine xO ?_
 refine xC (c38) ?_ (he := by simp [row_rows, Function.comp_def]; exact .mk) (hi := by simp [oStt]; exact .mk)
 iterate 5 refine xO ?_
 refine xE [1,2,3,7,9,10,11] ?_
 refine xT ?_
 refine xO ?_ (h := by simp [eSlot]; exact .mk)
 iterate 2 refine xO ?_
 refine xC (c39) ?_ (he := by simp [row_rows, Function.comp_def]; exact .mk) (hi := by simp [oStt]; exact .mk)
 iterate 5 refine xO ?_
 refine xE [2,3,7,9,10,11,12,13] ?_
 refine xT ?_
 refine xO ?_ (h := by simp [eSlot]; exact .mk)
 refine xO ?_
 refine xC (c40) ?_ (he := by simp [row_rows, Function.comp_def]; exact .mk) (hi := by simp [oStt]; exact .mk)
 iterate 7 refine xO ?_
 refine xE [2,3,7,9,10,11,12,13,14,15,16] ?_
 refine xT ?_
 refine xO ?_ (h := by simp [eSlot]; exact .mk)
 refine xO ?_
 refine xC (c41) ?_ (he := by simp [row_rows, Function.comp_def]; exact .mk) (hi := by simp [oStt]; exact .mk)
 iterate 7 refine xO ?_
 refine xE [3,7,9,10,11,12,13,14,15,16,17,18,19] ?_
 refine xT ?_
 iterate 2 refine xO ?_
 iterate 3 refine xI ?_
 refine xP ?_
 refine xB ?_
 iterate 3 refine xI ?_
 refine xP ?_
 refine xB ?_
 iterate 3 refine xI ?_
 refine xP ?_
 refine xB ?_
 iterate 3 refine xI ?_
 refine xP ?_
 refine xB ?_
 iterate 3 refine xI ?_
 refine xP ?_
 refine xB ?_
 iterate 2 (refine run_if rfl (by simp; exact .mk) rfl (by simp <;> first | omega | grind) (fun hb => by simp [eSlot]; exact .mk) ?_)
 refine run_call rfl (by simp; exact .mk) rfl rfl (by simp) (by simp; exact .mk) (by simp [row_rows, Function.comp_def]; exact .mk) (fun hb => c25) (by simp) (by simp [oStt]; exact .mk) (by simp) ?_
 refine xP ?_
 refine xB ?_
 refine xE [6] fun _ => ?_
 refine W_ret ?_
 refine xR (by simp [Tryz.f4]; exact .mk) ?_
 simp [Tryz.f4]

end Go.Proofs
