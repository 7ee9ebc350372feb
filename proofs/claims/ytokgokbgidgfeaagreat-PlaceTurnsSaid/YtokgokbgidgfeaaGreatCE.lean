/- Contracts of the program's functions and plain facts, for arguments as each lemma says. -/
import Derived.Test.YtokgokbgidgfeaaGreatAwpD
import Derived.Test.YtokgokbgidgfeaaGreatCD
import Derived.Test.YtokgokbgidgfeaaGreatAwpC
set_option linter.all false
set_option maxHeartbeats 4000000
set_option maxRecDepth 4000
namespace Go.Proofs
open Go.Awp
theorem ct110 (g : Gl) (l : List Slot) (hl : l.length ≤ 2^40) (x : Slot) : CtAt Tryz.prog g 110 [rSl l, eSlot x] (.tup [oSl (takeT l x).1, .agg [vI (takeT l x).2.1.1, vI (takeT l x).2.1.2], vI (takeT l x).2.2]) := by
 refine xA Tryz.func110 fun B S => ?_
 simp only [eSlot, List.map, argD_agg]
 refine xU ?_
 refine xO4 ?_
 refine xF [0,3,5] ?_
 refine W_seq (xU ?_)
 refine xO ?_
 refine xC (ct139 g l hl) ?_
 refine xO ?_
 refine xQ [0,3,5,11] ?_ ?_
 · intro h11
   have hr : takeT l x = ([], (0, 0), 1) := by unfold takeT; rw [if_neg (by simpa using h11)]
   refine xU ?_
   refine xOs ?_
   refine xO ?_
   refine xOs ?_
   refine xH [4,5,6] ?_
   refine W_ret (xR (by simp [Tryz.f110]; exact .mk) ?_)
   first | (simp [Tryz.f110, hr, ownR, List.map_set]; done) | simp [Tryz.f110, hr, ownR, List.map_set, hk]
 intro h11
 have ht : tableS l = true := by simpa using h11
 refine W_skip ?_
 refine xT ?_
 refine xO ?_
 refine xC (ct109 g l hl) ?_
 refine xO5 ?_
 refine xF [0,3,5,7,8] ?_
 refine W_seq (xU ?_)
 refine xO2 ?_
 refine xQ [0,3,5,7,19] ?_ ?_
 · intro h19
   have hn : nextS l = none := by simpa using h19
   have hr : takeT l x = ([], (0, 0), 9) := by unfold takeT; rw [if_pos ht, hn]
   refine xU ?_
   refine xOs ?_
   refine xO ?_
   refine xOs ?_
   refine xH [4,5,6] ?_
   refine W_ret (xR (by simp [Tryz.f110]; exact .mk) ?_)
   first | (simp [Tryz.f110, hr, ownR, List.map_set]; done) | simp [Tryz.f110, hr, ownR, List.map_set, hk]
 intro h19
 obtain ⟨k, hk⟩ : ∃ k, nextS l = some k := Option.isSome_iff_exists.1 (by simpa using h19)
 obtain ⟨hkl, _, _⟩ := nextS_spec hk
 have hkk : (((nextS l).getD 0 : Nat) : Int) = k := by rw [hk]; rfl
 refine W_skip fun _ => ?_
 refine W_seq ?_
 refine W_regDT (hard := []) [2,3,4,6] (keepOk_lt (by decide)) (by kernel_rfl) 4 [[0,1,2,3,4,5,6,7,8], [0,1,2,3,5,6,4,7,8], [0,1,2,5,6,3,4,7,8], [0,1,5,6,2,3,4,7,8]] (by decide +kernel) ⟨?_, ?_, ?_, ?_, trivial⟩
 · skip
   refine xO2 ?_
   refine xO ?_ (h := by simp [eSlot, hk, hkl]; exact .mk)
   refine xO ?_
   refine xOl ?_
   refine xO ?_
   refine xO ?_ (h := by simp [splice, nrmL, nrm, putC, splice]; exact .mk)
   refine xO ?_
   refine xO ?_ (h := by simp [splice, nrmL, nrm, putC, splice]; exact .mk)
   refine xF [0,3,5,7] ?_
   refine W_seq (xU ?_)
   refine xOl ?_
   refine run_call0 rfl rfl rfl rfl (by simp; exact .mk) (by simp; exact .mk) (by have := ct161 g (tookS x (nth l k).gen); exact this) (by simp) (by simp; exact .mk) ?_
   refine xO ?_
   refine xQ [0,3,5,7,30] ?_ ?_
   · intro h30
     have hr : takeT l x = ([], (0, 0), 1) := by unfold takeT; rw [if_pos ht, hk]; simp only; rw [if_neg (by simpa using h30)]
     refine xU ?_
     refine xOs ?_
     refine xO ?_
     refine xOs ?_
     refine xH [4,5,6] ?_
     refine W_ret (xR (by simp [Tryz.f110]; exact .mk) ?_)
     first | (simp [Tryz.f110, hr, ownR, List.map_set]; done) | simp [Tryz.f110, hr, ownR, List.map_set, hk]
   intro h30
   have hr : takeT l x = (l.set k (tookS x (nth l k).gen), ((k : Int), (nth l k).gen), 0) := by unfold takeT; rw [if_pos ht, hk]; simp only; rw [if_pos (by simpa using h30)]
   refine W_skip fun _ => ?_
   refine W_seq ?_
   refine W_regD (by kernel_rfl) [] 4 [0,1,2,4,5,6,7,3,8,9,10] (by decide +kernel) ?_
   refine xO2 ?_
   refine xOl ?_
   refine xO2 ?_
   refine xOl ?_
   refine xOs ?_
   refine run_call0 rfl rfl rfl rfl (by simp; exact .mk) (by simp; exact .mk) (by have := ct162 g l k (tookS x (nth l k).gen) hl hkl; rw [← hkk] at this; exact this) (by simp) (by simp; exact .mk) ?_
   refine xO ?_
   refine xOs ?_
   refine xH [4,5,6] ?_
   refine W_ret (xR (by simp [Tryz.f110]; exact .mk) ?_)
   first | (simp [Tryz.f110, hr, ownR, List.map_set]; done) | simp [Tryz.f110, hr, ownR, List.map_set, hk]
 · skip
   refine xO2 ?_
   refine xO ?_ (h := by simp [eSlot, hk, hkl]; exact .mk)
   refine xO2 ?_
   refine xO ?_ (h := by simp [splice, nrmL, nrm, putC, splice]; exact .mk)
   refine xOl ?_
   refine xO ?_
   refine xO ?_ (h := by simp [splice, nrmL, nrm, putC, splice]; exact .mk)
   refine xF [0,3,5,7] ?_
   refine W_seq (xU ?_)
   refine xOl ?_
   refine run_call0 rfl rfl rfl rfl (by simp; exact .mk) (by simp; exact .mk) (by have := ct161 g (tookS x (nth l k).gen); exact this) (by simp) (by simp; exact .mk) ?_
   refine xO ?_
   refine xQ [0,3,5,7,30] ?_ ?_
   · intro h30
     have hr : takeT l x = ([], (0, 0), 1) := by unfold takeT; rw [if_pos ht, hk]; simp only; rw [if_neg (by simpa using h30)]
     refine xU ?_
     refine xOs ?_
     refine xO ?_
     refine xOs ?_
     refine xH [4,5,6] ?_
     refine W_ret (xR (by simp [Tryz.f110]; exact .mk) ?_)
     first | (simp [Tryz.f110, hr, ownR, List.map_set]; done) | simp [Tryz.f110, hr, ownR, List.map_set, hk]
   intro h30
   have hr : takeT l x = (l.set k (tookS x (nth l k).gen), ((k : Int), (nth l k).gen), 0) := by unfold takeT; rw [if_pos ht, hk]; simp only; rw [if_pos (by simpa using h30)]
   refine W_skip fun _ => ?_
   refine W_seq ?_
   refine W_regD (by kernel_rfl) [] 4 [0,1,2,4,5,6,7,3,8,9,10] (by decide +kernel) ?_
   refine xO2 ?_
   refine xOl ?_
   refine xO2 ?_
   refine xOl ?_
   refine xOs ?_
   refine run_call0 rfl rfl rfl rfl (by simp; exact .mk) (by simp; exact .mk) (by have := ct162 g l k (tookS x (nth l k).gen) hl hkl; rw [← hkk] at this; exact this) (by simp) (by simp; exact .mk) ?_
   refine xO ?_
   refine xOs ?_
   refine xH [4,5,6] ?_
   refine W_ret (xR (by simp [Tryz.f110]; exact .mk) ?_)
   first | (simp [Tryz.f110, hr, ownR, List.map_set]; done) | simp [Tryz.f110, hr, ownR, List.map_set, hk]
 · skip
   refine xO2 ?_
   refine xO ?_ (h := by simp [eSlot, hk, hkl]; exact .mk)
   refine xO ?_
   refine xO ?_ (h := by simp [splice, nrmL, nrm, putC, splice]; exact .mk)
   refine xO ?_
   refine xOl ?_
   refine xO ?_
   refine xO ?_ (h := by simp [splice, nrmL, nrm, putC, splice]; exact .mk)
   refine xF [0,3,5,7] ?_
   refine W_seq (xU ?_)
   refine xOl ?_
   refine run_call0 rfl rfl rfl rfl (by simp; exact .mk) (by simp; exact .mk) (by have := ct161 g (tookS x (nth l k).gen); exact this) (by simp) (by simp; exact .mk) ?_
   refine xO ?_
   refine xQ [0,3,5,7,30] ?_ ?_
   · intro h30
     have hr : takeT l x = ([], (0, 0), 1) := by unfold takeT; rw [if_pos ht, hk]; simp only; rw [if_neg (by simpa using h30)]
     refine xU ?_
     refine xOs ?_
     refine xO ?_
     refine xOs ?_
     refine xH [4,5,6] ?_
     refine W_ret (xR (by simp [Tryz.f110]; exact .mk) ?_)
     first | (simp [Tryz.f110, hr, ownR, List.map_set]; done) | simp [Tryz.f110, hr, ownR, List.map_set, hk]
   intro h30
   have hr : takeT l x = (l.set k (tookS x (nth l k).gen), ((k : Int), (nth l k).gen), 0) := by unfold takeT; rw [if_pos ht, hk]; simp only; rw [if_pos (by simpa using h30)]
   refine W_skip fun _ => ?_
   refine W_seq ?_
   refine W_regD (by kernel_rfl) [] 4 [0,1,2,4,5,6,7,3,8,9,10] (by decide +kernel) ?_
   refine xO2 ?_
   refine xOl ?_
   refine xO2 ?_
   refine xOl ?_
   refine xOs ?_
   refine run_call0 rfl rfl rfl rfl (by simp; exact .mk) (by simp; exact .mk) (by have := ct162 g l k (tookS x (nth l k).gen) hl hkl; rw [← hkk] at this; exact this) (by simp) (by simp; exact .mk) ?_
   refine xO ?_
   refine xOs ?_
   refine xH [4,5,6] ?_
   refine W_ret (xR (by simp [Tryz.f110]; exact .mk) ?_)
   first | (simp [Tryz.f110, hr, ownR, List.map_set]; done) | simp [Tryz.f110, hr, ownR, List.map_set, hk]
 skip
 refine xO3 ?_
 refine xO ?_ (h := by simp [splice, nrmL, nrm, putC, splice]; exact .mk)
 refine xO ?_ (h := by simp [eSlot, hk, hkl]; exact .mk)
 refine xO ?_
 refine xOl ?_
 refine xO ?_
 refine xO ?_ (h := by simp [splice, nrmL, nrm, putC, splice]; exact .mk)
 refine xF [0,3,5,7] ?_
 refine W_seq (xU ?_)
 refine xOl ?_
 refine run_call0 rfl rfl rfl rfl (by simp; exact .mk) (by simp; exact .mk) (by have := ct161 g (tookS x (nth l k).gen); exact this) (by simp) (by simp; exact .mk) ?_
 refine xO ?_
 refine xQ [0,3,5,7,30] ?_ ?_
 · intro h30
   have hr : takeT l x = ([], (0, 0), 1) := by unfold takeT; rw [if_pos ht, hk]; simp only; rw [if_neg (by simpa using h30)]
   refine xU ?_
   refine xOs ?_
   refine xO ?_
   refine xOs ?_
   refine xH [4,5,6] ?_
   refine W_ret (xR (by simp [Tryz.f110]; exact .mk) ?_)
   first | (simp [Tryz.f110, hr, ownR, List.map_set]; done) | simp [Tryz.f110, hr, ownR, List.map_set, hk]
 intro h30
 have hr : takeT l x = (l.set k (tookS x (nth l k).gen), ((k : Int), (nth l k).gen), 0) := by unfold takeT; rw [if_pos ht, hk]; simp only; rw [if_pos (by simpa using h30)]
 refine W_skip fun _ => ?_
 refine W_seq ?_
 refine W_regD (by kernel_rfl) [] 4 [0,1,2,4,5,6,7,3,8,9,10] (by decide +kernel) ?_
 refine xO2 ?_
 refine xOl ?_
 refine xO2 ?_
 refine xOl ?_
 refine xOs ?_
 refine run_call0 rfl rfl rfl rfl (by simp; exact .mk) (by simp; exact .mk) (by have := ct162 g l k (tookS x (nth l k).gen) hl hkl; rw [← hkk] at this; exact this) (by simp) (by simp; exact .mk) ?_
 refine xO ?_
 refine xOs ?_
 refine xH [4,5,6] ?_
 refine W_ret (xR (by simp [Tryz.f110]; exact .mk) ?_)
 first | (simp [Tryz.f110, hr, ownR, List.map_set]; done) | simp [Tryz.f110, hr, ownR, List.map_set, hk]

theorem ct108 (g : Gl) (e : Int) : CtAt Tryz.prog g 108 [vI e] (.tup [oStt zStt, .agg [vI 0, vI 0], vI e]) := by
 refine xA Tryz.func108 fun B S => ?_
 refine xU ?_
 refine xO3 ?_
 refine xG [0,2,3] ?_
 iterate 2 (refine xOs ?_)
 refine xO ?_
 iterate 2 (refine xOs ?_)
 refine xH [2,3,4] ?_
 refine W_ret (xR (by simp [Tryz.f108]; exact .mk) ?_)
 simp [Tryz.f108, oStt, zStt, ownR]

open Go.Awp
def betterS (p q : Int × Int) : Bool := decide (p.2 < q.2) || (decide (p.2 = q.2) && decide (p.1 < q.1))
def bestStep (size : Int) (o : Option (Int × Int)) (p : Int × Int) : Option (Int × Int) := if decide (size ≤ p.2) && (!o.isSome || betterS p (o.getD (0, 0))) then some p else o
def bestS (l : List (Int × Int)) (size : Int) : Option (Int × Int) := l.foldl (bestStep size) none
theorem bestS_step {l : List (Int × Int)} {size : Int} {i : Nat} (h : i < l.length) : bestS (l.take (i + 1)) size = bestStep size (bestS (l.take i) size) (nth l i) := by
 rw [take_succ h, bestS, List.foldl_append]; rfl
open Go.Awp
theorem ct235 (g : Gl) (p q : Int × Int) : CtAt Tryz.prog g 235 [eObj p, eObj q] (.v (.bool (betterS p q))) := by
 refine xA Tryz.func235 fun B S => ?_
 simp only [eObj, List.map, argD_agg]
 refine xU ?_
 refine xO3 ?_
 refine xG [2,3] ?_
 iterate 6 refine xO ?_
 iterate 11 refine xI ?_
 iterate 2 refine xP ?_
 refine xB ?_
 refine xF [4] ?_
 refine W_ret (xR (by simp [Tryz.f235]; exact .mk) ?_)
 first | (simp [Tryz.f235, betterS]; done) | (simp [Tryz.f235, betterS] at *; grind)

theorem ct206 (g : Gl) (l : List (Int × Int)) (hl : l.length ≤ 2^40) (size : Int) : CtAt Tryz.prog g 206 [rO l, vI size] (.tup [eObj ((bestS l size).getD (0, 0)), .v (.bool (bestS l size).isSome)]) := by
 refine xA Tryz.func206 fun B S => ?_
 refine xU ?_
 refine xH2 [0,1,4,5] ?_
 refine W_seq (xU ?_)
 refine xH3 [1,4,5,8,9,10] ?_
 refine W_block (W_rounds (fun m σ o => ∃ i : Nat, m = l.length - i ∧ i ≤ l.length ∧ σ = slots [(1, .d (vI size)), (4, .ptr 0 0 0), (5, .d (vT (bestS (l.take i) size).isSome)), (8, .d (rO l)), (9, .d (vI l.length)), (10, .d (vI i))] ∧ o = [.var 115 [.d (vI ((bestS (l.take i) size).getD (0, 0)).1), .d (vI ((bestS (l.take i) size).getD (0, 0)).2)]]) l.length .refl ⟨0, by simp, by simp, by simp; rfl, rfl⟩ ?_)
 rintro m σ o ⟨i, rfl, hi, rfl, rfl⟩ _
 refine xU ?_
 refine xH [1,4,5,8,9,10,11] ?_
 refine W_seq (W_cond rfl ?_ ?_)
 · intro h11
   have hi2 : i < l.length := by simpa using h11
   have hst := bestS_step (size := size) hi2
   refine W_skip fun _ => ?_
   refine W_seq (W_block ?_)
   refine xU ?_
   refine xO ?_ (h := by simp [eObj, *]; exact .mk)
   refine xO ?_ (h := by simp [eObj]; exact .mk)
   refine xO ?_
   refine xOs ?_
   refine xF [1,4,5,7,8,9,10] ?_
   refine W_seq ?_
   rcases hb : bestS (l.take i) size with _ | b
   · skip
     rw [hb] at hst
     refine xY ?_
     refine xO ?_
     refine xO ?_ (h := by simp [eObj]; exact .mk)
     refine xO3 ?_
     iterate 3 refine xI ?_
     iterate 2 (refine xI ?_ (h := fun hb => by simp [eObj]; exact .mk))
     refine run_call rfl (by simp; exact .mk) rfl rfl (by simp) (by simp; exact .mk) (by simp; exact .mk) (fun hb => by have := ct235 g (nth l i) (0, 0); exact this) (by simp) (by simp; exact .mk) (by simp) ?_
     iterate 2 refine xP ?_
     refine xQ [1,4,5,7,8,9,10,26] ?_ ?_
     · intro h26
       have hs : bestS (l.take (i + 1)) size = some (nth l i) := by rw [hst, bestStep, if_pos (by simp at h26 ⊢; grind)]
       refine xY ?_
       refine xO ?_ (h := by simp [eObj]; exact .mk)
       refine xOs ?_
       refine xH [1,4,5,8,9,10] ?_
       refine xY ?_
       refine xO2 ?_
       refine xE [1,4,5,8,9,10] ?_
       refine rounds_drop 1 [1,4,5,8,9,10] (by simp) (by simp [boxA, AV.cells, AV.isCell]) (by simp [boxA, AV.cells, AV.isCell]) ?_
       refine rounds_next (m' := l.length - (i+1)) (by omega) ⟨i+1, rfl, by omega, ?_, ?_⟩
       · rw [wrap64 (by omega) (by omega), hs]; first | rfl | (rw [hb]; rfl)
       rw [hs]; first | rfl | (rw [hb]; rfl)
     intro h26
     have hs : bestS (l.take (i + 1)) size = (bestS (l.take i) size) := by rw [hb, hst, bestStep, if_neg (by simp at h26 ⊢; grind)]
     refine W_skip fun _ => ?_
     refine xY ?_
     refine xO2 ?_
     refine xE [1,4,5,8,9,10] ?_
     refine rounds_drop 1 [1,4,5,8,9,10] (by simp) (by simp [boxA, AV.cells, AV.isCell]) (by simp [boxA, AV.cells, AV.isCell]) ?_
     refine rounds_next (m' := l.length - (i+1)) (by omega) ⟨i+1, rfl, by omega, ?_, ?_⟩
     · rw [wrap64 (by omega) (by omega), hs]; first | rfl | (rw [hb]; rfl)
     rw [hs]; first | rfl | (rw [hb]; rfl)
   skip
   rw [hb] at hst
   refine xY ?_
   refine xO ?_
   refine xO ?_ (h := by simp [eObj]; exact .mk)
   refine xO3 ?_
   iterate 3 refine xI ?_
   iterate 2 (refine xI ?_ (h := fun hb => by simp [eObj]; exact .mk))
   refine run_call rfl (by simp; exact .mk) rfl rfl (by simp) (by simp; exact .mk) (by simp; exact .mk) (fun hb => by have := ct235 g (nth l i) b; exact this) (by simp) (by simp; exact .mk) (by simp) ?_
   iterate 2 refine xP ?_
   refine xQ [1,4,5,7,8,9,10,26] ?_ ?_
   · intro h26
     have hs : bestS (l.take (i + 1)) size = some (nth l i) := by rw [hst, bestStep, if_pos (by simp at h26 ⊢; grind)]
     refine xY ?_
     refine xO ?_ (h := by simp [eObj]; exact .mk)
     refine xOs ?_
     refine xH [1,4,5,8,9,10] ?_
     refine xY ?_
     refine xO2 ?_
     refine xE [1,4,5,8,9,10] ?_
     refine rounds_drop 1 [1,4,5,8,9,10] (by simp) (by simp [boxA, AV.cells, AV.isCell]) (by simp [boxA, AV.cells, AV.isCell]) ?_
     refine rounds_next (m' := l.length - (i+1)) (by omega) ⟨i+1, rfl, by omega, ?_, ?_⟩
     · rw [wrap64 (by omega) (by omega), hs]; first | rfl | (rw [hb]; rfl)
     rw [hs]; first | rfl | (rw [hb]; rfl)
   intro h26
   have hs : bestS (l.take (i + 1)) size = (bestS (l.take i) size) := by rw [hb, hst, bestStep, if_neg (by simp at h26 ⊢; grind)]
   refine W_skip fun _ => ?_
   refine xY ?_
   refine xO2 ?_
   refine xE [1,4,5,8,9,10] ?_
   refine rounds_drop 1 [1,4,5,8,9,10] (by simp) (by simp [boxA, AV.cells, AV.isCell]) (by simp [boxA, AV.cells, AV.isCell]) ?_
   refine rounds_next (m' := l.length - (i+1)) (by omega) ⟨i+1, rfl, by omega, ?_, ?_⟩
   · rw [wrap64 (by omega) (by omega), hs]; first | rfl | (rw [hb]; rfl)
   rw [hs]; first | rfl | (rw [hb]; rfl)
 intro h11
 obtain rfl : i = l.length := by simp at h11; omega
 rw [List.take_length]
 refine W_exit (xT ?_)
 refine xO ?_ (h := by simp [eObj]; exact .mk)
 refine xO ?_
 refine xOs ?_
 refine xH [4,5] ?_
 refine W_ret (xR (by simp [Tryz.f206]; exact .mk) ?_)
 simp [Tryz.f206, eObj]

open Go.Awp
def cellsS (c : Int) : Int × Int := if c < 0 ∨ 6 ≤ c then (0, 1) else ((28 : Int).tdiv (nth wordsL c.toNat), 0)
def cellS (c k : Int) : Int × Int := if c < 0 ∨ 6 ≤ c ∨ k < 0 ∨ (cellsS c).1 ≤ k then (0, 1) else (4 + k * nth wordsL c.toNat, 0)
theorem wordsL_b {k : Nat} (h : k < 6) : nth wordsL k = 2 ∨ nth wordsL k = 3 ∨ nth wordsL k = 5 ∨ nth wordsL k = 7 ∨ nth wordsL k = 10 ∨ nth wordsL k = 15 := wordsL_k h
def gapE (a b : Int) : List (Int × Int) := if a < b then [(a, b - a)] else []
def gapsF (to : Int) : Int → List (Int × Int) → List (Int × Int)
 | a, [] => gapE a to
 | a, p :: l => gapE a p.1 ++ gapsF to (p.1 + p.2) l
theorem gapE_len {a b : Int} : (gapE a b).length ≤ 1 := by unfold gapE; split <;> simp
theorem gapsF_drop {to a : Int} {l : List (Int × Int)} {i : Nat} (h : i < l.length) : gapsF to a (l.drop i) = gapE a (nth l i).1 ++ gapsF to ((nth l i).1 + (nth l i).2) (l.drop (i + 1)) := by
 rw [List.drop_eq_getElem_cons h, nth_eq h]; rfl
open Go.Awp
theorem gapsF_mem {to : Int} : ∀ {l : List (Int × Int)} {a : Int}, gapsOk to a l = true → ∀ g ∈ gapsF to a l, a ≤ g.1 ∧ 0 < g.2 ∧ g.1 + g.2 ≤ to ∧ (∀ p ∈ l, disjI g p)
 | [], a, _, g, hg => by
  simp only [gapsF, gapE] at hg
  split at hg
  · rcases List.mem_singleton.1 hg with rfl
    exact ⟨by simp, by simp; omega, by show a + (to - a) ≤ to; omega, fun p hp => by cases hp⟩
  · cases hg
 | p :: l, a, h, g, hg => by
  have hp := gapsOk_pair h
  obtain ⟨h1, h2, h3⟩ := hp.2 p (by simp)
  have hh := h
  simp only [gapsOk, Bool.and_eq_true] at hh
  have hl := (gapsOk_pair hh.2).2
  simp only [gapsF, List.mem_append] at hg
  rcases hg with hg | hg
  · simp only [gapE] at hg
    split at hg
    · rcases List.mem_singleton.1 hg with rfl
      refine ⟨by simp, by simp; omega, by show a + (p.1 - a) ≤ to; omega, fun q hq => ?_⟩
      rcases List.mem_cons.1 hq with rfl | hq
      · exact .inl (by show a + (q.1 - a) ≤ q.1; omega)
      · exact .inl (by have := hl q hq; show a + (p.1 - a) ≤ q.1; omega)
    · cases hg
  · obtain ⟨g1, g2, g3, g4⟩ := gapsF_mem hh.2 g hg
    refine ⟨by omega, g2, g3, fun q hq => ?_⟩
    rcases List.mem_cons.1 hq with rfl | hq
    · exact .inr (by omega)
    · exact g4 q hq
theorem quad_iff {a : Int} (h : 0 ≤ a) : a.tmod 4 = 0 ↔ a % 4 = 0 := by rw [Int.tmod_eq_emod_of_nonneg h]
theorem gapBad_f {to a : Int} {p : Int × Int} (h : gapBad to a p = false) : a ≤ p.1 ∧ p.1 ≤ to ∧ 4 ≤ p.2 ∧ p.2 ≤ to - p.1 ∧ p.1.tmod 4 = 0 ∧ p.2.tmod 4 = 0 := by
 simp only [gapBad, decide_eq_false_iff_not, not_or, Decidable.not_not] at h
 omega
theorem gapsF_quad {to : Int} : ∀ {l : List (Int × Int)} {a : Int}, gapsOk to a l = true → 0 ≤ a → a % 4 = 0 → ∀ g ∈ gapsF to a l, g.1 % 4 = 0
 | [], a, _, _, h4, g, hg => by
  simp only [gapsF, gapE] at hg
  split at hg
  · rcases List.mem_singleton.1 hg with rfl; exact h4
  · cases hg
 | p :: l, a, h, h0, h4, g, hg => by
  simp only [gapsOk, Bool.and_eq_true, Bool.not_eq_true'] at h
  obtain ⟨b1, b2, b3, b4, b5, b6⟩ := gapBad_f h.1
  rw [quad_iff (by omega)] at b5 b6
  simp only [gapsF, List.mem_append] at hg
  rcases hg with hg | hg
  · simp only [gapE] at hg
    split at hg
    · rcases List.mem_singleton.1 hg with rfl; exact h4
    · cases hg
  · exact gapsF_quad h.2 (by omega) (by omega) g hg
theorem bestS_fold {size : Int} : ∀ (l : List (Int × Int)) (o : Option (Int × Int)), (∀ b, o = some b → size ≤ b.2) →
    (∀ b, l.foldl (bestStep size) o = some b → (b ∈ l ∨ o = some b) ∧ size ≤ b.2) ∧ (l.foldl (bestStep size) o = none → o = none ∧ ∀ p ∈ l, p.2 < size)
 | [], o, h => ⟨fun b hb => ⟨.inr hb, h b hb⟩, fun hn => ⟨hn, fun p hp => by cases hp⟩⟩
 | p :: l, o, h => by
  have hs : ∀ b, bestStep size o p = some b → size ≤ b.2 := by
   intro b hb
   unfold bestStep at hb
   split at hb
   · rename_i hc; cases hb; simp at hc; exact hc.1
   · exact h b hb
  obtain ⟨i1, i2⟩ := bestS_fold l (bestStep size o p) hs
  refine ⟨fun b hb => ?_, fun hn => ?_⟩
  · obtain ⟨j1, j2⟩ := i1 b hb
    refine ⟨?_, j2⟩
    rcases j1 with j1 | j1
    · exact .inl (List.mem_cons_of_mem _ j1)
    · unfold bestStep at j1
      split at j1
      · cases j1; exact .inl (by simp)
      · exact .inr j1
  · obtain ⟨j1, j2⟩ := i2 hn
    unfold bestStep at j1
    split at j1
    · cases j1
    · rename_i hc
      refine ⟨j1, fun q hq => ?_⟩
      rcases List.mem_cons.1 hq with rfl | hq
      · subst j1; simp at hc; exact hc
      · exact j2 q hq
theorem bestS_some {l : List (Int × Int)} {size : Int} {b : Int × Int} (h : bestS l size = some b) : b ∈ l ∧ size ≤ b.2 := by
 obtain ⟨h1, h2⟩ := (bestS_fold l none (by simp)).1 b h
 exact ⟨by simpa using h1, h2⟩
theorem spans_all {R : Int × Int → Prop} {l : List Slot} : (∀ p ∈ spansS l, R p) ↔ ∀ i, i < l.length → isOne (nth l i) = true → R ((nth l i).at_, (needS (nth l i).len).1) := by
 rw [show (∀ i, i < l.length → isOne (nth l i) = true → R ((nth l i).at_, (needS (nth l i).len).1)) ↔ ∀ b ∈ onesR l, R (spanOf b) from (onesR_all (R := fun b => R (spanOf b))).symm]
 simp only [spansS, onesS, List.mem_map]
 constructor
 · intro h b hb; exact h _ ⟨b, (stS_perm (lt := ltB) _).mem_iff.2 hb, rfl⟩
 · rintro h p ⟨b, hb, rfl⟩; exact h b ((stS_perm (lt := ltB) _).mem_iff.1 hb)
def oneS (s : Stt) (n : Int) : Option Int := if (needS n).2 ≠ 0 then none else (bestS (gapsF (s.sh.pages * 32) (s.base * 32) (spansS s.slots)) (needS n).1).map (·.1)
theorem needS_ok {n : Int} (h : 1 ≤ n ∧ n ≤ 2048) : (needS n).2 = 0 := by unfold needS; rw [if_neg (by omega)]
theorem one_some {s : Stt} {n a : Int} (h : sttS s = true) (hn : 1 ≤ n ∧ n ≤ 2048) (ho : oneS s n = some a) : s.base * 32 ≤ a ∧ a.tmod 4 = 0 ∧ a + (needS n).1 ≤ s.sh.pages * 32 ∧
    ∀ i, i < s.slots.length → isOne (nth s.slots i) = true → disjI (a, (needS n).1) ((nth s.slots i).at_, (needS (nth s.slots i).len).1) := by
 unfold oneS at ho
 rw [if_neg (by simp [needS_ok hn])] at ho
 obtain ⟨g, hg, rfl⟩ := Option.map_eq_some_iff.1 ho
 obtain ⟨h1, h2⟩ := bestS_some hg
 have hG := sttS_gaps h
 simp only [gapsS, Bool.and_eq_true] at hG
 have hb := superS_b (sttS_super h)
 obtain ⟨g1, g2, g3, g4⟩ := gapsF_mem hG.2 g h1
 have q := gapsF_quad hG.2 (by omega) (by omega) g h1
 refine ⟨g1, (quad_iff (by omega)).2 q, by omega, ?_⟩
 refine (spans_all (R := fun p => disjI (g.1, (needS n).1) p)).1 fun p hp => ?_
 rcases g4 p hp with r | r
 · exact .inl (by show g.1 + (needS n).1 ≤ p.1; omega)
 · exact .inr r
open Go.Awp
def bumpR (l : List (Int × Int)) : List (Int × Int) := l.set (l.length - 1) ((nth l (l.length - 1)).1, (nth l (l.length - 1)).2 + 1)
def runsI (ks : List Int) : Nat → List (Int × Int) × Bool
 | 0 => ([], false)
 | i + 1 => if nth ks i = -1 then (if (runsI ks i).2 = true then (bumpR (runsI ks i).1, true) else ((runsI ks i).1 ++ [((i : Int), 1)], true)) else ((runsI ks i).1, false)
def runsS (ks : List Int) : List (Int × Int) := (runsI ks ks.length).1
theorem bumpR_last {l : List (Int × Int)} {g : Int × Int} : bumpR (l ++ [g]) = l ++ [(g.1, g.2 + 1)] := by
 have e : (l ++ [g]).length - 1 = l.length := by simp
 have e2 : nth (l ++ [g]) l.length = g := by rw [nth_eq (by simp)]; simp
 unfold bumpR
 rw [e, e2, List.set_append_right _ _ (Nat.le_refl _)]
 simp
structure RunOk (ks : List Int) (i : Nat) (g : Int × Int) : Prop where
 h0 : 0 ≤ g.1
 h1 : 1 ≤ g.2
 h2 : g.1 + g.2 ≤ i
 h3 : ∀ x : Nat, g.1 ≤ x → (x : Int) < g.1 + g.2 → nth ks x = -1
def ShutR (ks : List Int) (i : Nat) (g : Int × Int) : Prop := g.1 + g.2 < (i : Int) ∧ nth ks (g.1 + g.2).toNat ≠ -1
structure RunInv (ks : List Int) (i : Nat) (st : List (Int × Int) × Bool) : Prop where
 ok : ∀ g ∈ st.1, RunOk ks i g
 cov : ∀ x : Nat, x < i → nth ks x = -1 → ∃ g ∈ st.1, g.1 ≤ x ∧ (x : Int) < g.1 + g.2
 op : st.2 = true → ∃ (l : List (Int × Int)) (g : Int × Int), st.1 = l ++ [g] ∧ g.1 + g.2 = (i : Int) ∧ ∀ h ∈ l, ShutR ks i h
 cl : st.2 = false → ∀ g ∈ st.1, ShutR ks i g
theorem runInv {ks : List Int} : ∀ i : Nat, RunInv ks i (runsI ks i)
 | 0 => ⟨fun g hg => by simp [runsI] at hg, fun x hx => by omega, fun h => by simp [runsI] at h, fun _ g hg => by simp [runsI] at hg⟩
 | i + 1 => by
  obtain ⟨h1, h2, h3, h4⟩ := runInv (ks := ks) i
  have up : ∀ {g}, RunOk ks i g → RunOk ks (i + 1) g := fun h => ⟨h.h0, h.h1, by have := h.h2; omega, h.h3⟩
  have us : ∀ {g}, ShutR ks i g → ShutR ks (i + 1) g := fun h => ⟨by have := h.1; omega, h.2⟩
  unfold runsI
  by_cases hk : nth ks i = -1
  · rw [if_pos hk]
    by_cases ho : (runsI ks i).2 = true
    · rw [if_pos ho]
      obtain ⟨l, g, e, g1, g2⟩ := h3 ho
      rw [e] at h1 h2 ⊢
      simp only [bumpR_last]
      have hg := h1 g (by simp)
      refine ⟨fun q hq => ?_, fun x hx hxk => ?_, fun _ => ⟨l, (g.1, g.2 + 1), rfl, by simp only; omega, fun q hq => us (g2 q hq)⟩, fun h => by cases h⟩
      · rcases List.mem_append.1 hq with hq | hq
        · exact up (h1 q (by simp [hq]))
        · rcases List.mem_singleton.1 hq with rfl
          refine ⟨hg.h0, by have := hg.h1; show 1 ≤ g.2 + 1; omega, by show g.1 + (g.2 + 1) ≤ _; omega, fun x q1 q2 => ?_⟩
          simp only at q1 q2
          by_cases e2 : x = i
          · subst e2; exact hk
          · exact hg.h3 x q1 (by omega)
      · by_cases e2 : x = i
        · subst e2; exact ⟨_, List.mem_append_right _ (List.mem_singleton.2 rfl), by simp only; have := hg.h1; omega, by simp only; omega⟩
        · obtain ⟨q, hq, q1, q2⟩ := h2 x (by omega) hxk
          rcases List.mem_append.1 hq with hq | hq
          · exact ⟨q, List.mem_append_left _ hq, q1, q2⟩
          · rcases List.mem_singleton.1 hq with rfl
            exact ⟨_, List.mem_append_right _ (List.mem_singleton.2 rfl), q1, by simp only; omega⟩
    · rw [if_neg ho]
      have ho' : (runsI ks i).2 = false := by simpa using ho
      have hs := h4 ho'
      refine ⟨fun q hq => ?_, fun x hx hxk => ?_, fun _ => ⟨(runsI ks i).1, ((i : Int), 1), rfl, by simp, fun q hq => us (hs q hq)⟩, fun h => by cases h⟩
      · rcases List.mem_append.1 hq with hq | hq
        · exact up (h1 q hq)
        · rcases List.mem_singleton.1 hq with rfl
          refine ⟨by simp, by simp, by simp, fun x q1 q2 => ?_⟩
          simp only at q1 q2
          obtain rfl : x = i := by omega
          exact hk
      · by_cases e2 : x = i
        · subst e2; exact ⟨_, List.mem_append_right _ (List.mem_singleton.2 rfl), by simp, by simp only; omega⟩
        · obtain ⟨q, hq, q1, q2⟩ := h2 x (by omega) hxk
          exact ⟨q, List.mem_append_left _ hq, q1, q2⟩
  · rw [if_neg hk]
    refine ⟨fun q hq => up (h1 q hq), fun x hx hxk => ?_, (fun h => by cases h), fun _ q hq => ?_⟩
    · by_cases e2 : x = i
      · subst e2; exact absurd hxk hk
      · exact h2 x (by omega) hxk
    · by_cases ho : (runsI ks i).2 = true
      · obtain ⟨l, g, e, g1, g2⟩ := h3 ho
        simp only at hq
        rw [e] at hq
        rcases List.mem_append.1 hq with hq | hq
        · exact us (g2 q hq)
        · rcases List.mem_singleton.1 hq with rfl
          exact ⟨by omega, by rw [g1]; simpa using hk⟩
      · exact us (h4 (by simpa using ho) q hq)
def bestRStep (n : Int) (o : Option (Int × Int)) (g : Int × Int) : Option (Int × Int) := if decide (1 ≤ n) && (decide (n ≤ g.2) && (!o.isSome || decide (g.2 < (o.getD (0, 0)).2))) then some g else o
def bestR (ks : List Int) (n : Int) : Option (Int × Int) := (runsS ks).foldl (bestRStep n) none
theorem bestR_fold {n : Int} (hn : 1 ≤ n) : ∀ (l : List (Int × Int)) (o : Option (Int × Int)), (∀ b, o = some b → n ≤ b.2) →
    (∀ b, l.foldl (bestRStep n) o = some b → (b ∈ l ∨ o = some b) ∧ n ≤ b.2) ∧ (l.foldl (bestRStep n) o = none → o = none ∧ ∀ p ∈ l, p.2 < n)
 | [], o, h => ⟨fun b hb => ⟨.inr hb, h b hb⟩, fun hn => ⟨hn, fun p hp => by cases hp⟩⟩
 | p :: l, o, h => by
  have hs : ∀ b, bestRStep n o p = some b → n ≤ b.2 := by
   intro b hb
   unfold bestRStep at hb
   split at hb
   · rename_i hc; cases hb; simp at hc; exact hc.2.1
   · exact h b hb
  obtain ⟨i1, i2⟩ := bestR_fold hn l (bestRStep n o p) hs
  refine ⟨fun b hb => ?_, fun hn => ?_⟩
  · obtain ⟨j1, j2⟩ := i1 b hb
    refine ⟨?_, j2⟩
    rcases j1 with j1 | j1
    · exact .inl (List.mem_cons_of_mem _ j1)
    · unfold bestRStep at j1
      split at j1
      · cases j1; exact .inl (by simp)
      · exact .inr j1
  · obtain ⟨j1, j2⟩ := i2 hn
    unfold bestRStep at j1
    split at j1
    · cases j1
    · rename_i hc
      refine ⟨j1, fun q hq => ?_⟩
      rcases List.mem_cons.1 hq with rfl | hq
      · subst j1; simp at hc; omega
      · exact j2 q hq
theorem bestR_some {ks : List Int} {n : Int} {b : Int × Int} (hn : 1 ≤ n) (h : bestR ks n = some b) : b ∈ runsS ks ∧ n ≤ b.2 := by
 obtain ⟨h1, h2⟩ := (bestR_fold hn (runsS ks) none (by simp)).1 b h
 exact ⟨by simpa using h1, h2⟩
def openC (ks : List Int) (ms : List Nat) (of : Int) (m : Nat) (p : Nat) : Option Nat := if nth ks p = of then (List.range m).find? (fun k => !(nth ms p).testBit k) else none
def slabR (ks : List Int) (ms : List Nat) (of : Int) : Option Nat := (List.range ks.length).find? fun p => (openC ks ms of (cellsS of).1.toNat p).isSome
def freeR (ks : List Int) : Option Nat := (List.range ks.length).find? fun p => decide (nth ks p = -1)
def cellR (ks : List Int) (ms : List Nat) (of : Int) : Option Int := match slabR ks ms of with
 | some p => some ((p : Int) * 32 + (cellS of ((openC ks ms of (cellsS of).1.toNat p).getD 0 : Nat)).1)
 | none => (freeR ks).map fun (p : Nat) => (p : Int) * 32 + 4
def placeS (pages : Int) (l : List (Int × Int)) (n : Int) : Option Int := match laidS pages l with
 | none => none
 | some st => if (classS n).2 = true then cellR st.1 st.2 (classS n).1 else if (pagesS n).2 ≠ 0 then none else (bestR st.1 (pagesS n).1).map fun g => g.1 * 32
theorem laidS_some {pages : Int} {l : List (Int × Int)} {st} (h : laidS pages l = some st) : (0 ≤ pages ∧ pages ≤ 64) ∧ (∀ j, j < l.length → okI pages l j = true) ∧ st = stI pages l l.length := by
 unfold laidS at h
 split at h
 · rename_i h2
   simp only [Bool.and_eq_true, decide_eq_true_eq, List.all_eq_true, List.mem_range] at h2
   cases h
   exact ⟨h2.1, h2.2, rfl⟩
 · cases h
structure LaidP (pages : Int) (l : List (Int × Int)) (ks : List Int) (ms : List Nat) : Prop where
 p0 : 0 ≤ pages ∧ pages ≤ 64
 len : ks.length = pages.toNat
 len2 : ms.length = 64
 good : ∀ j, j < l.length → GoodSpot pages (spotI pages l j)
 free : ∀ x : Nat, (x : Int) < pages → (∀ j, j < l.length → ¬ covers (spotI pages l j) x) → nth ks x = -1
 sm : ∀ j, j < l.length → (spotI pages l j).small = true → nth ks (spotI pages l j).page.toNat = (spotI pages l j).cls ∧ (nth ms (spotI pages l j).page.toNat).testBit (spotI pages l j).cell.toNat = true
 lg : ∀ j, j < l.length → (spotI pages l j).small = false → ∀ x : Nat, covers (spotI pages l j) x → nth ks x = 7 ∨ nth ks x = 6
 bit : ∀ x c : Nat, x < 64 → (nth ms x).testBit c = true → ∃ j, j < l.length ∧ (spotI pages l j).small = true ∧ (spotI pages l j).page = x ∧ (spotI pages l j).cell = c
theorem laidP {pages : Int} {l : List (Int × Int)} {st} (h : laidS pages l = some st) : LaidP pages l st.1 st.2 := by
 obtain ⟨h0, h1, rfl⟩ := laidS_some h
 obtain ⟨_, l2, l3⟩ := laid_iff.1 (show (laidS pages l).isSome = true by rw [h]; rfl)
 obtain ⟨_, hF⟩ := lay_all h0.1 h0.2 l2 l3 l.length (Nat.le_refl _)
 obtain ⟨e1, e2⟩ := stI_len (pages := pages) (l := l) (i := l.length)
 have hg : ∀ j, j < l.length → GoodSpot pages (spotI pages l j) := fun j hj => (spot_words (l2 j hj)).good
 have hold := laid_holds h0.2 h1
 refine ⟨h0, e1, e2, hg, hF.k, fun j hj hs => (hold j hj).1 hs, fun j hj hs x hx => ?_, hF.b⟩
 have g := hg j hj
 have := (hold j hj).2 hs (x - (spotI pages l j).page.toNat) (by have := hx.1; have := hx.2; have := g.p0; show ((x - (spotI pages l j).page.toNat : Nat) : Int) < (spotI pages l j).count; omega)
 rw [show (spotS pages (nth l j)).1.page.toNat + (x - (spotI pages l j).page.toNat) = x by have := hx.1; have := g.p0; show (spotI pages l j).page.toNat + (x - (spotI pages l j).page.toNat) = x; omega] at this
 exact this
theorem covers_k {pages : Int} {l : List (Int × Int)} {ks ms} (h : LaidP pages l ks ms) {j x : Nat} (hj : j < l.length) (hc : covers (spotI pages l j) x) :
    ((spotI pages l j).small = true ∧ (spotI pages l j).page = x ∧ nth ks x = (spotI pages l j).cls ∧ 0 ≤ nth ks x ∧ nth ks x < 6 ∧ (nth ms x).testBit (spotI pages l j).cell.toNat = true ∧ 0 ≤ (spotI pages l j).cell) ∨ ((spotI pages l j).small = false ∧ (nth ks x = 7 ∨ nth ks x = 6)) := by
 have g := h.good j hj
 cases hs : (spotI pages l j).small with
 | true =>
  obtain ⟨s1, s2, s3, s4, s5⟩ := g.s1 hs
  obtain ⟨a1, a2⟩ := h.sm j hj hs
  have e : (spotI pages l j).page = x := by have := hc.1; have := hc.2; omega
  have e2 : (spotI pages l j).page.toNat = x := by omega
  rw [e2] at a1 a2
  exact .inl ⟨rfl, e, a1, by omega, by omega, a2, s4⟩
 | false => exact .inr ⟨rfl, h.lg j hj hs x hc⟩
theorem free_not {pages : Int} {l : List (Int × Int)} {ks ms} (h : LaidP pages l ks ms) {j x : Nat} (hj : j < l.length) (hk : nth ks x = -1) : ¬ covers (spotI pages l j) x := fun hc => by
 rcases covers_k h hj hc with q | q <;> omega
theorem apart_of_pages {a b : Spot} (ha : 1 ≤ a.count) (hb : 1 ≤ b.count) (h0 : 0 ≤ a.page) (h1 : 0 ≤ b.page) (h : ∀ x : Nat, covers a x → ¬ covers b x) : a.page + a.count ≤ b.page ∨ b.page + b.count ≤ a.page := by
 apply Classical.byContradiction
 intro hc
 by_cases q : a.page ≤ b.page
 · exact h b.page.toNat ⟨by omega, by omega⟩ ⟨by omega, by omega⟩
 · exact h a.page.toNat ⟨by omega, by omega⟩ ⟨by omega, by omega⟩
theorem cells_tab : ∀ c : Nat, c < 6 → ∀ k : Nat, k < 14 → (k : Int) < (cellsS c).1 → whichS c (cellS c k).1 = ((k : Int), true) ∧ 4 ≤ (cellS c k).1 ∧ (cellS c k).1 < 32 := by decide +kernel
theorem cells_max : ∀ c : Nat, c < 6 → (cellsS c).1 ≤ 14 ∧ 1 ≤ (cellsS c).1 := by decide +kernel
theorem which_four : ∀ c : Nat, c < 6 → whichS c 4 = (0, true) := by decide +kernel
theorem spot_small {pages n a p : Int} {o : Int} {k : Int} (hc : (classS n).2 = true) (ha : a = p * 32 + o) (hp : 0 ≤ p) (hpp : p < pages) (ho : 0 ≤ o ∧ o < 32) (hw : whichS (classS n).1 o = (k, true)) :
    spotS pages (a, n) = (⟨p, 1, true, (classS n).1, k⟩, true) := by
 have e1 : a.tdiv 32 = p := by rw [Int.tdiv_eq_ediv_of_nonneg (by omega)]; omega
 have e2 : a.tmod 32 = o := by rw [Int.tmod_eq_emod_of_nonneg (by omega)]; omega
 unfold spotS
 simp only
 rw [if_neg (by omega), if_pos hc, e1, e2, hw]
 simp [hpp]
theorem spot_large {pages n a p : Int} (hc : (classS n).2 = false) (he : (pagesS n).2 = 0) (ha : a = p * 32) (hp : 0 ≤ p) (hpp : p + (pagesS n).1 ≤ pages) (h1 : 1 ≤ (pagesS n).1) :
    spotS pages (a, n) = (⟨p, (pagesS n).1, false, (classS n).1, 0⟩, true) := by
 have e1 : a.tdiv 32 = p := by rw [Int.tdiv_eq_ediv_of_nonneg (by omega)]; omega
 have e2 : a.tmod 32 = 0 := by rw [Int.tmod_eq_emod_of_nonneg (by omega)]; omega
 unfold spotS
 simp only
 rw [if_neg (by omega), if_neg (by simp [hc]), e1, e2]
 simp [he]; omega
theorem pagesS_b {n : Int} (h : (pagesS n).2 = 0) : 1 ≤ (pagesS n).1 := by
 unfold pagesS at h ⊢
 split
 · rename_i q; rw [if_pos q] at h; cases h
 · rename_i q
   show 1 ≤ (n + 256 - 1).tdiv 256
   rw [Int.tdiv_eq_ediv_of_nonneg (by omega)]; omega
theorem classS_c {n : Int} (h : (classS n).2 = true) : ∃ c : Nat, c < 6 ∧ (classS n).1 = c := by
 obtain ⟨_, k, h1, h2, _⟩ := classS_spec h
 exact ⟨k, h1, h2⟩
theorem find_range {n p : Nat} {f : Nat → Bool} (h : (List.range n).find? f = some p) : p < n ∧ f p = true ∧ ∀ j, j < p → f j = false := by
 rw [List.find?_eq_some_iff_getElem] at h
 obtain ⟨h1, i, hi, h2, h3⟩ := h
 simp at hi h2; subst h2
 exact ⟨hi, h1, fun j hj => by have := h3 j hj; simpa using this⟩
theorem place_some {pages n a : Int} {l : List (Int × Int)} (h : placeS pages l n = some a) : (spotS pages (a, n)).2 = true ∧ ∀ j, j < l.length → apartS (spotI pages l j) (spotS pages (a, n)).1 := by
 unfold placeS at h
 cases hl : laidS pages l with
 | none => rw [hl] at h; cases h
 | some st =>
  rw [hl] at h; simp only at h
  have L := laidP hl
  split at h
  · rename_i hc
    obtain ⟨c, hc6, hcn⟩ := classS_c hc
    obtain ⟨m1, m2⟩ := cells_max c hc6
    unfold cellR at h
    rw [hcn] at h
    cases hs : slabR st.1 st.2 c with
    | some p =>
     rw [hs] at h; simp only at h
     obtain ⟨p1, p2, _⟩ := find_range hs
     obtain ⟨k, hk⟩ := Option.isSome_iff_exists.1 p2
     rw [hk] at h
     simp only [Option.getD_some, Option.some.injEq] at h
     unfold openC at hk
     split at hk
     · rename_i hof
       obtain ⟨k1, k2, _⟩ := find_range hk
       obtain ⟨w1, w2, w3⟩ := cells_tab c hc6 k (by omega) (by omega)
       have hpl := L.len
       have e := spot_small (pages := pages) (a := a) (p := p) (k := k) hc h.symm (by omega) (by omega) ⟨by omega, w3⟩ (by rw [hcn]; exact w1)
       rw [e]
       refine ⟨rfl, fun j hj => ?_⟩
       have g := L.good j hj
       by_cases hcv : covers (spotI pages l j) p
       · rcases covers_k L hj hcv with ⟨q1, q2, q3, q4, q5, q6, q7⟩ | ⟨_, q⟩
         · refine .inl ⟨q1, rfl, by simp only; rw [hcn]; omega, fun e2 => ?_⟩
           simp only at e2
           rw [e2, Int.toNat_natCast] at q6
           simp [q6] at k2
         · omega
       · unfold covers at hcv
         simp only [apartS]
         right; omega
     · cases hk
    | none =>
     rw [hs] at h; simp only at h
     obtain ⟨p, hp, rfl⟩ := Option.map_eq_some_iff.1 h
     obtain ⟨p1, p2, _⟩ := find_range hp
     have hpl := L.len
     have e := spot_small (pages := pages) (a := (p : Int) * 32 + 4) (p := p) (k := 0) hc rfl (by omega) (by omega) ⟨by omega, by omega⟩ (by rw [hcn]; exact which_four c hc6)
     rw [e]
     refine ⟨rfl, fun j hj => ?_⟩
     have hcv := free_not L hj (by simpa using p2 : nth st.1 p = -1)
     unfold covers at hcv
     have g := L.good j hj
     have := g.c1
     simp only [apartS]
     right; omega
  · rename_i hc
    split at h
    · cases h
    · rename_i he
      have he : (pagesS n).2 = 0 := by simpa using he
      have h1 := pagesS_b he
      obtain ⟨g, hg, rfl⟩ := Option.map_eq_some_iff.1 h
      obtain ⟨b1, b2⟩ := bestR_some h1 hg
      obtain ⟨r0, r1, r2, r3⟩ := (runInv (ks := st.1) st.1.length).ok g b1
      have hpl := L.len
      have hp0 := L.p0
      have e := spot_large (pages := pages) (a := g.1 * 32) (p := g.1) (by simpa using hc) he rfl r0 (by omega) h1
      rw [e]
      refine ⟨rfl, fun j hj => .inr ?_⟩
      have gd := L.good j hj
      refine apart_of_pages gd.c1 h1 gd.p0 r0 fun x c1 c2 => free_not L hj (r3 x c2.1 ?_) c1
      have := c2.2
      simp only at this; omega
open Go.Awp
def roomW (s : Stt) (two : Bool) (n : Int) : Option Int := if two = true then placeS s.base (twosO s.slots) n else oneS s n
theorem gapsF_len {to : Int} : ∀ {l : List (Int × Int)} {a : Int}, (gapsF to a l).length ≤ l.length + 1
 | [], a => by simp only [gapsF]; have := gapE_len (a := a) (b := to); simpa using this
 | p :: l, a => by
  have := gapE_len (a := a) (b := p.1)
  have := gapsF_len (to := to) (l := l) (a := p.1 + p.2)
  simp only [gapsF, List.length_append, List.length_cons]; omega
theorem runsI_len {ks : List Int} : ∀ {i : Nat}, (runsI ks i).1.length ≤ i
 | 0 => by simp [runsI]
 | i + 1 => by
  have := runsI_len (ks := ks) (i := i)
  unfold runsI
  split
  · split
    · simp only [bumpR, List.length_set]; omega
    · simp only [List.length_append, List.length_singleton]; omega
  · simp only; omega
theorem runsI_pos {ks : List Int} {i : Nat} (h : (runsI ks i).2 = true) : ∃ m, (runsI ks i).1.length = m + 1 ∧ 1 ≤ (nth (runsI ks i).1 m).2 ∧ (nth (runsI ks i).1 m).2 ≤ i := by
 have I := runInv (ks := ks) i
 obtain ⟨l, g, e, _⟩ := I.op h
 have hg := I.ok g (by rw [e]; simp)
 refine ⟨l.length, by rw [e]; simp, ?_⟩
 have : nth (runsI ks i).1 l.length = g := by rw [e, nth_eq (by simp)]; simp
 rw [this]
 have := hg.h0; have := hg.h1; have := hg.h2
 omega
theorem bestR_mem {n : Int} : ∀ (l : List (Int × Int)) (o : Option (Int × Int)) (b), l.foldl (bestRStep n) o = some b → b ∈ l ∨ o = some b
 | [], o, b, h => .inr h
 | p :: l, o, b, h => by
  rcases bestR_mem l _ b h with h | h
  · exact .inl (List.mem_cons_of_mem _ h)
  · unfold bestRStep at h
    split at h
    · cases h; exact .inl (by simp)
    · exact .inr h
theorem bestR_b {ks : List Int} {n : Int} : 0 ≤ ((bestR ks n).getD (0, 0)).1 ∧ ((bestR ks n).getD (0, 0)).1 ≤ ks.length := by
 cases h : bestR ks n with
 | none => simp
 | some b =>
  rcases bestR_mem _ _ _ h with q | q
  · have r := (runInv (ks := ks) ks.length).ok b q
    have := r.h0; have := r.h1; have := r.h2
    simp only [Option.getD_some]; omega
  · cases q
theorem find_at {n p : Nat} {f : Nat → Bool} (hp : p < n) (h : f p = true) (hj : ∀ j, j < p → f j = false) : (List.range n).find? f = some p := by
 rw [List.find?_eq_some_iff_getElem]
 exact ⟨h, p, by simpa using hp, by simp, fun j hj2 => by simp [hj j hj2]⟩
theorem find_no {n : Nat} {f : Nat → Bool} (hj : ∀ j, j < n → f j = false) : (List.range n).find? f = none := by
 rw [List.find?_eq_none]
 intro x hx
 simp at hx
 simp [hj x hx]
theorem openC_some {ks : List Int} {ms : List Nat} {of : Int} {m p k : Nat} (h1 : nth ks p = of) (hk : k < m) (hb : ∀ j, j < k → (nth ms p).testBit j = true) (h : (nth ms p).testBit k = false) : openC ks ms of m p = some k := by
 unfold openC; rw [if_pos h1]
 exact find_at hk (by simp [h]) fun j hj => by simp [hb j hj]
theorem openC_none {ks : List Int} {ms : List Nat} {of : Int} {m p : Nat} (h : nth ks p = of → ∀ j, j < m → (nth ms p).testBit j = true) : (openC ks ms of m p).isSome = false := by
 unfold openC
 split
 · rename_i e; rw [find_no fun j hj => by simp [h e j hj]]; rfl
 · rfl
theorem slabR_some {ks : List Int} {ms : List Nat} {of : Int} {m p k : Nat} (hm : (cellsS of).1.toNat = m) (hp : p < ks.length) (hj : ∀ q, q < p → (openC ks ms of m q).isSome = false) (h : openC ks ms of m p = some k) : slabR ks ms of = some p := by
 unfold slabR; rw [hm]
 exact find_at hp (by rw [h]; rfl) hj
theorem slabR_none {ks : List Int} {ms : List Nat} {of : Int} {m : Nat} (hm : (cellsS of).1.toNat = m) (hj : ∀ q, q < ks.length → (openC ks ms of m q).isSome = false) : slabR ks ms of = none := by
 unfold slabR; rw [hm]
 exact find_no hj
theorem freeR_some {ks : List Int} {p : Nat} (hp : p < ks.length) (h : nth ks p = -1) (hj : ∀ q, q < p → nth ks q ≠ -1) : freeR ks = some p := find_at hp (by simp [h]) fun j hq => by simp [hj j hq]
theorem freeR_none {ks : List Int} (hj : ∀ q, q < ks.length → nth ks q ≠ -1) : freeR ks = none := find_no fun j hq => by simp [hj j hq]
theorem shrO {m k : Nat} (h : k < 64) : shOp .shr .u64 (m : Int) (k : Int) = some (.int .u64 ((m >>> k : Nat) : Int)) := by
 have e : min (k : Int).toNat IntKind.u64.bits = k := by show min k 64 = k; omega
 unfold shOp
 rw [if_neg (by omega)]
 simp only [e]
 have e2 : ((2 : Int) ^ k) = ((2 ^ k : Nat) : Int) := by push_cast; rfl
 rw [e2, Int.fdiv_eq_ediv_of_nonneg _ (Int.natCast_nonneg _), Nat.shiftRight_eq_div_pow]
 rfl
theorem bit2 {m k z : Nat} (hz : z = m >>> k) : m.testBit k = (z % 2 != 0) := by
 subst hz
 unfold Nat.testBit
 rw [Nat.one_and_eq_mod_two]
@[simp high] theorem cells_ownR {α : Type} {k : Nat} {f : α → D} {l : List α} : (ownR k f l).cells = [ownR k f l] := rfl
@[simp high] theorem nrmL_ownR {α : Type} {k k' : Nat} {f : α → D} {l : List α} {m : M} {xs : List D} : nrmL [ownR k f l] [D.row m k' xs] = [D.row m k' xs] := rfl
@[simp high] theorem putC_ownR {α : Type} {k : Nat} {f : α → D} {l : List α} {d : D} : putC (ownR k f l) 0 [d] = d := rfl
theorem putC_own1 {l : List UInt8} {m : M} {k' : Nat} {xs : List D} : putC (oB l) 0 (nrmL [oB l] [D.row m k' xs]) = D.row m k' xs := rfl
theorem foldData {l : List (List UInt8)} {m : Nat} {d : List UInt8} : (l.map oB).set m (D.row M.own 1 (d.map vB)) = (l.set m d).map oB := List.map_set.symm
@[simp] theorem roedc_eObj : D.roed ∘ eObj = eObj := funext roed_eObj
@[simp] theorem roedc_eSlot : D.roed ∘ eSlot = eSlot := funext roed_eSlot
@[simp] theorem roedc_eRoot : D.roed ∘ eRoot = eRoot := funext roed_eRoot
@[simp] theorem roedc_eBlk : D.roed ∘ eBlk = eBlk := funext roed_eBlk
@[simp] theorem roedc_vI : D.roed ∘ vI = vI := funext fun _ => roed_v _
@[simp] theorem roedc_vB : D.roed ∘ vB = vB := funext fun _ => roed_v _
@[simp] theorem roedc_rB : D.roed ∘ rB = rB := funext roed_rB
@[simp] theorem roedc_oB : D.roed ∘ oB = rB := funext fun x => by simp
open Go.Awp
def roomS (s : Stt) (two : Bool) (n : Int) : Option Int := if (sttS s && sizedN n) = true then roomW s two n else none
theorem sizedN_iff {n : Int} : sizedN n = true ↔ 1 ≤ n ∧ n ≤ 2048 := by simp [sizedN]
theorem twos_nth {R : Int × Int → Prop} {l : List Slot} : (∀ j, j < (twosO l).length → R (nth (twosO l) j)) ↔ ∀ i, i < l.length → isTwo (nth l i) = true → R ((nth l i).at_, (nth l i).len) := by
 rw [nth_all (R := R), twos_all]
theorem room_fits {s : Stt} {two : Bool} {n a gen : Int} (h : roomS s two n = some a) : fitsS s ⟨gen, true, two, a, n⟩ ∧ ∀ i, i < s.slots.length → (nth s.slots i).live = true → clearS s.base (nth s.slots i) ⟨gen, true, two, a, n⟩ := by
 unfold roomS roomW at h
 split at h
 · rename_i hr
   simp only [Bool.and_eq_true] at hr
   obtain ⟨h1, h2⟩ := hr
   rw [sizedN_iff] at h2
   cases two with
   | true =>
    rw [if_pos rfl] at h
    obtain ⟨p1, p2⟩ := place_some h
    have p3 := (twos_nth (R := fun o => apartS (spotS s.base o).1 (spotS s.base (a, n)).1)).1 p2
    refine ⟨by unfold fitsS; rw [if_pos rfl]; exact p1, fun i hi hl => ⟨fun t _ => p3 i hi (by simp [isTwo, hl, t]), fun _ t => by cases t⟩⟩
   | false =>
    rw [if_neg (by simp)] at h
    obtain ⟨p1, p2, p3, p4⟩ := one_some h1 h2 h
    refine ⟨by unfold fitsS; rw [if_neg (by simp)]; exact ⟨p1, p2, p3⟩, fun i hi hl => ⟨fun _ t => by (cases t), fun t _ => (p4 i hi (by simp [isOne, hl, t])).symm⟩⟩
 · cases h
def tryR (s : Stt) (n : Int) (two : Bool) : Option (Bool × Int) := (roomS s two n).map fun a => (two, a)
def firstP (s : Stt) (n : Int) : Option (Bool × Int) := if s.mode = 1 then tryR s n false else if s.mode = 2 then tryR s n true else if s.mode = 3 then (tryR s n true).or (tryR s n false) else if s.mode = 4 then (tryR s n false).or (tryR s n true) else none
def modeB (mode : Int) (two : Bool) : Prop := (mode = 1 → two = false) ∧ (mode = 2 → two = true)
theorem tryR_some {s : Stt} {n : Int} {b two : Bool} {a : Int} (h : tryR s n b = some (two, a)) : b = two ∧ roomS s two n = some a := by
 unfold tryR at h
 obtain ⟨x, h1, h2⟩ := Option.map_eq_some_iff.1 h
 cases h2; exact ⟨rfl, h1⟩
theorem first_some {s : Stt} {n a : Int} {two : Bool} (h : firstP s n = some (two, a)) : roomS s two n = some a ∧ modeB s.mode two := by
 unfold firstP at h
 unfold modeB
 split at h
 · obtain ⟨rfl, q⟩ := tryR_some h; exact ⟨q, fun _ => rfl, fun e => by omega⟩
 · split at h
   · obtain ⟨rfl, q⟩ := tryR_some h; exact ⟨q, fun e => by omega, fun _ => rfl⟩
   · split at h
     · refine ⟨?_, fun e => by omega, fun e => by omega⟩
       rcases Option.or_eq_some_iff.1 h with h | h
       · exact (tryR_some h).2
       · exact (tryR_some h.2).2
     · split at h
       · refine ⟨?_, fun e => by omega, fun e => by omega⟩
         rcases Option.or_eq_some_iff.1 h with h | h
         · exact (tryR_some h).2
         · exact (tryR_some h.2).2
       · cases h
def putAt (s : Stt) (k : Nat) (y : Slot) (d : List UInt8) : Stt := { s with slots := s.slots.set k y, data := s.data.set k d }
theorem rowsS_iff {s : Stt} : rowsS s = true ↔ ((s.slots.length : Int) = s.sh.slots ∧ (s.roots.length : Int) = s.sh.roots ∧ s.data.length = s.slots.length) ∧ (∀ i, i < s.slots.length → slotS1 (nth s.slots i) = true) ∧ tnewOk s.slots.length = true ∧ rootsS s.roots = true ∧ ∀ i, i < s.slots.length → ((nth s.data i).length : Int) = (nth s.slots i).len := by
 simp only [rowsS, tableS, lenOk, Bool.and_eq_true, decide_eq_true_eq, List.all_eq_true, List.mem_range]
 constructor
 · rintro ⟨h1, ⟨h2, h3⟩, h4, h5⟩; exact ⟨h1, h2, h3, h4, h5⟩
 · rintro ⟨h1, h2, h3, h4, h5⟩; exact ⟨h1, ⟨h2, h3⟩, h4, h5⟩
theorem fits_at {s : Stt} (h : sttS s = true) {x : Slot} (hf : fitsS s x) (hx : 1 ≤ x.len ∧ x.len ≤ 2048) : 0 ≤ x.at_ ∧ x.at_ ≤ 2048 := by
 have hb := superS_b (sttS_super h)
 unfold fitsS at hf
 split at hf
 · have W := spot_range (spot_words hf)
   simp only at W
   have : 0 ≤ (x.len + 7).tdiv 8 := Int.tdiv_nonneg (by omega) (by omega)
   omega
 · have := needS_pos hx
   omega
def newSlot (gen n : Int) (two : Bool) (a : Int) : Slot := ⟨gen, true, two, a, n⟩
def zerosB (n : Int) : List UInt8 := List.replicate n.toNat 0
def putS (s : Stt) (n : Int) : Stt × (Int × Int) × Int := if (sttS s && sizedN n) = true then (match nextS s.slots with
  | none => (zStt, (0, 0), 9)
  | some k => match firstP s n with
    | none => (zStt, (0, 0), 10)
    | some p => (putAt s k (newSlot (nth s.slots k).gen n p.1 p.2) (zerosB n), ((k : Int), (nth s.slots k).gen), 0)) else (zStt, (0, 0), 1)
theorem slot_gen {s : Stt} (h : sttS s = true) {i : Nat} (hi : i < s.slots.length) : 0 ≤ (nth s.slots i).gen ∧ (nth s.slots i).gen ≤ 65535 := by
 have := tableS_slot (rowsS_t (sttS_rowsS h)) i hi
 unfold slotS1 at this
 split at this
 · cases this
 · omega
theorem new_slot {s : Stt} {n a : Int} {two : Bool} {k : Nat} (h : sttS s = true) (hn : sizedN n = true) (hk : k < s.slots.length) (hf : fitsS s (newSlot (nth s.slots k).gen n two a)) : slotS1 (newSlot (nth s.slots k).gen n two a) = true := by
 have hg := slot_gen h hk
 have hn := sizedN_iff.1 hn
 have ha := fits_at h hf hn
 simp only [newSlot] at ha
 show (if (nth s.slots k).gen < 0 ∨ 65535 < (nth s.slots k).gen then false else if true = false then (two == false && a == 0 && n == 0) else decide (0 ≤ a ∧ a ≤ 2048 ∧ 1 ≤ n ∧ n ≤ 2048)) = true
 rw [if_neg (by omega), if_neg (by simp)]
 simp; omega
def rszB (d : List UInt8) (n : Int) : List UInt8 := d.take n.toNat ++ List.replicate (n.toNat - d.length) 0
theorem rszB_len {d : List UInt8} {n : Int} (h : 0 ≤ n) : ((rszB d n).length : Int) = n := by simp [rszB]; omega
def lenS (x : Slot) (n : Int) : Slot := { x with len := n }
def sizeAt (s : Stt) (k : Nat) (n : Int) : Stt := putAt s k (lenS (nth s.slots k) n) (rszB (nth s.data k) n)
def rszS (s : Stt) (k n : Int) : Stt × Int := if (liveS s k && sizedN n) = true then (if sttS (sizeAt s k.toNat n) = true then (sizeAt s k.toNat n, 0) else match firstP s n with
  | none => (zStt, 10)
  | some p => (layAt (sizeAt s k.toNat n) k.toNat p.1 p.2, 0)) else (zStt, 1)
theorem sizeAt_ok {s : Stt} {m : Nat} {n : Int} (h : s.Ok) (hn : 1 ≤ n ∧ n ≤ 2048) : (sizeAt s m n).Ok := by
 refine ⟨by simpa [sizeAt, putAt] using h.h1, h.h2, by simpa [sizeAt, putAt] using h.h3, fun i hi => ?_, h.h5⟩
 simp only [sizeAt, putAt, List.length_set] at hi ⊢
 by_cases hm : m < s.data.length
 · rw [nth_set2 hm]
   split
   · have := rszB_len (d := nth s.data m) (n := n) (by omega); omega
   · exact h.h4 i hi
 · rw [List.set_eq_of_length_le (by omega)]
   exact h.h4 i hi
theorem foldSlot {l : List Slot} {m : Nat} {n : Int} : (l.map eSlot).set m (D.agg [vI (nth l m).gen, vT (nth l m).live, vT (nth l m).two, vI (nth l m).at_, vI n]) = (l.set m (lenS (nth l m) n)).map eSlot := (List.map_set (f := eSlot) (a := lenS (nth l m) n)).symm
def pickB (ok : Bool → Bool) (two : Bool) : Option Bool := if ok two = true then none else some two
def firstB (mode : Int) (ok : Bool → Bool) : Option Bool := if mode = 1 then pickB ok false else if mode = 2 then pickB ok true else if mode = 3 then (pickB ok true).or (pickB ok false) else if mode = 4 then (pickB ok false).or (pickB ok true) else none
theorem firstP_B {s : Stt} {n : Int} : firstP s n = (firstB s.mode (fun two => (roomS s two n).isNone)).map (fun two => (two, (roomS s two n).getD 0)) := by
 have key : ∀ b, tryR s n b = (pickB (fun two => (roomS s two n).isNone) b).map (fun two => (two, (roomS s two n).getD 0)) := fun b => by
  unfold tryR pickB
  cases h : roomS s b n <;> simp [h]
 unfold firstP firstB
 split
 · exact key _
 · split
   · exact key _
   · split
     · rw [Option.map_or, key, key]
     · split
       · rw [Option.map_or, key, key]
       · rfl
theorem put_take {s : Stt} {n a : Int} {two : Bool} {k : Nat} (hR : sttS s = true) (hn : sizedN n = true) (hk : nextS s.slots = some k) (hp : firstP s n = some (two, a)) :
    takeT s.slots ⟨0, false, two, a, n⟩ = (s.slots.set k (newSlot (nth s.slots k).gen n two a), ((k : Int), (nth s.slots k).gen), 0) := by
 obtain ⟨h1, _⟩ := first_some hp
 obtain ⟨hkl, _, _⟩ := nextS_spec hk
 have hf := (room_fits (gen := (nth s.slots k).gen) h1).1
 unfold takeT
 rw [if_pos (rowsS_t (sttS_rowsS hR)), hk]
 simp only
 rw [show tookS ⟨0, false, two, a, n⟩ (nth s.slots k).gen = newSlot (nth s.slots k).gen n two a from rfl, if_pos (new_slot hR hn hkl hf)]
open Go.Awp
/- The document's answers, in plain Lean: layouts. -/
theorem stI_take {pages : Int} {l : List (Int × Int)} {n : Nat} : ∀ {i : Nat}, i ≤ n → stI pages (l.take n) i = stI pages l i
 | 0, _ => rfl
 | i + 1, h => by simp only [stI]; rw [stI_take (i := i) (by omega), nth_take (by omega)]
theorem okI_take {pages : Int} {l : List (Int × Int)} {n i : Nat} (h : i < n) : okI pages (l.take n) i = okI pages l i := by
 simp only [okI]; rw [stI_take (by omega), nth_take h]
theorem laid_take {pages : Int} {l : List (Int × Int)} {i : Nat} (h0 : 0 ≤ pages ∧ pages ≤ 64) (hi : i ≤ l.length) (h : ∀ j, j < i → okI pages l j = true) : laidS pages (l.take i) = some (stI pages l i) := by
 have hl : (l.take i).length = i := by simp; omega
 unfold laidS
 rw [hl, stI_take (Nat.le_refl _), if_pos]
 simp only [Bool.and_eq_true, decide_eq_true_eq, List.all_eq_true, List.mem_range]
 exact ⟨h0, fun j hj => by rw [okI_take hj]; exact h j hj⟩
theorem mul_words {c w : Int} : (c + 1) * w = c * w + w := by rw [Int.add_mul, Int.one_mul]
theorem cell_bit {pages : Int} {l : List (Int × Int)} {ks ms} (L : LaidP pages l ks ms) (hs : ∀ j, j < l.length → (spotS pages (nth l j)).2 = true) {a : Int} {p c k : Nat} (hk : nth ks p = c) (hc : c < 6) (hp : p < 64) (ha : a = 32 * (p : Int) + 4 + k * nth wordsL c) (hq : 4 + ((k : Int) + 1) * nth wordsL c ≤ 32) :
    (nth ms p).testBit k = true ↔ ∃ j, j < l.length ∧ (nth l j).1 = a := by
 have hw := wordsL_k hc
 obtain ⟨w, hwe⟩ : ∃ w, w = nth wordsL c := ⟨_, rfl⟩
 rw [← hwe] at hw ha hq
 have x0 : 0 ≤ (k : Int) * w := Int.mul_nonneg (by omega) (by omega)
 have x1 := mul_words (c := (k : Int)) (w := w)
 constructor
 · intro h
   obtain ⟨j, hj, j1, j2, j3⟩ := L.bit p k hp h
   obtain ⟨c', hc', e1, e2, _, _⟩ := (spot_words (hs j hj)).sm j1
   have q := (L.sm j hj j1).1
   have e3 : (spotI pages l j).page.toNat = p := by omega
   rw [e3, hk] at q
   have e4 : c' = c := by have : (spotI pages l j).cls = c' := e1; omega
   subst e4
   refine ⟨j, hj, ?_⟩
   rw [e2, ha, hwe]
   rw [show (spotS pages (nth l j)).1.page = (p : Int) from j2, show (spotS pages (nth l j)).1.cell = (k : Int) from j3]
 · rintro ⟨j, hj, he⟩
   have W := spot_words (hs j hj)
   have g := W.good
   cases hsm : (spotS pages (nth l j)).1.small with
   | true =>
    obtain ⟨c', hc', e1, e2, _, e3⟩ := W.sm hsm
    obtain ⟨q1, q2⟩ := L.sm j hj hsm
    obtain ⟨_, _, _, g4, _⟩ := g.s1 hsm
    have hw' := wordsL_k hc'
    have y0 : 0 ≤ (spotS pages (nth l j)).1.cell * nth wordsL c' := Int.mul_nonneg g4 (by omega)
    rw [mul_words] at e3
    have hpg : (spotS pages (nth l j)).1.page = p := by omega
    have hpt : (spotI pages l j).page.toNat = p := by show (spotS pages (nth l j)).1.page.toNat = p; omega
    rw [hpt] at q1 q2
    have e4 : c' = c := by have : (spotI pages l j).cls = c' := e1; omega
    subst e4
    have e5 : (spotS pages (nth l j)).1.cell * w = (k : Int) * w := by rw [← hwe] at e2; omega
    have e6 := Int.eq_of_mul_eq_mul_right (by omega) e5
    have e7 : (spotI pages l j).cell.toNat = k := by show (spotS pages (nth l j)).1.cell.toNat = k; omega
    rwa [e7] at q2
   | false =>
    have e2 := (W.lg hsm).1
    rw [he, ha] at e2
    omega
theorem spot_cell {pages : Int} {o : Int × Int} (h : (spotS pages o).2 = true) (hsm : (spotS pages o).1.small = true) : ∃ p c k : Nat, (spotS pages o).1.page = p ∧ (spotS pages o).1.cls = c ∧ (spotS pages o).1.cell = k ∧ c < 6 ∧ (p : Int) < pages ∧ k < 64 ∧ o.1 = 32 * (p : Int) + 4 + k * nth wordsL c ∧ 4 + ((k : Int) + 1) * nth wordsL c ≤ 32 := by
 have W := spot_words h
 have g := W.good
 obtain ⟨c, hc, e1, e2, _, e3⟩ := W.sm hsm
 obtain ⟨s1, _, _, s4, s5⟩ := g.s1 hsm
 have g0 := g.p0
 have g1 := g.p1
 have e4 : ((spotS pages o).1.page.toNat : Int) = (spotS pages o).1.page := by omega
 have e5 : ((spotS pages o).1.cell.toNat : Int) = (spotS pages o).1.cell := by omega
 refine ⟨(spotS pages o).1.page.toNat, c, (spotS pages o).1.cell.toNat, by omega, e1, by omega, hc, by omega, by omega, by rw [e4, e5]; exact e2, by rw [e5]; exact e3⟩
section
variable {pages : Int} {l : List (Int × Int)} {i : Nat}
theorem okI_eq (hs : (spotS pages (nth l i)).2 = true) : layO pages (stI pages l i) (nth l i) = layS (stI pages l i).1 (stI pages l i).2 (spotI pages l i).page.toNat (spotI pages l i).count.toNat (spotI pages l i).small (spotI pages l i).cls (spotI pages l i).cell.toNat := by
 unfold layO; rw [if_pos hs]
theorem okI_bad (hs : (spotS pages (nth l i)).2 = false) : okI pages l i = false := by
 unfold okI layO; rw [if_neg (by simp [hs])]
theorem ok_spots (h : ∀ j, j < i → okI pages l j = true) : ∀ j, j < i → (spotS pages (nth l j)).2 = true := fun j hj => okI_spot (h j hj)
theorem small_kind (hs : (spotS pages (nth l i)).2 = true) (hsm : (spotI pages l i).small = true) (h1 : nth (stI pages l i).1 (spotI pages l i).page.toNat ≠ -1) (h2 : nth (stI pages l i).1 (spotI pages l i).page.toNat ≠ (spotI pages l i).cls) : okI pages l i = false := by
 unfold okI; rw [okI_eq hs, layS, if_pos hsm, if_neg (by simp [h2]), if_neg h1]
theorem small_had (h0 : 0 ≤ pages ∧ pages ≤ 64) (hi : i < l.length) (h : ∀ j, j < i → okI pages l j = true) (hs : (spotS pages (nth l i)).2 = true) (hsm : (spotI pages l i).small = true) {j : Nat} (hj : j < i) (hat : (nth l j).1 = (nth l i).1) : okI pages l i = false := by
 have hl : (l.take i).length = i := by simp; omega
 have L := laidP (laid_take h0 (by omega) h)
 obtain ⟨p, c, k, e1, e2, e3, hc, hp, hk, ha, hq⟩ := spot_cell hs hsm
 have hsp : ∀ j, j < (l.take i).length → (spotS pages (nth (l.take i) j)).2 = true := fun j hj => by rw [nth_take (by omega)]; exact ok_spots h j (by omega)
 have hw := wordsL_k hc
 have x0 : 0 ≤ (k : Int) * nth wordsL c := Int.mul_nonneg (by omega) (by omega)
 rw [mul_words] at hq
 have hpt : (spotI pages l i).page.toNat = p := by show (spotS pages (nth l i)).1.page.toNat = p; omega
 have hkt : (spotI pages l i).cell.toNat = k := by show (spotS pages (nth l i)).1.cell.toNat = k; omega
 have W := spot_words (hsp j (by omega))
 have g := W.good
 rw [nth_take hj] at W g
 -- the other one is small, and stands on this page
 have hjs : (spotS pages (nth l j)).1.small = true := by
  cases hz : (spotS pages (nth l j)).1.small with
  | true => rfl
  | false => have := (W.lg hz).1; rw [hat, ha] at this; omega
 obtain ⟨c', hc', f1, f2, _, f3⟩ := W.sm hjs
 obtain ⟨_, _, _, g4, _⟩ := g.s1 hjs
 have hw' := wordsL_k hc'
 have y0 : 0 ≤ (spotS pages (nth l j)).1.cell * nth wordsL c' := Int.mul_nonneg g4 (by omega)
 rw [mul_words] at f3
 have hpg : (spotS pages (nth l j)).1.page = p := by omega
 obtain ⟨q1, q2⟩ := L.sm j (by omega) (by show (spotS pages (nth (l.take i) j)).1.small = true; rw [nth_take hj]; exact hjs)
 have t1 : (spotI pages (l.take i) j).page.toNat = p := by show (spotS pages (nth (l.take i) j)).1.page.toNat = p; rw [nth_take hj]; omega
 rw [t1] at q1
 have t2 : (spotI pages (l.take i) j).cls = c' := by show (spotS pages (nth (l.take i) j)).1.cls = c'; rw [nth_take hj]; exact f1
 rw [t2] at q1
 unfold okI; rw [okI_eq hs, layS, if_pos hsm, hpt, hkt]
 show (if _ ∧ _ then _ else _ : Bool × List Int × List Nat).1 = false
 rw [if_neg, if_neg (by omega)]
 rintro ⟨z1, z2⟩
 have z3 : (spotI pages l i).cls = c := e2
 have hb := (cell_bit L hsp (a := (nth l i).1) (p := p) (c := c) (k := k) (by rw [z1]; exact z3) hc (by omega) ha (by rw [mul_words]; exact hq)).2 ⟨j, by omega, by rw [nth_take hj]; exact hat⟩
 rw [and_pow z2] at hb; cases hb
theorem small_ok (h0 : 0 ≤ pages ∧ pages ≤ 64) (hi : i < l.length) (h : ∀ j, j < i → okI pages l j = true) (hs : (spotS pages (nth l i)).2 = true) (hsm : (spotI pages l i).small = true)
    (hk : nth (stI pages l i).1 (spotI pages l i).page.toNat = -1 ∨ nth (stI pages l i).1 (spotI pages l i).page.toNat = (spotI pages l i).cls) (hn : ∀ j, j < i → (nth l j).1 ≠ (nth l i).1) :
    okI pages l i = true ∧ (stI pages l (i + 1)).1 = (stI pages l i).1.set (spotI pages l i).page.toNat (spotI pages l i).cls := by
 have hl : (l.take i).length = i := by simp; omega
 have L := laidP (laid_take h0 (by omega) h)
 obtain ⟨p, c, k, e1, e2, e3, hc, hp, hkk, ha, hq⟩ := spot_cell hs hsm
 have hsp : ∀ j, j < (l.take i).length → (spotS pages (nth (l.take i) j)).2 = true := fun j hj => by rw [nth_take (by omega)]; exact ok_spots h j (by omega)
 have hpt : (spotI pages l i).page.toNat = p := by show (spotS pages (nth l i)).1.page.toNat = p; omega
 have hkt : (spotI pages l i).cell.toNat = k := by show (spotS pages (nth l i)).1.cell.toNat = k; omega
 have hct : (spotI pages l i).cls = c := e2
 rw [hpt, hct] at hk ⊢
 have hpl : p < (stI pages l i).1.length := by rw [stI_len.1]; omega
 have e : layO pages (stI pages l i) (nth l i) = layS (stI pages l i).1 (stI pages l i).2 p (spotI pages l i).count.toNat true c k := by rw [okI_eq hs, hpt, hkt, hct, hsm]
 unfold okI
 simp only [stI]
 rw [e, layS, if_pos rfl]
 rcases hk with hk | hk
 · rw [if_neg (by omega), if_pos hk]; exact ⟨rfl, rfl⟩
 · have hb : (nth (stI pages l i).2 p).testBit k = false := by
    cases hz : (nth (stI pages l i).2 p).testBit k with
    | false => rfl
    | true =>
     obtain ⟨j, hj, he⟩ := (cell_bit L hsp (a := (nth l i).1) hk hc (by omega) ha hq).1 hz
     rw [nth_take (by omega)] at he
     exact absurd he (hn j (by omega))
   rw [if_pos ⟨hk, bit_and hb⟩]
   refine ⟨rfl, ?_⟩
   show (stI pages l i).1 = _
   rw [← hk]
   apply List.ext_getElem?
   intro x
   rw [List.getElem?_set]
   split
   · rename_i hx; subst hx; rw [nth_eq hpl]; simp [hpl]
   · rfl
theorem large_eq (hs : (spotS pages (nth l i)).2 = true) (hsm : (spotI pages l i).small = false) :
    okI pages l i = (fillF (spotI pages l i).page.toNat (spotI pages l i).count.toNat 0 (stI pages l i).1).1 ∧ (okI pages l i = true → (stI pages l (i + 1)).1 = (fillF (spotI pages l i).page.toNat (spotI pages l i).count.toNat 0 (stI pages l i).1).2.set (spotI pages l i).page.toNat 6) := by
 unfold okI
 simp only [stI]
 rw [okI_eq hs, layS, hsm]
 simp only [Bool.false_eq_true, if_false]
 split
 · rename_i hf; exact ⟨by rw [hf], fun _ => rfl⟩
 · rename_i hf; exact ⟨by simp at hf; rw [hf], fun h => by cases h⟩
end
def kindsR (pages : Int) (l : List (Int × Int)) : List Int × Bool := match laidS pages l with
 | some st => (st.1, true)
 | none => ([], false)
theorem kindsR_bad {pages : Int} {l : List (Int × Int)} {i : Nat} (hi : i < l.length) (h : okI pages l i = false) : kindsR pages l = ([], false) := by
 unfold kindsR laidS; rw [if_neg]
 simp only [Bool.and_eq_true, not_and]; intro _; rw [all_bad hi h]; simp
theorem kindsR_good {pages : Int} {l : List (Int × Int)} (h0 : 0 ≤ pages ∧ pages ≤ 64) (h : ∀ i, i < l.length → okI pages l i = true) : kindsR pages l = ((stI pages l l.length).1, true) := by
 unfold kindsR laidS; rw [if_pos]
 simp only [Bool.and_eq_true, decide_eq_true_eq]; exact ⟨h0, all_good h⟩
theorem kindsR_out {pages : Int} {l : List (Int × Int)} (h0 : ¬ (0 ≤ pages ∧ pages ≤ 64)) : kindsR pages l = ([], false) := by
 unfold kindsR laidS; rw [if_neg (by simp [h0])]
def cellO (o : Int × Int) : (Int × Int × Int) × Bool := if (classS o.2).2 = false ∨ o.1 < 0 then ((0, 0, 0), false) else ((o.1.tdiv 32, (classS o.2).1, (whichS (classS o.2).1 (o.1.tmod 32)).1), (whichS (classS o.2).1 (o.1.tmod 32)).2)
def spanR (pages : Int) (o : Int × Int) : (Int × Int) × Bool := if (cellO o).2 = true then (((cellO o).1.1, 1), decide ((cellO o).1.1 < pages)) else if (pagesS o.2).2 ≠ 0 ∨ o.1 < 0 ∨ o.1.tmod 32 ≠ 0 then ((0, 0), false)
 else ((o.1.tdiv 32, (pagesS o.2).1), decide (o.1.tdiv 32 ≤ pages) && decide ((pagesS o.2).1 ≤ pages - o.1.tdiv 32))
theorem classS_pages {n : Int} (h : (classS n).2 = true) : (pagesS n).2 ≠ 0 := by
 obtain ⟨h1, k, hk, h2, h3⟩ := classS_spec h
 have := wordsL_k hk
 unfold pagesS; rw [if_pos (by omega)]; decide
theorem spanR_eq {pages : Int} {o : Int × Int} : (spanR pages o).2 = (spotS pages o).2 ∧ ((spotS pages o).2 = true → (spanR pages o).1 = ((spotS pages o).1.page, (spotS pages o).1.count) ∧ (cellO o).2 = (spotS pages o).1.small ∧ ((spotS pages o).1.small = true → (cellO o).1 = ((spotS pages o).1.page, (spotS pages o).1.cls, (spotS pages o).1.cell))) := by
 unfold spanR
 by_cases ha : o.1 < 0
 · have : (cellO o).2 = false := by unfold cellO; rw [if_pos (.inr ha)]
   rw [this]
   simp only [Bool.false_eq_true, if_false]
   rw [if_pos (.inr (.inl ha))]
   unfold spotS; rw [if_pos ha]; simp
 · cases hc : (classS o.2).2 with
   | true =>
    have hp := classS_pages hc
    have ec : cellO o = ((o.1.tdiv 32, (classS o.2).1, (whichS (classS o.2).1 (o.1.tmod 32)).1), (whichS (classS o.2).1 (o.1.tmod 32)).2) := by unfold cellO; rw [if_neg (by simp [hc, ha])]
    have es : spotS pages o = (⟨o.1.tdiv 32, 1, true, (classS o.2).1, (whichS (classS o.2).1 (o.1.tmod 32)).1⟩, (whichS (classS o.2).1 (o.1.tmod 32)).2 && decide (o.1.tdiv 32 < pages)) := by unfold spotS; rw [if_neg ha, if_pos hc]
    rw [ec, es]
    simp only
    cases hw : (whichS (classS o.2).1 (o.1.tmod 32)).2 with
    | true => simp
    | false => simp [hp]
   | false =>
    have ec : (cellO o).2 = false := by unfold cellO; rw [if_pos (.inl hc)]
    have es : spotS pages o = (⟨o.1.tdiv 32, (pagesS o.2).1, false, (classS o.2).1, 0⟩, decide ((pagesS o.2).2 = 0) && decide (o.1.tmod 32 = 0) && decide (o.1.tdiv 32 < pages) && decide ((pagesS o.2).1 ≤ pages - o.1.tdiv 32)) := by
     unfold spotS; rw [if_neg ha, if_neg (by simp [hc])]
    rw [ec, es]
    simp only [Bool.false_eq_true, if_false]
    by_cases hz : (pagesS o.2).2 ≠ 0 ∨ o.1 < 0 ∨ o.1.tmod 32 ≠ 0
    · rw [if_pos hz]
      rcases hz with hz | hz | hz
      · simp [hz]
      · exact absurd hz ha
      · simp [hz]
    · rw [if_neg hz]
      have h1 : (pagesS o.2).2 = 0 := Classical.byContradiction fun q => hz (.inl q)
      have h2 : o.1.tmod 32 = 0 := Classical.byContradiction fun q => hz (.inr (.inr q))
      have h3 := pagesS_b h1
      simp [h1, h2]
      rw [← Bool.decide_and, ← Bool.decide_and]; exact decide_eq_decide.2 (by omega)
theorem taken_bit {pages : Int} {l : List (Int × Int)} {st} (h : laidS pages l = some st) {c p k : Nat} (hc : c < 6) (hp : p < st.1.length) (hk : nth st.1 p = c) (hkc : (k : Int) < (cellsS c).1) :
    (∃ j, j < l.length ∧ (nth l j).1 = 32 * (p : Int) + (cellS c k).1) ↔ (nth st.2 p).testBit k = true := by
 have L := laidP h
 obtain ⟨h0, h1, _⟩ := laidS_some h
 have hw := wordsL_k hc
 have hcs : cellS c k = (4 + k * nth wordsL c, 0) := by unfold cellS; rw [if_neg (by omega)]; simp
 rw [hcs]
 have hcl : (cellsS c).1 = (28 : Int).tdiv (nth wordsL c) := by unfold cellsS; rw [if_neg (by omega)]; simp
 have hq : 4 + ((k : Int) + 1) * nth wordsL c ≤ 32 := by
  rw [hcl] at hkc
  have hk14 := (cells_max c hc).1
  rw [hcl] at hk14
  rcases hw with q | q | q | q | q | q <;> rw [q] at hkc ⊢ <;> simp at hkc <;> omega
 have hlen := L.len
 exact (cell_bit L (fun j hj => okI_spot (h1 j hj)) hk hc (by omega) (by show _ = 32 * (p : Int) + 4 + _; omega) hq).symm
set_option maxHeartbeats 4000000
open Go.Awp
/- Facts about classes, for the document's walks. -/
theorem wordsL_8 {j : Nat} (h : j < 6) : 8 * nth wordsL j ≤ 120 ∧ 2 ≤ nth wordsL j ∧ nth wordsL j ≤ 15 := by have := wordsL_k h; omega
theorem classS_at {n : Int} {i : Nat} (hi : i < 6) (h : 1 ≤ n ∧ n ≤ 8 * nth wordsL i) (hn : ∀ j, j < i → ¬ (1 ≤ n ∧ n ≤ 8 * nth wordsL j)) : classS n = ((i : Int), true) := by
 have := wordsL_8 hi
 unfold classS
 rw [if_neg (by omega)]
 have hf : wordsL.findIdx? (fun w => decide (n ≤ w * 8)) = some i := by
  rw [List.findIdx?_eq_some_iff_getElem]
  refine ⟨hi, by rw [← nth_eq (l := wordsL) hi]; simp; omega, fun j hj => ?_⟩
  have h6 : j < wordsL.length := Nat.lt_trans hj hi
  have := hn j hj
  rw [← nth_eq h6]; simp; omega
 rw [hf]
theorem classS_no {n : Int} (hn : ∀ j, j < 6 → ¬ (1 ≤ n ∧ n ≤ 8 * nth wordsL j)) : classS n = (0, false) := by
 have := hn 5 (by omega)
 have e : nth wordsL 5 = 15 := rfl
 unfold classS
 rw [if_pos (by omega)]
theorem which_tab0 : ∀ c : Nat, c < 6 → ∀ o : Nat, o < 32 → (∀ k : Nat, k < 14 → (k : Int) < (cellsS c).1 → (cellS c k).1 ≠ (o : Int)) → whichS c o = (0, false) := by decide +kernel
theorem which_at {c off : Int} {k : Nat} (hc : 0 ≤ c ∧ c < 6) (hk : (k : Int) < (cellsS c).1) (h : (cellS c k).1 = off) : whichS c off = ((k : Int), true) := by
 obtain ⟨d, rfl⟩ : ∃ d : Nat, c = d := ⟨c.toNat, by omega⟩
 have := (cells_max d (by omega)).1
 rw [← h]
 exact (cells_tab d (by omega) k (by omega) hk).1
theorem which_no {c off : Int} (hc : 0 ≤ c ∧ c < 6) (ho : 0 ≤ off ∧ off < 32) (h : ∀ k : Nat, (k : Int) < (cellsS c).1 → (cellS c k).1 ≠ off) : whichS c off = (0, false) := by
 obtain ⟨d, rfl⟩ : ∃ d : Nat, c = d := ⟨c.toNat, by omega⟩
 obtain ⟨o, rfl⟩ : ∃ o : Nat, off = o := ⟨off.toNat, by omega⟩
 exact which_tab0 d (by omega) o (by omega) fun k _ => h k
theorem cellS_b {c : Int} {k : Nat} (hc : 0 ≤ c ∧ c < 6) (hk : (k : Int) < (cellsS c).1) : cellS c k = (4 + k * nth wordsL c.toNat, 0) ∧ 4 + (k : Int) * nth wordsL c.toNat ≤ 400 ∧ 0 ≤ (k : Int) * nth wordsL c.toNat := by
 obtain ⟨d, rfl⟩ : ∃ d : Nat, c = d := ⟨c.toNat, by omega⟩
 have h14 := (cells_max d (by omega)).1
 have hw := wordsL_8 (j := d) (by omega)
 have h0 : 0 ≤ (k : Int) * nth wordsL d := Int.mul_nonneg (by omega) (by omega)
 refine ⟨by unfold cellS; rw [if_neg (by omega)], ?_, by simpa using h0⟩
 have : (k : Int) * nth wordsL d ≤ 14 * 15 := Int.mul_le_mul (by omega) (by omega) (by omega) (by omega)
 simp only [Int.toNat_natCast]; omega
theorem cellsS_b {c : Int} (hc : 0 ≤ c ∧ c < 6) : 1 ≤ (cellsS c).1 ∧ (cellsS c).1 ≤ 14 ∧ (cellsS c).2 = 0 ∧ (cellsS c).1 = (28 : Int).tdiv (nth wordsL c.toNat) := by
 obtain ⟨d, rfl⟩ : ∃ d : Nat, c = d := ⟨c.toNat, by omega⟩
 have := cells_max d (by omega)
 refine ⟨this.2, this.1, ?_, ?_⟩ <;> (unfold cellsS; rw [if_neg (by omega)])
def openIx (l : List Slot) (i : Nat) : List Nat := (List.range i).filter fun j => openT (nth l j)
theorem openIx_t {l : List Slot} {i : Nat} (h : openT (nth l i) = true) : openIx l (i + 1) = openIx l i ++ [i] := by simp [openIx, List.range_succ, List.filter_append, h]
theorem openIx_f {l : List Slot} {i : Nat} (h : openT (nth l i) = false) : openIx l (i + 1) = openIx l i := by simp [openIx, List.range_succ, List.filter_append, h]
theorem openIx_len {l : List Slot} {i : Nat} : (openIx l i).length ≤ i := by
 have := List.length_filter_le (fun j => openT (nth l j)) (List.range i)
 simpa [openIx] using this
def chainS (l : List Slot) : List Int := (openIx l l.length).map fun (j : Nat) => (j : Int)
theorem nextS_chain {l : List Slot} : nextS l = (openIx l l.length).head? := by
 unfold nextS openIx
 rw [List.head?_filter]
theorem chain_nil {l : List Slot} (h : (chainS l).length = 0) : nextS l = none := by
 rw [nextS_chain]
 simp only [chainS, List.length_map] at h
 rw [List.eq_nil_of_length_eq_zero h]; rfl
theorem chain_cons {l : List Slot} (h : (chainS l).length ≠ 0) : (nextS l).isSome = true ∧ nth (chainS l) 0 = (((nextS l).getD 0 : Nat) : Int) := by
 rw [nextS_chain]
 simp only [chainS, List.length_map] at h ⊢
 cases hz : openIx l l.length with
 | nil => rw [hz] at h; exact absurd rfl h
 | cons a t => exact ⟨rfl, rfl⟩
set_option maxRecDepth 4000
open Go.Awp
theorem ct238 (g : Gl) (c : Int) : CtAt Tryz.prog g 238 [vI c] (.tup [vI (cellsS c).1, vI (cellsS c).2]) := by
 refine xA Tryz.func238 fun B S => ?_
 refine xU ?_
 refine xO2 ?_
 refine xG [0] ?_
 refine xO ?_
 refine xC (ct248 g c) ?_
 refine xO5 ?_
 refine xF [4,5] ?_
 refine W_seq (xU ?_)
 refine xO2 ?_
 refine xQ [4,5,12] ?_ ?_
 · intro h12
   have hc : c < 0 ∨ 6 ≤ c := Classical.byContradiction fun q => by simp [q] at h12
   have hr : cellsS c = (0, 1) := by unfold cellsS; rw [if_pos hc]
   refine xU ?_
   refine xH3 [2,3] ?_
   refine W_ret (xR (by simp [Tryz.f238]; exact .mk) ?_)
   simp [Tryz.f238, hr, hc]
 intro h12
 have hc : ¬ (c < 0 ∨ 6 ≤ c) := by intro q; simp [q] at h12
 have hr : cellsS c = ((28 : Int).tdiv (nth wordsL c.toNat), 0) := by unfold cellsS; rw [if_neg hc]
 have hw := wordsL_b (k := c.toNat) (by omega)
 have hw0 : nth wordsL c.toNat ≠ 0 := by omega
 have e1 : IntKind.i64.wrap ((28 : Int).tdiv (nth wordsL c.toNat)) = (28 : Int).tdiv (nth wordsL c.toNat) := by rcases hw with h | h | h | h | h | h <;> rw [h] <;> decide
 refine W_skip ?_
 refine xT ?_
 refine xO ?_
 refine xO ?_ (h := by simp [hc, hw0, e1]; exact .mk)
 refine xH2 [2,3] ?_
 refine W_ret (xR (by simp [Tryz.f238]; exact .mk) ?_)
 simp [Tryz.f238, hr, hc]

theorem ct239 (g : Gl) (c k : Int) : CtAt Tryz.prog g 239 [vI c, vI k] (.tup [vI (cellS c k).1, vI (cellS c k).2]) := by
 refine xA Tryz.func239 fun B S => ?_
 refine xU ?_
 refine xO2 ?_
 refine xG [0,1] ?_
 refine xO ?_
 refine xC (ct238 g c) ?_ (hi := by simp [impAs_vI]; exact .mk)
 refine xO5 ?_
 refine xF [0,1,6,7] ?_
 refine W_seq (xU ?_)
 refine xO3 ?_
 iterate 2 refine xI ?_
 refine xP ?_
 refine xB ?_
 iterate 3 refine xI ?_
 refine xP ?_
 refine xQ [0,1,23] ?_ ?_
 · intro h23
   have hc : c < 0 ∨ 6 ≤ c ∨ k < 0 ∨ (cellsS c).1 ≤ k := by by_cases q : c < 0 ∨ 6 ≤ c <;> simp [cellsS, q] at h23 ⊢ <;> omega
   have hr : cellS c k = (0, 1) := by unfold cellS; rw [if_pos hc]
   refine xU ?_
   refine xH2 [4,5] ?_
   refine W_ret (xR (by simp [Tryz.f239]; exact .mk) ?_)
   simp [Tryz.f239, hr]
 intro h23
 have hc : ¬ (c < 0 ∨ 6 ≤ c ∨ k < 0 ∨ (cellsS c).1 ≤ k) := by by_cases q : c < 0 ∨ 6 ≤ c <;> simp [cellsS, q] at h23 ⊢ <;> omega
 have hr : cellS c k = (4 + k * nth wordsL c.toNat, 0) := by unfold cellS; rw [if_neg hc]
 obtain ⟨m, rfl⟩ : ∃ m : Nat, c = m := ⟨c.toNat, by omega⟩
 have hm : m < 6 := by omega
 have hml : m < wordsL.length := hm
 have hw := wordsL_b hm
 have hk : 0 ≤ k ∧ k < 28 := by
  have h1 : k < (cellsS m).1 := by omega
  have h2 : (cellsS m).1 = (28 : Int).tdiv (nth wordsL m) := by unfold cellsS; rw [if_neg (by omega)]; rfl
  rw [h2] at h1
  rcases hw with h | h | h | h | h | h <;> rw [h] at h1 <;> simp at h1 <;> omega
 have e1 : IntKind.i64.wrap (k * nth wordsL m) = k * nth wordsL m := by rcases hw with h | h | h | h | h | h <;> rw [h] <;> exact wrap64 (by omega) (by omega)
 have e2 : IntKind.i64.wrap (4 + k * nth wordsL m) = 4 + k * nth wordsL m := by rcases hw with h | h | h | h | h | h <;> rw [h] <;> exact wrap64 (by omega) (by omega)
 refine W_skip ?_
 refine xT ?_
 refine xO ?_
 refine xC (ct237 g) ?_ (hi := by simp [impAs_vI]; exact .mk)
 refine xO ?_
 refine xO ?_ (h := by simp [indexA, partA, Ty.agg, -List.getElem?_map, map_get hml, show (m : Int) < 6 from by omega]; exact .mk)
 refine xO ?_ (h := by simp [e1]; exact .mk)
 refine xO ?_ (h := by simp [e1, e2]; exact .mk)
 refine xH2 [4,5] ?_
 refine W_ret (xR (by simp [Tryz.f239]; exact .mk) ?_)
 simp [Tryz.f239, hr]

open Go.Awp
theorem in234t (g : Gl) (a b : Int) (o : Awp.Obj) (L : List (Int × Int)) (hL : L.length ≤ 2^40) (hab : -2^60 ≤ b - a ∧ b - a ≤ 2^60) (hlt : a < b) : ∀ B S, CallsA Tryz.prog g B S ⟨3, true⟩ 234 [.d (vI a), .d (vI b), .ptr 0 0 0] [.var 113 [.hdr 1 0 L.length], .row 2 (L.map eObj), o]
    (fun x r => x = .tup [] ∧ r = [.var 113 [.hdr 4 0 (L.length + 1)], .dead, o, .row 2 [eObj (a, b - a)], .row 2 ((L ++ [(a, b - a)]).map eObj)]) := by
 refine callsA_at Tryz.func234 rfl (Nat.le_of_ble_eq_true rfl) fun B S => ?_
 have e1 : IntKind.i64.wrap (b - a) = b - a := wrap64 (by omega) (by omega)
 have e2 : (L.length + 1) * 16 ≤ 140737488355328 := by omega
 have e3 : L.length ≤ 140737488355327 := by omega
 refine xU ?_
 refine xO3 ?_
 refine xQ [0,1,2,7] ?_ ?_
 · intro h7
   refine xY ?_
   refine xO4 ?_
   refine xO ?_ (h := by simp [e1]; exact .mk)
   refine xOs ?_
   refine xO ?_
   refine xO ?_ (h := by simp [rows, e2, e3]; exact .mk)
   refine xOs ?_
   refine xE [] ?_
   refine endAt_normal (by simp [Tryz.f234]; exact .mk) ?_ ?_
   · simp
   simp [eObj]
 intro h7
 simp at h7; omega

theorem in234f (g : Gl) (a b : Int) (o : Awp.Obj) (L : List (Int × Int)) (hL : L.length ≤ 2^40) (hab : -2^60 ≤ b - a ∧ b - a ≤ 2^60) (hlt : ¬ a < b) : ∀ B S, CallsA Tryz.prog g B S ⟨3, true⟩ 234 [.d (vI a), .d (vI b), .ptr 0 0 0] [.var 113 [.hdr 1 0 L.length], .row 2 (L.map eObj), o]
    (fun x r => x = .tup [] ∧ r = [.var 113 [.hdr 1 0 L.length], .row 2 (L.map eObj), o]) := by
 refine callsA_at Tryz.func234 rfl (Nat.le_of_ble_eq_true rfl) fun B S => ?_
 have e1 : IntKind.i64.wrap (b - a) = b - a := wrap64 (by omega) (by omega)
 have e2 : (L.length + 1) * 16 ≤ 140737488355328 := by omega
 have e3 : L.length ≤ 140737488355327 := by omega
 refine xU ?_
 refine xO3 ?_
 refine xQ [0,1,2,7] ?_ ?_
 · intro h7
   simp at h7; omega
 intro h7
 refine W_skip ?_
 refine endAt_normal (by simp [Tryz.f234]; exact .mk) ?_ ?_
 · simp
 simp [eObj]

theorem in234u (g : Gl) (a b : Int) (L : List (Int × Int)) (hL : L.length ≤ 2^40) (hab : -2^60 ≤ b - a ∧ b - a ≤ 2^60) (hlt : a < b) : ∀ B S, CallsA Tryz.prog g B S ⟨2, true⟩ 234 [.d (vI a), .d (vI b), .ptr 0 0 0] [.var 113 [.hdr 1 0 L.length], .row 2 (L.map eObj)]
    (fun x r => x = .tup [] ∧ r = [.var 113 [.hdr 3 0 (L.length + 1)], .dead, .row 2 [eObj (a, b - a)], .row 2 ((L ++ [(a, b - a)]).map eObj)]) := by
 refine callsA_at Tryz.func234 rfl (Nat.le_of_ble_eq_true rfl) fun B S => ?_
 have e1 : IntKind.i64.wrap (b - a) = b - a := wrap64 (by omega) (by omega)
 have e2 : (L.length + 1) * 16 ≤ 140737488355328 := by omega
 have e3 : L.length ≤ 140737488355327 := by omega
 refine xU ?_
 refine xO3 ?_
 refine xQ [0,1,2,7] ?_ ?_
 · intro h7
   refine xY ?_
   refine xO4 ?_
   refine xO ?_ (h := by simp [e1]; exact .mk)
   refine xOs ?_
   refine xO ?_
   refine xO ?_ (h := by simp [rows, e2, e3]; exact .mk)
   refine xOs ?_
   refine xE [] ?_
   refine endAt_normal (by simp [Tryz.f234]; exact .mk) ?_ ?_
   · simp
   simp [eObj]
 intro h7
 simp at h7; omega

theorem in234g (g : Gl) (a b : Int) (L : List (Int × Int)) (hL : L.length ≤ 2^40) (hab : -2^60 ≤ b - a ∧ b - a ≤ 2^60) (hlt : ¬ a < b) : ∀ B S, CallsA Tryz.prog g B S ⟨2, true⟩ 234 [.d (vI a), .d (vI b), .ptr 0 0 0] [.var 113 [.hdr 1 0 L.length], .row 2 (L.map eObj)]
    (fun x r => x = .tup [] ∧ r = [.var 113 [.hdr 1 0 L.length], .row 2 (L.map eObj)]) := by
 refine callsA_at Tryz.func234 rfl (Nat.le_of_ble_eq_true rfl) fun B S => ?_
 have e1 : IntKind.i64.wrap (b - a) = b - a := wrap64 (by omega) (by omega)
 have e2 : (L.length + 1) * 16 ≤ 140737488355328 := by omega
 have e3 : L.length ≤ 140737488355327 := by omega
 refine xU ?_
 refine xO3 ?_
 refine xQ [0,1,2,7] ?_ ?_
 · intro h7
   simp at h7; omega
 intro h7
 refine W_skip ?_
 refine endAt_normal (by simp [Tryz.f234]; exact .mk) ?_ ?_
 · simp
 simp [eObj]

theorem in142g (g : Gl) (fr to : Int) (l : List (Int × Int)) (hl : l.length ≤ 2^39) (hG : gapsS fr to l = true) : ∀ B S, CallsA Tryz.prog g B S ⟨1, true⟩ 142 [.d (vI fr), .d (vI to), .d (rO l), .fn (.func 234) [] [.ptr 0 0 0]] [.var 113 [.d (.v (.slice none 0 0))]]
    (fun x r => x = .d (.v (.bool true)) ∧ r = [.var 113 [.hdr 1 0 (gapsF to fr l).length], .row 2 ((gapsF to fr l).map eObj)]) := by
 refine callsA_at Tryz.func142 rfl (Nat.le_of_ble_eq_true rfl) fun B S => ?_
 have hH : 0 ≤ fr ∧ fr ≤ to ∧ to ≤ 2048 ∧ fr.tmod 4 = 0 ∧ to.tmod 4 = 0 := by simp [gapsS, gapsHead] at hG; omega
 have hr0 : gapsOk to fr l = true := by simp [gapsS] at hG; exact hG.2
 refine xU ?_
 refine xH [0,1,2,3] ?_
 refine W_seq (xU ?_)
 refine xO3 ?_
 iterate 3 refine xI ?_
 refine xP ?_
 refine xB ?_
 iterate 2 refine xI ?_
 refine xP ?_
 refine xB ?_
 refine xI ?_
 refine run_call rfl (by simp; exact .mk) rfl rfl (by simp) (by simp; exact .mk) (by simp; exact .mk) (fun hb => ct201 g fr) (by simp) (by simp; exact .mk) (by simp) ?_
 refine xI ?_
 refine xP ?_
 refine xB ?_
 refine xI ?_
 refine run_call rfl (by simp; exact .mk) rfl rfl (by simp) (by simp; exact .mk) (by simp; exact .mk) (fun hb => ct201 g to) (by simp) (by simp; exact .mk) (by simp) ?_
 refine xI ?_
 refine xP ?_
 refine xQ [0,1,2,3,32] ?_ ?_
 · intro h32
   simp at h32; omega
 intro h32
 refine W_skip ?_
 refine xT ?_
 refine xH2 [1,2,3,9] ?_
 refine W_seq (xU ?_)
 refine xH3 [1,3,9,34,35,36] ?_
 refine W_block (W_rounds (fun m σ o => ∃ (i : Nat) (a : Int) (L : List (Int × Int)), m = l.length - i ∧ i ≤ l.length ∧ 0 ≤ a ∧ a ≤ to ∧ gapsOk to a (l.drop i) = true ∧ gapsF to fr l = L ++ gapsF to a (l.drop i) ∧ L.length ≤ i ∧ σ = slots [(1, .d (vI to)), (3, .fn (.func 234) [] [.ptr 0 0 0]), (9, .d (vI a)), (34, .d (rO l)), (35, .d (vI l.length)), (36, .d (vI i))] ∧ o = [.var 113 [.hdr 1 0 L.length], .row 2 (L.map eObj)]) l.length (Weak.nilCell 0 0 2 rfl rfl) ⟨0, fr, [], by simp, by simp, by omega, by omega, by simpa using hr0, by simp, by simp, rfl, rfl⟩ ?_)
 rintro m σ o ⟨i, a, L, rfl, hi, ha0, ha1, hinv, hgl, hLi, rfl, rfl⟩ _
 refine xU ?_
 refine xH [1,3,9,34,35,36,37] ?_
 refine W_seq (W_cond rfl ?_ ?_)
 · intro h37
   have hi2 : i < l.length := by simpa using h37
   rw [gapsOk_drop hi2] at hinv
   have hb : gapBad to a (nth l i) = false := by simp at hinv; exact hinv.1
   have hb2 : a ≤ (nth l i).1 ∧ (nth l i).1 ≤ to ∧ 4 ≤ (nth l i).2 ∧ (nth l i).2 ≤ to - (nth l i).1 := by simp [gapBad] at hb; omega
   have hb3 : (nth l i).1.tmod 4 = 0 ∧ (nth l i).2.tmod 4 = 0 := by simp [gapBad] at hb; omega
   have w1 : IntKind.i64.wrap (to - (nth l i).1) = to - (nth l i).1 := wrap64 (by omega) (by omega)
   have w2 : IntKind.i64.wrap ((nth l i).1 + (nth l i).2) = (nth l i).1 + (nth l i).2 := wrap64 (by omega) (by omega)
   rw [gapsF_drop hi2] at hgl
   refine W_skip fun _ => ?_
   refine W_seq (W_block ?_)
   refine xU ?_
   refine xO ?_ (h := by simp [eObj, *]; exact .mk)
   refine xO ?_ (h := by simp [eObj]; exact .mk)
   refine xO ?_
   refine xOs ?_
   refine xF [1,3,9,11,34,35,36] ?_
   refine W_seq (W_block ?_)
   refine W_seq (xU ?_)
   refine xO ?_
   refine xO ?_ (h := by simp [eObj]; exact .mk)
   refine xO3 ?_
   refine xQ [1,3,9,11,34,35,36,40] ?_ ?_
   · intro h40
     exfalso
     first | (simp [eObj] at h40; omega) | (simp [eObj, hb3] at h40)
   intro h40
   refine xU ?_
   refine xO ?_
   refine xO ?_ (h := by simp [eObj]; exact .mk)
   refine xO3 ?_
   refine xQ [1,3,9,11,34,35,36,40] ?_ ?_
   · intro h40'
     exfalso
     first | (simp [eObj] at h40'; omega) | (simp [eObj, hb3] at h40')
   intro h40'
   refine xU ?_
   refine xO ?_
   refine xO ?_ (h := by simp [eObj]; exact .mk)
   refine xO2 ?_
   refine xQ [1,3,9,11,34,35,36,40] ?_ ?_
   · intro h40''
     exfalso
     first | (simp [eObj] at h40''; omega) | (simp [eObj, hb3] at h40'')
   intro h40''
   refine xU ?_
   refine xO ?_
   refine xO ?_ (h := by simp [eObj]; exact .mk)
   refine xO2 ?_
   refine xO ?_ (h := by simp [eObj]; exact .mk)
   refine xO ?_ (h := by simp [w1]; exact .mk)
   refine xO2 ?_
   refine xQ [1,3,9,11,34,35,36,40] ?_ ?_
   · intro h40'''
     exfalso
     first | (simp [eObj] at h40'''; omega) | (simp [eObj, hb3] at h40''')
   intro h40'''
   refine xU ?_
   refine xO ?_
   refine xO ?_ (h := by simp [eObj]; exact .mk)
   refine xC (ct201 g _) ?_
   refine xO2 ?_
   refine xQ [1,3,9,11,34,35,36,40] ?_ ?_
   · intro h40''''
     exfalso
     first | (simp [eObj] at h40''''; omega) | (simp [eObj, hb3] at h40'''')
   intro h40''''
   refine xY ?_
   refine xO ?_
   refine xO ?_ (h := by simp [eObj]; exact .mk)
   refine xC (ct201 g _) ?_
   refine xO2 ?_
   refine xQ [1,3,9,11,34,35,36,40] ?_ ?_
   · intro h40'''''
     exfalso
     first | (simp [eObj] at h40'''''; omega) | (simp [eObj, hb3] at h40''''')
   intro h40'''''
   refine W_skip fun _ => ?_
   refine W_seq ?_
   by_cases hlt : a < (nth l i).1
   · skip
     skip
     refine xY ?_
     refine xO3 ?_
     refine xO ?_ (h := by simp [eObj]; exact .mk)
     refine run_inl0 rfl rfl rfl rfl (by simp; exact .mk) ⟨_, Tryz.func234, rfl, rfl⟩ (in234t g a (nth l i).1 _ L (by omega) (by omega) hlt) (.inl (by simp)) ?_
     refine xF [1,3,11,34,35,36] ?_
     refine xY ?_
     refine xO ?_
     refine xO ?_ (h := by simp [eObj]; exact .mk)
     refine xO ?_
     refine xO ?_ (h := by simp [eObj]; exact .mk)
     refine xO ?_ (h := by simp [w2]; exact .mk)
     refine xH [1,3,9,34,35,36] ?_
     refine xY ?_
     refine xO2 ?_
     refine xE [1,3,9,34,35,36] ?_
     refine rounds_kill [1,3,9,34,35,36] ?_
     refine rounds_swap 1 4 1 (by decide) (by simp) (by decide) rfl rfl ?_
     refine rounds_drop 2 [1,3,9,34,35,36] (by decide) (by rfl) (by rfl) ?_
     refine rounds_next (m' := l.length - (i+1)) (by omega) ⟨i+1, (nth l i).1 + (nth l i).2, L ++ [(a, (nth l i).1 - a)], rfl, by omega, by omega, by omega, by simp at hinv; exact hinv.2, by rw [hgl, gapE, if_pos hlt]; simp, by simp; omega, ?_, ?_⟩
     · rw [wrap64 (by omega) (by omega)]; simp; try rfl
     simp [eObj]; try rfl
   skip
   skip
   refine xY ?_
   refine xO3 ?_
   refine xO ?_ (h := by simp [eObj]; exact .mk)
   refine run_inl0 rfl rfl rfl rfl (by simp; exact .mk) ⟨_, Tryz.func234, rfl, rfl⟩ (in234f g a (nth l i).1 _ L (by omega) (by omega) hlt) (.inl (by simp)) ?_
   refine xF [1,3,11,34,35,36] ?_
   refine xY ?_
   refine xO ?_
   refine xO ?_ (h := by simp [eObj]; exact .mk)
   refine xO ?_
   refine xO ?_ (h := by simp [eObj]; exact .mk)
   refine xO ?_ (h := by simp [w2]; exact .mk)
   refine xH [1,3,9,34,35,36] ?_
   refine xY ?_
   refine xO2 ?_
   refine xE [1,3,9,34,35,36] ?_
   refine rounds_kill [1,3,9,34,35,36] ?_
   refine rounds_drop 2 [1,3,9,34,35,36] (by decide) (by rfl) (by rfl) ?_
   refine rounds_next (m' := l.length - (i+1)) (by omega) ⟨i+1, (nth l i).1 + (nth l i).2, L, rfl, by omega, by omega, by omega, by simp at hinv; exact hinv.2, by rw [hgl, gapE, if_neg hlt]; simp, by omega, ?_, rfl⟩
   rw [wrap64 (by omega) (by omega)]; rfl
 intro h37
 obtain rfl : i = l.length := by simp at h37; omega
 rw [List.drop_length] at hgl
 refine W_exit ?_
 rintro -
 refine W_seq ?_
 by_cases hlt : a < to
 · skip
   skip
   refine xY ?_
   refine xO3 ?_
   refine run_inl0 rfl rfl rfl rfl (by simp; exact .mk) ⟨_, Tryz.func234, rfl, rfl⟩ (in234u g a to L (by omega) (by omega) hlt) (.inl (by simp)) ?_
   refine xE [] ?_
   refine then_weak (Weak.perm [0,3,2,1] [0,3,2,1] rfl rfl rfl) ?_
   refine xT ?_
   refine xH [8] ?_
   refine W_ret (endAt_drop 2 (by simp [Tryz.f142]; exact .mk) ?_ ?_ (by simp) (by first | rfl | simp) (by first | rfl | simp))
   · rfl
   first | (simp [hgl, gapsF, gapE, hlt]; done) | (simp [hgl, gapsF, gapE, hlt, eObj]; try rfl)
 skip
 skip
 refine xY ?_
 refine xO3 ?_
 refine run_inl0 rfl rfl rfl rfl (by simp; exact .mk) ⟨_, Tryz.func234, rfl, rfl⟩ (in234g g a to L (by omega) (by omega) hlt) (.inl (by simp)) ?_
 refine xG [] ?_
 refine xH [8] ?_
 refine W_ret (endAt_drop 2 (by simp [Tryz.f142]; exact .mk) ?_ ?_ (by simp) (by first | rfl | simp) (by first | rfl | simp))
 · rfl
 first | (simp [hgl, gapsF, gapE, hlt]; done) | (simp [hgl, gapsF, gapE, hlt, eObj]; try rfl)

open Go.Awp
theorem ct205 (g : Gl) (fr to : Int) (l : List (Int × Int)) (hl : l.length ≤ 2^39) (hG : gapsS fr to l = true) : CtAt Tryz.prog g 205 [vI fr, vI to, rO l] (.tup [oO (gapsF to fr l), vI 0]) := by
 refine xA Tryz.func205 fun B S => ?_
 refine xU ?_
 refine xO2 ?_
 refine xG [0,1,2] ?_
 refine xO ?_
 refine xG [0,1,2,8] ?_
 refine xO4 ?_
 refine run_inl0 rfl rfl rfl rfl (by simp; exact .mk) ⟨_, Tryz.func142, rfl, rfl⟩ (in142g g fr to l hl hG) (.inl (by simp)) ?_
 refine xH [8,9] ?_
 refine W_seq (xU ?_)
 refine xO2 ?_
 refine xQ [8,16] ?_ ?_
 · intro h16
   simp at h16
 intro h16
 refine W_skip ?_
 refine xT ?_
 refine xH3 [6,7] ?_
 refine W_ret (xR (by simp [Tryz.f205]; exact .mk) ?_)
 simp [Tryz.f205, ownR]

theorem ct151 (g : Gl) (s : Stt) (hs : s.Ok) (hR : sttS s = true) (n : Int) : CtAt Tryz.prog g 151 [eStt s, vI n] (.tup [vI ((oneS s n).getD 0), .v (.bool (oneS s n).isSome)]) := by
 refine xA Tryz.func151 fun B S => ?_
 simp only [eStt, List.map, argD_agg, argD_v]
 have q0 := hs.h1
 have hb := superS_b (sttS_super hR)
 have hol := onesS_len (l := s.slots)
 have hT := tableS_len (sttS_rows hR)
 refine xU ?_
 refine xO3 ?_
 refine xG [1,2] ?_
 refine xO ?_
 refine xC (ct83 g n) ?_ (he := by simp [show D.roed ∘ eObj = eObj from funext roed_eObj]; exact .mk)
 refine xO5 ?_
 refine xF [2,6,7] ?_
 refine W_seq (xU ?_)
 refine xO2 ?_
 refine xQ [2,6,21] ?_ ?_
 · intro h21
   have hr : oneS s n = none := by unfold oneS; rw [if_pos (by simpa using h21)]
   refine xU ?_
   refine xH2 [4,5] ?_
   refine W_ret (xR (by simp [Tryz.f151]; exact .mk) ?_)
   first | (simp [Tryz.f151, hr]; done) | (simp [Tryz.f151, hr]; cases b <;> simp [eObj])
 intro h21
 have hr : oneS s n = (bestS (gapsF (s.sh.pages * 32) (s.base * 32) (spansS s.slots)) (needS n).1).map (·.1) := by unfold oneS; rw [if_neg (by simpa using h21)]
 refine W_skip ?_
 refine xT ?_
 refine xH [2,6,8] ?_
 refine W_seq (xU ?_)
 refine xO ?_ (h := by simp [eBlk]; exact .mk)
 refine xC (ct28 g s hs) ?_ (he := by simp [show D.roed ∘ eObj = eObj from funext roed_eObj]; exact .mk)
 refine xH2 [2,6,8,23,24,25] ?_
 refine W_block ?_
 refine W_rounds (fun m σ o => ∃ i : Nat, m = (onesS s.slots).length - i ∧ i ≤ (onesS s.slots).length ∧ σ = slots [(2, .ptr 0 0 0), (6, .d (vI (needS n).1)), (8, .hdr 2 0 i), (23, .hdr 1 0 (onesS s.slots).length), (24, .d (vI (onesS s.slots).length)), (25, .d (vI i))] ∧ o = [.var 28 [.d (vI s.sh.pages), .d (vI s.sh.slots), .d (vI s.sh.roots), .d (vI s.sh.room), .d (vI s.mode), .d (vI s.base), .d (rSl s.slots), .d (rR s.roots), .d (rBB s.data)], .row 3 ((onesS s.slots).map eBlk), .row 2 (((onesS s.slots).take i).map fun b => eObj (spanOf b))]) (onesS s.slots).length
  (Weak.trans (Weak.nilRow 8 2 rfl) (Weak.kills [2,6,8,23,24,25] rfl) (fun _ _ _ h1 h2 => by rw [← h1.len]; exact h2)) ⟨0, by simp, by simp, by simp, by simp⟩ ?_
 rintro m σ o ⟨i, rfl, hi, rfl, rfl⟩ _
 refine xU ?_
 refine xH [2,6,8,23,24,25,26] ?_
 refine W_seq (W_cond rfl ?_ ?_)
 · intro h26
   have hi2 : i < (onesS s.slots).length := by simpa using h26
   have e1 : (i + 1) * 16 ≤ 140737488355328 := by omega
   have e2 : i ≤ 140737488355327 := by omega
   have htk : ((onesS s.slots).take i).length = i := by simp; omega
   refine W_skip fun _ => ?_
   refine W_seq (W_block ?_)
   refine xU ?_
   refine xO ?_ (h := by simp [eBlk, hi2]; exact .mk)
   refine xO ?_ (h := by simp [-List.getElem?_map, map_get hi2, eBlk]; exact .mk)
   refine xO ?_
   refine xOs ?_
   refine xF [2,6,8,10,23,24,25] ?_
   refine xY ?_
   refine xO2 ?_
   refine xO ?_ (h := by simp [eBlk]; exact .mk)
   refine xO ?_
   refine xO ?_ (h := by simp [eBlk]; exact .mk)
   refine xOs ?_
   refine xO ?_
   refine xO ?_ (h := by simp [rows, e1, e2, htk, Nat.min_eq_left hi]; exact .mk)
   refine xH [2,6,8,23,24,25] ?_
   refine xY ?_
   refine xO2 ?_
   refine xE [2,6,8,23,24,25] ?_
   refine rounds_kill [2,6,8,23,24,25] ?_
   refine rounds_kills [2,6,8,23,24,25] rfl ?_
   refine rounds_swap 2 5 1 (by decide) (by simp) (by decide) rfl rfl ?_
   refine rounds_drop 3 [2,6,8,23,24,25] (by decide) (by rfl) (by rfl) ?_
   refine rounds_next (m' := (onesS s.slots).length - (i+1)) (by omega) ⟨i+1, rfl, by omega, ?_, ?_⟩
   · rw [wrap64 (by omega) (by omega)]; simp; try rfl
   rw [take_succ hi2]; simp [eObj, spanOf, eBlk]; try rfl
 intro h26
 obtain rfl : i = (onesS s.slots).length := by simp at h26; omega
 obtain ⟨U, hU⟩ : ∃ U, U = spansS s.slots := ⟨_, rfl⟩
 have hm : List.take (onesS s.slots).length (List.map (fun b => eObj (spanOf b)) (onesS s.slots)) = U.map eObj := by rw [hU, spansS, ← List.map_take, List.take_length, List.map_map]; rfl
 have hm2 : (onesS s.slots).length = U.length := by rw [hU, spansS, List.length_map]
 rw [hm, hm2]
 have e4 : IntKind.i64.wrap (s.base * 32) = s.base * 32 := wrap64 (by omega) (by omega)
 have e5 : IntKind.i64.wrap (s.sh.pages * 32) = s.sh.pages * 32 := wrap64 (by omega) (by omega)
 have hG := sttS_gaps hR
 rw [← hU] at hG hr
 have c132 := ct205 g (s.base * 32) (s.sh.pages * 32) U (by omega) hG
 have hgl := gapsF_len (to := s.sh.pages * 32) (l := U) (a := s.base * 32)
 obtain ⟨G, hGG⟩ : ∃ G, G = gapsF (s.sh.pages * 32) (s.base * 32) U := ⟨_, rfl⟩
 rw [← hGG] at hr c132 hgl
 obtain ⟨b, hbb⟩ : ∃ b, b = bestS G (needS n).1 := ⟨_, rfl⟩
 have c133 := ct206 g G (by omega) (needS n).1
 rw [← hbb] at hr c133
 refine W_exit (xT ?_)
 refine xO ?_
 refine xO ?_ (h := by simp [eBlk]; exact .mk)
 refine xO ?_ (h := by simp [e4]; exact .mk)
 refine xO2 ?_
 refine xO ?_ (h := by simp [eBlk]; exact .mk)
 refine xO ?_ (h := by simp [e5]; exact .mk)
 refine xO ?_
 refine xC (c132) ?_ (he := by simp [show D.roed ∘ eObj = eObj from funext roed_eObj]; exact .mk)
 refine xO5 ?_
 refine xG [6,11] ?_
 refine xO2 ?_
 refine xC (c133) ?_ (he := by simp [show D.roed ∘ eObj = eObj from funext roed_eObj]; exact .mk)
 refine xO4 ?_
 refine xOs ?_
 refine xO ?_
 refine xG [13,14] ?_
 refine xO ?_
 refine xO ?_ (h := by simp [eBlk]; exact .mk)
 refine xH3 [4,5] ?_
 refine W_ret (xR (by simp [Tryz.f151]; exact .mk) ?_)
 first | (simp [Tryz.f151, hr]; done) | (simp [Tryz.f151, hr]; cases b <;> simp [eObj])

open Go.Awp
theorem ct240 (g : Gl) (ks : List Int) (hl : ks.length ≤ 2^39) : CtAt Tryz.prog g 240 [rI ks] (oO (runsS ks)) := by
 refine xA Tryz.func240 fun B S => ?_
 refine xU ?_
 refine xO ?_
 refine xG [0] ?_
 refine xO ?_
 refine xG [0,3] ?_
 refine xH [0,3,4] ?_
 refine W_seq (xU ?_)
 refine xH3 [3,4,8,9,10] ?_
 refine W_block ?_
 refine W_rounds (fun m σ o => ∃ i : Nat, m = ks.length - i ∧ i ≤ ks.length ∧ σ = slots [(3, .hdr 0 0 (runsI ks i).1.length), (4, .d (vT (runsI ks i).2)), (8, .d (rI ks)), (9, .d (vI ks.length)), (10, .d (vI i))] ∧ o = [.row 2 ((runsI ks i).1.map eObj)]) ks.length
  (Weak.trans (Weak.nilRow 3 2 rfl) (Weak.kills [3,4,8,9,10] rfl) (fun _ _ _ h1 h2 => by rw [← h1.len]; exact h2)) ⟨0, by simp, by simp, by simp [runsI], by simp [runsI]⟩ ?_
 rintro m σ o ⟨i, rfl, hi, rfl, rfl⟩ _
 refine xU ?_
 refine xH [3,4,8,9,10,11] ?_
 refine W_seq (W_cond rfl ?_ ?_)
 · intro h11
   have hi2 : i < ks.length := by simpa using h11
   have hin := runsI_len (ks := ks) (i := i)
   have e2 : ((runsI ks i).1.length + 1) * 16 ≤ 140737488355328 := by omega
   have e3 : (runsI ks i).1.length ≤ 140737488355327 := by omega
   refine W_skip fun _ => ?_
   refine W_seq (W_block ?_)
   refine xU ?_
   refine xO ?_
   refine xO ?_ (h := by simp [*]; exact .mk)
   refine xO3 ?_
   refine xG [3,4,5,6,8,9,10] ?_
   refine xH3 [3,4,5,7,8,9,10] ?_
   refine W_seq (W_block ?_)
   refine xU ?_
   refine xO2 ?_
   refine xI ?_
   refine xP ?_
   refine xB ?_
   refine xQ [3,5,7,8,9,10,17] ?_ ?_
   · intro h17
     have hk : nth ks i = -1 ∧ (runsI ks i).2 = true := by simpa using h17
     have hst : runsI ks (i + 1) = (bumpR (runsI ks i).1, true) := by rw [runsI, if_pos hk.1, if_pos hk.2]
     obtain ⟨R, hRR⟩ : ∃ R, R = (runsI ks i).1 := ⟨_, rfl⟩
     obtain ⟨m, hm, hm1, hm2⟩ : ∃ m, R.length = m + 1 ∧ 1 ≤ (nth R m).2 ∧ (nth R m).2 ≤ i := by rw [hRR]; exact runsI_pos hk.2
     rw [← hRR] at hst hin ⊢
     clear hRR
     have e1 : IntKind.i64.wrap (m : Int) = m := wrap64 (by omega) (by omega)
     have em : m < R.length := by omega
     have e4 : IntKind.i64.wrap ((nth R m).2 + 1) = (nth R m).2 + 1 := wrap64 (by omega) (by omega)
     refine xY ?_
     refine xO2 ?_
     refine xO ?_ (h := by simp [hm]; exact .mk)
     refine xO ?_ (h := by simp [hm, e1]; exact .mk)
     refine xO ?_ (h := by simp [em]; exact .mk)
     refine xO ?_
     refine xO ?_ (h := by simp [-List.getElem?_map, map_get em, eObj]; exact .mk)
     refine xO ?_ (h := by simp [e4]; exact .mk)
     refine xO ?_ (h := by simp [em]; exact .mk)
     refine xO ?_
     refine xO ?_ (h := by simp [-List.getElem?_map, map_get em, eObj, nrmL, nrm, putC, splice]; exact .mk)
     refine xF [3,7,8,9,10] ?_
     refine xY ?_
     refine xH2 [3,4,8,9,10] ?_
     refine xY ?_
     refine xO2 ?_
     refine xE [3,4,8,9,10] ?_
     refine rounds_kill [3,4,8,9,10] ?_
     first
     | (refine rounds_drop 1 [3,4,8,9,10] (by decide) (by rfl) (by rfl) ?_
        refine rounds_next (m' := ks.length - (i+1)) (by omega) ⟨i+1, rfl, by omega, ?_, ?_⟩
        · rw [wrap64 (by omega) (by omega), hst]; simp [bumpR, *]; try rfl
        rw [hst]; simp [bumpR, List.map_set, eObj, nrmL, nrm, putC, splice, *]; try rfl)
     | (refine rounds_kills [3,4,8,9,10] rfl ?_
        refine rounds_swap 0 2 1 (by decide) (by simp) (by decide) rfl rfl ?_
        refine rounds_drop 1 [3,4,8,9,10] (by decide) (by rfl) (by rfl) ?_
        refine rounds_next (m' := ks.length - (i+1)) (by omega) ⟨i+1, rfl, by omega, ?_, ?_⟩
        · rw [wrap64 (by omega) (by omega), hst]; simp [hk2]; try rfl
        rw [hst]; simp [eObj]; try rfl)
   intro h17
   have hk : ¬ (nth ks i = -1 ∧ (runsI ks i).2 = true) := by simpa using h17
   refine xU ?_
   refine xO2 ?_
   refine xQ [3,5,7,8,9,10,32] ?_ ?_
   · intro h32
     have hk2 : nth ks i = -1 := by simpa using h32
     have hst : runsI ks (i + 1) = ((runsI ks i).1 ++ [((i : Int), 1)], true) := by rw [runsI, if_pos hk2, if_neg (fun h => hk ⟨hk2, h⟩)]
     refine xY ?_
     refine xO2 ?_
     refine xOs ?_
     refine xO ?_
     refine xO ?_ (h := by simp [rows, e2, e3]; exact .mk)
     refine xH [3,7,8,9,10] ?_
     refine xY ?_
     refine xH2 [3,4,8,9,10] ?_
     refine xY ?_
     refine xO2 ?_
     refine xE [3,4,8,9,10] ?_
     refine rounds_kill [3,4,8,9,10] ?_
     first
     | (refine rounds_drop 1 [3,4,8,9,10] (by decide) (by rfl) (by rfl) ?_
        refine rounds_next (m' := ks.length - (i+1)) (by omega) ⟨i+1, rfl, by omega, ?_, ?_⟩
        · rw [wrap64 (by omega) (by omega), hst]; simp [bumpR, *]; try rfl
        rw [hst]; simp [bumpR, List.map_set, eObj, nrmL, nrm, putC, splice, *]; try rfl)
     | (refine rounds_kills [3,4,8,9,10] rfl ?_
        refine rounds_swap 0 2 1 (by decide) (by simp) (by decide) rfl rfl ?_
        refine rounds_drop 1 [3,4,8,9,10] (by decide) (by rfl) (by rfl) ?_
        refine rounds_next (m' := ks.length - (i+1)) (by omega) ⟨i+1, rfl, by omega, ?_, ?_⟩
        · rw [wrap64 (by omega) (by omega), hst]; simp [hk2]; try rfl
        rw [hst]; simp [eObj]; try rfl)
   intro h32
   have hk2 : nth ks i ≠ -1 := by simpa using h32
   have hst : runsI ks (i + 1) = ((runsI ks i).1, false) := by rw [runsI, if_neg hk2]
   refine W_skip fun _ => ?_
   refine xY ?_
   refine xH2 [3,4,8,9,10] ?_
   refine xY ?_
   refine xO2 ?_
   refine xE [3,4,8,9,10] ?_
   refine rounds_kill [3,4,8,9,10] ?_
   first
   | (refine rounds_drop 1 [3,4,8,9,10] (by decide) (by rfl) (by rfl) ?_
      refine rounds_next (m' := ks.length - (i+1)) (by omega) ⟨i+1, rfl, by omega, ?_, ?_⟩
      · rw [wrap64 (by omega) (by omega), hst]; simp [bumpR, *]; try rfl
      rw [hst]; simp [bumpR, List.map_set, eObj, nrmL, nrm, putC, splice, *]; try rfl)
   | (refine rounds_kills [3,4,8,9,10] rfl ?_
      refine rounds_swap 0 2 1 (by decide) (by simp) (by decide) rfl rfl ?_
      refine rounds_drop 1 [3,4,8,9,10] (by decide) (by rfl) (by rfl) ?_
      refine rounds_next (m' := ks.length - (i+1)) (by omega) ⟨i+1, rfl, by omega, ?_, ?_⟩
      · rw [wrap64 (by omega) (by omega), hst]; simp [hk2]; try rfl
      rw [hst]; simp [eObj]; try rfl)
 intro h11
 obtain rfl : i = ks.length := by simp at h11; omega
 refine W_exit (xT ?_)
 refine xH2 [2] ?_
 refine W_ret (xR (by simp [Tryz.f240]; exact .mk) ?_)
 simp [Tryz.f240, ownR, runsS]

theorem ct210 (g : Gl) (ks : List Int) (hl : ks.length ≤ 2^39) (n : Int) : CtAt Tryz.prog g 210 [rI ks, vI n] (.tup [vI ((bestR ks n).getD (0, 0)).1, .v (.bool (bestR ks n).isSome)]) := by
 refine xA Tryz.func210 fun B S => ?_
 refine xU ?_
 refine xO2 ?_
 refine xG [0,1,4,5] ?_
 refine xH [0,1,4,5,6] ?_
 refine W_seq (xU ?_)
 refine xO ?_
 refine xC (ct240 g ks hl) ?_
 refine xO2 ?_
  
 refine xF [1,4,5,6,10,11,12] ?_
 refine W_block ?_
 obtain ⟨R, hR⟩ : ∃ R, R = runsS ks := ⟨_, rfl⟩
 have hbb : bestR ks n = R.foldl (bestRStep n) none := by rw [hR]; rfl
 have hRl : R.length ≤ ks.length := by rw [hR]; exact runsI_len
 rw [hbb]
 simp only [← hR]
 refine W_rounds (fun m σ o => ∃ i : Nat, m = R.length - i ∧ i ≤ R.length ∧ σ = slots [(1, .d (vI n)), (4, .d (vI (((R.take i).foldl (bestRStep n) none).getD (0, 0)).1)), (5, .d (vT ((R.take i).foldl (bestRStep n) none).isSome)), (6, .d (vI (((R.take i).foldl (bestRStep n) none).getD (0, 0)).2)), (10, .hdr 0 0 R.length), (11, .d (vI R.length)), (12, .d (vI i))] ∧ o = [.row 2 (R.map eObj)]) R.length (Weak.kills [1,4,5,6,10,11,12] rfl) ⟨0, by simp, by simp, by simp, by simp⟩ ?_
 rintro m σ o ⟨i, rfl, hi, rfl, rfl⟩ _
 refine xU ?_
 refine xH [1,4,5,6,10,11,12,13] ?_
 refine W_seq (W_cond rfl ?_ ?_)
 · intro h13
   have hi2 : i < R.length := by simpa using h13
   have hst : (R.take (i + 1)).foldl (bestRStep n) none = bestRStep n ((R.take i).foldl (bestRStep n) none) (nth R i) := by rw [take_succ hi2, List.foldl_append]; rfl
   obtain ⟨b, hb⟩ : ∃ b, b = (R.take i).foldl (bestRStep n) none := ⟨_, rfl⟩
   rw [← hb] at hst ⊢
   refine W_skip fun _ => ?_
   refine W_seq (W_block ?_)
   refine xU ?_
   refine xO ?_ (h := by simp [eObj, hi2]; exact .mk)
   refine xO ?_ (h := by simp [-List.getElem?_map, map_get hi2, eObj]; exact .mk)
   refine xO ?_
   refine xOs ?_
   refine xF [1,4,5,6,8,10,11,12] ?_
   refine W_seq ?_
   rcases b with _ | b
   · skip
     skip
     refine xY ?_
     refine xO3 ?_
     refine xI ?_
     refine xI ?_ (h := fun hb => by simp [eObj]; exact .mk)
     iterate 2 refine xI ?_
     refine xP ?_
     refine xB ?_
     iterate 4 refine xI ?_
     refine xI ?_ (h := fun hb => by simp [eObj]; exact .mk)
     iterate 2 refine xI ?_
     iterate 2 refine xP ?_
     refine xQ [1,4,5,6,8,10,11,12,33] ?_ ?_
     · intro h33
       have hs : (R.take (i + 1)).foldl (bestRStep n) none = some (nth R i) := by rw [hst, bestRStep, if_pos (by simp at h33 ⊢; omega)]
       refine W_regD (by kernel_rfl) [] 4 [0,1,2,3,4,5,6] (by decide +kernel) ?_
       refine xO ?_
       refine xO ?_ (h := by simp [eObj]; exact .mk)
       refine xO ?_
       refine xO ?_ (h := by simp [eObj]; exact .mk)
       refine xH3 [1,4,5,6,10,11,12] ?_
       refine xY ?_
       refine xO2 ?_
       refine xE [1,4,5,6,10,11,12] ?_
       refine rounds_drop 1 [1,4,5,6,10,11,12] (by simp) (by simp) (by simp) ?_
       refine rounds_next (m' := R.length - (i+1)) (by omega) ⟨i+1, rfl, by omega, ?_, rfl⟩
       rw [wrap64 (by omega) (by omega), hs]; rfl
     intro h33
     have hs : (R.take (i + 1)).foldl (bestRStep n) none = none := by rw [hst, bestRStep, if_neg (by simp at h33 ⊢; omega)]
     refine W_skip fun _ => ?_
     refine xY ?_
     refine xO2 ?_
     refine xE [1,4,5,6,10,11,12] ?_
     refine rounds_drop 1 [1,4,5,6,10,11,12] (by simp) (by simp) (by simp) ?_
     refine rounds_next (m' := R.length - (i+1)) (by omega) ⟨i+1, rfl, by omega, ?_, rfl⟩
     rw [wrap64 (by omega) (by omega), hs]; rfl
   skip
   skip
   refine xY ?_
   refine xO3 ?_
   refine xI ?_
   refine xI ?_ (h := fun hb => by simp [eObj]; exact .mk)
   iterate 2 refine xI ?_
   refine xP ?_
   refine xB ?_
   iterate 4 refine xI ?_
   refine xI ?_ (h := fun hb => by simp [eObj]; exact .mk)
   iterate 2 refine xI ?_
   iterate 2 refine xP ?_
   refine xQ [1,4,5,6,8,10,11,12,33] ?_ ?_
   · intro h33
     have hs : (R.take (i + 1)).foldl (bestRStep n) none = some (nth R i) := by rw [hst, bestRStep, if_pos (by simp at h33 ⊢; omega)]
     refine W_regD (by kernel_rfl) [] 4 [0,1,2,3,4,5,6] (by decide +kernel) ?_
     refine xO ?_
     refine xO ?_ (h := by simp [eObj]; exact .mk)
     refine xO ?_
     refine xO ?_ (h := by simp [eObj]; exact .mk)
     refine xH3 [1,4,5,6,10,11,12] ?_
     refine xY ?_
     refine xO2 ?_
     refine xE [1,4,5,6,10,11,12] ?_
     refine rounds_drop 1 [1,4,5,6,10,11,12] (by simp) (by simp) (by simp) ?_
     refine rounds_next (m' := R.length - (i+1)) (by omega) ⟨i+1, rfl, by omega, ?_, rfl⟩
     rw [wrap64 (by omega) (by omega), hs]; rfl
   intro h33
   have hs : (R.take (i + 1)).foldl (bestRStep n) none = some b := by rw [hst, bestRStep, if_neg (by simp at h33 ⊢; omega)]
   refine W_skip fun _ => ?_
   refine xY ?_
   refine xO2 ?_
   refine xE [1,4,5,6,10,11,12] ?_
   refine rounds_drop 1 [1,4,5,6,10,11,12] (by simp) (by simp) (by simp) ?_
   refine rounds_next (m' := R.length - (i+1)) (by omega) ⟨i+1, rfl, by omega, ?_, rfl⟩
   rw [wrap64 (by omega) (by omega), hs]; rfl
 intro h13
 obtain rfl : i = R.length := by simp at h13; omega
 rw [List.take_length]
 refine W_exit (xT ?_)
 refine xO4 ?_
 refine xF [4,5] ?_
 refine W_ret (xR (by simp [Tryz.f210]; exact .mk) ?_)
 simp [Tryz.f210]

end Go.Proofs
