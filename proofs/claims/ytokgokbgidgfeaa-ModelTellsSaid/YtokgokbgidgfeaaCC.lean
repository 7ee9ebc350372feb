/- Contracts of the program's functions and plain facts, for arguments as each lemma says. -/
import Derived.Test.YtokgokbgidgfeaaAwpD
import Derived.Test.YtokgokbgidgfeaaCB
import Derived.Test.YtokgokbgidgfeaaCA
set_option linter.all false
set_option maxHeartbeats 4000000
set_option maxRecDepth 4000
namespace Go.Proofs
open Go.Awp
theorem in145 (g : Gl) (pages : Int) (l : List (Int × Int)) (hp : 0 ≤ pages ∧ pages ≤ 64) (hl : l.length ≤ 2^40) (ho : ∀ i, i < l.length → (nth l i).1 ≤ 2^40) (b lb : Nat) (c : LoopC) (L : List (Nat × AV)) (hc1 : c.params.size = 2) (hc2 : ∀ p ∈ c.params.toList, p < c.n)
    (A0 A1 A2 A3 A4 : Nat → Awp.Obj) (ok : Nat → Bool) (z0 : ∀ i, (A0 i).lt 9 = true) (z1 : ∀ i, (A1 i).lt 9 = true) (z2 : ∀ i, (A2 i).lt 9 = true) (z3 : ∀ i, (A3 i).lt 9 = true) (z4 : ∀ i, (A4 i).lt 9 = true) (zL : (L.all fun p => p.2.lt 9) = true)
    (hround : ∀ i, i < l.length → ∀ B S, RoundI Try.prog g B S lb 8 c L [.agg [.d (vI (spotS pages (nth l i)).1.page), .d (vI (spotS pages (nth l i)).1.count), .d (vT (spotS pages (nth l i)).1.small), .d (vI (spotS pages (nth l i)).1.cls), .d (vI (spotS pages (nth l i)).1.cell)], .d (vT (spotS pages (nth l i)).2)] [A0 (i), A1 (i), A2 (i), A3 (i), A4 (i), .var 3 [.d (vI pages)], .var 99 [.d (rO l)], .blk b, .lp lb c L .ready none, .var 141 [.d (vI (nth l i).1), .d (vI (nth l i).2)]] (fun bb o => bb = ok i ∧ o = if ok i = true then [A0 (i + 1), A1 (i + 1), A2 (i + 1), A3 (i + 1), A4 (i + 1), .var 3 [.d (vI pages)], .var 99 [.d (rO l)], .blk b, .lp lb c L .ready none, .var 141 [.d (vI (nth l i).1), .d (vI (nth l i).2)]] else [A0 (i + 1), A1 (i + 1), A2 (i + 1), A3 (i + 1), A4 (i + 1), .var 3 [.d (vI pages)], .var 99 [.d (rO l)], .blk b, .lp lb c L .done (some .ret), .var 141 [.d (vI (nth l i).1), .d (vI (nth l i).2)]])) :
    ∀ B S, CallsA Try.prog g B S ⟨9, true⟩ 145 [.fn (.yield lb) [] [], .ptr 6 0 0, .ptr 5 0 0] [A0 (0), A1 (0), A2 (0), A3 (0), A4 (0), .var 3 [.d (vI pages)], .var 99 [.d (rO l)], .blk b, .lp lb c L .ready none] (fun x r => x = .tup [] ∧ ((∀ i, i < l.length → ok i = true) ∧ r = [A0 (l.length), A1 (l.length), A2 (l.length), A3 (l.length), A4 (l.length), .var 3 [.d (vI pages)], .var 99 [.d (rO l)], .blk b, .lp lb c L .ready none] ∨ ∃ i, i < l.length ∧ ok i = false ∧ r = [A0 (i + 1), A1 (i + 1), A2 (i + 1), A3 (i + 1), A4 (i + 1), .var 3 [.d (vI pages)], .var 99 [.d (rO l)], .blk b, .lp lb c L .done (some .ret)])) := by
 refine callsA_WI Try.func145 rfl (Nat.le_of_ble_eq_true rfl) fun B S => ?_
 refine WI_seq ?_
 refine WI_reg rfl ?_ (by decide +kernel)
 refine xO ?_ (h := by simp [z0, z1, z2, z3, z4, zL, eObj]; exact .mk)
 iterate 2 (refine xO ?_ (h := by simp [z0, z1, z2, z3, z4, zL]; exact .mk))
 refine xE [0,2,6,7,8] fun _ => ?_
 refine WI_block ?_
 refine WI_rounds (fun m σ o => ∃ i : Nat, m = l.length - i ∧ i ≤ l.length ∧ (∀ j, j < i → ok j = true) ∧ σ = slots [(0, .fn (.yield lb) [] []), (2, .ptr 5 0 0), (6, .d (rO l)), (7, .d (vI l.length)), (8, .d (vI i))] ∧ o = [A0 (i), A1 (i), A2 (i), A3 (i), A4 (i), .var 3 [.d (vI pages)], .var 99 [.d (rO l)], .blk b, .lp lb c L .ready none]) l.length .refl ⟨0, by simp, by simp, by simp, rfl, rfl⟩ ?_
 rintro m σ o ⟨i, rfl, hi, hinv, rfl, rfl⟩ _
 refine WI_seq ?_
 refine WI_reg rfl ?_ (by decide +kernel)
 refine xO ?_ (h := by simp [z0, z1, z2, z3, z4, zL]; exact .mk)
 refine xE [0,2,6,7,8,9] fun _ => ?_
 refine WI_seq ?_
 refine WI_cond rfl ?_ ?_
 · intro h9
   have hi2 : i < l.length := by simpa using h9
   refine WI_skip ?_
   rintro -
   refine WI_seq ?_
   refine WI_block ?_
   refine WI_seq ?_
   refine WI_reg rfl ?_ (by decide +kernel)
   refine xO ?_ (h := by simp [z0, z1, z2, z3, z4, zL, eObj, *]; exact .mk)
   refine xO ?_ (h := by simp [z0, z1, z2, z3, z4, zL, eObj]; exact .mk)
   refine xO ?_ (h := by simp [z0, z1, z2, z3, z4, zL]; exact .mk)
   refine xO ?_ (h := by simp [z0, z1, z2, z3, z4, zL, splice]; exact .mk)
   refine xE [0,2,5,6,7,8] fun _ => ?_
   refine WI_seq ?_
   refine WI_regY [0,1,2,3,4,5] 6 [7] rfl ?_ (by decide +kernel)
   refine xO ?_ (h := by simp [z0, z1, z2, z3, z4, zL]; exact .mk)
   iterate 2 (refine xO ?_ (h := by simp [z0, z1, z2, z3, z4, zL, eObj]; exact .mk))
   refine run_call0 rfl rfl rfl rfl (by simp [z0, z1, z2, z3, z4, zL]; exact .mk) (by simp [z0, z1, z2, z3, z4, zL]; exact .mk) (ct146 g pages (nth l i) hp (ho i hi2)) (by simp [z0, z1, z2, z3, z4, zL]) (by simp [z0, z1, z2, z3, z4, zL]; exact .mk) ?_
   iterate 2 (refine xO ?_ (h := by simp [z0, z1, z2, z3, z4, zL]; exact .mk))
   refine run_yieldA (fun bb o => bb = ok i ∧ o = if ok i = true then [A0 (i + 1), A1 (i + 1), A2 (i + 1), A3 (i + 1), A4 (i + 1), .var 3 [.d (vI pages)], .var 99 [.d (rO l)], .blk b, .lp lb c L .ready none, .var 141 [.d (vI (nth l i).1), .d (vI (nth l i).2)]] else [A0 (i + 1), A1 (i + 1), A2 (i + 1), A3 (i + 1), A4 (i + 1), .var 3 [.d (vI pages)], .var 99 [.d (rO l)], .blk b, .lp lb c L .done (some .ret), .var 141 [.d (vI (nth l i).1), .d (vI (nth l i).2)]]) rfl rfl rfl rfl rfl (by simp) (by simp; exact .mk) (by simp [eSpot]; exact .mk) rfl hc1 hc2 (hround i hi2) ?_
   rintro bb o2 ⟨rfl, rfl⟩
   cases hok : ok i
   · skip
     simp only [Bool.false_eq_true, if_false]
     refine xO ?_ (h := by simp [z0, z1, z2, z3, z4, zL]; exact .mk)
     refine xE [0,2,6,7,8,19] fun _ => ?_
     refine WI_cond rfl ?_ ?_
     · intro h19
       refine WI_ret ?_
       try simp only [thenI_ret, roundsI_ret, inBlkI_ret, thenI_exit, roundsI_exit, inBlkI_exit, if_true]
       refine endInM_ret (fn := Try.f145) (rs := []) 9 .nil ?_ (Nat.le_refl _) ?_ ?_ ?_
       · simp [Try.f145]; exact .mk
       · rfl
       · simp [z0, z1, z2, z3, z4, zL]
       exact ⟨rfl, .inr ⟨i, hi2, hok, rfl⟩⟩
     intro h19
     simp at h19
   skip
   simp only [if_true]
   have hinv2 : ∀ j, j < i + 1 → ok j = true := fun j hj => by
    rcases Nat.lt_succ_iff_lt_or_eq.1 hj with hj | rfl
    · exact hinv j hj
    exact hok
   refine xO ?_ (h := by simp [z0, z1, z2, z3, z4, zL]; exact .mk)
   refine xE [0,2,6,7,8,19] fun _ => ?_
   refine WI_cond rfl ?_ ?_
   · intro h19
     simp at h19
   intro h19
   refine WI_skip ?_
   rintro -
   refine WI_reg rfl ?_ (by decide +kernel)
   iterate 2 (refine xO ?_ (h := by simp [z0, z1, z2, z3, z4, zL]; exact .mk))
   refine xE [0,2,6,7,8] ?_
   refine roundsI_of ?_
   refine rounds_drop 9 [0,2,6,7,8] (by simp) (by simp [boxA, AV.cells, AV.isCell, z0, z1, z2, z3, z4, zL]) (by simp [boxA, AV.cells, AV.isCell, z0, z1, z2, z3, z4, zL]) ?_
   exact rounds_next (m' := l.length - (i + 1)) (by omega) ⟨i + 1, rfl, by omega, hinv2, by rw [wrap64 (by omega) (by omega)]; rfl, rfl⟩
 intro h9
 obtain rfl : i = l.length := by simp at h9; omega
 refine WI_exit ?_
 try simp only [thenI_ret, roundsI_ret, inBlkI_ret, thenI_exit, roundsI_exit, inBlkI_exit, if_true]
 refine endInM_normal (fn := Try.f145) (rs := []) 9 .nil ?_ (Nat.le_refl _) ?_ ?_ ?_
 · simp [Try.f145]; exact .mk
 · rfl
 · simp [z0, z1, z2, z3, z4, zL]
 exact ⟨rfl, .inl ⟨hinv, rfl⟩⟩

open Go.Awp
theorem in128 (g : Gl) (o0 o1 o2 o3 o4 : Awp.Obj) (pages : Int) (l : List (Int × Int)) : ∀ B S, CallsA Try.prog g B S ⟨5, true⟩ 128 [.d (vI pages), .d (rO l)] [o0, o1, o2, o3, o4]
    (fun x r => x = .fn (.func 145) [] [.ptr 6 0 0, .ptr 5 0 0] ∧ r = [o0, o1, o2, o3, o4, .var 3 [.d (vI pages)], .var 99 [.d (rO l)]]) := by
 refine callsA_at Try.func128 rfl (Nat.le_of_ble_eq_true rfl) fun B S => ?_
 refine xU ?_
 iterate 3 refine xO ?_
 refine xE [2,3] ?_
 refine xT ?_
 iterate 2 refine xO ?_
 refine xE [4] fun _ => ?_
 refine W_ret (endAt_ret (by simp [Try.f128]; exact .mk) ?_ ?_)
 · simp
 simp

theorem in105 (g : Gl) (pages : Int) (l : List (Int × Int)) (hl : l.length ≤ 2^40) (ho : ∀ i, i < l.length → (nth l i).1 ≤ 2^40) : ∀ B S, CallsA Try.prog g B S ⟨0, true⟩ 105 [.d (vI pages), .d (rO l)] [] (fun x r => (match laidS pages l with
    | some y => x = .tup [.ptr 3 0 0, .d (vT true)] ∧ r = [.var 142 [.ptr 3 0 0], .var 4 [.d (vT true)], .row 1 (y.1.map vI), .var 148 (AV.hdr 2 0 pages.toNat :: y.2.map cU)]
    | none => x = .tup [.d (.v (.pointer none)), .d (vT false)] ∧ r = [])) := by
 refine callsA_WI Try.func105 rfl (Nat.le_of_ble_eq_true rfl) fun B S => ?_
 refine WI_seq ?_
 refine WI_reg rfl ?_ (by decide +kernel)
 iterate 2 refine xO ?_
 refine xE [0,1,4,5] fun _ => ?_
 refine WI_seq ?_
 refine WI_seq ?_
 refine WI_reg rfl ?_ (by decide +kernel)
 iterate 3 refine xO ?_
 iterate 2 refine xI ?_
 refine xP ?_
 refine xE [0,1,4,5,15] fun _ => ?_
 refine WI_cond rfl ?_ ?_
 · intro h15
   have hr : laidS pages l = none := by
    have : ¬ (0 ≤ pages ∧ pages ≤ 64) := by simp at h15; omega
    simp [laidS, this]
   refine WI_seq ?_
   refine WI_reg rfl ?_ (by decide +kernel)
   iterate 2 (refine xO ?_ (h := by simp [splice]; exact .mk))
   refine xE [4,5] fun _ => ?_
   refine WI_ret ?_
   try simp only [thenI_ret, roundsI_ret, inBlkI_ret, thenI_exit, roundsI_exit, inBlkI_exit, if_true]
   refine endInM_ret (fn := Try.f105) (rs := [.d (.v (.pointer none)), .d (vT false)]) 0 .nil ?_ (Nat.le_refl _) ?_ ?_ ?_
   · simp [Try.f105]; exact .mk
   · rfl
   · rfl
   rw [hr]; exact ⟨rfl, rfl⟩
 intro h15
 have hp : 0 ≤ pages ∧ pages ≤ 64 := by simp at h15; omega
 obtain ⟨n, rfl⟩ : ∃ n : Nat, pages = n := ⟨pages.toNat, by omega⟩
 refine WI_skip ?_
 rintro -
 refine WI_seq ?_
 refine WI_reg rfl ?_ (by decide +kernel)
 refine xO ?_
 refine xO ?_ (h := by simp [hp, show 8 * (n : Int) ≤ 140737488355328 by omega, show (n : Int) ≤ 140737488355328 by omega]; exact .mk)
 refine xO ?_ (h := by simp [splice]; exact .mk)
 iterate 2 refine xO ?_
 refine xO ?_ (h := by simp [splice]; exact .mk)
 refine xE [0,1,4,5,6] fun _ => ?_
 refine WI_seq ?_
 refine WI_seq ?_
 refine WI_reg rfl ?_ (by decide +kernel)
 iterate 6 refine xO ?_
 refine xE [0,1,4,5,6,24,25] fun _ => ?_
 refine WI_block ?_
 obtain ⟨z64, hz⟩ : ∃ z : List Nat, List.replicate 64 0 = z := ⟨_, rfl⟩
 refine WI_rounds (fun m σ o => ∃ i : Nat, m = n - i ∧ i ≤ n ∧ σ = slots [(0, .d (vI n)), (1, .d (rO l)), (4, .ptr 0 0 0), (5, .ptr 1 0 0), (6, .ptr 4 0 0), (24, .d (vI n)), (25, .d (vI i))] ∧ o = [.var 142 [.d (.v (.pointer none))], .var 4 [.d (vT false)], .row 1 ((fillL n i).map vI), .var 148 (AV.hdr 2 0 n :: z64.map cU), .var 142 [.ptr 3 0 0]]) n .refl ⟨0, by simp, by simp, by simp, by rw [← hz, fillL_0]; simp; rfl⟩ ?_
 rintro m σ o ⟨i, rfl, hi, rfl, rfl⟩ _
 refine WI_seq ?_
 refine WI_reg rfl ?_ (by decide +kernel)
 refine xO ?_
 refine xE [0,1,4,5,6,24,25,26] fun _ => ?_
 refine WI_seq ?_
 refine WI_cond rfl ?_ ?_
 · intro h26
   have hi2 : i < n := by simp at h26; omega
   have r1 : i < (fillL n i).length := by rw [fillL_len hi]; exact hi2
   refine WI_skip ?_
   rintro -
   refine WI_seq ?_
   refine WI_block ?_
   refine WI_seq ?_
   refine WI_reg rfl ?_ (by decide +kernel)
   iterate 2 refine xO ?_
   refine xE [0,1,4,5,6,7,24,25] fun _ => ?_
   refine WI_reg rfl ?_ (by decide +kernel)
   iterate 5 refine xO ?_
   refine xO ?_ (h := by simp [*]; exact .mk)
   refine xO ?_ (h := by simp [splice, r1, putC, nrmL, nrm, -List.map_set, -List.map_append]; exact .mk)
   refine xE [0,1,4,5,6,24,25] fun _ => ?_
   refine WI_reg rfl ?_ (by decide +kernel)
   iterate 2 refine xO ?_
   refine xE [0,1,4,5,6,24,25] ?_
   refine roundsI_of ?_
   refine rounds_drop 5 [0,1,4,5,6,24,25] (by simp) (by simp [boxA, AV.cells, AV.isCell]) (by simp [boxA, AV.cells, AV.isCell]) ?_
   exact rounds_next (m' := n - (i + 1)) (by omega) ⟨i + 1, rfl, by omega, by rw [wrap64 (by omega) (by omega)]; rfl, by simp [fillL_set hi2]⟩
 intro h26
 obtain rfl : n = i := by simp at h26; omega
 rw [show fillL n n = (stI (n : Int) l 0).1 by rw [fillL_n]; simp [stI], show z64 = (stI (n : Int) l 0).2 from hz.symm]
 clear hz
 refine WI_exit ?_
 rintro -
 refine WI_seq ?_
 refine WI_seq ?_
 refine WI_reg rfl ?_ (by decide +kernel)
 iterate 2 refine xO ?_
 refine run_inl0 rfl rfl rfl rfl (by simp; exact .mk) ⟨_, Try.func128, rfl, rfl⟩ (in128 g _ _ _ _ _ n l) (.inl (by simp)) ?_
 refine xE [4,5,6,37] fun _ => ?_
 refine WI_block ?_
 refine WI_rangeFunc [4,5,6] (by simp; exact .mk) ⟨_, Try.func145, rfl, rfl⟩ (by simp; exact .mk) _ (fun fn b lb B S => in145 g n l hp hl ho b lb _ _ rfl ?_ (fun _ => .var 142 [.d (.v (.pointer none))]) (fun _ => .var 4 [.d (vT false)]) (fun i => .row 1 ((stI (n : Int) l i).1.map vI)) (fun i => .var 148 (AV.hdr 2 0 n :: (stI (n : Int) l i).2.map cU)) (fun _ => .var 142 [.ptr 3 0 0]) (okI (n : Int) l) (fun _ => rfl) (fun _ => rfl) (fun _ => rfl) (fun _ => by simp) (fun _ => rfl) rfl (fun i hi B S => ?_) B S) ?_
 · intro p hp2
   have hp3 : p = 38 ∨ p = 39 := by simpa using hp2
   show p < 49
   rcases hp3 with rfl | rfl <;> decide
 · skip
   cases hsp : (spotS (n : Int) (nth l i)).2
   · skip
     have hA : stI (n : Int) l (i + 1) = stI (n : Int) l i := by simp only [stI, layO]; rw [if_neg (by simp [hsp])]
     have hk : okI (n : Int) l i = false := by simp only [okI, layO]; rw [if_neg (by simp [hsp])]
     rw [hA, hk]
     unfold RoundI
     refine WI_weak (Weak.kills [4,5,6,38,39] (L := [(4, .ptr 0 0 0), (5, .ptr 1 0 0), (6, .ptr 4 0 0), (38, .agg [.d (vI (spotS (n : Int) (nth l i)).1.page), .d (vI (spotS (n : Int) (nth l i)).1.count), .d (vT (spotS (n : Int) (nth l i)).1.small), .d (vI (spotS (n : Int) (nth l i)).1.cls), .d (vI (spotS (n : Int) (nth l i)).1.cell)]), (39, .d (vT false))]) rfl) ?_
     refine WI_seq ?_
     refine WI_reg rfl ?_ (by decide +kernel)
     refine xO ?_
     refine xO ?_ (h := by simp [splice]; exact .mk)
     refine xE [4,5,6,8,39] fun _ => ?_
     refine WI_reg rfl ?_ (by decide +kernel)
     refine xO ?_
     refine xE [4,5,6,8,9] ?_
     refine ⟨rfl, rfl, rfl, fun _ => ?_⟩
     refine WI_block ?_
     refine WI_seq ?_
     refine WI_reg rfl ?_ (by decide +kernel)
     iterate 3 refine xO ?_
     iterate 2 refine xI ?_
     iterate 2 (refine run_not (av := .dead) rfl (by simp; exact .mk) rfl ?_)
     refine xP ?_
     refine xE [4,5,47] fun _ => ?_
     refine WI_cond rfl ?_ ?_
     · intro h47
       refine WI_seq ?_
       refine WI_reg rfl ?_ (by decide +kernel)
       iterate 2 (refine xO ?_ (h := by simp [splice]; exact .mk))
       refine xE [4,5] fun _ => ?_
       refine WI_weak (Weak.drop (m := 10) [] (Nat.le_refl _) rfl (by simp)) ?_
       refine WI_ret ?_
       simp only [thenI_ret, inBlkI_ret]
       refine ⟨?_, ?_, ?_⟩ <;> first | trivial | rfl
     intro h47
     simp at h47
   skip
   obtain ⟨p, k, c, e, e1, e2, e3, e4⟩ := spot_ok hsp
   obtain ⟨sm, hsm⟩ : ∃ sm, sm = (spotS (n : Int) (nth l i)).1.small := ⟨_, rfl⟩
   obtain ⟨kd, hkd⟩ : ∃ kd, kd = (spotS (n : Int) (nth l i)).1.cls := ⟨_, rfl⟩
   rw [← hsm, ← hkd] at e
   have hA : stI (n : Int) l (i + 1) = (layS (stI (n : Int) l i).1 (stI (n : Int) l i).2 p k sm kd c).2 := by simp only [stI, layO]; rw [if_pos hsp, e]; rfl
   have hk : okI (n : Int) l i = (layS (stI (n : Int) l i).1 (stI (n : Int) l i).2 p k sm kd c).1 := by simp only [okI, layO]; rw [if_pos hsp, e]; rfl
   rw [hA, hk, e]
   unfold RoundI
   refine WI_weak (Weak.kills [4,5,6,38,39] (L := [(4, .ptr 0 0 0), (5, .ptr 1 0 0), (6, .ptr 4 0 0), (38, .agg [.d (vI p), .d (vI k), .d (vT sm), .d (vI kd), .d (vI c)]), (39, .d (vT true))]) rfl) ?_
   refine WI_seq ?_
   refine WI_reg rfl ?_ (by decide +kernel)
   refine xO ?_
   refine xO ?_ (h := by simp [splice]; exact .mk)
   refine xE [4,5,6,8,39] fun _ => ?_
   refine WI_reg rfl ?_ (by decide +kernel)
   refine xO ?_
   refine xE [4,5,6,8,9] ?_
   refine ⟨rfl, rfl, rfl, fun _ => ?_⟩
   refine WI_block ?_
   refine WI_seq ?_
   refine WI_reg rfl ?_ (by decide +kernel)
   iterate 3 refine xO ?_
   iterate 2 refine xI ?_
   refine run_inlT rfl (by simp; exact .mk) rfl rfl (by simp) (by simp; exact .mk) ⟨_, Try.func129, rfl, rfl⟩ (in129 g _ _ _ _ _ _ _ _ _ (stI (n : Int) l i).1 n (by rw [stI_len.1]; rfl) (stI (n : Int) l i).2 p k sm kd c stI_len.2 (by rw [stI_len.1]; omega) (by rw [stI_len.1]; omega) (by rw [stI_len.1]; omega) e4 (stI_lt p (by omega)) rfl rfl rfl rfl rfl rfl rfl rfl rfl) (.inl (by simp)) ?_
   refine xI ?_
   refine xP ?_
   refine xE [4,5,47] fun _ => ?_
   refine WI_cond rfl ?_ ?_
   · intro h47
     refine WI_seq ?_
     refine WI_reg rfl ?_ (by decide +kernel)
     iterate 2 (refine xO ?_ (h := by simp [splice]; exact .mk))
     refine xE [4,5] fun _ => ?_
     refine WI_weak (Weak.drop (m := 10) [] (Nat.le_refl _) rfl (by simp)) ?_
     refine WI_ret ?_
     have hf : (layS (stI (n : Int) l i).1 (stI (n : Int) l i).2 p k sm kd c).1 = false := by simpa using h47
     simp only [thenI_ret, inBlkI_ret]
     refine ⟨rfl, hf.symm, ?_⟩
     rw [if_neg (by simp [hf])]; rfl
   intro h47
   have hf : (layS (stI (n : Int) l i).1 (stI (n : Int) l i).2 p k sm kd c).1 = true := by simpa using h47
   refine WI_weak (Weak.drop (m := 10) [] (Nat.le_refl _) rfl (by simp)) ?_
   refine WI_skip ?_
   simp only [inBlkI_normal]
   refine ⟨rfl, hf.symm, ?_⟩
   rw [if_pos hf]; rfl
 rintro fn b lb av o ⟨rfl, ⟨hok, rfl⟩ | ⟨i, hi, hok, rfl⟩⟩
 · refine ⟨_, _, rfl, by simp, ?_⟩
   have hr : laidS (n : Int) l = some (stI (n : Int) l l.length) := by simp [laidS, hp]; exact hok
   simp only [pending_none, inBlkI_normal]
   rintro -
   refine WI_seq ?_
   refine WI_reg rfl ?_ (by decide +kernel)
   refine xO ?_
   iterate 2 (refine xO ?_ (h := by simp [splice]; exact .mk))
   refine xE [4,5] fun _ => ?_
   refine WI_ret ?_
   try simp only [thenI_ret, roundsI_ret, inBlkI_ret, thenI_exit, roundsI_exit, inBlkI_exit, if_true]
   refine endInM_ret (fn := Try.f105) (rs := [.ptr 3 0 0, .d (vT true)]) 4 (.cons (r := 7) rfl .nil) ?_ (Nat.zero_le _) ?_ ?_ ?_
   · simp [Try.f105]; exact .mk
   · rfl
   · simp
   rw [hr]; exact ⟨rfl, rfl⟩
 refine ⟨_, _, rfl, by simp, ?_⟩
 have hr : laidS (n : Int) l = none := by simp [laidS]; exact fun _ => ⟨i, hi, hok⟩
 simp only [pending_ret, thenI_ret, inBlkI_ret]
 refine endInM_ret (fn := Try.f105) (rs := [.d (.v (.pointer none)), .d (vT false)]) 0 (.cons (r := 7) rfl .nil) ?_ (Nat.le_refl _) ?_ ?_ ?_
 · simp [Try.f105]; exact .mk
 · rfl
 · rfl
 rw [hr]; exact ⟨rfl, rfl⟩

open Go.Awp
theorem ct140 (g : Gl) (s : Shape) : CtAt Try.prog g 140 [eShape s] (.v (.bool (sizedSh s))) := by
 refine ctAt_of_W Try.func140 rfl rfl (Nat.le_of_ble_eq_true rfl) fun B S => ?_
 simp only [eShape, List.map, argD_agg]
 refine xU ?_
 iterate 2 refine xO ?_
 refine xF [1] ?_
 refine W_seq (W_block ?_)
 refine W_seq (xU ?_)
 iterate 4 refine xO ?_
 refine xF [1,3] ?_
 refine W_cond rfl ?_ ?_
 · intro h3
   refine W_skip ?_
   rintro -
   refine W_cond rfl ?_ ?_
   · intro h3'
     refine xU ?_
     refine xO ?_
     refine xF [2] ?_
     refine W_ret (xR (by simp [Try.f140]; exact .mk) ?_)
     simp [Try.f140, sizedSh] at *; grind
   intro hq
   cases h3.symm.trans hq
 intro h3
 refine xU ?_
 iterate 4 refine xO ?_
 refine xF [1,3] ?_
 refine W_cond rfl ?_ ?_
 · intro h3'
   refine W_skip ?_
   rintro -
   refine W_cond rfl ?_ ?_
   · intro h3''
     refine xU ?_
     refine xO ?_
     refine xF [2] ?_
     refine W_ret (xR (by simp [Try.f140]; exact .mk) ?_)
     simp [Try.f140, sizedSh] at *; grind
   intro hq
   cases h3'.symm.trans hq
 intro h3'
 refine xU ?_
 iterate 4 refine xO ?_
 refine xF [1,3] ?_
 refine W_cond rfl ?_ ?_
 · intro h3''
   refine W_skip ?_
   rintro -
   refine W_cond rfl ?_ ?_
   · intro h3'''
     refine xU ?_
     refine xO ?_
     refine xF [2] ?_
     refine W_ret (xR (by simp [Try.f140]; exact .mk) ?_)
     simp [Try.f140, sizedSh] at *; grind
   intro hq
   cases h3''.symm.trans hq
 intro h3''
 refine W_reg rfl ?_
 iterate 4 refine xO ?_
 refine xF [1,3] ?_
 refine W_cond rfl ?_ ?_
 · intro h3'''
   refine xU ?_
   refine xO ?_
   refine xF [2] ?_
   refine W_ret (xR (by simp [Try.f140]; exact .mk) ?_)
   simp [Try.f140, sizedSh] at *; grind
 intro h3'''
 refine W_seq (xU ?_)
 iterate 4 refine xO ?_
 refine xF [1,16] ?_
 refine W_cond rfl ?_ ?_
 · intro h16
   refine W_skip ?_
   rintro -
   refine W_cond rfl ?_ ?_
   · intro h16'
     refine xU ?_
     refine xO ?_
     refine xF [2] ?_
     refine W_ret (xR (by simp [Try.f140]; exact .mk) ?_)
     simp [Try.f140, sizedSh] at *; grind
   intro hq
   cases h16.symm.trans hq
 intro h16
 refine xU ?_
 iterate 4 refine xO ?_
 refine xF [1,16] ?_
 refine W_cond rfl ?_ ?_
 · intro h16'
   refine W_skip ?_
   rintro -
   refine W_cond rfl ?_ ?_
   · intro h16''
     refine xU ?_
     refine xO ?_
     refine xF [2] ?_
     refine W_ret (xR (by simp [Try.f140]; exact .mk) ?_)
     simp [Try.f140, sizedSh] at *; grind
   intro hq
   cases h16'.symm.trans hq
 intro h16'
 refine W_reg rfl ?_
 iterate 5 refine xO ?_
 refine xF [1,16] ?_
 refine W_cond rfl ?_ ?_
 · intro h16''
   refine xU ?_
   refine xO ?_
   refine xF [2] ?_
   refine W_ret (xR (by simp [Try.f140]; exact .mk) ?_)
   simp [Try.f140, sizedSh] at *; grind
 intro h16''
 refine W_skip ?_
 refine xT ?_
 iterate 4 refine xO ?_
 iterate 3 refine xI ?_
 refine xP ?_
 refine xB ?_
 iterate 4 refine xI ?_
 refine xP ?_
 refine xB ?_
 refine xF [2] ?_
 refine W_ret (xR (by simp [Try.f140]; exact .mk) ?_)
 simp [Try.f140, sizedSh] at *; grind

theorem ct142 (g : Gl) (mark first room n : Int) (h1 : -2^40 ≤ mark ∧ mark ≤ 2^40) (h2 : -2^40 ≤ n ∧ n ≤ 2^40) (h3 : 0 ≤ first ∧ first ≤ 2^40) (h4 : 0 ≤ room ∧ room ≤ 4096) : CtAt Try.prog g 142 [.agg [vI mark, vI first, vI room], vI n] (.v (.bool (walS mark first room n))) := by
 refine ctAt_of_W Try.func142 rfl rfl (Nat.le_of_ble_eq_true rfl) fun B S => ?_
 simp only [List.map, argD_agg, argD_v]
 have e1 : IntKind.i64.wrap (2 * room) = 2 * room := wrap64 (by omega) (by omega)
 have e2 : IntKind.i64.wrap (n - first) = n - first := wrap64 (by omega) (by omega)
 have e3 : IntKind.i64.wrap (mark - first) = mark - first := wrap64 (by omega) (by omega)
 refine xU ?_
 iterate 2 refine xO ?_
 refine xF [1,2] ?_
 refine W_seq (W_block ?_)
 refine W_seq (xU ?_)
 iterate 4 refine xO ?_
 refine xF [1,2,5] ?_
 refine W_cond rfl ?_ ?_
 · intro h5
   refine W_skip ?_
   rintro -
   refine W_cond rfl ?_ ?_
   · intro h5'
     refine xU ?_
     refine xO ?_
     refine xF [4] ?_
     refine W_ret (xR (by simp [Try.f142]; exact .mk) ?_)
     simp [Try.f142, walS] at *; grind
   intro hq
   cases h5.symm.trans hq
 intro h5
 refine xU ?_
 iterate 4 refine xO ?_
 refine xF [1,2,5] ?_
 refine W_cond rfl ?_ ?_
 · intro h5'
   refine W_skip ?_
   rintro -
   refine W_cond rfl ?_ ?_
   · intro h5''
     refine xU ?_
     refine xO ?_
     refine xF [4] ?_
     refine W_ret (xR (by simp [Try.f142]; exact .mk) ?_)
     simp [Try.f142, walS] at *; grind
   intro hq
   cases h5'.symm.trans hq
 intro h5'
 refine xU ?_
 iterate 4 refine xO ?_
 refine xF [1,2,5] ?_
 refine W_cond rfl ?_ ?_
 · intro h5''
   refine W_skip ?_
   rintro -
   refine W_cond rfl ?_ ?_
   · intro h5'''
     refine xU ?_
     refine xO ?_
     refine xF [4] ?_
     refine W_ret (xR (by simp [Try.f142]; exact .mk) ?_)
     simp [Try.f142, walS] at *; grind
   intro hq
   cases h5''.symm.trans hq
 intro h5''
 refine W_reg rfl ?_
 iterate 5 refine xO ?_
 refine xF [1,2,5] ?_
 refine W_cond rfl ?_ ?_
 · intro h5'''
   refine xU ?_
   refine xO ?_
   refine xF [4] ?_
   refine W_ret (xR (by simp [Try.f142]; exact .mk) ?_)
   simp [Try.f142, walS] at *; grind
 intro h5'''
 refine W_seq (xU ?_)
 iterate 2 refine xO ?_
 refine xO ?_ (h := by simp [e1]; exact .mk)
 iterate 3 refine xO ?_
 refine xO ?_ (h := by simp [e2]; exact .mk)
 iterate 2 refine xO ?_
 refine xF [1,2,19] ?_
 refine W_cond rfl ?_ ?_
 · intro h19
   refine W_skip ?_
   rintro -
   refine W_cond rfl ?_ ?_
   · intro h19'
     refine xU ?_
     refine xO ?_
     refine xF [4] ?_
     refine W_ret (xR (by simp [Try.f142]; exact .mk) ?_)
     simp [Try.f142, walS] at *; grind
   intro hq
   cases h19.symm.trans hq
 intro h19
 refine xU ?_
 iterate 4 refine xO ?_
 refine xF [1,2,19] ?_
 refine W_cond rfl ?_ ?_
 · intro h19'
   refine W_skip ?_
   rintro -
   refine W_cond rfl ?_ ?_
   · intro h19''
     refine xU ?_
     refine xO ?_
     refine xF [4] ?_
     refine W_ret (xR (by simp [Try.f142]; exact .mk) ?_)
     simp [Try.f142, walS] at *; grind
   intro hq
   cases h19'.symm.trans hq
 intro h19'
 refine W_reg rfl ?_
 iterate 5 refine xO ?_
 refine xF [2,19] ?_
 refine W_cond rfl ?_ ?_
 · intro h19''
   refine xU ?_
   refine xO ?_
   refine xF [4] ?_
   refine W_ret (xR (by simp [Try.f142]; exact .mk) ?_)
   simp [Try.f142, walS] at *; grind
 intro h19''
 refine W_skip ?_
 refine xT ?_
 iterate 6 refine xO ?_
 iterate 4 refine xI ?_
 refine run_if rfl (by simp; exact .mk) rfl (by simp <;> first | omega | grind) (fun hb => by simp [e3]; exact .mk) ?_
 iterate 2 refine xI ?_
 refine run_if rfl (by simp; exact .mk) rfl (by simp <;> first | omega | grind) (fun hb => by simp [e1]; exact .mk) ?_
 refine xI ?_
 refine xP ?_
 refine xB ?_
 refine xF [4] ?_
 refine W_ret (xR (by simp [Try.f142]; exact .mk) ?_)
 simp [Try.f142, walS] at *; grind

theorem ct111 (g : Gl) (s : Slot) : CtAt Try.prog g 111 [eSlot s] (.v (.bool (slotS1 s))) := by
 refine ctAt_of_W Try.func111 rfl rfl (Nat.le_of_ble_eq_true rfl) fun B S => ?_
 simp only [eSlot, List.map, argD_agg]
 refine xU ?_
 iterate 2 refine xO ?_
 refine xF [1] ?_
 refine W_seq (W_block ?_)
 refine xU ?_
 iterate 4 refine xO ?_
 iterate 3 refine xI ?_
 refine xP ?_
 refine xB ?_
 refine xF [1,3] ?_
 refine W_cond rfl ?_ ?_
 · intro h3
   refine xU ?_
   refine xO ?_
   refine xF [2] ?_
   refine W_ret (xR (by simp [Try.f111]; exact .mk) ?_)
   simp [Try.f111, slotS1] at *; grind
 intro h3
 refine xU ?_
 iterate 4 refine xO ?_
 refine xF [1,12] ?_
 refine W_cond rfl ?_ ?_
 · intro h12
   refine xU ?_
   iterate 3 refine xO ?_
   refine xO ?_ (h := by simp [splice]; exact .mk)
   iterate 2 refine xO ?_
   refine xF [2] ?_
   refine W_ret (xR (by simp [Try.f111]; exact .mk) ?_)
   simp [Try.f111, slotS1] at *; grind
 intro h12
 refine W_skip ?_
 refine xT ?_
 iterate 4 refine xO ?_
 iterate 3 refine xI ?_
 refine xP ?_
 refine xB ?_
 iterate 3 refine xI ?_
 refine xP ?_
 refine xB ?_
 iterate 3 refine xI ?_
 refine xP ?_
 refine xB ?_
 refine xF [2] ?_
 refine W_ret (xR (by simp [Try.f111]; exact .mk) ?_)
 simp [Try.f111, slotS1] at *; grind

theorem ct100 (g : Gl) (l : List Slot) (hl : l.length ≤ 2^40) : CtAt Try.prog g 100 [rSl l] (.v (.bool (tableS l))) := by
 refine ctAt_of_W Try.func100 rfl rfl (Nat.le_of_ble_eq_true rfl) fun B S => ?_
 refine xU ?_
 refine xO ?_
 refine xF [0] ?_
 refine W_seq (xU ?_)
 iterate 3 refine xO ?_
 refine xF [0,7,8,9] ?_
 refine W_block (W_rounds (fun m σ o => ∃ i : Nat, m = l.length - i ∧ i ≤ l.length ∧ (∀ j, j < i → slotS1 (nth l j) = true) ∧ σ = slots [(0, .d (rSl l)), (7, .d (rSl l)), (8, .d (vI l.length)), (9, .d (vI i))] ∧ o = []) l.length .refl ⟨0, by simp, by simp, by simp, rfl, rfl⟩ ?_)
 rintro m σ o ⟨i, rfl, hi, hinv, rfl, rfl⟩ _
 refine xU ?_
 refine xO ?_
 refine xF [0,7,8,9,10] ?_
 refine W_seq (W_cond rfl ?_ ?_)
 · intro h10
   have hi2 : i < l.length := by simpa using h10
   refine W_skip ?_
   rintro -
   refine W_seq (W_block ?_)
   refine xU ?_
   refine xO ?_ (h := by simp [eSlot, *]; exact .mk)
   refine xO ?_ (h := by simp [eSlot]; exact .mk)
   refine xO ?_
   refine xO ?_ (h := by simp [splice]; exact .mk)
   refine xG [0,4,7,8,9] ?_
   refine xO ?_ (h := by simp [eSlot]; exact .mk)
   refine xC (ct111 g (nth l i)) ?_
   refine xO ?_
   refine xF [0,7,8,9,15] ?_
   refine W_cond rfl ?_ ?_
   · intro h15
     have hr : tableS l = false := by unfold tableS; rw [all_bad hi2 (by simpa using h15)]; rfl
     refine xU ?_
     refine xO ?_
     refine xF [2] ?_
     refine W_ret (xR (by simp [Try.f100]; exact .mk) ?_)
     simp [Try.f100, hr]
     try (cases tnewOk l.length <;> rfl)
   intro h15
   refine W_skip ?_
   rintro -
   refine W_reg rfl ?_
   iterate 2 refine xO ?_
   refine xE [0,7,8,9] ?_
   refine rounds_drop 0 [0,7,8,9] (by simp) (by simp [boxA, AV.cells, AV.isCell]) (by simp [boxA, AV.cells, AV.isCell]) ?_
   refine rounds_next (m' := l.length - (i+1)) (by omega) ⟨i+1, rfl, by omega, ?_, ?_, rfl⟩
   · intro j hj
     rcases Nat.lt_succ_iff_lt_or_eq.1 hj with hj | rfl
     · exact hinv j hj
     simpa using h15
   rw [wrap64 (by omega) (by omega)]; rfl
 intro h10
 have hr : tableS l = tnewOk l.length := by unfold tableS; rw [all_good (fun j hj => hinv j (by simp at h10; omega))]; rfl
 refine W_exit (xT ?_)
 iterate 2 refine xO ?_
 refine xC (ct108 g _) ?_
 iterate 5 refine xO ?_
 refine xG [6] ?_
 iterate 3 refine xO ?_
 refine xF [2] ?_
 refine W_ret (xR (by simp [Try.f100]; exact .mk) ?_)
 simp [Try.f100, hr]
 try (cases tnewOk l.length <;> rfl)

open Go.Awp
theorem in154 (g : Gl) (o0 o1 o2 : Awp.Obj) (n k : Int) (h : -2^60 ≤ n + k ∧ n + k ≤ 2^60) : ∀ B S, CallsA Try.prog g B S ⟨4, true⟩ 154 [.d (vI k), .ptr 3 0 0] [o0, o1, o2, .var 3 [.d (vI n)]]
    (fun x r => x = .d (vI n) ∧ r = [o0, o1, o2, .var 3 [.d (vI (n + k))]]) := by
 refine callsA_at Try.func154 rfl (Nat.le_of_ble_eq_true rfl) fun B S => ?_
 have e1 : IntKind.i64.wrap (n + k) = n + k := wrap64 (by omega) (by omega)
 refine xU ?_
 refine xO ?_
 refine xG [0,1] ?_
 iterate 2 refine xO ?_
 refine xG [0,1,4] ?_
 iterate 2 refine xO ?_
 refine xO ?_ (h := by simp [e1]; exact .mk)
 refine xO ?_ (h := by simp [splice]; exact .mk)
 refine xG [4] ?_
 iterate 2 refine xO ?_
 refine xF [3] ?_
 refine W_ret (endAt_ret (by simp [Try.f154]; exact .mk) ?_ ?_)
 · simp
 simp

theorem ct155 (g : Gl) : CtAt Try.prog g 155 [vI 64] (vI 13) := by
 refine ctAt_of_W Try.func155 rfl rfl (Nat.le_of_ble_eq_true rfl) fun B S => ?_
 refine xU ?_
 refine xO ?_
 refine xF [0] ?_
 refine W_seq (xU ?_)
 iterate 2 refine xO ?_
 refine xF [0,5] ?_
 refine W_cond rfl ?_ ?_
 · intro h5
   simp at h5
 intro h5
 refine W_skip ?_
 refine xT ?_
 refine xO ?_
 refine xC (ct159 g 64 (by omega)) ?_
 refine xO ?_
 refine xG [0] ?_
 iterate 2 refine xO ?_
 refine xF [0,3] ?_
 refine W_seq (W_block ?_)
 refine W_rounds (fun m σ o => ((m = 3 ∧ σ = slots [(0, .d (vI 10)), (3, .d (vI 10))]) ∨ (m = 2 ∧ σ = slots [(0, .d (vI 2)), (3, .d (vI 12))]) ∨ (m = 1 ∧ σ = slots [(0, .d (vI 1)), (3, .d (vI 13))])) ∧ o = []) 3 .refl ⟨.inl ⟨rfl, rfl⟩, rfl⟩ ?_
 rintro m σ o ⟨⟨rfl, rfl⟩ | ⟨rfl, rfl⟩ | ⟨rfl, rfl⟩, rfl⟩ _
 · skip
   skip
   refine W_seq (xU ?_)
   iterate 2 refine xO ?_
   refine xF [0,3,10] ?_
   refine W_cond rfl ?_ ?_
   · intro h10
     refine W_skip ?_
     rintro -
     refine W_block (xU ?_)
     refine xO ?_
     refine xC (ct159 g 10 (by omega)) ?_
     refine xO ?_
     refine xF [0,3] ?_
     refine W_reg rfl ?_
     iterate 4 refine xO ?_
     refine xE [0,3] ?_
     refine rounds_kill [0,3] ?_
     exact rounds_next (m' := 2) (by omega) ⟨.inr (.inl ⟨rfl, rfl⟩), rfl⟩
   intro h10
   simp at h10
 · skip
   skip
   refine W_seq (xU ?_)
   iterate 2 refine xO ?_
   refine xF [0,3,10] ?_
   refine W_cond rfl ?_ ?_
   · intro h10
     refine W_skip ?_
     rintro -
     refine W_block (xU ?_)
     refine xO ?_
     refine xC (ct159 g 2 (by omega)) ?_
     refine xO ?_
     refine xF [0,3] ?_
     refine W_reg rfl ?_
     iterate 4 refine xO ?_
     refine xE [0,3] ?_
     refine rounds_kill [0,3] ?_
     exact rounds_next (m' := 1) (by omega) ⟨.inr (.inr ⟨rfl, rfl⟩), rfl⟩
   intro h10
   simp at h10
 skip
 skip
 refine W_seq (xU ?_)
 iterate 2 refine xO ?_
 refine xF [0,3,10] ?_
 refine W_cond rfl ?_ ?_
 · intro h10
   simp at h10
 intro h10
 refine W_exit (xT ?_)
 iterate 2 refine xO ?_
 refine xF [2] ?_
 refine W_ret (xR (by simp [Try.f155]; exact .mk) ?_)
 simp [Try.f155]

theorem ct141 (g : Gl) (s : Shape) (hs : sizedSh s = true) : CtAt Try.prog g 141 [eShape s] (.agg [vI 1, vI 2, vI s.room, vI (headsS s), vI (tableA s), vI (rootsA s), vI (treeA s), vI (heapA s), vI (linesA s)]) := by
 refine ctAt_of_W Try.func141 rfl rfl (Nat.le_of_ble_eq_true rfl) fun B S => ?_
 simp only [eShape, List.map, argD_agg]
 have hb : 1 ≤ s.pages ∧ s.pages ≤ 64 ∧ 1 ≤ s.room ∧ s.room ≤ 4096 ∧ 2 ≤ s.slots ∧ s.slots ≤ 32 ∧ 2 ≤ s.roots ∧ s.roots ≤ 8 := by simp [sizedSh] at hs; omega
 have d1 : 0 ≤ s.slots.tdiv 2 ∧ s.slots.tdiv 2 ≤ 16 := by rw [Int.tdiv_eq_ediv_of_nonneg (by omega)]; omega
 have d2 : 0 ≤ s.roots.tdiv 2 ∧ s.roots.tdiv 2 ≤ 4 := by rw [Int.tdiv_eq_ediv_of_nonneg (by omega)]; omega
 have q1 : headsS s = 2 + s.room * 2 := rfl
 have q2 : tableA s = headsS s + 1 := rfl
 have q3 : rootsA s = tableA s + s.slots.tdiv 2 := rfl
 have q4 : treeA s = rootsA s + s.roots.tdiv 2 := rfl
 have q5 : heapA s = treeA s + 26 := rfl
 have e1 : IntKind.i64.wrap (s.room * 2) = s.room * 2 := wrap64 (by omega) (by omega)
 have e2 : IntKind.i64.wrap (s.slots.tdiv 2) = s.slots.tdiv 2 := wrap64 (by omega) (by omega)
 have e3 : IntKind.i64.wrap (s.roots.tdiv 2) = s.roots.tdiv 2 := wrap64 (by omega) (by omega)
 have e4 : IntKind.i64.wrap (s.pages * 4) = s.pages * 4 := wrap64 (by omega) (by omega)
 have e5 : IntKind.i64.wrap 26 = 26 := rfl
 refine xU ?_
 iterate 2 refine xO ?_
 refine xG [1,2] ?_
 iterate 2 refine xO ?_
 iterate 2 (refine xO ?_ (h := by simp [splice]; exact .mk))
 refine xO ?_
 refine xO ?_ (h := by simp [splice]; exact .mk)
 refine xG [1,2,3] ?_
 refine xO ?_
 refine xO ?_ (h := by simp [splice]; exact .mk)
 refine xG [1,2,3,4] ?_
 iterate 2 refine xO ?_
 refine xG [1,2,3,4,5] ?_
 iterate 3 refine xO ?_
 refine xO ?_ (h := by simp [e1]; exact .mk)
 refine run_inl0 rfl rfl rfl rfl (by simp; exact .mk) ⟨_, Try.func154, rfl, rfl⟩ (in154 g (.var 49 [.d (vI s.pages), .d (vI s.slots), .d (vI s.roots), .d (vI s.room)]) (.var 168 [.d (vI 0), .d (vI 0), .d (vI 0), .d (vI 0), .d (vI 0), .d (vI 0), .d (vI 0), .d (vI 0), .d (vI 0)]) (.var 168 [.d (vI (1)), .d (vI (2)), .d (vI (s.room)), .d (vI (0)), .d (vI (0)), .d (vI (0)), .d (vI (0)), .d (vI (0)), .d (vI (0))]) (2) (s.room * 2) (by omega)) (.inl (by simp)) ?_
 refine xG [1,2,3,4,5] ?_
 refine xO ?_
 refine run_inl0 rfl rfl rfl rfl (by simp; exact .mk) ⟨_, Try.func154, rfl, rfl⟩ (in154 g (.var 49 [.d (vI s.pages), .d (vI s.slots), .d (vI s.roots), .d (vI s.room)]) (.var 168 [.d (vI 0), .d (vI 0), .d (vI 0), .d (vI 0), .d (vI 0), .d (vI 0), .d (vI 0), .d (vI 0), .d (vI 0)]) (.var 168 [.d (vI (1)), .d (vI (2)), .d (vI (s.room)), .d (vI (0)), .d (vI (0)), .d (vI (0)), .d (vI (0)), .d (vI (0)), .d (vI (0))]) (headsS s) (1) (by omega)) (.inl (by simp)) ?_
 refine xO ?_
 refine xO ?_ (h := by simp [splice]; exact .mk)
 refine xG [1,2,3,4,5] ?_
 iterate 3 refine xO ?_
 refine xO ?_ (h := by simp [e2]; exact .mk)
 refine run_inl0 rfl rfl rfl rfl (by simp; exact .mk) ⟨_, Try.func154, rfl, rfl⟩ (in154 g (.var 49 [.d (vI s.pages), .d (vI s.slots), .d (vI s.roots), .d (vI s.room)]) (.var 168 [.d (vI 0), .d (vI 0), .d (vI 0), .d (vI 0), .d (vI 0), .d (vI 0), .d (vI 0), .d (vI 0), .d (vI 0)]) (.var 168 [.d (vI (1)), .d (vI (2)), .d (vI (s.room)), .d (vI (headsS s)), .d (vI (0)), .d (vI (0)), .d (vI (0)), .d (vI (0)), .d (vI (0))]) (tableA s) (s.slots.tdiv 2) (by omega)) (.inl (by simp)) ?_
 refine xO ?_
 refine xO ?_ (h := by simp [splice]; exact .mk)
 refine xG [1,2,3,4,5] ?_
 iterate 3 refine xO ?_
 refine xO ?_ (h := by simp [e3]; exact .mk)
 refine run_inl0 rfl rfl rfl rfl (by simp; exact .mk) ⟨_, Try.func154, rfl, rfl⟩ (in154 g (.var 49 [.d (vI s.pages), .d (vI s.slots), .d (vI s.roots), .d (vI s.room)]) (.var 168 [.d (vI 0), .d (vI 0), .d (vI 0), .d (vI 0), .d (vI 0), .d (vI 0), .d (vI 0), .d (vI 0), .d (vI 0)]) (.var 168 [.d (vI (1)), .d (vI (2)), .d (vI (s.room)), .d (vI (headsS s)), .d (vI (tableA s)), .d (vI (0)), .d (vI (0)), .d (vI (0)), .d (vI (0))]) (rootsA s) (s.roots.tdiv 2) (by omega)) (.inl (by simp)) ?_
 refine xO ?_
 refine xO ?_ (h := by simp [splice]; exact .mk)
 refine xG [1,2,3,4,5] ?_
 refine xO ?_
 refine xC (ct155 g) ?_
 refine xO ?_ (h := by simp [e5]; exact .mk)
 refine run_inl0 rfl rfl rfl rfl (by simp; exact .mk) ⟨_, Try.func154, rfl, rfl⟩ (in154 g (.var 49 [.d (vI s.pages), .d (vI s.slots), .d (vI s.roots), .d (vI s.room)]) (.var 168 [.d (vI 0), .d (vI 0), .d (vI 0), .d (vI 0), .d (vI 0), .d (vI 0), .d (vI 0), .d (vI 0), .d (vI 0)]) (.var 168 [.d (vI (1)), .d (vI (2)), .d (vI (s.room)), .d (vI (headsS s)), .d (vI (tableA s)), .d (vI (rootsA s)), .d (vI (0)), .d (vI (0)), .d (vI (0))]) (treeA s) (26) (by omega)) (.inl (by simp)) ?_
 refine xO ?_
 refine xO ?_ (h := by simp [splice]; exact .mk)
 refine xG [1,2,3,4,5] ?_
 iterate 3 refine xO ?_
 refine xO ?_ (h := by simp [e4]; exact .mk)
 refine run_inl0 rfl rfl rfl rfl (by simp; exact .mk) ⟨_, Try.func154, rfl, rfl⟩ (in154 g (.var 49 [.d (vI s.pages), .d (vI s.slots), .d (vI s.roots), .d (vI s.room)]) (.var 168 [.d (vI 0), .d (vI 0), .d (vI 0), .d (vI 0), .d (vI 0), .d (vI 0), .d (vI 0), .d (vI 0), .d (vI 0)]) (.var 168 [.d (vI (1)), .d (vI (2)), .d (vI (s.room)), .d (vI (headsS s)), .d (vI (tableA s)), .d (vI (rootsA s)), .d (vI (treeA s)), .d (vI (0)), .d (vI (0))]) (heapA s) (s.pages * 4) (by omega)) (.inl (by simp)) ?_
 refine xO ?_
 refine xO ?_ (h := by simp [splice]; exact .mk)
 refine xG [2,3,4] ?_
 iterate 2 refine xO ?_
 refine xO ?_ (h := by simp [splice]; exact .mk)
 refine xG [2,3] ?_
 refine xO ?_
 refine xO ?_ (h := by simp [splice]; exact .mk)
 refine xF [2] ?_
 refine W_ret (xR (by simp [Try.f141]; exact .mk) ?_)
 simp [Try.f141]; rfl

theorem ct124 (g : Gl) (s : Shape) : CtAt Try.prog g 124 [eShape s] (.tup [if shapeS s then .agg [vI 1, vI 2, vI s.room, vI (headsS s), vI (tableA s), vI (rootsA s), vI (treeA s), vI (heapA s), vI (linesA s)] else .agg [vI 0, vI 0, vI 0, vI 0, vI 0, vI 0, vI 0, vI 0, vI 0], vI (if shapeS s then 0 else 1)]) := by
 refine ctAt_of_W Try.func124 rfl rfl (Nat.le_of_ble_eq_true rfl) fun B S => ?_
 simp only [eShape, List.map, argD_agg]
 refine xU ?_
 iterate 3 refine xO ?_
 refine xF [1,2] ?_
 refine W_seq (xU ?_)
 refine xO ?_
 refine xC (ct140 g s) ?_
 refine xO ?_
 refine xF [1,2,7] ?_
 refine W_cond rfl ?_ ?_
 · intro h7
   have hz : sizedSh s = false := by simpa using h7
   have hr : shapeS s = false := by simp [shapeS, hz]
   refine xU ?_
   iterate 2 (refine xO ?_ (h := by simp [splice]; exact .mk))
   refine xO ?_
   refine xF [2,3] ?_
   refine W_ret (end_ret (by simp [Try.f124]; exact .mk) (by simp; exact .mk) ?_ (by simp [hr]))
   simp [Try.f124, hr]
 intro h7
 have hz : sizedSh s = true := by simpa using h7
 have hb : 1 ≤ s.pages ∧ s.pages ≤ 64 ∧ 1 ≤ s.room ∧ s.room ≤ 4096 ∧ 2 ≤ s.slots ∧ s.slots ≤ 32 ∧ 2 ≤ s.roots ∧ s.roots ≤ 8 := by simp [sizedSh] at hz; omega
 have d1 : 0 ≤ s.slots.tdiv 2 ∧ s.slots.tdiv 2 ≤ 16 := by rw [Int.tdiv_eq_ediv_of_nonneg (by omega)]; omega
 have d2 : 0 ≤ s.roots.tdiv 2 ∧ s.roots.tdiv 2 ≤ 4 := by rw [Int.tdiv_eq_ediv_of_nonneg (by omega)]; omega
 have hL : linesA s = 2 + s.room * 2 + 1 + s.slots.tdiv 2 + s.roots.tdiv 2 + 26 + s.pages * 4 := rfl
 have hw : walS 1 2 s.room (linesA s) = true := by simp [walS]; omega
 refine W_skip ?_
 refine xT ?_
 refine xO ?_
 refine xC (ct141 g s hz) ?_
 refine xO ?_
 refine xO ?_ (h := by simp [splice]; exact .mk)
 refine xF [2,4] ?_
 refine W_seq (xU ?_)
 iterate 4 refine xO ?_
 iterate 4 refine xI ?_
 refine run_call rfl (by simp; exact .mk) rfl rfl (by simp) (by simp; exact .mk) (by simp; exact .mk) (fun hb => ct142 g 1 2 s.room (linesA s) (by omega) (by omega) (by omega) (by omega)) (by simp) (by simp; exact .mk) (by simp) ?_
 refine xI ?_
 refine xP ?_
 refine xF [2,4,21] ?_
 refine W_cond rfl ?_ ?_
 · intro h21
   have hr : shapeS s = false := by simp [hw] at h21; simp [shapeS, hz]; omega
   refine xU ?_
   iterate 2 (refine xO ?_ (h := by simp [splice]; exact .mk))
   refine xO ?_
   refine xF [2,3] ?_
   refine W_ret (end_ret (by simp [Try.f124]; exact .mk) (by simp; exact .mk) ?_ (by simp [hr]))
   simp [Try.f124, hr]
 intro h21
 have hr : shapeS s = true := by simp [hw] at h21; simp [shapeS, hz]; omega
 refine W_skip ?_
 refine xT ?_
 refine xO ?_
 refine xO ?_ (h := by simp [splice]; exact .mk)
 refine xO ?_
 refine xF [2,3] ?_
 refine W_ret (end_ret (by simp [Try.f124]; exact .mk) (by simp; exact .mk) ?_ (by simp [hr]))
 simp [Try.f124, hr]

theorem ct99 (g : Gl) (s : Shape) : CtAt Try.prog g 99 [eShape s] (.v (.bool (shapeS s))) := by
 refine ctAt_of_W Try.func99 rfl rfl (Nat.le_of_ble_eq_true rfl) fun B S => ?_
 simp only [eShape, List.map, argD_agg]
 have hc := ct124 g s
 refine xU ?_
 iterate 2 refine xO ?_
 refine xF [1] ?_
 refine W_seq ?_
 cases hr : shapeS s
 · skip
   simp only [hr, Bool.false_eq_true, if_false, if_true] at hc
   refine W_reg rfl ?_
   refine xO ?_
   refine xC (hc) ?_
   iterate 4 refine xO ?_
   refine xO ?_ (h := by simp [splice]; exact .mk)
   refine xO ?_
   refine xG [3,4] ?_
   iterate 3 refine xO ?_
   refine xI ?_
   refine run_if rfl (by simp; exact .mk) rfl (by simp <;> first | omega | grind) (fun hb => by simp [splice]; exact .mk) ?_
   refine xI ?_
   refine xP ?_
   refine xB ?_
   refine xF [2] ?_
   refine W_ret (xR (by simp [Try.f99]; exact .mk) ?_)
   simp [Try.f99, hr]
 skip
 simp only [hr, Bool.false_eq_true, if_false, if_true] at hc
 refine W_reg rfl ?_
 refine xO ?_
 refine xC (hc) ?_
 iterate 4 refine xO ?_
 refine xO ?_ (h := by simp [splice]; exact .mk)
 refine xO ?_
 refine xG [3,4] ?_
 iterate 3 refine xO ?_
 refine xI ?_
 refine run_if rfl (by simp; exact .mk) rfl (by simp <;> first | omega | grind) (fun hb => by simp [splice]; exact .mk) ?_
 refine xI ?_
 refine xP ?_
 refine xB ?_
 refine xF [2] ?_
 refine W_ret (xR (by simp [Try.f99]; exact .mk) ?_)
 simp [Try.f99, hr]

theorem ct59 (g : Gl) (s : Shape) (mode base : Int) : CtAt Try.prog g 59 [eShape s, vI mode, vI base] (.v (.bool (superS s mode base))) := by
 refine ctAt_of_W Try.func59 rfl rfl (Nat.le_of_ble_eq_true rfl) fun B S => ?_
 simp only [eShape, List.map, argD_agg, argD_v]
 refine xU ?_
 iterate 2 refine xO ?_
 refine xF [1,2,3] ?_
 refine W_seq (xU ?_)
 refine xO ?_
 refine xC (ct99 g s) ?_
 iterate 2 refine xO ?_
 iterate 2 refine xI ?_
 refine xP ?_
 refine xB ?_
 iterate 4 refine xI ?_
 refine xP ?_
 refine xF [1,2,3,19] ?_
 refine W_cond rfl ?_ ?_
 · intro h19
   refine xU ?_
   refine xO ?_
   refine xF [6] ?_
   refine W_ret (xR (by simp [Try.f59]; exact .mk) ?_)
   simp [Try.f59, superS] at *; grind
 intro h19
 refine W_skip ?_
 rintro -
 refine W_seq (xU ?_)
 refine xO ?_
 refine xF [1,2,3,20] ?_
 refine W_block (xU ?_)
 iterate 2 refine xO ?_
 refine xF [1,2,3,20,21] ?_
 refine W_cond rfl ?_ ?_
 · intro h21
   refine xU ?_
   iterate 3 refine xO ?_
   refine xF [6] ?_
   refine W_ret (xR (by simp [Try.f59]; exact .mk) ?_)
   simp [Try.f59, superS] at *; grind
 intro h21
 refine xU ?_
 iterate 2 refine xO ?_
 refine xF [1,2,3,25] ?_
 refine W_cond rfl ?_ ?_
 · intro h25
   refine xU ?_
   iterate 5 refine xO ?_
   refine xF [6] ?_
   refine W_ret (xR (by simp [Try.f59]; exact .mk) ?_)
   simp [Try.f59, superS] at *; grind
 intro h25
 refine W_skip ?_
 refine xT ?_
 iterate 3 refine xO ?_
 iterate 2 refine xI ?_
 refine xP ?_
 refine xB ?_
 refine xF [6] ?_
 refine W_ret (xR (by simp [Try.f59]; exact .mk) ?_)
 simp [Try.f59, superS] at *; grind

open Go.Awp
theorem ct119 (g : Gl) (c : Int) : CtAt Try.prog g 119 [.v (.int .i32 c)] (.v (.bool (mayS c))) := by
 refine ctAt_of_W Try.func119 rfl rfl (Nat.le_of_ble_eq_true rfl) fun B S => ?_
 refine xU ?_
 refine xO ?_
 refine xF [0] ?_
 refine W_seq (W_block ?_)
 refine W_seq (xU ?_)
 iterate 3 refine xO ?_
 refine xF [0,3] ?_
 refine W_cond rfl ?_ ?_
 · intro h3
   refine W_skip ?_
   rintro -
   refine W_cond rfl ?_ ?_
   · intro h3'
     refine xU ?_
     refine xO ?_
     refine xF [2] ?_
     refine W_ret (xR (by simp [Try.f119]; exact .mk) ?_)
     simp [mayS] at * <;> omega
   intro h3'
   refine W_skip ?_
   refine xT ?_
   refine xO ?_
   refine xF [2] ?_
   refine W_ret (xR (by simp [Try.f119]; exact .mk) ?_)
   simp [mayS] at * <;> omega
 intro h3
 refine xU ?_
 iterate 3 refine xO ?_
 iterate 2 (refine run_if rfl (by simp; exact .mk) rfl (by simp <;> omega) (fun hb => by simp; exact .mk) ?_)
 refine xP ?_
 refine run_op1 rfl rfl rfl (by simp <;> omega) (by simp; exact .mk) ?_
 refine run_end [0,3] (by simp <;> omega) (by simp; exact .mk) ?_
 rintro -
 refine W_cond rfl ?_ ?_
 · intro h3'
   refine W_skip ?_
   rintro -
   refine W_cond rfl ?_ ?_
   · intro h3''
     refine xU ?_
     refine xO ?_
     refine xF [2] ?_
     refine W_ret (xR (by simp [Try.f119]; exact .mk) ?_)
     simp [mayS] at * <;> omega
   intro h3''
   refine W_skip ?_
   refine xT ?_
   refine xO ?_
   refine xF [2] ?_
   refine W_ret (xR (by simp [Try.f119]; exact .mk) ?_)
   simp [mayS] at * <;> omega
 intro h3'
 refine W_reg rfl ?_
 iterate 3 refine xO ?_
 refine xF [3] ?_
 refine W_cond rfl ?_ ?_
 · intro h3''
   refine xU ?_
   refine xO ?_
   refine xF [2] ?_
   refine W_ret (xR (by simp [Try.f119]; exact .mk) ?_)
   simp [mayS] at * <;> omega
 intro h3''
 refine W_skip ?_
 refine xT ?_
 refine xO ?_
 refine xF [2] ?_
 refine W_ret (xR (by simp [Try.f119]; exact .mk) ?_)
 simp [mayS] at * <;> omega

theorem ct94 (g : Gl) (a b : Int) : CtAt Try.prog g 94 [.agg [vI a, vI b]] (.v (.bool (handleS a b))) := by
 refine ctAt_of_W Try.func94 rfl rfl (Nat.le_of_ble_eq_true rfl) fun B S => ?_
 refine xU ?_
 iterate 2 refine xO ?_
 refine xG [1] ?_
 iterate 4 refine xO ?_
 iterate 3 (refine run_if rfl (by simp; exact .mk) rfl (by simp <;> omega) (fun hb => by simp; exact .mk) ?_)
 refine xP ?_
 refine run_op1 rfl rfl rfl (by simp <;> omega) (by simp; exact .mk) ?_
 iterate 3 (refine run_if rfl (by simp; exact .mk) rfl (by simp <;> omega) (fun hb => by simp; exact .mk) ?_)
 refine xP ?_
 refine run_op1 rfl rfl rfl (by simp <;> omega) (by simp; exact .mk) ?_
 iterate 3 (refine run_if rfl (by simp; exact .mk) rfl (by simp <;> omega) (fun hb => by simp; exact .mk) ?_)
 refine xP ?_
 refine run_op1 rfl rfl rfl (by simp <;> omega) (by simp; exact .mk) ?_
 refine run_end [2] (by simp <;> omega) (by simp; exact .mk) ?_
 rintro -
 refine W_ret (xR (by simp [Try.f94]; exact .mk) ?_)
 simp [handleS]

theorem ct83 (g : Gl) (s : ByteArray) (hs : s.size ≤ 2^40) : CtAt Try.prog g 83 [vS s] (.v (.bool (nameS s))) := by
 refine ctAt_of_W Try.func83 rfl rfl (Nat.le_of_ble_eq_true rfl) fun B S => ?_
 refine xU ?_
 refine xO ?_
 refine xF [0] ?_
 refine W_seq (xU ?_)
 iterate 2 refine xO ?_
 refine xF [0,6] ?_
 refine W_block (W_rounds (fun m σ o => ∃ pos : Nat, m = s.size + 1 - pos ∧ runesOk s pos = runesOk s 0 ∧ σ = slots [(0, .d (vS s)), (6, .ptr 0 0 0)] ∧ o = [.it s pos]) (s.size + 1) .refl ⟨0, by simp, rfl, rfl, rfl⟩ ?_)
 rintro m σ o ⟨pos, rfl, hinv, rfl, rfl⟩ _
 refine W_seq ?_
 by_cases hp : pos < s.size
 · skip
   refine W_reg rfl ?_
   refine xO ?_ (h := by simp [hp]; exact .mk)
   refine xO ?_
   refine xF [0,6,7,8] ?_
   refine W_seq (W_cond rfl ?_ ?_)
   · intro h8
     refine W_skip ?_
     rintro -
     refine W_block (xU ?_)
     iterate 2 refine xO ?_
     refine xG [0,4,6] ?_
     refine xO ?_
     refine xC (ct119 g _) ?_
     refine xO ?_
     refine xF [0,6,12] ?_
     refine W_cond rfl ?_ ?_
     · intro h12
       have hr : runesOk s 0 = false := by rw [← hinv, runesOk]; simp at h12; simp [hp, h12]
       refine xU ?_
       refine xO ?_
       refine xF [2] ?_
       refine W_ret (xR (by simp [Try.f83]; exact .mk) ?_)
       simp [nameS, hr]
     intro h12
     refine W_skip ?_
     refine rounds_kill [0,6] ?_
     refine rounds_next (m' := s.size + 1 - (pos + (Utf8.decode s pos).2)) (by have := decode_pos s pos; omega) ⟨pos + (Utf8.decode s pos).2, rfl, ?_, rfl, rfl⟩
     rw [← hinv]; conv => rhs; rw [runesOk]
     simp at h12; simp [hp, h12]
   intro h8
   simp at h8
 skip
 refine W_reg rfl ?_
 refine xO ?_ (h := by simp [hp]; exact .mk)
 refine xO ?_
 refine xF [0,6,7,8] ?_
 refine W_seq (W_cond rfl ?_ ?_)
 · intro h8
   simp at h8
 intro h8
 refine W_exit ?_
 rintro -
 refine W_seq ?_
 have hr : runesOk s 0 = true := by rw [← hinv, runesOk]; simp [hp]
 refine W_reg rfl ?_
 iterate 3 refine xO ?_
 iterate 3 (refine run_if rfl (by simp; exact .mk) rfl (by simp <;> omega) (fun hb => by simp; exact .mk) ?_)
 refine xP ?_
 refine run_op1 rfl rfl rfl (by simp <;> omega) (by simp; exact .mk) ?_
 refine run_end [2] (by simp <;> omega) (by simp; exact .mk) ?_
 rintro -
 refine W_ret (xR (by simp [Try.f83]; exact .mk) ?_)
 simp [nameS, hr]

open Go.Awp
theorem in123 (g : Gl) (nm : ByteArray) (r : Root) (a b c : D) : ∀ B S, CallsA Try.prog g B S ⟨2, true⟩ 123 [.agg [.d (vS r.name), .d (vI r.ix), .d (vI r.gen)], .ptr 0 0 0] [.var 9 [.d (vS nm)], .var 76 [.d a, .d b, .d c]]
    (fun q o => q = .d (.v (.bool (r.name.toList == nm.toList))) ∧ o = [.var 9 [.d (vS nm)], .var 76 [.d a, .d b, .d c]]) := by
 refine callsA_at Try.func123 rfl (Nat.le_of_ble_eq_true rfl) fun B S => ?_
 refine xU ?_
 iterate 2 refine xO ?_
 refine xG [1,2] ?_
 iterate 5 refine xO ?_
 refine xF [3] ?_
 refine W_ret (endAt_drop 2 (by simp [Try.f123]; exact .mk) ?_ ?_ (by simp) (by simp) (by simp))
 · rfl
 rfl

theorem in122 (g : Gl) (l : List Root) (nm : ByteArray) (hl : l.length ≤ 2^40) : ∀ B S, CallsA Try.prog g B S ⟨1, true⟩ 122 [.d (rR l), .fn (.func 123) [] [.ptr 0 0 0]] [.var 9 [.d (vS nm)]]
    (fun a o => a = .d (vI (firstS l nm)) ∧ o = [.var 9 [.d (vS nm)]]) := by
 refine callsA_at Try.func122 rfl (Nat.le_of_ble_eq_true rfl) fun B S => ?_
 refine xU ?_
 refine xO ?_
 refine xF [0,1] ?_
 refine W_seq (xU ?_)
 iterate 3 refine xO ?_
 refine xF [1,7,8,9] ?_
 refine W_block (W_rounds (fun m σ o => ∃ i : Nat, m = l.length - i ∧ i ≤ l.length ∧ (∀ j, j < i → ((nth l j).name.toList == nm.toList) = false) ∧ σ = slots [(1, .fn (.func 123) [] [.ptr 0 0 0]), (7, .d (rR l)), (8, .d (vI l.length)), (9, .d (vI i))] ∧ o = [.var 9 [.d (vS nm)]]) l.length .refl ⟨0, by simp, by simp, by simp, rfl, rfl⟩ ?_)
 rintro m σ o ⟨i, rfl, hi, hinv, rfl, rfl⟩ _
 refine xU ?_
 refine xO ?_
 refine xF [1,7,8,9,10] ?_
 refine W_seq (W_cond rfl ?_ ?_)
 · intro h10
   have hi2 : i < l.length := by simpa using h10
   refine W_skip ?_
   rintro -
   refine W_seq (W_block ?_)
   refine xU ?_
   refine xO ?_
   refine xO ?_ (h := by simp [eRoot, *]; exact .mk)
   refine xO ?_ (h := by simp [eRoot]; exact .mk)
   iterate 2 refine xO ?_
   refine xO ?_ (h := by simp [splice]; exact .mk)
   refine xG [1,5,6,7,8,9] ?_
   refine xO ?_
   refine xO ?_ (h := by simp [eRoot]; exact .mk)
   refine run_inl0 rfl rfl rfl rfl (by simp; exact .mk) ⟨_, Try.func123, rfl, rfl⟩ (in123 g nm (nth l i) _ _ _) (.inr ⟨[], rfl⟩) ?_
   refine xF [1,5,7,8,9,16] ?_
   refine W_cond rfl ?_ ?_
   · intro h16
     have hr : firstS l nm = i := firstS_at hi2 hinv h16
     refine xU ?_
     iterate 2 refine xO ?_
     refine xF [4] ?_
     refine W_ret (endAt_drop 1 (by simp [Try.f122]; exact .mk) ?_ ?_ (by simp) (by simp) (by simp))
     · rw [hr]; rfl
     rfl
   intro h16
   refine W_skip ?_
   rintro -
   refine W_reg rfl ?_
   iterate 2 refine xO ?_
   refine xE [1,7,8,9] ?_
   refine rounds_drop 1 [1,7,8,9] (by simp) (by simp) (by simp) ?_
   refine rounds_next (m' := l.length - (i+1)) (by omega) ⟨i+1, rfl, by omega, ?_, ?_, rfl⟩
   · intro j hj
     rcases Nat.lt_succ_iff_lt_or_eq.1 hj with hj | rfl
     · exact hinv j hj
     exact h16
   rw [wrap64 (by omega) (by omega)]; rfl
 intro h10
 have hr : firstS l nm = -1 := firstS_none (fun j hj => hinv j (by simp at h10; omega))
 refine W_exit (xT ?_)
 refine xO ?_
 refine xF [4] ?_
 refine W_ret (endAt_drop 1 (by simp [Try.f122]; exact .mk) ?_ ?_ (by simp) (by simp) (by simp))
 · rw [hr]; rfl
 rfl

theorem ct95 (g : Gl) (l : List Root) (nm : ByteArray) (hl : l.length ≤ 2^40) : CtAt Try.prog g 95 [rR l, vS nm] (vI (firstS l nm)) := by
 refine ctAt_of_W Try.func95 rfl rfl (Nat.le_of_ble_eq_true rfl) fun B S => ?_
 refine xU ?_
 iterate 2 refine xO ?_
 refine xG [0,3] ?_
 iterate 2 refine xO ?_
 refine run_inl0 rfl rfl rfl rfl (by simp; exact .mk) ⟨_, Try.func122, rfl, rfl⟩ (in122 g l nm hl) (.inr ⟨[], rfl⟩) ?_
 refine xO ?_
 refine xF [4] ?_
 refine W_ret (xR (by simp [Try.f95]; exact .mk) ?_)
 simp [nrmR, nrmK]

theorem ct96 (g : Gl) (n : Int) : CtAt Try.prog g 96 [vI n] (.tup [oR (if newOk n then List.replicate n.toNat zRoot else []), vI (if newOk n then 0 else 1)]) := by
 refine ctAt_of_W Try.func96 rfl rfl (Nat.le_of_ble_eq_true rfl) fun B S => ?_
 refine xU ?_
 iterate 2 refine xO ?_
 refine xF [0] ?_
 refine W_seq (xU ?_)
 iterate 3 refine xO ?_
 iterate 2 (refine run_if rfl (by simp; exact .mk) rfl (by simp <;> omega) (fun hb => by simp; exact .mk) ?_)
 refine xP ?_
 refine run_op1 rfl rfl rfl (by simp <;> omega) (by simp; exact .mk) ?_
 iterate 3 (refine run_if rfl (by simp; exact .mk) rfl (by simp <;> omega) (fun hb => by simp; exact .mk) ?_)
 refine xP ?_
 refine run_end [0,14] (by simp <;> omega) (by simp; exact .mk) ?_
 rintro -
 refine W_cond rfl ?_ ?_
 · intro h14
   have hr : newOk n = false := by simp at h14; simp [newOk]; omega
   refine xU ?_
   iterate 2 refine xO ?_
   refine xF [2,3] ?_
   refine W_ret (xR (by simp [Try.f96]; exact .mk) ?_)
   simp [Try.f96, hr, ownR, eRoot, zRoot]
 intro h14
 have hr : newOk n = true := by simp at h14; simp [newOk]; omega
 have hn : 2 ≤ n ∧ n ≤ 8 := by simp at h14; omega
 refine W_skip ?_
 rintro -
 refine W_seq ?_
 have e1 : 0 ≤ n := by omega
 have e2 : 32 * n ≤ 140737488355328 := by omega
 have e3 : n ≤ 140737488355328 := by omega
 refine W_reg rfl ?_
 refine xO ?_
 refine xO ?_ (h := by simp [e1, e2, e3]; exact .mk)
 iterate 2 refine xO ?_
 refine xF [2,3] ?_
 refine W_ret (xR (by simp [Try.f96]; exact .mk) ?_)
 simp [Try.f96, hr, ownR, eRoot, zRoot]

open Go.Awp
theorem ct54 (g : Gl) (l : List Root) (hl : l.length ≤ 2^40) (hn : ∀ i, i < l.length → (nth l i).name.size ≤ 2^40) : CtAt Try.prog g 54 [rR l] (.v (.bool (rootsS l))) := by
 refine ctAt_of_W Try.func54 rfl rfl (Nat.le_of_ble_eq_true rfl) fun B S => ?_
 refine xU ?_
 refine xO ?_
 refine xF [0] ?_
 refine W_seq (xU ?_)
 iterate 3 refine xO ?_
 refine xF [0,7,8,9] ?_
 refine W_block (W_rounds (fun m σ o => ∃ i : Nat, m = l.length - i ∧ i ≤ l.length ∧ (∀ j, j < i → rootOk l j = true) ∧ σ = slots [(0, .d (rR l)), (7, .d (rR l)), (8, .d (vI l.length)), (9, .d (vI i))] ∧ o = []) l.length .refl ⟨0, by simp, by simp, by simp, rfl, rfl⟩ ?_)
 rintro m σ o ⟨i, rfl, hi, hinv, rfl, rfl⟩ _
 refine xU ?_
 refine xO ?_
 refine xF [0,7,8,9,10] ?_
 refine W_seq (W_cond rfl ?_ ?_)
 · intro h10
   have hi2 : i < l.length := by simpa using h10
   refine W_skip ?_
   rintro -
   refine W_seq (W_block ?_)
   refine xU ?_
   refine xO ?_
   refine xO ?_ (h := by simp [eRoot, *]; exact .mk)
   refine xO ?_ (h := by simp [eRoot]; exact .mk)
   iterate 2 refine xO ?_
   refine xO ?_ (h := by simp [splice]; exact .mk)
   refine xF [0,3,4,7,8,9] ?_
   refine W_block (xU ?_)
   refine xO ?_ (h := by simp [eRoot]; exact .mk)
   refine xO ?_ (h := by simp [splice]; exact .mk)
   iterate 2 refine xO ?_
   refine xF [0,3,4,7,8,9,14] ?_
   refine W_cond rfl ?_ ?_
   · intro h14
     refine W_skip ?_
     rintro -
     refine W_reg rfl ?_
     iterate 2 refine xO ?_
     refine xE [0,7,8,9] ?_
     refine rounds_drop 0 [0,7,8,9] (by simp) (by simp) (by simp) ?_
     refine rounds_next (m' := l.length - (i+1)) (by omega) ⟨i+1, rfl, by omega, ?_, ?_, rfl⟩
     · intro j hj
       rcases Nat.lt_succ_iff_lt_or_eq.1 hj with hj | rfl
       · exact hinv j hj
       simp [rootOk, isZero] at *; simp_all
     rw [wrap64 (by omega) (by omega)]; rfl
   intro h14
   refine W_seq (xU ?_)
   refine xO ?_
   refine xO ?_ (h := by simp [eRoot]; exact .mk)
   refine xC (ct83 g _ (hn i hi2)) ?_
   iterate 2 refine xO ?_
   refine xF [0,3,4,7,8,9,18] ?_
   refine W_cond rfl ?_ ?_
   · intro h18
     refine W_skip ?_
     rintro -
     refine W_cond rfl ?_ ?_
     · intro h18'
       refine W_seq ?_
       have hr : rootsS l = false := roots_bad hi2 (by simp [rootOk, isZero] at *; simp_all)
       refine W_reg rfl ?_
       refine xO ?_
       refine xF [2] ?_
       refine W_ret (xR (by simp [Try.f54]; exact .mk) ?_)
       simp [Try.f54, hr]
       try (cases newOk l.length <;> rfl)
     intro h18'
     refine W_skip ?_
     rintro -
     refine W_reg rfl ?_
     iterate 2 refine xO ?_
     refine xE [0,7,8,9] ?_
     refine rounds_drop 0 [0,7,8,9] (by simp) (by simp) (by simp) ?_
     refine rounds_next (m' := l.length - (i+1)) (by omega) ⟨i+1, rfl, by omega, ?_, ?_, rfl⟩
     · intro j hj
       rcases Nat.lt_succ_iff_lt_or_eq.1 hj with hj | rfl
       · exact hinv j hj
       simp [rootOk, isZero] at *; simp_all
     rw [wrap64 (by omega) (by omega)]; rfl
   intro h18
   refine xU ?_
   refine xO ?_
   refine xO ?_ (h := by simp [eRoot]; exact .mk)
   refine xC (ct94 g _ _) ?_
   iterate 2 refine xO ?_
   refine xF [0,3,4,7,8,9,18] ?_
   refine W_cond rfl ?_ ?_
   · intro h18'
     refine W_skip ?_
     rintro -
     refine W_cond rfl ?_ ?_
     · intro h18''
       refine W_seq ?_
       have hr : rootsS l = false := roots_bad hi2 (by simp [rootOk, isZero] at *; simp_all)
       refine W_reg rfl ?_
       refine xO ?_
       refine xF [2] ?_
       refine W_ret (xR (by simp [Try.f54]; exact .mk) ?_)
       simp [Try.f54, hr]
       try (cases newOk l.length <;> rfl)
     intro h18''
     refine W_skip ?_
     rintro -
     refine W_reg rfl ?_
     iterate 2 refine xO ?_
     refine xE [0,7,8,9] ?_
     refine rounds_drop 0 [0,7,8,9] (by simp) (by simp) (by simp) ?_
     refine rounds_next (m' := l.length - (i+1)) (by omega) ⟨i+1, rfl, by omega, ?_, ?_, rfl⟩
     · intro j hj
       rcases Nat.lt_succ_iff_lt_or_eq.1 hj with hj | rfl
       · exact hinv j hj
       simp [rootOk, isZero] at *; simp_all
     rw [wrap64 (by omega) (by omega)]; rfl
   intro h18'
   refine W_regD (by kernel_rfl) [] 4 [0,1,2,3,4,5,6,7] (by decide +kernel) ?_
   iterate 2 refine xO ?_
   refine xO ?_ (h := by simp [optA, *]; exact .mk)
   refine xO ?_
   refine xO ?_ (h := by simp [eRoot]; exact .mk)
   refine run_call0 rfl rfl rfl rfl (by simp; exact .mk) (by simp; exact .mk) (by have := ct95 g (l.take i) (nth l i).name (by simp; omega); exact this) (by simp) (by simp; exact .mk) ?_
   iterate 2 refine xO ?_
   refine xF [0,7,8,9,18] ?_
   refine W_cond rfl ?_ ?_
   · intro h18''
     refine W_seq ?_
     have hr : rootsS l = false := roots_bad hi2 (by simp [rootOk, isZero] at *; simp_all)
     refine W_reg rfl ?_
     refine xO ?_
     refine xF [2] ?_
     refine W_ret (xR (by simp [Try.f54]; exact .mk) ?_)
     simp [Try.f54, hr]
     try (cases newOk l.length <;> rfl)
   intro h18''
   refine W_skip ?_
   rintro -
   refine W_reg rfl ?_
   iterate 2 refine xO ?_
   refine xE [0,7,8,9] ?_
   refine rounds_drop 0 [0,7,8,9] (by simp) (by simp) (by simp) ?_
   refine rounds_next (m' := l.length - (i+1)) (by omega) ⟨i+1, rfl, by omega, ?_, ?_, rfl⟩
   · intro j hj
     rcases Nat.lt_succ_iff_lt_or_eq.1 hj with hj | rfl
     · exact hinv j hj
     simp [rootOk, isZero] at *; simp_all
   rw [wrap64 (by omega) (by omega)]; rfl
 intro h10
 refine W_exit ?_
 rintro -
 refine W_seq ?_
 have hr : rootsS l = newOk l.length := roots_good (fun j hj => hinv j (by simp at h10; omega))
 refine W_reg rfl ?_
 iterate 2 refine xO ?_
 refine xC (ct96 g _) ?_
 iterate 5 refine xO ?_
 refine xG [6] ?_
 iterate 3 refine xO ?_
 refine xF [2] ?_
 refine W_ret (xR (by simp [Try.f54]; exact .mk) ?_)
 simp [Try.f54, hr]
 try (cases newOk l.length <;> rfl)

open Go.Awp
theorem ct62 (g : Gl) (s : Stt) (hs : s.Ok) : CtAt Try.prog g 62 [eStt s] (.tup [oO (twosO s.slots), oI (twosI s.slots)]) := by
 refine ctAt_of_W Try.func62 rfl rfl (Nat.le_of_ble_eq_true rfl) fun B S => ?_
 simp only [eStt, List.map, argD_agg]
 have q0 := hs.h1
 refine xU ?_
 iterate 3 refine xO ?_
 refine xG [1] ?_
 refine xO ?_
 refine xG [1,4] ?_
 refine xO ?_
 refine xF [1,4,5] ?_
 refine W_seq (xU ?_)
 refine xO ?_
 refine xO ?_ (h := by simp [eSlot]; exact .mk)
 iterate 2 refine xO ?_
 refine xF [4,5,9,10,11] ?_
 refine W_block ?_
 refine W_rounds (fun m σ o => ∃ i : Nat, m = s.slots.length - i ∧ i ≤ s.slots.length ∧ σ = slots [(4, .hdr 1 0 (twoIx s.slots i).length), (5, .hdr 2 0 (twoIx s.slots i).length), (9, .d (rSl s.slots)), (10, .d (vI s.slots.length)), (11, .d (vI i))] ∧ o = [.var 52 [.d (vI s.sh.pages), .d (vI s.sh.slots), .d (vI s.sh.roots), .d (vI s.sh.room), .d (vI s.mode), .d (vI s.base), .d (rSl s.slots), .d (rR s.roots), .d (rBB s.data)], .row 2 ((twoIx s.slots i).map fun j => eObj (objAt s.slots j)), .row 1 ((twoIx s.slots i).map fun (j : Nat) => vI j)]) s.slots.length
  (Weak.trans (Weak.nilRow 4 2 rfl) (Weak.trans (Weak.nilRow 5 1 rfl) (Weak.kills [4,5,9,10,11] rfl) (fun _ _ _ h1 h2 => by rw [← h1.len]; exact h2)) (fun _ _ _ h1 h2 => by rw [← h1.len]; exact h2)) ⟨0, by simp, by simp, by simp [twoIx], by simp [twoIx]⟩ ?_
 rintro m σ o ⟨i, rfl, hi, rfl, rfl⟩ _
 have hle := twoIx_len (l := s.slots) (i := i)
 refine xU ?_
 refine xO ?_
 refine xF [4,5,9,10,11,12] ?_
 refine W_seq (W_cond rfl ?_ ?_)
 · intro h12
   have hi2 : i < s.slots.length := by simpa using h12
   refine W_skip ?_
   rintro -
   refine W_seq (W_block ?_)
   refine xU ?_
   refine xO ?_
   refine xO ?_ (h := by simp [eSlot, *]; exact .mk)
   refine xO ?_ (h := by simp [eSlot]; exact .mk)
   iterate 2 refine xO ?_
   refine xO ?_ (h := by simp [splice]; exact .mk)
   refine xG [4,5,6,7,9,10,11] ?_
   refine xO ?_
   refine xO ?_ (h := by simp [eSlot]; exact .mk)
   refine xO ?_
   refine xI ?_
   refine run_if rfl (by simp; exact .mk) rfl (by simp <;> first | omega | grind) (fun hb => by simp [eSlot]; exact .mk) ?_
   refine xP ?_
   refine xF [4,5,6,7,9,10,11,21] ?_
   refine W_cond rfl ?_ ?_
   · intro h21
     have h2 : isTwo (nth s.slots i) = true := h21
     have e1 : ((twoIx s.slots i).length + 1) * 16 ≤ 140737488355328 := by omega
     have e2 : (twoIx s.slots i).length ≤ 140737488355327 := by omega
     have e3 : ((twoIx s.slots i).length + 1) * 8 ≤ 140737488355328 := by omega
     refine W_reg rfl ?_
     iterate 2 refine xO ?_
     refine xO ?_ (h := by simp [eSlot]; exact .mk)
     refine xO ?_
     refine xO ?_ (h := by simp [eSlot]; exact .mk)
     refine xO ?_ (h := by simp [splice]; exact .mk)
     refine xO ?_
     refine xO ?_ (h := by simp [rows, e1, e2]; exact .mk)
     iterate 3 refine xO ?_
     refine xO ?_ (h := by simp [rows, e3, e2]; exact .mk)
     iterate 2 refine xO ?_
     refine xF [4,5,9,10,11] ?_
     refine W_reg rfl ?_
     iterate 2 refine xO ?_
     refine xE [4,5,9,10,11] ?_
     refine rounds_kill [4,5,9,10,11] ?_
     first
     | (refine rounds_drop 3 [4,5,9,10,11] (by decide) (by rfl) (by rfl) ?_
        refine rounds_next (m' := s.slots.length - (i+1)) (by omega) ⟨i+1, rfl, by omega, ?_, ?_⟩
        · rw [wrap64 (by omega) (by omega), twoIx_f h2]; rfl
        rw [twoIx_f h2]; rfl)
     | (refine rounds_kills [4,5,9,10,11] rfl ?_
        refine rounds_swap 1 5 1 (by decide) (by simp) (by decide) rfl rfl ?_
        refine rounds_swap 2 7 1 (by decide) (by simp) (by decide) rfl rfl ?_
        refine rounds_drop 3 [4,5,9,10,11] (by decide) (by rfl) (by rfl) ?_
        refine rounds_next (m' := s.slots.length - (i+1)) (by omega) ⟨i+1, rfl, by omega, ?_, ?_⟩
        · rw [wrap64 (by omega) (by omega), twoIx_t h2]; simp; try rfl
        rw [twoIx_t h2]; simp [eObj, objAt]; try rfl)
   intro h21
   have h2 : isTwo (nth s.slots i) = false := h21
   refine W_skip ?_
   rintro -
   refine W_reg rfl ?_
   iterate 2 refine xO ?_
   refine xE [4,5,9,10,11] ?_
   refine rounds_kill [4,5,9,10,11] ?_
   first
   | (refine rounds_drop 3 [4,5,9,10,11] (by decide) (by rfl) (by rfl) ?_
      refine rounds_next (m' := s.slots.length - (i+1)) (by omega) ⟨i+1, rfl, by omega, ?_, ?_⟩
      · rw [wrap64 (by omega) (by omega), twoIx_f h2]; rfl
      rw [twoIx_f h2]; rfl)
   | (refine rounds_kills [4,5,9,10,11] rfl ?_
      refine rounds_swap 1 5 1 (by decide) (by simp) (by decide) rfl rfl ?_
      refine rounds_swap 2 7 1 (by decide) (by simp) (by decide) rfl rfl ?_
      refine rounds_drop 3 [4,5,9,10,11] (by decide) (by rfl) (by rfl) ?_
      refine rounds_next (m' := s.slots.length - (i+1)) (by omega) ⟨i+1, rfl, by omega, ?_, ?_⟩
      · rw [wrap64 (by omega) (by omega), twoIx_t h2]; simp; try rfl
      rw [twoIx_t h2]; simp [eObj, objAt]; try rfl)
 intro h12
 obtain rfl : i = s.slots.length := by simp at h12; omega
 refine W_exit (xT ?_)
 iterate 4 refine xO ?_
 refine xF [2,3] ?_
 refine W_ret (xR (by simp [Try.f62]; exact .mk) ?_)
 simp [Try.f62, ownR, twosO, twosI]; try rfl

theorem ct60 (g : Gl) (s : Stt) (hs : s.Ok) : CtAt Try.prog g 60 [eStt s] (.v (.bool (rowsS s))) := by
 refine ctAt_of_W Try.func60 rfl rfl (Nat.le_of_ble_eq_true rfl) fun B S => ?_
 simp only [eStt, List.map, argD_agg]
 have q0 := hs.h1
 refine xU ?_
 iterate 2 refine xO ?_
 refine xF [1] ?_
 refine W_seq (W_block ?_)
 refine W_seq (xU ?_)
 iterate 8 refine xO ?_
 refine xF [1,4] ?_
 refine W_cond rfl ?_ ?_
 · intro h4
   refine W_skip ?_
   rintro -
   refine W_cond rfl ?_ ?_
   · intro h4'
     refine xU ?_
     refine xO ?_
     refine xF [2] ?_
     refine W_ret (xR (by simp [Try.f60]; exact .mk) ?_)
     first | (simp [Try.f60, hr]; done) | (simp [Try.f60, show rowsS s = false from by (simp [rowsS] at *; grind)])
   intro hq
   cases h4.symm.trans hq
 intro h4
 refine xU ?_
 iterate 8 refine xO ?_
 refine xF [1,4] ?_
 refine W_cond rfl ?_ ?_
 · intro h4'
   refine W_skip ?_
   rintro -
   refine W_cond rfl ?_ ?_
   · intro h4''
     refine xU ?_
     refine xO ?_
     refine xF [2] ?_
     refine W_ret (xR (by simp [Try.f60]; exact .mk) ?_)
     first | (simp [Try.f60, hr]; done) | (simp [Try.f60, show rowsS s = false from by (simp [rowsS] at *; grind)])
   intro hq
   cases h4'.symm.trans hq
 intro h4'
 refine W_reg rfl ?_
 iterate 8 refine xO ?_
 refine xF [1,4] ?_
 refine W_cond rfl ?_ ?_
 · intro h4''
   refine xU ?_
   refine xO ?_
   refine xF [2] ?_
   refine W_ret (xR (by simp [Try.f60]; exact .mk) ?_)
   first | (simp [Try.f60, hr]; done) | (simp [Try.f60, show rowsS s = false from by (simp [rowsS] at *; grind)])
 intro h4''
 refine W_seq (xU ?_)
 iterate 2 refine xO ?_
 refine xC (ct100 g s.slots hs.h1) ?_
 iterate 2 refine xO ?_
 refine xF [1,26] ?_
 refine W_cond rfl ?_ ?_
 · intro h26
   refine W_skip ?_
   rintro -
   refine W_cond rfl ?_ ?_
   · intro h26'
     refine xU ?_
     refine xO ?_
     refine xF [2] ?_
     refine W_ret (xR (by simp [Try.f60]; exact .mk) ?_)
     first | (simp [Try.f60, hr]; done) | (simp [Try.f60, show rowsS s = false from by (simp [rowsS] at *; grind)])
   intro hq
   cases h26.symm.trans hq
 intro h26
 refine W_reg rfl ?_
 iterate 2 refine xO ?_
 refine xC (ct54 g s.roots hs.h2 hs.h5) ?_
 iterate 2 refine xO ?_
 refine xF [1,26] ?_
 refine W_cond rfl ?_ ?_
 · intro h26'
   refine xU ?_
   refine xO ?_
   refine xF [2] ?_
   refine W_ret (xR (by simp [Try.f60]; exact .mk) ?_)
   first | (simp [Try.f60, hr]; done) | (simp [Try.f60, show rowsS s = false from by (simp [rowsS] at *; grind)])
 intro h26'
 refine W_skip ?_
 rintro -
 refine W_seq (W_seq ?_)
 have hh : (s.slots.length : Int) = s.sh.slots ∧ (s.roots.length : Int) = s.sh.roots ∧ s.data.length = s.slots.length ∧ tableS s.slots = true ∧ rootsS s.roots = true := by simp at *; grind
 have hr0 : rowsS s = (List.range s.slots.length).all (lenOk s) := by simp [rowsS, hh]
 obtain ⟨_, _, hdl, _, _⟩ := hh
 refine W_reg rfl ?_
 iterate 4 refine xO ?_
 refine xF [1,37,38] ?_
 refine W_block (W_rounds (fun m σ o => ∃ i : Nat, m = s.slots.length - i ∧ i ≤ s.slots.length ∧ (∀ j, j < i → lenOk s j = true) ∧ σ = slots [(1, .ptr 0 0 0), (37, .d (vI s.slots.length)), (38, .d (vI i))] ∧ o = [.var 52 [.d (vI s.sh.pages), .d (vI s.sh.slots), .d (vI s.sh.roots), .d (vI s.sh.room), .d (vI s.mode), .d (vI s.base), .d (rSl s.slots), .d (rR s.roots), .d (rBB s.data)]]) s.slots.length .refl ⟨0, by simp, by simp, by simp, rfl, rfl⟩ ?_)
 rintro m σ o ⟨i, rfl, hi, hinv, rfl, rfl⟩ _
 refine xU ?_
 refine xO ?_
 refine xF [1,37,38,39] ?_
 refine W_seq (W_cond rfl ?_ ?_)
 · intro h39
   have hi2 : i < s.slots.length := by simpa using h39
   have hi3 : i < s.data.length := by omega
   refine W_skip ?_
   rintro -
   refine W_seq (W_block ?_)
   refine xU ?_
   iterate 2 refine xO ?_
   refine xF [1,3,37,38] ?_
   refine W_seq ?_
   refine W_regD (by kernel_rfl) [] 4 [0,1,2,3,4,5,6,7,8,9,10,11,12] (by decide +kernel) ?_
   iterate 3 refine xO ?_
   refine xO ?_ (h := by simp [hi3]; exact .mk)
   iterate 5 refine xO ?_
   refine xO ?_ (h := by simp [hi2]; exact .mk)
   iterate 3 refine xO ?_
   refine xF [1,37,38,53] ?_
   refine W_cond rfl ?_ ?_
   · intro h53
     have hr : rowsS s = false := by rw [hr0]; exact all_bad hi2 (by simp [lenOk] at *; simpa [eSlot] using h53)
     refine xU ?_
     refine xO ?_
     refine xF [2] ?_
     refine W_ret (xR (by simp [Try.f60]; exact .mk) ?_)
     first | (simp [Try.f60, hr]; done) | (simp [Try.f60, show rowsS s = false from by (simp [rowsS] at *; grind)])
   intro h53
   refine W_skip ?_
   rintro -
   refine W_reg rfl ?_
   iterate 2 refine xO ?_
   refine xE [1,37,38] ?_
   refine rounds_kill [1,37,38] ?_
   refine rounds_next (m' := s.slots.length - (i+1)) (by omega) ⟨i+1, rfl, by omega, ?_, ?_, rfl⟩
   · intro j hj
     rcases Nat.lt_succ_iff_lt_or_eq.1 hj with hj | rfl
     · exact hinv j hj
     simp [lenOk] at *; simpa [eSlot] using h53
   rw [wrap64 (by omega) (by omega)]; rfl
 intro h39
 have hr : rowsS s = true := by rw [hr0]; exact all_good (fun j hj => hinv j (by simp at h39; omega))
 refine W_exit (xT ?_)
 refine xO ?_
 refine xF [2] ?_
 refine W_ret (xR (by simp [Try.f60]; exact .mk) ?_)
 first | (simp [Try.f60, hr]; done) | (simp [Try.f60, show rowsS s = false from by (simp [rowsS] at *; grind)])

theorem ct107 (g : Gl) (a b : Int) : CtAt Try.prog g 107 [vI a, vI b] (.tup []) := by
 refine ctAt_of_W Try.func107 rfl rfl (Nat.le_of_ble_eq_true rfl) fun B S => ?_
 refine W_skip ?_
 refine end_normal (by simp [Try.f107]; exact .mk) (by simp; exact .mk) ?_ (by simp)
 simp [Try.f107]

open Go.Awp
theorem in106 (g : Gl) (fr to : Int) (l : List (Int × Int)) (hl : l.length ≤ 2^40) : ∀ B S, CallsA Try.prog g B S ⟨0, true⟩ 106 [.d (vI fr), .d (vI to), .d (rO l), .fn (.func 107) [] []] []
    (fun x r => x = .d (.v (.bool (gapsS fr to l))) ∧ r = []) := by
 refine callsA_at Try.func106 rfl (Nat.le_of_ble_eq_true rfl) fun B S => ?_
 refine xU ?_
 refine xO ?_
 refine xF [0,1,2,3] ?_
 refine W_seq (xU ?_)
 iterate 3 refine xO ?_
 iterate 3 refine xI ?_
 refine xP ?_
 refine xB ?_
 iterate 2 refine xI ?_
 refine xP ?_
 refine xB ?_
 refine xI ?_
 refine run_call rfl (by simp; exact .mk) rfl rfl (by simp) (by simp; exact .mk) (by simp; exact .mk) (fun hb => ct130 g fr) (by simp) (by simp; exact .mk) (by simp) ?_
 refine xI ?_
 refine xP ?_
 refine xB ?_
 refine xI ?_
 refine run_call rfl (by simp; exact .mk) rfl rfl (by simp) (by simp; exact .mk) (by simp; exact .mk) (fun hb => ct130 g to) (by simp) (by simp; exact .mk) (by simp) ?_
 refine xI ?_
 refine xP ?_
 refine xF [0,1,2,3,32] ?_
 refine W_cond rfl ?_ ?_
 · intro h32
   have hr : gapsS fr to l = false := by
    have : gapsHead fr to = false := by simp [gapsHead] at *; grind
    simp [gapsS, this]
   refine xU ?_
   refine xO ?_
   refine xF [8] ?_
   refine W_ret (endAt_drop 0 (by simp [Try.f106]; exact .mk) ?_ ?_ (by simp) (by simp) (by simp))
   · simp [hr]
   rfl
 intro h32
 have hH : 0 ≤ fr ∧ fr ≤ to ∧ to ≤ 2048 ∧ fr.tmod 4 = 0 ∧ to.tmod 4 = 0 := by simp at h32; omega
 have hr0 : gapsS fr to l = gapsOk to fr l := by simp [gapsS, gapsHead, hH]
 refine W_skip ?_
 refine xT ?_
 iterate 2 refine xO ?_
 refine xF [1,2,3,9] ?_
 refine W_seq (xU ?_)
 iterate 3 refine xO ?_
 refine xF [1,3,9,34,35,36] ?_
 refine W_block (W_rounds (fun m σ o => ∃ (i : Nat) (a : Int), m = l.length - i ∧ i ≤ l.length ∧ 0 ≤ a ∧ a ≤ to ∧ gapsOk to a (l.drop i) = gapsOk to fr l ∧ σ = slots [(1, .d (vI to)), (3, .fn (.func 107) [] []), (9, .d (vI a)), (34, .d (rO l)), (35, .d (vI l.length)), (36, .d (vI i))] ∧ o = []) l.length .refl ⟨0, fr, by simp, by simp, by omega, by omega, by simp, rfl, rfl⟩ ?_)
 rintro m σ o ⟨i, a, rfl, hi, ha0, ha1, hinv, rfl, rfl⟩ _
 refine xU ?_
 refine xO ?_
 refine xF [1,3,9,34,35,36,37] ?_
 refine W_seq (W_cond rfl ?_ ?_)
 · intro h37
   have hi2 : i < l.length := by simpa using h37
   rw [gapsOk_drop hi2] at hinv
   refine W_skip ?_
   rintro -
   refine W_seq (W_block ?_)
   refine xU ?_
   refine xO ?_ (h := by simp [eObj, *]; exact .mk)
   refine xO ?_ (h := by simp [eObj]; exact .mk)
   refine xO ?_
   refine xO ?_ (h := by simp [splice]; exact .mk)
   refine xF [1,3,9,11,34,35,36] ?_
   refine W_seq (W_block ?_)
   refine W_seq (xU ?_)
   refine xO ?_
   refine xO ?_ (h := by simp [eObj]; exact .mk)
   iterate 3 refine xO ?_
   refine xF [1,3,9,11,34,35,36,40] ?_
   refine W_cond rfl ?_ ?_
   · intro h40
     refine W_skip ?_
     rintro -
     refine W_cond rfl ?_ ?_
     · intro h40'
       refine W_seq ?_
       have hb : gapBad to a (nth l i) = true := by simp [gapBad, eObj] at *; grind
       have hr : gapsS fr to l = false := by rw [hr0, ← hinv, hb]; rfl
       refine W_reg rfl ?_
       refine xO ?_
       refine xF [8] ?_
       refine W_ret (endAt_drop 0 (by simp [Try.f106]; exact .mk) ?_ ?_ (by simp) (by simp) (by simp))
       · simp [hr]
       rfl
     intro hq
     cases h40.symm.trans hq
   intro h40
   refine xU ?_
   refine xO ?_
   refine xO ?_ (h := by simp [eObj]; exact .mk)
   iterate 3 refine xO ?_
   refine xF [1,3,9,11,34,35,36,40] ?_
   refine W_cond rfl ?_ ?_
   · intro h40'
     refine W_skip ?_
     rintro -
     refine W_cond rfl ?_ ?_
     · intro h40''
       refine W_seq ?_
       have hb : gapBad to a (nth l i) = true := by simp [gapBad, eObj] at *; grind
       have hr : gapsS fr to l = false := by rw [hr0, ← hinv, hb]; rfl
       refine W_reg rfl ?_
       refine xO ?_
       refine xF [8] ?_
       refine W_ret (endAt_drop 0 (by simp [Try.f106]; exact .mk) ?_ ?_ (by simp) (by simp) (by simp))
       · simp [hr]
       rfl
     intro hq
     cases h40'.symm.trans hq
   intro h40'
   refine xU ?_
   refine xO ?_
   refine xO ?_ (h := by simp [eObj]; exact .mk)
   iterate 2 refine xO ?_
   refine xF [1,3,9,11,34,35,36,40] ?_
   refine W_cond rfl ?_ ?_
   · intro h40''
     refine W_skip ?_
     rintro -
     refine W_cond rfl ?_ ?_
     · intro h40'''
       refine W_seq ?_
       have hb : gapBad to a (nth l i) = true := by simp [gapBad, eObj] at *; grind
       have hr : gapsS fr to l = false := by rw [hr0, ← hinv, hb]; rfl
       refine W_reg rfl ?_
       refine xO ?_
       refine xF [8] ?_
       refine W_ret (endAt_drop 0 (by simp [Try.f106]; exact .mk) ?_ ?_ (by simp) (by simp) (by simp))
       · simp [hr]
       rfl
     intro hq
     cases h40''.symm.trans hq
   intro h40''
   refine W_seq ?_
   have w1 : IntKind.i64.wrap (to - (nth l i).1) = to - (nth l i).1 := wrap64 (by simp [eObj] at *; omega) (by simp [eObj] at *; omega)
   refine W_reg rfl ?_
   refine xO ?_
   refine xO ?_ (h := by simp [eObj]; exact .mk)
   iterate 2 refine xO ?_
   refine xO ?_ (h := by simp [eObj]; exact .mk)
   refine xO ?_ (h := by simp [w1]; exact .mk)
   iterate 2 refine xO ?_
   refine xF [1,3,9,11,34,35,36,40] ?_
   refine W_cond rfl ?_ ?_
   · intro h40'''
     refine W_skip ?_
     rintro -
     refine W_cond rfl ?_ ?_
     · intro h40''''
       refine W_seq ?_
       have hb : gapBad to a (nth l i) = true := by simp [gapBad, eObj] at *; grind
       have hr : gapsS fr to l = false := by rw [hr0, ← hinv, hb]; rfl
       refine W_reg rfl ?_
       refine xO ?_
       refine xF [8] ?_
       refine W_ret (endAt_drop 0 (by simp [Try.f106]; exact .mk) ?_ ?_ (by simp) (by simp) (by simp))
       · simp [hr]
       rfl
     intro hq
     cases h40'''.symm.trans hq
   intro h40'''
   refine xU ?_
   refine xO ?_
   refine xO ?_ (h := by simp [eObj]; exact .mk)
   refine xC (ct130 g _) ?_
   iterate 2 refine xO ?_
   refine xF [1,3,9,11,34,35,36,40] ?_
   refine W_cond rfl ?_ ?_
   · intro h40''''
     refine W_skip ?_
     rintro -
     refine W_cond rfl ?_ ?_
     · intro h40'''''
       refine W_seq ?_
       have hb : gapBad to a (nth l i) = true := by simp [gapBad, eObj] at *; grind
       have hr : gapsS fr to l = false := by rw [hr0, ← hinv, hb]; rfl
       refine W_reg rfl ?_
       refine xO ?_
       refine xF [8] ?_
       refine W_ret (endAt_drop 0 (by simp [Try.f106]; exact .mk) ?_ ?_ (by simp) (by simp) (by simp))
       · simp [hr]
       rfl
     intro hq
     cases h40''''.symm.trans hq
   intro h40''''
   refine W_reg rfl ?_
   refine xO ?_
   refine xO ?_ (h := by simp [eObj]; exact .mk)
   refine xC (ct130 g _) ?_
   iterate 2 refine xO ?_
   refine xF [1,3,9,11,34,35,36,40] ?_
   refine W_cond rfl ?_ ?_
   · intro h40'''''
     refine W_seq ?_
     have hb : gapBad to a (nth l i) = true := by simp [gapBad, eObj] at *; grind
     have hr : gapsS fr to l = false := by rw [hr0, ← hinv, hb]; rfl
     refine W_reg rfl ?_
     refine xO ?_
     refine xF [8] ?_
     refine W_ret (endAt_drop 0 (by simp [Try.f106]; exact .mk) ?_ ?_ (by simp) (by simp) (by simp))
     · simp [hr]
     rfl
   intro h40'''''
   refine W_skip ?_
   rintro -
   refine W_seq ?_
   have hb : gapBad to a (nth l i) = false := by simp [gapBad, eObj] at *; grind
   have hb2 : a ≤ (nth l i).1 ∧ (nth l i).1 ≤ to ∧ 4 ≤ (nth l i).2 ∧ (nth l i).2 ≤ to - (nth l i).1 := by simp [gapBad] at hb; omega
   have w2 : IntKind.i64.wrap ((nth l i).1 + (nth l i).2) = (nth l i).1 + (nth l i).2 := wrap64 (by omega) (by omega)
   rw [hb] at hinv
   refine W_reg rfl ?_
   iterate 3 refine xO ?_
   refine xO ?_ (h := by simp [eObj]; exact .mk)
   refine xC (ct107 g _ _) ?_
   refine xF [1,3,11,34,35,36] ?_
   refine W_reg rfl ?_
   refine xO ?_
   refine xO ?_ (h := by simp [eObj]; exact .mk)
   refine xO ?_
   refine xO ?_ (h := by simp [eObj]; exact .mk)
   refine xO ?_ (h := by simp [w2]; exact .mk)
   refine xO ?_
   refine xF [1,3,9,34,35,36] ?_
   refine W_reg rfl ?_
   iterate 2 refine xO ?_
   refine xE [1,3,9,34,35,36] ?_
   refine rounds_drop 0 [1,3,9,34,35,36] (by simp) (by simp) (by simp) ?_
   refine rounds_next (m' := l.length - (i+1)) (by omega) ⟨i+1, (nth l i).1 + (nth l i).2, rfl, by omega, by omega, by omega, by simpa using hinv, ?_, rfl⟩
   rw [wrap64 (by omega) (by omega)]; rfl
 intro h37
 obtain rfl : i = l.length := by simp at h37; omega
 have hr : gapsS fr to l = true := by rw [hr0, ← hinv]; simp [gapsOk]
 refine W_exit (xT ?_)
 iterate 3 refine xO ?_
 refine xC (ct107 g _ _) ?_
 refine xG [] ?_
 refine xO ?_
 refine xF [8] ?_
 refine W_ret (endAt_drop 0 (by simp [Try.f106]; exact .mk) ?_ ?_ (by simp) (by simp) (by simp))
 · simp [hr]
 rfl

theorem ct64 (g : Gl) (fr to : Int) (l : List (Int × Int)) (hl : l.length ≤ 2^40) : CtAt Try.prog g 64 [vI fr, vI to, rO l] (.v (.bool (gapsS fr to l))) := by
 refine ctAt_of_W Try.func64 rfl rfl (Nat.le_of_ble_eq_true rfl) fun B S => ?_
 refine xU ?_
 refine xO ?_
 refine xG [0,1,2] ?_
 iterate 3 refine xO ?_
 refine run_inl0 rfl rfl rfl rfl (by simp; exact .mk) ⟨_, Try.func106, rfl, rfl⟩ (in106 g fr to l hl) (.inr ⟨[], rfl⟩) ?_
 refine xO ?_
 refine xF [6] ?_
 refine W_ret (xR (by simp [Try.f64]; exact .mk) ?_)
 simp [Try.f64]

open Go.Awp
theorem tableS_slot {l : List Slot} (h : tableS l = true) : ∀ i, i < l.length → slotS1 (nth l i) = true := by
 simp only [tableS, Bool.and_eq_true, List.all_eq_true, List.mem_range] at h
 exact h.1
theorem tableS_len {l : List Slot} (h : tableS l = true) : l.length ≤ 32 := by
 simp only [tableS, Bool.and_eq_true, tnewOk, decide_eq_true_eq] at h
 omega
theorem slotS1_live {s : Slot} (h : slotS1 s = true) (hl : s.live = true) : 0 ≤ s.at_ ∧ s.at_ ≤ 2048 ∧ 1 ≤ s.len ∧ s.len ≤ 2048 := by
 unfold slotS1 at h
 split at h
 · cases h
 · rw [if_neg (by simp [hl])] at h
   simpa using h
theorem twoIx_mem {l : List Slot} {n j : Nat} (h : j ∈ twoIx l n) : j < n ∧ isTwo (nth l j) = true := by
 simp only [twoIx, List.mem_filter, List.mem_range] at h
 exact h
theorem oneIx_mem {l : List Slot} {n j : Nat} (h : j ∈ oneIx l n) : j < n ∧ isOne (nth l j) = true := by
 simp only [oneIx, List.mem_filter, List.mem_range] at h
 exact h
theorem nth_map {α β : Type} [Inhabited α] [Inhabited β] {f : α → β} {l : List α} {i : Nat} (h : i < l.length) : nth (l.map f) i = f (nth l i) := by
 rw [nth_eq (by simpa using h), List.getElem_map, nth_eq h]
theorem nth_mem {α : Type} [Inhabited α] {l : List α} {i : Nat} (h : i < l.length) : nth l i ∈ l := by
 rw [nth_eq h]; exact List.getElem_mem h
theorem twosO_le {l : List Slot} (h : tableS l = true) : ∀ i, i < (twosO l).length → (nth (twosO l) i).1 ≤ 2^40 := by
 intro i hi
 have hi2 : i < (twoIx l l.length).length := by simpa [twosO] using hi
 rw [twosO, nth_map hi2]
 obtain ⟨h1, h2⟩ := twoIx_mem (nth_mem hi2)
 have h3 := slotS1_live (tableS_slot h _ h1) (by simp [isTwo] at h2; exact h2.1)
 simp only [objAt]; omega
theorem twosO_len {l : List Slot} : (twosO l).length ≤ l.length := by simpa [twosO] using twoIx_len
def spanOf (b : Blk) : Int × Int := (b.at_, b.len)
def spansS (l : List Slot) : List (Int × Int) := (onesS l).map spanOf
def modeOk (s : Stt) : Bool := if s.mode = 1 then decide ((twosO s.slots).length = 0) else if s.mode = 2 then decide ((spansS s.slots).length = 0) else true
def sttS (s : Stt) : Bool := superS s.sh s.mode s.base && (rowsS s && ((laidS s.base (twosO s.slots)).isSome && (gapsS (s.base * 32) (s.sh.pages * 32) (spansS s.slots) && modeOk s)))
theorem take_succ {α : Type} [Inhabited α] {l : List α} {i : Nat} (h : i < l.length) : l.take (i + 1) = l.take i ++ [nth l i] := by
 rw [List.take_succ_eq_append_getElem h, nth_eq h]
theorem superS_b {sh : Shape} {mode base : Int} (h : superS sh mode base = true) : 0 ≤ base ∧ base ≤ sh.pages ∧ 1 ≤ sh.pages ∧ sh.pages ≤ 64 := by
 simp only [superS, shapeS, sizedSh, Bool.and_eq_true, decide_eq_true_eq] at h
 omega
theorem rowsS_t {s : Stt} (h : rowsS s = true) : tableS s.slots = true := by
 simp only [rowsS, Bool.and_eq_true] at h; exact h.2.1
open Go.Awp
theorem ct63 (g : Gl) (pages : Int) (l : List (Int × Int)) (hl : l.length ≤ 2^40) (ho : ∀ i, i < l.length → (nth l i).1 ≤ 2^40) : CtAt Try.prog g 63 [vI pages, rO l] (.tup [oI (match laidS pages l with | some y => y.1 | none => []), vT (laidS pages l).isSome]) := by
 refine ctAt_of_W Try.func63 rfl rfl (Nat.le_of_ble_eq_true rfl) fun B S => ?_
 have hc := in105 g pages l hl ho
 refine xU ?_
 iterate 2 refine xO ?_
 refine xF [0,1] ?_
 refine W_seq ?_
 cases hr : laidS pages l
 · skip
   simp only [hr] at hc
   refine W_reg rfl ?_
   iterate 2 refine xO ?_
   refine run_inl0 rfl rfl rfl rfl (by simp; exact .mk) ⟨_, Try.func105, rfl, rfl⟩ hc (.inl (by simp)) ?_
   iterate 5 refine xO ?_
   refine xF [6,7] ?_
   refine W_seq (xU ?_)
   iterate 2 refine xO ?_
   refine xF [6,15] ?_
   refine W_cond rfl ?_ ?_
   · intro h15
     refine xU ?_
     iterate 2 refine xO ?_
     refine xF [4,5] ?_
     refine W_ret (xR (by simp [Try.f63]; exact .mk) ?_)
     simp [Try.f63, ownR]; try rfl
   intro h15
   simp at h15
 skip
 rename_i y
 simp only [hr] at hc
 have hy : y.1.length = pages.toNat := by
  simp only [laidS] at hr
  split at hr
  · cases hr; exact stI_len.1
  cases hr
 rw [← hy] at hc
 refine W_reg rfl ?_
 iterate 2 refine xO ?_
 refine run_inl0 rfl rfl rfl rfl (by simp; exact .mk) ⟨_, Try.func105, rfl, rfl⟩ hc (.inl (by simp)) ?_
 iterate 5 refine xO ?_
 refine xF [6,7] ?_
 refine W_seq (xU ?_)
 iterate 2 refine xO ?_
 refine xF [6,15] ?_
 refine W_cond rfl ?_ ?_
 · intro h15
   simp at h15
 intro h15
 refine W_skip ?_
 refine xT ?_
 iterate 6 refine xO ?_
 refine xF [4,5] ?_
 refine W_ret (xR (by simp [Try.f63]; exact .mk) ?_)
 simp [Try.f63, ownR]; try rfl

theorem ct28 (g : Gl) (s : Stt) (hs : s.Ok) : CtAt Try.prog g 28 [eStt s] (.v (.bool (sttS s))) := by
 refine ctAt_of_W Try.func28 rfl rfl (Nat.le_of_ble_eq_true rfl) fun B S => ?_
 simp only [eStt, List.map, argD_agg]
 have q0 := hs.h1
 refine xU ?_
 iterate 2 refine xO ?_
 refine xF [1] ?_
 refine W_seq (xU ?_)
 refine xO ?_
 refine xO ?_ (h := by simp [eBlk]; exact .mk)
 refine xO ?_
 refine xO ?_ (h := by simp [eBlk]; exact .mk)
 refine xO ?_
 refine xO ?_ (h := by simp [eBlk]; exact .mk)
 refine xC (ct59 g s.sh s.mode s.base) ?_ (he := by simp [show D.roed ∘ eObj = eObj from funext roed_eObj]; exact .mk)
 iterate 2 refine xO ?_
 refine run_if rfl (by simp; exact .mk) rfl (by simp <;> first | omega | grind) (fun hb => by simp [eBlk]; exact .mk) ?_
 refine run_call rfl (by simp; exact .mk) rfl rfl (by simp) (by simp; exact .mk) (by simp [show D.roed ∘ eObj = eObj from funext roed_eObj]; exact .mk) (fun hb => ct60 g s hs) (by simp) (by simp; exact .mk) (by simp) ?_
 refine xI ?_
 refine xP ?_
 refine xF [1,22] ?_
 refine W_cond rfl ?_ ?_
 · intro h22
   have hr : sttS s = false := by simp [sttS] at *; grind
   refine xU ?_
   refine xO ?_
   refine xF [2] ?_
   refine W_ret (xR (by simp [Try.f28]; exact .mk) ?_)
   first | (simp [Try.f28, hr]; done) | (simp [Try.f28, hr0]; done) | (simp [Try.f28, hr0]; generalize twosO s.slots = V; cases V <;> simp <;> omega) | (simp [Try.f28, hr0]; clear hU hm hm2; cases U <;> simp <;> omega)
 intro h22
 have hsu : superS s.sh s.mode s.base = true ∧ rowsS s = true := by simp at h22; exact h22
 have hb := superS_b hsu.1
 have hT := rowsS_t hsu.2
 have hl32 := tableS_len hT
 have hol := onesS_len (l := s.slots)
 have hr0 : sttS s = ((laidS s.base (twosO s.slots)).isSome && (gapsS (s.base * 32) (s.sh.pages * 32) (spansS s.slots) && modeOk s)) := by simp [sttS, hsu]
 refine W_skip ?_
 refine xT ?_
 refine xO ?_
 refine xF [1,3] ?_
 refine W_seq (xU ?_)
 refine xO ?_ (h := by simp [eBlk]; exact .mk)
 refine xC (ct61 g s hs) ?_ (he := by simp [show D.roed ∘ eObj = eObj from funext roed_eObj]; exact .mk)
 iterate 2 refine xO ?_
 refine xF [1,3,24,25,26] ?_
 refine W_block ?_
 refine W_rounds (fun m σ o => ∃ i : Nat, m = (onesS s.slots).length - i ∧ i ≤ (onesS s.slots).length ∧ σ = slots [(1, .ptr 0 0 0), (3, .hdr 2 0 i), (24, .hdr 1 0 (onesS s.slots).length), (25, .d (vI (onesS s.slots).length)), (26, .d (vI i))] ∧ o = [.var 52 [.d (vI s.sh.pages), .d (vI s.sh.slots), .d (vI s.sh.roots), .d (vI s.sh.room), .d (vI s.mode), .d (vI s.base), .d (rSl s.slots), .d (rR s.roots), .d (rBB s.data)], .row 3 ((onesS s.slots).map eBlk), .row 2 (((onesS s.slots).take i).map fun b => eObj (spanOf b))]) (onesS s.slots).length
  (Weak.trans (Weak.nilRow 3 2 rfl) (Weak.kills [1,3,24,25,26] rfl) (fun _ _ _ h1 h2 => by rw [← h1.len]; exact h2)) ⟨0, by simp, by simp, by simp, by simp⟩ ?_
 rintro m σ o ⟨i, rfl, hi, rfl, rfl⟩ _
 refine xU ?_
 refine xO ?_
 refine xF [1,3,24,25,26,27] ?_
 refine W_seq (W_cond rfl ?_ ?_)
 · intro h27
   have hi2 : i < (onesS s.slots).length := by simpa using h27
   have e1 : (i + 1) * 16 ≤ 140737488355328 := by omega
   have e2 : i ≤ 140737488355327 := by omega
   have htk : ((onesS s.slots).take i).length = i := by simp; omega
   refine W_skip ?_
   rintro -
   refine W_seq (W_block ?_)
   refine xU ?_
   refine xO ?_ (h := by simp [eBlk, hi2]; exact .mk)
   refine xO ?_ (h := by simp [-List.getElem?_map, map_get hi2, eBlk]; exact .mk)
   refine xO ?_
   refine xO ?_ (h := by simp [splice]; exact .mk)
   refine xF [1,3,5,24,25,26] ?_
   refine W_reg rfl ?_
   iterate 2 refine xO ?_
   refine xO ?_ (h := by simp [eBlk]; exact .mk)
   refine xO ?_
   refine xO ?_ (h := by simp [eBlk]; exact .mk)
   refine xO ?_ (h := by simp [splice]; exact .mk)
   refine xO ?_
   refine xO ?_ (h := by simp [rows, e1, e2, htk, Nat.min_eq_left hi]; exact .mk)
   refine xO ?_
   refine xF [1,3,24,25,26] ?_
   refine W_reg rfl ?_
   iterate 2 refine xO ?_
   refine xE [1,3,24,25,26] ?_
   refine rounds_kill [1,3,24,25,26] ?_
   refine rounds_kills [1,3,24,25,26] rfl ?_
   refine rounds_swap 2 5 1 (by decide) (by simp) (by decide) rfl rfl ?_
   refine rounds_drop 3 [1,3,24,25,26] (by decide) (by rfl) (by rfl) ?_
   refine rounds_next (m' := (onesS s.slots).length - (i+1)) (by omega) ⟨i+1, rfl, by omega, ?_, ?_⟩
   · rw [wrap64 (by omega) (by omega)]; simp; try rfl
   rw [take_succ hi2]; simp [eObj, spanOf, eBlk]; try rfl
 intro h27
 obtain rfl : i = (onesS s.slots).length := by simp at h27; omega
 obtain ⟨U, hU⟩ : ∃ U, U = spansS s.slots := ⟨_, rfl⟩
 have hm : List.take (onesS s.slots).length (List.map (fun b => eObj (spanOf b)) (onesS s.slots)) = U.map eObj := by rw [hU, spansS, ← List.map_take, List.take_length, List.map_map]; rfl
 have hm2 : (onesS s.slots).length = U.length := by rw [hU, spansS, List.length_map]
 rw [hm, hm2]
 have e4 : IntKind.i64.wrap (s.base * 32) = s.base * 32 := wrap64 (by omega) (by omega)
 have e5 : IntKind.i64.wrap (s.sh.pages * 32) = s.sh.pages * 32 := wrap64 (by omega) (by omega)
 have htl := twosO_len (l := s.slots)
 rw [← hU] at hr0
 refine W_exit (xT ?_)
 refine xO ?_ (h := by simp [eBlk]; exact .mk)
 refine xC (ct62 g s hs) ?_ (he := by simp [show D.roed ∘ eObj = eObj from funext roed_eObj]; exact .mk)
 iterate 5 refine xO ?_
 refine xG [1,3,6] ?_
 refine xO ?_
 refine xO ?_ (h := by simp [eBlk]; exact .mk)
 refine xO ?_
 refine xC (ct63 g s.base (twosO s.slots) (by omega) (twosO_le hT)) ?_ (he := by simp [show D.roed ∘ eObj = eObj from funext roed_eObj]; exact .mk)
 iterate 5 refine xO ?_
 refine xF [1,3,6,9] ?_
 refine W_seq (W_block ?_)
 refine W_seq (xU ?_)
 iterate 3 refine xO ?_
 refine xF [1,3,6,51] ?_
 refine W_cond rfl ?_ ?_
 · intro h51
   have hr : sttS s = false := by rw [hr0]; first | (simp at h51'; simp [h51']; done) | (simp at h51; simp [h51]; done)
   refine W_skip ?_
   rintro -
   refine W_cond rfl ?_ ?_
   · intro h51'
     have hr : sttS s = false := by rw [hr0]; first | (simp at h51'; simp [h51']; done) | (simp at h51; simp [h51]; done)
     refine xU ?_
     refine xO ?_
     refine xF [2] ?_
     refine W_ret (xR (by simp [Try.f28]; exact .mk) ?_)
     first | (simp [Try.f28, hr]; done) | (simp [Try.f28, hr0]; done) | (simp [Try.f28, hr0]; generalize twosO s.slots = V; cases V <;> simp <;> omega) | (simp [Try.f28, hr0]; clear hU hm hm2; cases U <;> simp <;> omega)
   intro hq
   cases h51.symm.trans hq
 intro h51
 refine W_reg rfl ?_
 refine xO ?_
 refine xO ?_ (h := by simp [eBlk]; exact .mk)
 refine xO ?_ (h := by simp [e4]; exact .mk)
 iterate 2 refine xO ?_
 refine xO ?_ (h := by simp [eBlk]; exact .mk)
 refine xO ?_ (h := by simp [e5]; exact .mk)
 refine xO ?_
 refine xC (ct64 g (s.base * 32) (s.sh.pages * 32) U (by omega)) ?_ (he := by simp [show D.roed ∘ eObj = eObj from funext roed_eObj]; exact .mk)
 iterate 2 refine xO ?_
 refine xF [1,3,6,51] ?_
 refine W_cond rfl ?_ ?_
 · intro h51'
   have hr : sttS s = false := by rw [hr0]; first | (simp at h51'; simp [h51']; done) | (simp at h51; simp [h51]; done)
   refine xU ?_
   refine xO ?_
   refine xF [2] ?_
   refine W_ret (xR (by simp [Try.f28]; exact .mk) ?_)
   first | (simp [Try.f28, hr]; done) | (simp [Try.f28, hr0]; done) | (simp [Try.f28, hr0]; generalize twosO s.slots = V; cases V <;> simp <;> omega) | (simp [Try.f28, hr0]; clear hU hm hm2; cases U <;> simp <;> omega)
 intro h51'
 have hl : (laidS s.base (twosO s.slots)).isSome = true := by simpa using h51
 have hg : gapsS (s.base * 32) (s.sh.pages * 32) U = true := by simpa using h51'
 rw [hl, hg, Bool.true_and, Bool.true_and, modeOk, ← hU] at hr0
 refine xU ?_
 refine xO ?_
 refine xO ?_ (h := by simp [eBlk]; exact .mk)
 iterate 2 refine xO ?_
 refine xF [1,3,6,64] ?_
 refine W_cond rfl ?_ ?_
 · intro h64
   rw [if_pos (by simpa using h64)] at hr0
   refine xU ?_
   iterate 4 refine xO ?_
   refine xF [2] ?_
   refine W_ret (xR (by simp [Try.f28]; exact .mk) ?_)
   first | (simp [Try.f28, hr]; done) | (simp [Try.f28, hr0]; done) | (simp [Try.f28, hr0]; generalize twosO s.slots = V; cases V <;> simp <;> omega) | (simp [Try.f28, hr0]; clear hU hm hm2; cases U <;> simp <;> omega)
 intro h64
 rw [if_neg (by simpa using h64)] at hr0
 refine xU ?_
 refine xO ?_
 refine xO ?_ (h := by simp [eBlk]; exact .mk)
 iterate 2 refine xO ?_
 refine xF [3,71] ?_
 refine W_cond rfl ?_ ?_
 · intro h71
   rw [if_pos (by simpa using h71)] at hr0
   refine xU ?_
   iterate 4 refine xO ?_
   refine xF [2] ?_
   refine W_ret (xR (by simp [Try.f28]; exact .mk) ?_)
   first | (simp [Try.f28, hr]; done) | (simp [Try.f28, hr0]; done) | (simp [Try.f28, hr0]; generalize twosO s.slots = V; cases V <;> simp <;> omega) | (simp [Try.f28, hr0]; clear hU hm hm2; cases U <;> simp <;> omega)
 intro h71
 rw [if_neg (by simpa using h71)] at hr0
 refine W_skip ?_
 refine xT ?_
 refine xO ?_
 refine xF [2] ?_
 refine W_ret (xR (by simp [Try.f28]; exact .mk) ?_)
 first | (simp [Try.f28, hr]; done) | (simp [Try.f28, hr0]; done) | (simp [Try.f28, hr0]; generalize twosO s.slots = V; cases V <;> simp <;> omega) | (simp [Try.f28, hr0]; clear hU hm hm2; cases U <;> simp <;> omega)

open Go.Awp
def oStt (s : Stt) : D := .agg [vI s.sh.pages, vI s.sh.slots, vI s.sh.roots, vI s.sh.room, vI s.mode, vI s.base, oSl s.slots, oR s.roots, oBB s.data]
@[simp] theorem noSn_oStt (s : Stt) : (oStt s).noSn = true := by simp [oStt]
@[simp] theorem noRo_oStt (s : Stt) : (oStt s).noRo = true := by simp [oStt]
def zStt : Stt := ⟨⟨0, 0, 0, 0⟩, 0, 0, [], [], []⟩
def baseOf (sh : Shape) (mode : Int) : Int := if mode = 2 then sh.pages else 0
def firstStt (sh : Shape) (mode : Int) : Stt := ⟨sh, mode, baseOf sh mode, List.replicate sh.slots.toNat zSlot, List.replicate sh.roots.toNat zRoot, List.replicate sh.slots.toNat []⟩
def newS (sh : Shape) (mode : Int) : Stt × Int := if superS sh mode (baseOf sh mode) && decide (mode ≤ 2) then (firstStt sh mode, 0) else (zStt, 1)
def fewStt (s : Stt) : Bool := (List.range (min s.data.length 100)).all (fun i => decide (((nth s.data i).length : Int) ≤ 4096)) && ((List.range (min s.roots.length 100)).all (fun i => decide (((nth s.roots i).name.size : Int) ≤ 1024))
  && (decide ((s.slots.length : Int) ≤ 60) && (decide ((s.roots.length : Int) ≤ 60) && decide ((s.data.length : Int) ≤ 60))))
theorem fewStt_ok {s : Stt} (h : fewStt s = true) : s.Ok := by
 simp [fewStt] at h
 obtain ⟨h1, h2, h3, h4, h5⟩ := h
 refine ⟨by omega, by omega, by omega, fun i hi => ?_, fun i hi => ?_⟩
 · have := h1 i (by omega); omega
 · have := h2 i (by omega); omega
def sh4 : Shape := ⟨4, 4, 2, 30⟩
open Go.Awp
theorem ct22 (g : Gl) (s : Stt) : CtAt Try.prog g 22 [eStt s] (.v (.bool (fewStt s))) := by
 refine ctAt_of_W Try.func22 rfl rfl (Nat.le_of_ble_eq_true rfl) fun B S => ?_
 simp only [eStt, List.map, argD_agg]
 refine xU ?_
 iterate 2 refine xO ?_
 refine xF [1] ?_
 refine W_seq (xU ?_)
 refine xO ?_
 refine xF [1,3] ?_
 refine W_block (W_rounds (fun m σ r => ∃ i : Nat, m = 100 - i ∧ i ≤ min s.data.length 100 ∧ (∀ j, j < i → decide (((nth s.data j).length : Int) ≤ 4096) = true) ∧ σ = slots [(1, .ptr 0 0 0), (3, .d (vI i))] ∧ r = [.var 52 [.d (vI s.sh.pages), .d (vI s.sh.slots), .d (vI s.sh.roots), .d (vI s.sh.room), .d (vI s.mode), .d (vI s.base), .d (rSl s.slots), .d (rR s.roots), .d (rBB s.data)]]) 100 .refl ⟨0, by simp, by simp, by simp, rfl, rfl⟩ ?_)
 rintro m σ r ⟨i, rfl, hi, hinv, rfl, rfl⟩ _
 refine W_seq (xU ?_)
 iterate 2 refine xO ?_
 refine xO ?_ (h := by simp [eRoot]; exact .mk)
 iterate 3 refine xO ?_
 iterate 2 refine xI ?_
 refine xP ?_
 refine xF [1,3,13] ?_
 refine W_cond rfl ?_ ?_
 · intro h13
   have h1 : i < s.data.length ∧ i < 100 := by simp at h13; omega
   have h2 := h1.1
   refine W_skip ?_
   rintro -
   refine W_seq (W_block ?_)
   refine xU ?_
   refine xO ?_
   refine xO ?_ (h := by simp [eRoot]; exact .mk)
   refine xO ?_
   refine xO ?_ (h := by simp [eRoot, h2]; exact .mk)
   refine xO ?_ (h := by simp [eRoot]; exact .mk)
   iterate 2 refine xO ?_
   refine xF [1,3,22] ?_
   refine W_cond rfl ?_ ?_
   · intro h22
     have hr : fewStt s = false := by
      have : (List.range (min s.data.length 100)).all (fun i => decide (((nth s.data i).length : Int) ≤ 4096)) = false := all_bad (i := i) (by omega) (by simpa using h22)
      simp [fewStt, this]
     refine xU ?_
     refine xO ?_
     refine xF [2] ?_
     refine W_ret (xR (by simp [Try.f22]; exact .mk) ?_)
     simp [Try.f22, hr] <;> try (simp [Bool.and_assoc])
   intro h22
   refine W_skip ?_
   rintro -
   refine W_reg rfl ?_
   iterate 3 refine xO ?_
   refine xE [1,3] ?_
   refine rounds_kill [1,3] ?_
   refine rounds_next (m' := 100 - (i+1)) (by omega) ⟨i+1, rfl, by omega, ?_, ?_, rfl⟩
   · intro j hj
     rcases Nat.lt_succ_iff_lt_or_eq.1 hj with hj | rfl
     · exact hinv j hj
     simpa using h22
   rw [wrap64 (by omega) (by omega)]; rfl
 intro h13
 have q1 : (List.range (min s.data.length 100)).all (fun i => decide (((nth s.data i).length : Int) ≤ 4096)) = true := all_good (fun j hj => hinv j (by simp at h13; omega))
 refine W_exit ?_
 rintro -
 refine W_seq (xU ?_)
 refine xO ?_
 refine xF [1,4] ?_
 refine W_block (W_rounds (fun m σ r => ∃ i : Nat, m = 100 - i ∧ i ≤ min s.roots.length 100 ∧ (∀ j, j < i → decide (((nth s.roots j).name.size : Int) ≤ 1024) = true) ∧ σ = slots [(1, .ptr 0 0 0), (4, .d (vI i))] ∧ r = [.var 52 [.d (vI s.sh.pages), .d (vI s.sh.slots), .d (vI s.sh.roots), .d (vI s.sh.room), .d (vI s.mode), .d (vI s.base), .d (rSl s.slots), .d (rR s.roots), .d (rBB s.data)]]) 100 .refl ⟨0, by simp, by simp, by simp, rfl, rfl⟩ ?_)
 rintro m σ r ⟨i, rfl, hi, hinv, rfl, rfl⟩ _
 refine W_seq (xU ?_)
 iterate 2 refine xO ?_
 refine xO ?_ (h := by simp [eRoot]; exact .mk)
 iterate 3 refine xO ?_
 iterate 2 refine xI ?_
 refine xP ?_
 refine xF [1,4,31] ?_
 refine W_cond rfl ?_ ?_
 · intro h31
   have h1 : i < s.roots.length ∧ i < 100 := by simp at h31; omega
   have h2 := h1.1
   refine W_skip ?_
   rintro -
   refine W_seq (W_block ?_)
   refine xU ?_
   refine xO ?_
   refine xO ?_ (h := by simp [eRoot]; exact .mk)
   refine xO ?_
   refine xO ?_ (h := by simp [eRoot, h2]; exact .mk)
   refine xO ?_
   refine xO ?_ (h := by simp [eRoot]; exact .mk)
   iterate 2 refine xO ?_
   refine xF [1,4,41] ?_
   refine W_cond rfl ?_ ?_
   · intro h41
     have hr : fewStt s = false := by
      have : (List.range (min s.roots.length 100)).all (fun i => decide (((nth s.roots i).name.size : Int) ≤ 1024)) = false := all_bad (i := i) (by omega) (by simpa using h41)
      simp [fewStt, this]
     refine xU ?_
     refine xO ?_
     refine xF [2] ?_
     refine W_ret (xR (by simp [Try.f22]; exact .mk) ?_)
     simp [Try.f22, hr] <;> try (simp [Bool.and_assoc])
   intro h41
   refine W_skip ?_
   rintro -
   refine W_reg rfl ?_
   iterate 3 refine xO ?_
   refine xE [1,4] ?_
   refine rounds_kill [1,4] ?_
   refine rounds_next (m' := 100 - (i+1)) (by omega) ⟨i+1, rfl, by omega, ?_, ?_, rfl⟩
   · intro j hj
     rcases Nat.lt_succ_iff_lt_or_eq.1 hj with hj | rfl
     · exact hinv j hj
     simpa using h41
   rw [wrap64 (by omega) (by omega)]; rfl
 intro h31
 have q2 : (List.range (min s.roots.length 100)).all (fun i => decide (((nth s.roots i).name.size : Int) ≤ 1024)) = true := all_good (fun j hj => hinv j (by simp at h31; omega))
 have hr : fewStt s = (decide ((s.slots.length : Int) ≤ 60) && (decide ((s.roots.length : Int) ≤ 60) && decide ((s.data.length : Int) ≤ 60))) := by rw [fewStt, q1, q2]; rfl
 refine W_exit (xT ?_)
 refine xO ?_
 refine xO ?_ (h := by simp [eRoot]; exact .mk)
 iterate 3 refine xO ?_
 refine xI ?_
 refine run_if rfl (by simp; exact .mk) rfl (by simp <;> first | omega | grind) (fun hb => by simp [eRoot]; exact .mk) ?_
 iterate 2 refine xI ?_
 refine xP ?_
 refine xB ?_
 refine xI ?_
 refine run_if rfl (by simp; exact .mk) rfl (by simp <;> first | omega | grind) (fun hb => by simp [eRoot]; exact .mk) ?_
 iterate 2 refine xI ?_
 refine xP ?_
 refine xB ?_
 refine xF [2] ?_
 refine W_ret (xR (by simp [Try.f22]; exact .mk) ?_)
 simp [Try.f22, hr] <;> try (simp [Bool.and_assoc])

open Go.Awp
theorem onesS_mem {l : List Slot} {b : Blk} (h : b ∈ onesS l) : ∃ k : Nat, k < l.length ∧ isOne (nth l k) = true ∧ b = blkAt l k := by
 have h1 : b ∈ onesR l := (stS_perm (onesR l)).mem_iff.1 h
 simp only [onesR, List.mem_map] at h1
 obtain ⟨k, hk, rfl⟩ := h1
 exact ⟨k, (oneIx_mem hk).1, (oneIx_mem hk).2, rfl⟩
end Go.Proofs
