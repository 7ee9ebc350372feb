/- Contracts of the program's functions, each against a plain function over lists and numbers (it answers what that one answers, for arguments of at most 2^40 elements where a lemma says so), and plain facts about these. -/
import Derived.Test.YtokgokbgidgfeaaGreatCE
import Derived.Test.YtokgokbgidgfeaaGreatAwpD
import Derived.Test.YtokgokbgidgfeaaGreatCD
set_option linter.all false
set_option maxHeartbeats 4000000
set_option maxRecDepth 4000
namespace Go.Proofs
open Go.Awp
theorem in107 (g : Gl) (o0 o1 o2 o3 o4 : Awp.Obj) (mode : Int) : ∀ B S, CallsA Tryz.prog g B S ⟨5, true⟩ 107 [.d (vI mode)] [o0, o1, o2, o3, o4]
    (fun x r => x = .fn (.func 159) [] [.ptr 5 0 0] ∧ r = [o0, o1, o2, o3, o4, .var 3 [.d (vI mode)]]) := by
 refine callsA_at Tryz.func107 rfl (Nat.le_of_ble_eq_true rfl) fun B S => ?_
 refine xU ?_
 iterate 2 refine xO ?_
 refine xE [1] ?_
 refine xT ?_
 iterate 2 refine xO ?_
 refine xE [2] fun _ => ?_
 refine W_ret (endAt_ret (by simp [Tryz.f107]; exact .mk) ?_ ?_)
 · simp
 simp

theorem in159 (g : Gl) (mode : Int) (b lb : Nat) (c : LoopC) (L : List (Nat × AV)) (hc1 : c.params.size = 1) (hc2 : ∀ p ∈ c.params.toList, p < c.n) (a0 a1 a2 a3 a4 : Awp.Obj) (d2 d3 d4 : Bool → Awp.Obj) (ok : Bool → Bool)
    (z0 : a0.lt 8 = true) (z1 : a1.lt 8 = true) (z2 : a2.lt 8 = true) (z3 : a3.lt 8 = true) (z4 : a4.lt 8 = true) (y2 : ∀ t, (d2 t).lt 8 = true) (y3 : ∀ t, (d3 t).lt 8 = true) (y4 : ∀ t, (d4 t).lt 8 = true) (zL : (L.all fun p => p.2.lt 8) = true)
    (hround : ∀ two, ∀ B S, RoundI Tryz.prog g B S lb 7 c L [.d (vT two)] [a0, a1, a2, a3, a4, .var 3 [.d (vI mode)], .blk b, .lp lb c L .ready none] (fun bb o => bb = ok two ∧ o = if ok two = true then [a0, a1, a2, a3, a4, .var 3 [.d (vI mode)], .blk b, .lp lb c L .ready none] else [a0, a1, d2 two, d3 two, d4 two, .var 3 [.d (vI mode)], .blk b, .lp lb c L .done (some .ret)])) :
    ∀ B S, CallsA Tryz.prog g B S ⟨8, true⟩ 159 [.fn (.yield lb) [] [], .ptr 5 0 0] [a0, a1, a2, a3, a4, .var 3 [.d (vI mode)], .blk b, .lp lb c L .ready none] (fun x r => x = .tup [] ∧ r = (match firstB mode ok with | none => [a0, a1, a2, a3, a4, .var 3 [.d (vI mode)], .blk b, .lp lb c L .ready none] | some two => [a0, a1, d2 two, d3 two, d4 two, .var 3 [.d (vI mode)], .blk b, .lp lb c L .done (some .ret)])) := by
 refine callsA_WI Tryz.func159 rfl (Nat.le_of_ble_eq_true rfl) fun B S => ?_
 refine WI_seq ?_
 refine WI_reg rfl ?_ (by decide +kernel)
 refine xO ?_
 refine xE [0,3] fun _ => ?_
 refine WI_block ?_
 refine WI_seq ?_
 refine WI_reg rfl ?_ (by decide +kernel)
 iterate 2 refine xO ?_
 refine xE [0,3,4] fun _ => ?_
 refine WI_cond rfl ?_ ?_
 · intro h4
   have hm : mode = 1 := by simpa using h4
   refine WI_regN rfl ?_
   refine WRI_run [0] [1] rfl (by decide +kernel) ?_
   refine xB ?_
   refine run_nil ?_
   refine WRI_yield (fun bb o => bb = ok false ∧ o = if ok false = true then [a0, a1, a2, a3, a4, .var 3 [.d (vI mode)], .blk b, .lp lb c L .ready none] else [a0, a1, d2 false, d3 false, d4 false, .var 3 [.d (vI mode)], .blk b, .lp lb c L .done (some .ret)]) rfl (by simp; exact .mk) rfl rfl rfl (by simp) (by simp; exact .mk) (by simp; exact .mk) rfl hc1 hc2 (hround false) ?_
   rintro bb o2 ⟨rfl, rfl⟩
   cases hokf : ok false
   · skip
     have hr : firstB mode ok = some false := by simp [firstB, pickB, *]
     simp only [Bool.false_eq_true, if_false]
     refine WRI_ends [] (by decide +kernel) ?_
     refine xE [] ?_
     try simp only [thenI_ret, roundsI_ret, inBlkI_ret, thenI_exit, roundsI_exit, inBlkI_exit, inBlkI_normal, if_true]
     refine endInM_normal (fn := Tryz.f159) (rs := []) 8 .nil ?_ (Nat.le_refl _) ?_ ?_ ?_
     · simp [Tryz.f159]; exact .mk
     · rfl
     · simp [z0, z1, z2, z3, z4, y2, y3, y4, zL]
     exact ⟨rfl, by rw [hr]; rfl⟩
   skip
   have hr : firstB mode ok = none := by simp [firstB, pickB, *]
   simp only [if_true]
   refine WRI_ends [] (by decide +kernel) ?_
   refine xE [] ?_
   try simp only [thenI_ret, roundsI_ret, inBlkI_ret, thenI_exit, roundsI_exit, inBlkI_exit, inBlkI_normal, if_true]
   refine endInM_normal (fn := Tryz.f159) (rs := []) 8 .nil ?_ (Nat.le_refl _) ?_ ?_ ?_
   · simp [Tryz.f159]; exact .mk
   · rfl
   · simp [z0, z1, z2, z3, z4, y2, y3, y4, zL]
   exact ⟨rfl, by rw [hr]; rfl⟩
 intro h4
 have n1 : ¬ mode = 1 := by simpa using h4
 refine WI_seq ?_
 refine WI_reg rfl ?_ (by decide +kernel)
 iterate 2 refine xO ?_
 refine xE [0,3,8] fun _ => ?_
 refine WI_cond rfl ?_ ?_
 · intro h8
   have hm : mode = 2 := by simpa using h8
   refine WI_regN rfl ?_
   refine WRI_run [0] [1] rfl (by decide +kernel) ?_
   refine xB ?_
   refine run_nil ?_
   refine WRI_yield (fun bb o => bb = ok true ∧ o = if ok true = true then [a0, a1, a2, a3, a4, .var 3 [.d (vI mode)], .blk b, .lp lb c L .ready none] else [a0, a1, d2 true, d3 true, d4 true, .var 3 [.d (vI mode)], .blk b, .lp lb c L .done (some .ret)]) rfl (by simp; exact .mk) rfl rfl rfl (by simp) (by simp; exact .mk) (by simp; exact .mk) rfl hc1 hc2 (hround true) ?_
   rintro bb o2 ⟨rfl, rfl⟩
   cases hokt : ok true
   · skip
     have hr : firstB mode ok = some true := by simp [firstB, pickB, *]
     simp only [Bool.false_eq_true, if_false]
     refine WRI_ends [] (by decide +kernel) ?_
     refine xE [] ?_
     try simp only [thenI_ret, roundsI_ret, inBlkI_ret, thenI_exit, roundsI_exit, inBlkI_exit, inBlkI_normal, if_true]
     refine endInM_normal (fn := Tryz.f159) (rs := []) 8 .nil ?_ (Nat.le_refl _) ?_ ?_ ?_
     · simp [Tryz.f159]; exact .mk
     · rfl
     · simp [z0, z1, z2, z3, z4, y2, y3, y4, zL]
     exact ⟨rfl, by rw [hr]; rfl⟩
   skip
   have hr : firstB mode ok = none := by simp [firstB, pickB, *]
   simp only [if_true]
   refine WRI_ends [] (by decide +kernel) ?_
   refine xE [] ?_
   try simp only [thenI_ret, roundsI_ret, inBlkI_ret, thenI_exit, roundsI_exit, inBlkI_exit, inBlkI_normal, if_true]
   refine endInM_normal (fn := Tryz.f159) (rs := []) 8 .nil ?_ (Nat.le_refl _) ?_ ?_ ?_
   · simp [Tryz.f159]; exact .mk
   · rfl
   · simp [z0, z1, z2, z3, z4, y2, y3, y4, zL]
   exact ⟨rfl, by rw [hr]; rfl⟩
 intro h8
 have n2 : ¬ mode = 2 := by simpa using h8
 refine WI_seq ?_
 refine WI_reg rfl ?_ (by decide +kernel)
 iterate 2 refine xO ?_
 refine xE [0,3,12] fun _ => ?_
 refine WI_cond rfl ?_ ?_
 · intro h12
   have hm : mode = 3 := by simpa using h12
   refine WI_regN rfl ?_
   refine WRI_run [0] [1,2,3,4,5] rfl (by decide +kernel) ?_
   refine xB ?_
   refine run_nil ?_
   refine WRI_yield (fun bb o => bb = ok true ∧ o = if ok true = true then [a0, a1, a2, a3, a4, .var 3 [.d (vI mode)], .blk b, .lp lb c L .ready none] else [a0, a1, d2 true, d3 true, d4 true, .var 3 [.d (vI mode)], .blk b, .lp lb c L .done (some .ret)]) rfl (by simp; exact .mk) rfl rfl rfl (by simp) (by simp; exact .mk) (by simp; exact .mk) rfl hc1 hc2 (hround true) ?_
   rintro bb o2 ⟨rfl, rfl⟩
   cases hokt : ok true
   · skip
     have hr : firstB mode ok = some true := by simp [firstB, pickB, *]
     simp only [Bool.false_eq_true, if_false]
     refine WRI_ends [2,3,4,5] (by decide +kernel) ?_
     refine xB ?_
     iterate 2 (refine run_not (av := .d (.v (.bool false))) rfl (by simp; exact .mk) rfl ?_)
     refine xP ?_
     refine xE [] ?_
     try simp only [thenI_ret, roundsI_ret, inBlkI_ret, thenI_exit, roundsI_exit, inBlkI_exit, inBlkI_normal, if_true]
     refine endInM_normal (fn := Tryz.f159) (rs := []) 8 .nil ?_ (Nat.le_refl _) ?_ ?_ ?_
     · simp [Tryz.f159]; exact .mk
     · rfl
     · simp [z0, z1, z2, z3, z4, y2, y3, y4, zL]
     exact ⟨rfl, by rw [hr]; rfl⟩
   skip
   simp only [if_true]
   refine WRI_run [2,3] [4,5] rfl (by decide +kernel) ?_
   refine xB ?_
   refine xI ?_
   refine run_nil ?_
   refine WRI_yield (fun bb o => bb = ok false ∧ o = if ok false = true then [a0, a1, a2, a3, a4, .var 3 [.d (vI mode)], .blk b, .lp lb c L .ready none] else [a0, a1, d2 false, d3 false, d4 false, .var 3 [.d (vI mode)], .blk b, .lp lb c L .done (some .ret)]) rfl (by simp; exact .mk) rfl rfl rfl (by simp) (by simp; exact .mk) (by simp; exact .mk) rfl hc1 hc2 (hround false) ?_
   rintro bb o2 ⟨rfl, rfl⟩
   cases hokf : ok false
   · skip
     have hr : firstB mode ok = some false := by simp [firstB, pickB, *]
     simp only [Bool.false_eq_true, if_false]
     refine WRI_ends [5] (by decide +kernel) ?_
     refine xP ?_
     refine xE [] ?_
     try simp only [thenI_ret, roundsI_ret, inBlkI_ret, thenI_exit, roundsI_exit, inBlkI_exit, inBlkI_normal, if_true]
     refine endInM_normal (fn := Tryz.f159) (rs := []) 8 .nil ?_ (Nat.le_refl _) ?_ ?_ ?_
     · simp [Tryz.f159]; exact .mk
     · rfl
     · simp [z0, z1, z2, z3, z4, y2, y3, y4, zL]
     exact ⟨rfl, by rw [hr]; rfl⟩
   skip
   have hr : firstB mode ok = none := by simp [firstB, pickB, *]
   simp only [if_true]
   refine WRI_ends [5] (by decide +kernel) ?_
   refine xP ?_
   refine xE [] ?_
   try simp only [thenI_ret, roundsI_ret, inBlkI_ret, thenI_exit, roundsI_exit, inBlkI_exit, inBlkI_normal, if_true]
   refine endInM_normal (fn := Tryz.f159) (rs := []) 8 .nil ?_ (Nat.le_refl _) ?_ ?_ ?_
   · simp [Tryz.f159]; exact .mk
   · rfl
   · simp [z0, z1, z2, z3, z4, y2, y3, y4, zL]
   exact ⟨rfl, by rw [hr]; rfl⟩
 intro h12
 have n3 : ¬ mode = 3 := by simpa using h12
 refine WI_seq ?_
 refine WI_reg rfl ?_ (by decide +kernel)
 iterate 2 refine xO ?_
 refine xE [0,20] fun _ => ?_
 refine WI_cond rfl ?_ ?_
 · intro h20
   have hm : mode = 4 := by simpa using h20
   refine WI_regN rfl ?_
   refine WRI_run [0] [1,2,3,4,5] rfl (by decide +kernel) ?_
   refine xB ?_
   refine run_nil ?_
   refine WRI_yield (fun bb o => bb = ok false ∧ o = if ok false = true then [a0, a1, a2, a3, a4, .var 3 [.d (vI mode)], .blk b, .lp lb c L .ready none] else [a0, a1, d2 false, d3 false, d4 false, .var 3 [.d (vI mode)], .blk b, .lp lb c L .done (some .ret)]) rfl (by simp; exact .mk) rfl rfl rfl (by simp) (by simp; exact .mk) (by simp; exact .mk) rfl hc1 hc2 (hround false) ?_
   rintro bb o2 ⟨rfl, rfl⟩
   cases hokf : ok false
   · skip
     have hr : firstB mode ok = some false := by simp [firstB, pickB, *]
     simp only [Bool.false_eq_true, if_false]
     refine WRI_ends [2,3,4,5] (by decide +kernel) ?_
     refine xB ?_
     iterate 2 (refine run_not (av := .d (.v (.bool false))) rfl (by simp; exact .mk) rfl ?_)
     refine xP ?_
     refine xE [] ?_
     try simp only [thenI_ret, roundsI_ret, inBlkI_ret, thenI_exit, roundsI_exit, inBlkI_exit, inBlkI_normal, if_true]
     refine endInM_normal (fn := Tryz.f159) (rs := []) 8 .nil ?_ (Nat.le_refl _) ?_ ?_ ?_
     · simp [Tryz.f159]; exact .mk
     · rfl
     · simp [z0, z1, z2, z3, z4, y2, y3, y4, zL]
     exact ⟨rfl, by rw [hr]; rfl⟩
   skip
   simp only [if_true]
   refine WRI_run [2,3] [4,5] rfl (by decide +kernel) ?_
   refine xB ?_
   refine xI ?_
   refine run_nil ?_
   refine WRI_yield (fun bb o => bb = ok true ∧ o = if ok true = true then [a0, a1, a2, a3, a4, .var 3 [.d (vI mode)], .blk b, .lp lb c L .ready none] else [a0, a1, d2 true, d3 true, d4 true, .var 3 [.d (vI mode)], .blk b, .lp lb c L .done (some .ret)]) rfl (by simp; exact .mk) rfl rfl rfl (by simp) (by simp; exact .mk) (by simp; exact .mk) rfl hc1 hc2 (hround true) ?_
   rintro bb o2 ⟨rfl, rfl⟩
   cases hokt : ok true
   · skip
     have hr : firstB mode ok = some true := by simp [firstB, pickB, *]
     simp only [Bool.false_eq_true, if_false]
     refine WRI_ends [5] (by decide +kernel) ?_
     refine xP ?_
     refine xE [] ?_
     try simp only [thenI_ret, roundsI_ret, inBlkI_ret, thenI_exit, roundsI_exit, inBlkI_exit, inBlkI_normal, if_true]
     refine endInM_normal (fn := Tryz.f159) (rs := []) 8 .nil ?_ (Nat.le_refl _) ?_ ?_ ?_
     · simp [Tryz.f159]; exact .mk
     · rfl
     · simp [z0, z1, z2, z3, z4, y2, y3, y4, zL]
     exact ⟨rfl, by rw [hr]; rfl⟩
   skip
   have hr : firstB mode ok = none := by simp [firstB, pickB, *]
   simp only [if_true]
   refine WRI_ends [5] (by decide +kernel) ?_
   refine xP ?_
   refine xE [] ?_
   try simp only [thenI_ret, roundsI_ret, inBlkI_ret, thenI_exit, roundsI_exit, inBlkI_exit, inBlkI_normal, if_true]
   refine endInM_normal (fn := Tryz.f159) (rs := []) 8 .nil ?_ (Nat.le_refl _) ?_ ?_ ?_
   · simp [Tryz.f159]; exact .mk
   · rfl
   · simp [z0, z1, z2, z3, z4, y2, y3, y4, zL]
   exact ⟨rfl, by rw [hr]; rfl⟩
 intro h20
 have n4 : ¬ mode = 4 := by simpa using h20
 have hr : firstB mode ok = none := by simp [firstB, pickB, *]
 refine WI_skip ?_
 try simp only [thenI_ret, roundsI_ret, inBlkI_ret, thenI_exit, roundsI_exit, inBlkI_exit, inBlkI_normal, if_true]
 refine endInM_normal (fn := Tryz.f159) (rs := []) 8 .nil ?_ (Nat.le_refl _) ?_ ?_ ?_
 · simp [Tryz.f159]; exact .mk
 · rfl
 · simp [z0, z1, z2, z3, z4, y2, y3, y4, zL]
 exact ⟨rfl, by rw [hr]; rfl⟩

open Go.Awp
theorem in40 (g : Gl) (s : Stt) (hs : s.Ok) (n : Int) : ∀ B S, CallsA Tryz.prog g B S ⟨0, true⟩ 40 ([eStt s, vI n].map argD) [] (fun x r => x = .tup [.d (vT ((firstP s n).getD (false, 0)).1), .d (vI ((firstP s n).getD (false, 0)).2), .d (vT (firstP s n).isSome)] ∧ r = []) := by
 refine callsA_WI Tryz.func40 rfl (Nat.le_of_ble_eq_true rfl) fun B S => ?_
 simp only [eStt, List.map, argD_agg, argD_v]
 refine WI_seq ?_
 refine WI_reg rfl ?_ (by decide +kernel)
 iterate 5 refine xO ?_
 refine xE [2,3,4,5,6] fun _ => ?_
 refine WI_seq ?_
 refine WI_seq ?_
 refine WI_reg rfl ?_ (by decide +kernel)
 iterate 2 refine xO ?_
 refine run_inl0 rfl rfl rfl rfl (by simp; exact .mk) ⟨_, Tryz.func107, rfl, rfl⟩ (in107 g _ _ _ _ _ s.mode) (.inl (by simp)) ?_
 refine xE [2,3,4,5,6,12] fun _ => ?_
 refine WI_block ?_
 refine WI_rangeFunc [2,3,4,5,6] (by simp; exact .mk) ⟨_, Tryz.func159, rfl, rfl⟩ (by simp; exact .mk) _ (fun fn b lb B S => in159 g s.mode b lb _ _ rfl ?_ _ _ _ _ _ (fun two => .var 4 [.d (vT two)]) (fun two => .var 3 [.d (vI ((roomS s two n).getD 0))]) (fun _ => .var 4 [.d (vT true)]) (fun two => (roomS s two n).isNone) rfl rfl rfl rfl rfl (fun _ => rfl) (fun _ => rfl) (fun _ => rfl) rfl (fun two B S => ?_) B S) ?_
 · intro p hp2
   have hp3 : p = 13 := by simpa using hp2
   show p < 24
   rw [hp3]; decide
 · skip
   unfold RoundI
   refine WI_weak (Weak.kills [2,3,4,5,6,13] (L := [(2, .ptr 0 0 0), (3, .ptr 1 0 0), (4, .ptr 2 0 0), (5, .ptr 3 0 0), (6, .ptr 4 0 0), (13, .d (vT two))]) rfl) ?_
   refine WI_reg rfl ?_ (by decide +kernel)
   refine xO ?_
   refine xE [2,3,4,5,6,7] ?_
   refine ⟨rfl, rfl, rfl, fun _ => ?_⟩
   refine WI_block ?_
   refine WI_seq ?_
   refine WI_reg rfl ?_ (by decide +kernel)
   iterate 3 refine xO ?_
   refine xC (ct38 g s hs two n) ?_
   iterate 5 refine xO ?_
   refine xE [4,5,6,7,8,9] fun _ => ?_
   refine WI_seq ?_
   refine WI_reg rfl ?_ (by decide +kernel)
   refine xO ?_
   refine xE [4,5,6,7,8,21] fun _ => ?_
   refine WI_cond rfl ?_ ?_
   · intro h21
     have hf : (roomS s two n).isNone = false := by cases hq : roomS s two n <;> simp [hq] at h21 ⊢
     refine WI_seq ?_
     refine WI_reg rfl ?_ (by decide +kernel)
     iterate 2 refine xO ?_
     iterate 3 (refine xO ?_ (h := by simp [splice]; exact .mk))
     refine xE [4,5,6] fun _ => ?_
     refine WI_ret ?_
     simp only [thenI_ret, inBlkI_ret]
     refine ⟨rfl, hf.symm, ?_⟩
     rw [if_neg (by simp [hf])]; rfl
   intro h21
   have hf : (roomS s two n).isNone = true := by cases hq : roomS s two n <;> simp [hq] at h21 ⊢
   refine WI_skip ?_
   simp only [inBlkI_normal]
   refine ⟨rfl, hf.symm, ?_⟩
   rw [if_pos hf]; rfl
 rintro fn b lb av o ⟨rfl, rfl⟩
 cases hf : firstB s.mode (fun two => (roomS s two n).isNone) with
 | none =>
  refine ⟨_, _, rfl, by simp, ?_⟩
  have hr : firstP s n = none := by rw [firstP_B, hf]; rfl
  simp only [pending_none, inBlkI_normal]
  rintro -
  refine WI_seq ?_
  refine WI_reg rfl ?_ (by decide +kernel)
  iterate 3 (refine xO ?_ (h := by simp [splice]; exact .mk))
  refine xE [4,5,6] fun _ => ?_
  refine WI_ret ?_
  try simp only [thenI_ret, roundsI_ret, inBlkI_ret, thenI_exit, roundsI_exit, inBlkI_exit, inBlkI_normal, if_true]
  refine endInM_ret (fn := Tryz.f40) (rs := [.d (vT false), .d (vI 0), .d (vT false)]) 0 (.cons (r := 6) rfl .nil) ?_ (Nat.zero_le _) ?_ ?_ ?_
  · simp [Tryz.f40]; exact .mk
  · rfl
  · rfl
  rw [hr]; exact ⟨rfl, rfl⟩
 | some two =>
  refine ⟨_, _, rfl, by simp, ?_⟩
  have hr : firstP s n = some (two, (roomS s two n).getD 0) := by rw [firstP_B, hf]; rfl
  simp only [pending_ret, thenI_ret, inBlkI_ret]
  refine endInM_ret (fn := Tryz.f40) (rs := [.d (vT two), .d (vI ((roomS s two n).getD 0)), .d (vT true)]) 0 (.cons (r := 6) rfl .nil) ?_ (Nat.zero_le _) ?_ ?_ ?_
  · simp [Tryz.f40]; exact .mk
  · rfl
  · rfl
  rw [hr]; exact ⟨rfl, rfl⟩
theorem ct40 (g : Gl) (s : Stt) (hs : s.Ok) (n : Int) : CtAt Tryz.prog g 40 [eStt s, vI n] (.tup [vT ((firstP s n).getD (false, 0)).1, vI ((firstP s n).getD (false, 0)).2, vT (firstP s n).isSome]) :=
 ctAt_of_calls Tryz.func40 rfl rfl (in40 g s hs n) (by simp) (by simp)


open Go.Awp
theorem ct42 (g : Gl) (s : Stt) (hs : s.Ok) (n : Int) : CtAt Tryz.prog g 42 [eStt s, vI n] (.tup [oStt (putS s n).1, .agg [vI (putS s n).2.1.1, vI (putS s n).2.1.2], vI (putS s n).2.2]) := by
 refine ctAt_of_W Tryz.func42 rfl rfl (Nat.le_of_ble_eq_true rfl) fun B S => ?_
 simp only [eStt, List.map, argD_agg, argD_v]
 refine xU ?_
 iterate 4 refine xO ?_
 refine xG [1,2,4,5] ?_
 refine xO ?_
 refine xF [1,2,4,5,7] ?_
 refine W_seq (xU ?_)
 refine xO ?_ (h := by simp [eSlot]; exact .mk)
 refine xC (ct32 g s hs) ?_ (hi := by simp [oStt]; exact .mk)
 iterate 2 refine xO ?_
 refine xI ?_
 refine run_call rfl (by simp; exact .mk) rfl rfl (by simp) (by simp; exact .mk) (by simp; exact .mk) (fun hb => ct102 g n) (by simp) (by simp [oStt]; exact .mk) (by simp) ?_
 refine xI ?_
 refine xP ?_
 refine xF [1,2,4,5,7,24] ?_
 refine W_cond rfl ?_ ?_
 · intro h24
   have hr : putS s n = (zStt, (0, 0), 1) := by unfold putS; rw [if_neg]; simp at h24 ⊢; grind
   refine xU ?_
   refine xO ?_
   refine xC (ct108 g 1) ?_ (hi := by simp [oStt]; exact .mk)
   iterate 3 refine xO ?_
   iterate 2 (refine xO ?_ (h := by simp [splice]; exact .mk))
   refine xO ?_
   refine xF [4,5,6] ?_
   refine W_ret (end_ret (by simp [Tryz.f42]; exact .mk) (by simp; exact .mk) ?_ (by simp [oStt]))
   first | (simp [Tryz.f42, hr, oStt, zStt, ownR]; done) | (simp [Tryz.f42, hr, oStt, zStt, ownR, putAt, zerosB, List.map_set]; try exact ⟨rfl, rfl⟩)
 intro h24
 have hR : sttS s = true ∧ sizedN n = true := by simp at h24; grind
 have hR2 : (sttS s && sizedN n) = true := by simp [hR]
 have hn := sizedN_iff.1 hR.2
 refine W_skip ?_
 rintro -
 refine W_seq (xU ?_)
 refine xO ?_
 refine xO ?_ (h := by simp [eSlot]; exact .mk)
 refine xC (ct109 g s.slots hs.h1) ?_ (hi := by simp [oStt]; exact .mk)
 iterate 5 refine xO ?_
 refine xG [1,2,4,5,7,9] ?_
 iterate 2 refine xO ?_
 refine xF [1,2,4,5,7,37] ?_
 refine W_cond rfl ?_ ?_
 · intro h37
   have hx : nextS s.slots = none := by simpa using h37
   have hr : putS s n = (zStt, (0, 0), 9) := by unfold putS; rw [if_pos hR2, hx]
   refine xU ?_
   refine xO ?_
   refine xC (ct108 g 9) ?_ (hi := by simp [oStt]; exact .mk)
   iterate 3 refine xO ?_
   iterate 2 (refine xO ?_ (h := by simp [splice]; exact .mk))
   refine xO ?_
   refine xF [4,5,6] ?_
   refine W_ret (end_ret (by simp [Tryz.f42]; exact .mk) (by simp; exact .mk) ?_ (by simp [oStt]))
   first | (simp [Tryz.f42, hr, oStt, zStt, ownR]; done) | (simp [Tryz.f42, hr, oStt, zStt, ownR, putAt, zerosB, List.map_set]; try exact ⟨rfl, rfl⟩)
 intro h37
 obtain ⟨k, hk⟩ : ∃ k, nextS s.slots = some k := Option.isSome_iff_exists.1 (by simpa using h37)
 obtain ⟨hkl, hko, _⟩ := nextS_spec hk
 refine W_skip ?_
 refine xT ?_
 refine xO ?_ (h := by simp [eSlot]; exact .mk)
 refine xO ?_
 refine xC (ct40 g s hs n) ?_ (hi := by simp [oStt]; exact .mk)
 iterate 7 refine xO ?_
 refine xF [1,2,4,5,7,10,11,12] ?_
 refine W_seq (xU ?_)
 iterate 2 refine xO ?_
 refine xF [1,2,4,5,7,10,11,51] ?_
 refine W_cond rfl ?_ ?_
 · intro h51
   have hx : firstP s n = none := by simpa using h51
   have hr : putS s n = (zStt, (0, 0), 10) := by unfold putS; rw [if_pos hR2, hk]; simp only; rw [hx]
   refine xU ?_
   refine xO ?_
   refine xC (ct108 g 10) ?_ (hi := by simp [oStt]; exact .mk)
   iterate 3 refine xO ?_
   iterate 2 (refine xO ?_ (h := by simp [splice]; exact .mk))
   refine xO ?_
   refine xF [4,5,6] ?_
   refine W_ret (end_ret (by simp [Tryz.f42]; exact .mk) (by simp; exact .mk) ?_ (by simp [oStt]))
   first | (simp [Tryz.f42, hr, oStt, zStt, ownR]; done) | (simp [Tryz.f42, hr, oStt, zStt, ownR, putAt, zerosB, List.map_set]; try exact ⟨rfl, rfl⟩)
 intro h51
 obtain ⟨p, hp⟩ : ∃ p, firstP s n = some p := Option.isSome_iff_exists.1 (by simpa using h51)
 have hr : putS s n = (putAt s k (newSlot (nth s.slots k).gen n p.1 p.2) (zerosB n), ((k : Int), (nth s.slots k).gen), 0) := by unfold putS; rw [if_pos hR2, hk]; simp only; rw [hp]
 obtain ⟨two, a⟩ := p
 have ht : takeT s.slots ⟨0, false, two, a, n⟩ = (s.slots.set k (newSlot (nth s.slots k).gen n two a), ((k : Int), (nth s.slots k).gen), 0) := put_take hR.1 hR.2 hk hp
 have c70 := ct110 g s.slots hs.h1 ⟨0, false, two, a, n⟩
 rw [ht] at c70
 rw [hp]
 have hkd : k < s.data.length := by have := rowsS_len (sttS_rowsS hR.1); omega
 have e1 : 0 ≤ n := by omega
 have e2 : n ≤ 140737488355328 := by omega
 refine W_skip ?_
 refine xT ?_
 refine xO ?_ (h := by simp [eSlot]; exact .mk)
 refine xC (ct24 g s hs) ?_ (hi := by simp [oStt]; exact .mk)
 refine xO ?_
 refine xO ?_ (h := by simp [splice]; exact .mk)
 refine xG [1,2,4,5,7,10,11,13] ?_
 refine xO ?_
 refine xO ?_ (h := by simp [eSlot]; exact .mk)
 iterate 3 refine xO ?_
 refine xO ?_ (h := by simp [splice]; exact .mk)
 refine xC (c70) ?_ (hi := by simp [oStt]; exact .mk)
 iterate 6 refine xO ?_
 refine xO ?_ (h := by simp [splice]; exact .mk)
 refine xO ?_
 refine xF [1,4,5,7,13,14,15,16] ?_
 refine W_seq (xU ?_)
 iterate 2 refine xO ?_
 refine xF [1,4,5,7,13,14,15,16,71] ?_
 refine W_cond rfl ?_ ?_
 · intro h71
   simp at h71
 intro h71
 refine W_skip ?_
 rintro -
 refine W_seq ?_
 refine W_regDSK (hard := []) [3,6,8] (keepOk_lt (by decide)) (by kernel_rfl) 4 [0,1,2,3,4,5,7,6,8,9,10] [[0,1,2,3,4,5,7,8,6,9,10], [0,1,2,4,5,7,6,3,8,9,10], [0,1,2,4,5,7,6,8,3,9,10], [0,1,2,4,5,7,8,3,6,9,10], [0,1,2,4,5,7,8,6,3,9,10]] (by decide +kernel) ?_
 refine xO ?_
 refine xO ?_ (h := by simp [eSlot]; exact .mk)
 refine xO ?_
 refine xO ?_ (h := by simp [eSlot]; exact .mk)
 iterate 3 refine xO ?_
 refine xO ?_ (h := by simp [e1, e2]; exact .mk)
 refine xO ?_ (h := by simp [splice]; exact .mk)
 refine xO ?_ (h := by simp [eSlot, hkd]; exact .mk)
 refine xO ?_ (h := by simp [splice, hkd, nrmL, nrm, putC]; exact .mk)
 refine xE [4,5,13,15] ?_
 refine ⟨_, rfl, ⟨?_, ?_, ?_, ?_, ?_, trivial⟩, ?_⟩
 · skip
   refine xO ?_
   refine xO ?_ (h := by simp [eSlot]; exact .mk)
   refine xO ?_
   refine xO ?_ (h := by simp [eSlot]; exact .mk)
   iterate 3 refine xO ?_
   refine xO ?_ (h := by simp [splice]; exact .mk)
   refine xO ?_ (h := by simp [e1, e2]; exact .mk)
   refine xO ?_ (h := by simp [eSlot, hkd]; exact .mk)
   refine xO ?_ (h := by simp [splice, hkd, nrmL, nrm, putC]; exact .mk)
   refine xE [4,5,13,15] ?_
   exact Weak.perm [0,1,2,3,4,5,6,7,8,9] [0,1,2,3,4,5,6,7,8,9] rfl rfl rfl
 · skip
   refine xO ?_
   refine xO ?_ (h := by simp [eSlot]; exact .mk)
   iterate 4 refine xO ?_
   refine xO ?_ (h := by simp [e1, e2]; exact .mk)
   refine xO ?_ (h := by simp [eSlot]; exact .mk)
   refine xO ?_ (h := by simp [splice]; exact .mk)
   refine xO ?_ (h := by simp [eSlot, hkd]; exact .mk)
   refine xO ?_ (h := by simp [splice, hkd, nrmL, nrm, putC]; exact .mk)
   refine xE [4,5,13,15] ?_
   exact Weak.perm [0,1,2,3,4,5,6,7,8,9] [0,1,2,3,4,5,6,7,8,9] rfl rfl rfl
 · skip
   refine xO ?_
   refine xO ?_ (h := by simp [eSlot]; exact .mk)
   iterate 4 refine xO ?_
   refine xO ?_ (h := by simp [e1, e2]; exact .mk)
   refine xO ?_ (h := by simp [splice]; exact .mk)
   refine xO ?_ (h := by simp [eSlot]; exact .mk)
   refine xO ?_ (h := by simp [eSlot, hkd]; exact .mk)
   refine xO ?_ (h := by simp [splice, hkd, nrmL, nrm, putC]; exact .mk)
   refine xE [4,5,13,15] ?_
   exact Weak.perm [0,1,2,3,4,5,6,7,8,9] [0,1,2,3,4,5,6,7,8,9] rfl rfl rfl
 · skip
   refine xO ?_
   refine xO ?_ (h := by simp [eSlot]; exact .mk)
   iterate 4 refine xO ?_
   refine xO ?_ (h := by simp [splice]; exact .mk)
   refine xO ?_ (h := by simp [eSlot]; exact .mk)
   refine xO ?_ (h := by simp [e1, e2]; exact .mk)
   refine xO ?_ (h := by simp [eSlot, hkd]; exact .mk)
   refine xO ?_ (h := by simp [splice, hkd, nrmL, nrm, putC]; exact .mk)
   refine xE [4,5,13,15] ?_
   exact Weak.perm [0,1,2,3,4,5,6,7,8,9] [0,1,2,3,4,5,6,7,8,9] rfl rfl rfl
 · skip
   refine xO ?_
   refine xO ?_ (h := by simp [eSlot]; exact .mk)
   iterate 4 refine xO ?_
   refine xO ?_ (h := by simp [splice]; exact .mk)
   refine xO ?_ (h := by simp [e1, e2]; exact .mk)
   refine xO ?_ (h := by simp [eSlot]; exact .mk)
   refine xO ?_ (h := by simp [eSlot, hkd]; exact .mk)
   refine xO ?_ (h := by simp [splice, hkd, nrmL, nrm, putC]; exact .mk)
   refine xE [4,5,13,15] ?_
   exact Weak.perm [0,1,2,3,4,5,6,7,8,9] [0,1,2,3,4,5,6,7,8,9] rfl rfl rfl
 rintro -
 refine W_seq ?_
 refine W_regDSK (hard := []) [1,2] (keepOk_lt (by decide)) (by kernel_rfl) 4 [0,1,2,3,4] [[0,2,1,3,4]] (by decide +kernel) ?_
 iterate 2 (refine xO ?_ (h := by simp [eSlot]; exact .mk))
 iterate 2 (refine xO ?_ (h := by simp [splice]; exact .mk))
 refine xO ?_
 refine xE [4,5,6] ?_
 refine ⟨_, rfl, ⟨?_, trivial⟩, ?_⟩
 · skip
   refine xO ?_ (h := by simp [eSlot]; exact .mk)
   refine xO ?_ (h := by simp [splice]; exact .mk)
   refine xO ?_ (h := by simp [eSlot]; exact .mk)
   refine xO ?_ (h := by simp [splice]; exact .mk)
   refine xO ?_
   refine xE [4,5,6] ?_
   exact Weak.perm [0,1,2,3,4,5,6,7,8,9] [0,1,2,3,4,5,6,7,8,9] rfl rfl rfl
 rintro -
 refine W_ret (end_ret (by simp [Tryz.f42]; exact .mk) (by simp; exact .mk) ?_ (by simp [oStt]))
 first | (simp [Tryz.f42, hr, oStt, zStt, ownR]; done) | (simp [Tryz.f42, hr, oStt, zStt, ownR, putAt, zerosB, List.map_set]; try exact ⟨rfl, rfl⟩)

open Go.Awp
open Go.Awp
theorem zStt_ok : zStt.Ok := ⟨by decide, by decide, by decide, fun i hi => absurd hi (Nat.not_lt_zero _), fun i hi => absurd hi (Nat.not_lt_zero _)⟩
theorem putAt_ok {s : Stt} {k : Nat} {y : Slot} {d : List UInt8} (h : s.Ok) (hd : d.length ≤ 2^40) : (putAt s k y d).Ok := by
 refine ⟨by simpa [putAt] using h.h1, h.h2, by simpa [putAt] using h.h3, fun i hi => ?_, h.h5⟩
 simp only [putAt, List.length_set] at hi ⊢
 by_cases hm : k < s.data.length
 · rw [nth_set2 hm]
   split
   · exact hd
   · exact h.h4 i hi
 · rw [List.set_eq_of_length_le (by omega)]
   exact h.h4 i hi
theorem putS_ok {s : Stt} {n : Int} (h : s.Ok) : (putS s n).1.Ok := by
 unfold putS
 split
 · rename_i hr
   simp only [Bool.and_eq_true] at hr
   have hn := sizedN_iff.1 hr.2
   cases nextS s.slots with
   | none => exact zStt_ok
   | some k => cases firstP s n with
    | none => exact zStt_ok
    | some p => exact putAt_ok h (by simp [zerosB]; omega)
 · exact zStt_ok
theorem moveS_ok {s : Stt} {k : Int} {two : Bool} {a : Int} (h : s.Ok) : (moveS s k two a).1.Ok := by
 unfold moveS
 split
 · split
   · exact layAt_ok h
   · exact zStt_ok
 · exact zStt_ok
def sh1 : Shape := ⟨1, 2, 2, 30⟩
def stO : Stt := firstStt sh1 1
def stA : Stt := (putS stO 16).1
def stB : Stt := (putS stA 16).1
def stC : Stt := (rszS stB 0 17).1
def stT : Stt := firstStt sh1 2
def stU : Stt := (putS stT 121).1
def otherOk (a b : Stt) (k : Int) (i : Nat) : Bool := decide ((i : Int) = k) || (sameSlot (nth a.slots i) (nth b.slots i) && (str (nth a.data i)).toList == (str (nth b.data i)).toList)
def othersS (a b : Stt) (k : Int) : Bool := decide (a.slots.length = b.slots.length) && (decide (a.data.length = b.data.length) && (a.mode == b.mode && (a.base == b.base && (sameShape a.sh b.sh && (List.range (min a.slots.length a.data.length)).all (otherOk a b k)))))
open Go.Awp
theorem moveS_cases {s : Stt} {k : Int} {two : Bool} {a : Int} (he : (moveS s k two a).2 = 0) : ∃ m : Nat, k = m ∧ liveS s m = true ∧ m < s.slots.length ∧ (nth s.slots m).live = true ∧ m < s.data.length ∧ moveS s k two a = (layAt s m two a, 0) ∧ sttS (layAt s m two a) = true := by
 unfold moveS at he ⊢
 split at he
 · rename_i hr
   obtain ⟨m, rfl, h1, h2, h3, _⟩ := liveS_nat hr
   rw [if_pos hr]
   simp only [Int.toNat_natCast] at he ⊢
   split at he
   · rename_i hq
     rw [if_pos hq]
     exact ⟨m, rfl, hr, h1, h2, h3, rfl, hq⟩
   · cases he
 · cases he
open Go.Awp
open Go.Awp
theorem ct21 (g : Gl) (s : Stt) (hs : s.Ok) : CtAt Tryz.prog g 21 [eStt s] (oStt s) := by
 refine ctAt_of_W Tryz.func21 rfl rfl (Nat.le_of_ble_eq_true rfl) fun B S => ?_
 simp only [eStt, List.map, argD_agg, argD_v]
 have q0 := hs.h1
 have q1 := hs.h2
 have q3 := hs.h3
 have e1 : s.slots.length * 32 ≤ 140737488355328 := by omega
 have e2 : s.slots.length ≤ 140737488355328 := by omega
 have e3 : s.roots.length * 32 ≤ 140737488355328 := by omega
 have e4 : s.roots.length ≤ 140737488355328 := by omega
 refine xU ?_
 iterate 2 refine xO ?_
 refine xG [1,2] ?_
 refine xO ?_ (h := by simp [eSlot]; exact .mk)
 refine xO ?_
 refine xO ?_ (h := by simp [splice]; exact .mk)
 refine xG [1,2,3] ?_
 iterate 2 refine xO ?_
 refine xO ?_ (h := by simp [eSlot]; exact .mk)
 refine xO ?_ (h := by simp [rows, e1, e2]; exact .mk)
 refine xO ?_
 refine xO ?_ (h := by simp [splice]; exact .mk)
 refine xG [1,2,3] ?_
 iterate 2 refine xO ?_
 refine xO ?_ (h := by simp [eSlot]; exact .mk)
 refine xO ?_ (h := by simp [rows, e3, e4]; exact .mk)
 refine xO ?_
 refine xO ?_ (h := by simp [splice]; exact .mk)
 refine xG [1,2,3] ?_
 refine xO ?_
 refine xO ?_ (h := by simp [splice]; exact .mk)
 refine xF [1,2,3] ?_
 refine W_seq (xU ?_)
 refine xO ?_
 refine xF [1,2,3,4] ?_
 refine W_block (W_rounds (fun m σ o => ∃ i : Nat, m = s.data.length - i ∧ i ≤ s.data.length ∧ σ = slots [(1, .ptr 0 0 0), (2, .ptr 1 0 0), (3, .ptr 2 0 0), (4, .d (vI i))] ∧ o = [.var 28 [.d (vI s.sh.pages), .d (vI s.sh.slots), .d (vI s.sh.roots), .d (vI s.sh.room), .d (vI s.mode), .d (vI s.base), .d (rSl s.slots), .d (rR s.roots), .d (rBB s.data)], .var 28 [.d (vI 0), .d (vI 0), .d (vI 0), .d (vI 0), .d (vI 0), .d (vI 0), .d (.v (.slice none 0 0)), .d (.v (.slice none 0 0)), .d (.v (.slice none 0 0))], .var 28 [.d (vI s.sh.pages), .d (vI s.sh.slots), .d (vI s.sh.roots), .d (vI s.sh.room), .d (vI s.mode), .d (vI s.base), .hdr 4 0 s.slots.length, .hdr 6 0 s.roots.length, .hdr 7 0 i], .dead, .row 5 (s.slots.map eSlot), .dead, .row 3 (s.roots.map eRoot), .row 1 ((s.data.take i).map oB)]) s.data.length (Weak.nilCell 2 8 1 rfl rfl) ⟨0, by simp, by simp, rfl, rfl⟩ ?_)
 rintro m σ o ⟨i, rfl, hi, rfl, rfl⟩ _
 refine W_seq (xU ?_)
 iterate 2 refine xO ?_
 refine xO ?_ (h := by simp [eSlot]; exact .mk)
 iterate 2 refine xO ?_
 refine xF [1,2,3,4,21] ?_
 refine W_cond rfl ?_ ?_
 · intro h21
   have hi2 : i < s.data.length := by simpa using h21
   have hb := hs.h4 i hi2
   have f1 : (nth s.data i).length ≤ 140737488355328 := by omega
   have f2 : (i + 1) * 24 ≤ 140737488355328 := by omega
   have f3 : i ≤ 140737488355327 := by omega
   have f5 : (D.row M.own 1 ((nth s.data i).map vB)).noOwn = false := by first | rfl | simp [noOwn_row]
   have f4 : min i s.data.length = i := by omega
   refine W_skip ?_
   rintro -
   refine W_seq (W_block ?_)
   refine W_regDT (hard := []) [1,2,8,9] (keepOk_lt (by decide)) (by kernel_rfl) 4 [[0,1,3,4,5,6,7,2,8,9,10,11,12], [0,3,4,5,6,7,2,1,8,9,10,11,12], [0,3,4,5,6,7,2,8,1,9,10,11,12], [0,3,4,5,6,7,2,8,9,1,10,11,12]] (by decide +kernel) ⟨?_, ?_, ?_, ?_, trivial⟩
   · skip
     refine xO ?_
     refine xO ?_ (h := by simp [eSlot]; exact .mk)
     refine xO ?_
     refine xO ?_ (h := by simp [eSlot]; exact .mk)
     refine xO ?_
     refine xO ?_ (h := by simp [eSlot, hi2]; exact .mk)
     refine xO ?_ (h := by simp [-List.getElem?_map, map_get hi2]; exact .mk)
     refine xO ?_
     refine xO ?_ (h := by simp [rows, f1]; exact .mk)
     refine xO ?_
     refine xO ?_ (h := by simp [rows, f5, f2, f3, f4]; exact .mk)
     refine xO ?_
     refine xO ?_ (h := by simp [splice]; exact .mk)
     refine xF [1,2,3,4] ?_
     refine W_reg rfl ?_
     iterate 3 refine xO ?_
     refine xE [1,2,3,4] ?_
     refine rounds_kill [1,2,3,4] ?_
     refine rounds_kills [1,2,3,4] rfl ?_
     refine rounds_swap 7 11 1 (by decide) (by simp) (by decide) rfl rfl ?_
     refine rounds_drop 8 [1,2,3,4] (by decide) (by rfl) (by rfl) ?_
     refine rounds_next (m' := s.data.length - (i+1)) (by omega) ⟨i+1, rfl, by omega, ?_, ?_⟩
     · rw [wrap64 (by omega) (by omega)]; rfl
     rw [take_succ hi2]; simp; try rfl
   · skip
     iterate 2 refine xO ?_
     refine xO ?_ (h := by simp [eSlot]; exact .mk)
     refine xO ?_
     refine xO ?_ (h := by simp [eSlot, hi2]; exact .mk)
     refine xO ?_ (h := by simp [-List.getElem?_map, map_get hi2]; exact .mk)
     refine xO ?_
     refine xO ?_ (h := by simp [eSlot]; exact .mk)
     refine xO ?_ (h := by simp [rows, f1]; exact .mk)
     refine xO ?_
     refine xO ?_ (h := by simp [rows, f5, f2, f3, f4]; exact .mk)
     refine xO ?_
     refine xO ?_ (h := by simp [splice]; exact .mk)
     refine xF [1,2,3,4] ?_
     refine W_reg rfl ?_
     iterate 3 refine xO ?_
     refine xE [1,2,3,4] ?_
     refine rounds_kill [1,2,3,4] ?_
     refine rounds_kills [1,2,3,4] rfl ?_
     refine rounds_swap 7 11 1 (by decide) (by simp) (by decide) rfl rfl ?_
     refine rounds_drop 8 [1,2,3,4] (by decide) (by rfl) (by rfl) ?_
     refine rounds_next (m' := s.data.length - (i+1)) (by omega) ⟨i+1, rfl, by omega, ?_, ?_⟩
     · rw [wrap64 (by omega) (by omega)]; rfl
     rw [take_succ hi2]; simp; try rfl
   · skip
     iterate 2 refine xO ?_
     refine xO ?_ (h := by simp [eSlot]; exact .mk)
     refine xO ?_
     refine xO ?_ (h := by simp [eSlot, hi2]; exact .mk)
     refine xO ?_ (h := by simp [-List.getElem?_map, map_get hi2]; exact .mk)
     refine xO ?_
     refine xO ?_ (h := by simp [rows, f1]; exact .mk)
     refine xO ?_ (h := by simp [eSlot]; exact .mk)
     refine xO ?_
     refine xO ?_ (h := by simp [rows, f5, f2, f3, f4]; exact .mk)
     refine xO ?_
     refine xO ?_ (h := by simp [splice]; exact .mk)
     refine xF [1,2,3,4] ?_
     refine W_reg rfl ?_
     iterate 3 refine xO ?_
     refine xE [1,2,3,4] ?_
     refine rounds_kill [1,2,3,4] ?_
     refine rounds_kills [1,2,3,4] rfl ?_
     refine rounds_swap 7 11 1 (by decide) (by simp) (by decide) rfl rfl ?_
     refine rounds_drop 8 [1,2,3,4] (by decide) (by rfl) (by rfl) ?_
     refine rounds_next (m' := s.data.length - (i+1)) (by omega) ⟨i+1, rfl, by omega, ?_, ?_⟩
     · rw [wrap64 (by omega) (by omega)]; rfl
     rw [take_succ hi2]; simp; try rfl
   skip
   iterate 2 refine xO ?_
   refine xO ?_ (h := by simp [eSlot]; exact .mk)
   refine xO ?_
   refine xO ?_ (h := by simp [eSlot, hi2]; exact .mk)
   refine xO ?_ (h := by simp [-List.getElem?_map, map_get hi2]; exact .mk)
   refine xO ?_
   refine xO ?_ (h := by simp [rows, f1]; exact .mk)
   refine xO ?_
   refine xO ?_ (h := by simp [eSlot]; exact .mk)
   refine xO ?_ (h := by simp [rows, f5, f2, f3, f4]; exact .mk)
   refine xO ?_
   refine xO ?_ (h := by simp [splice]; exact .mk)
   refine xF [1,2,3,4] ?_
   refine W_reg rfl ?_
   iterate 3 refine xO ?_
   refine xE [1,2,3,4] ?_
   refine rounds_kill [1,2,3,4] ?_
   refine rounds_kills [1,2,3,4] rfl ?_
   refine rounds_swap 7 11 1 (by decide) (by simp) (by decide) rfl rfl ?_
   refine rounds_drop 8 [1,2,3,4] (by decide) (by rfl) (by rfl) ?_
   refine rounds_next (m' := s.data.length - (i+1)) (by omega) ⟨i+1, rfl, by omega, ?_, ?_⟩
   · rw [wrap64 (by omega) (by omega)]; rfl
   rw [take_succ hi2]; simp; try rfl
 intro h21
 obtain rfl : i = s.data.length := by simp at h21; omega
 rw [show List.take s.data.length (s.data.map oB) = s.data.map oB by rw [List.take_of_length_le (by simp)]]
 refine W_exit (xT ?_)
 refine xO ?_ (h := by simp [eSlot]; exact .mk)
 refine xO ?_ (h := by simp [splice]; exact .mk)
 refine xF [2] ?_
 refine W_ret (end_ret (by simp [Tryz.f21]; exact .mk) (by simp; exact .mk) ?_ (by simp [oStt]))
 simp [Tryz.f21, oStt, ownR]

open Go.Awp
open Go.Awp
def turnS (s : Stt) (mode step : Int) : Stt := { s with mode := mode, base := s.base + step }
def clipG (fr : Int) (g : Int × Int) : Int × Int := if 0 < fr - g.1 then (fr, g.2 - (fr - g.1)) else g
def clipS (fr : Int) (l : List (Int × Int)) : List (Int × Int) := (l.map (clipG fr)).filter fun g => decide (0 < g.2)
def gapsOf (s : Stt) : List (Int × Int) := gapsF (s.sh.pages * 32) (s.base * 32) (spansS s.slots)
def behindS (s : Stt) (fr size : Int) : Option Int := (bestS (clipS fr (gapsOf s)) size).map (·.1)
def lenAt (s : Stt) (k : Int) : Int := (nth s.slots k.toNat).len
def upStep (s : Stt) : Stt × Int :=
 if s.base = s.sh.pages then (turnS s 2 0, 0)
 else if onesS s.slots = [] ∨ (s.base + 1) * 32 ≤ (nth (onesS s.slots) 0).at_ then (turnS s s.mode 1, 0)
 else match roomS s true (lenAt s (nth (onesS s.slots) 0).slot) with
  | some a => moveS s (nth (onesS s.slots) 0).slot true a
  | none => match behindS s ((s.base + 1) * 32) (nth (onesS s.slots) 0).len with
   | some a => moveS s (nth (onesS s.slots) 0).slot false a
   | none => (zStt, 10)
def coverB (pages : Int) (page : Int) (o : Int × Int) : Bool := decide ((spotS pages o).1.page ≤ page) && decide (page - (spotS pages o).1.page < (spotS pages o).1.count)
def matesS (pages : Int) (l : List (Int × Int)) (page : Int) : List Nat := (List.range l.length).filter fun i => coverB pages page (nth l i)
def leastS (l : List (Int × Int)) : List Nat → Nat
 | [] => 0
 | i :: t => t.foldl (fun m j => if (nth l j).1 < (nth l m).1 then j else m) i
def restS (l : List (Int × Int)) (ms : List Nat) : List (Int × Int) := ((List.range l.length).filter fun i => !ms.contains i).map (nth l)
def downStep (s : Stt) : Stt × Int :=
 if s.base = 0 then (turnS s 1 0, 0)
 else if matesS s.base (twosO s.slots) (s.base - 1) = [] then (turnS s s.mode (-1), 0)
 else match roomS s false (nth (twosO s.slots) (leastS (twosO s.slots) (matesS s.base (twosO s.slots) (s.base - 1)))).2 with
  | some a => moveS s (nth (twosI s.slots) (leastS (twosO s.slots) (matesS s.base (twosO s.slots) (s.base - 1)))) false a
  | none => match placeS (s.base - 1) (restS (twosO s.slots) (matesS s.base (twosO s.slots) (s.base - 1))) (nth (twosO s.slots) (leastS (twosO s.slots) (matesS s.base (twosO s.slots) (s.base - 1)))).2 with
   | some a => moveS s (nth (twosI s.slots) (leastS (twosO s.slots) (matesS s.base (twosO s.slots) (s.base - 1)))) true a
   | none => (zStt, 10)
def stepS (s : Stt) : Stt × Int := if sttS s = true then (if s.mode = 3 then upStep s else if s.mode = 4 then downStep s else (zStt, 12)) else (zStt, 1)
def frontB (s : Stt) (x : Slot) : Bool := isOne x && decide (x.at_ < (s.base + 1) * 32)
def frontN (s : Stt) : Nat := ((List.range s.slots.length).filter fun i => frontB s (nth s.slots i)).length
def leftU (s : Stt) : Nat := if s.base = s.sh.pages then 1 else 9 * (s.sh.pages - s.base - 1).toNat + frontN s + 2
theorem ones_nil {l : List Slot} (h : onesS l = []) : ∀ i, i < l.length → isOne (nth l i) = false := by
 have h2 : onesR l = [] := by
  have := (stS_perm (lt := ltB) (onesR l)).length_eq
  rw [← onesS, h] at this
  exact List.length_eq_zero_iff.1 this.symm
 intro i hi
 cases hx : isOne (nth l i) with
 | false => rfl
 | true =>
  exfalso
  have hm : blkAt l i ∈ onesR l := by
   rw [onesR]; exact List.mem_map_of_mem (by simp only [oneIx, List.mem_filter, List.mem_range]; exact ⟨hi, hx⟩)
  rw [h2] at hm; cases hm
theorem ones_first {l : List Slot} (h : onesS l ≠ []) : ∀ i, i < l.length → isOne (nth l i) = true → (nth (onesS l) 0).at_ ≤ (nth l i).at_ := by
 intro i hi hx
 have hm : blkAt l i ∈ onesS l := (stS_perm (lt := ltB) _).mem_iff.2 (by
   rw [onesR]; exact List.mem_map_of_mem (by simp only [oneIx, List.mem_filter, List.mem_range]; exact ⟨hi, hx⟩))
 cases hl : onesS l with
 | nil => exact absurd hl h
 | cons b t =>
  rw [hl] at hm
  show b.at_ ≤ (nth l i).at_
  rcases List.mem_cons.1 hm with e | hm
  · rw [← e]; exact Int.le_refl _
  · have hs := onesS_sorted (l := l)
    rw [hl] at hs
    have := (List.pairwise_cons.1 hs).1 _ hm
    unfold beforeB at this
    show b.at_ ≤ (blkAt l i).at_
    omega
theorem ones_head {l : List Slot} (h : onesS l ≠ []) : ∃ k : Nat, k < l.length ∧ isOne (nth l k) = true ∧ nth (onesS l) 0 = blkAt l k := by
 have h0 : 0 < (onesS l).length := by cases hl : onesS l with
  | nil => exact absurd hl h
  | cons => simp
 exact onesS_mem (nth_mem h0)
theorem spot_page {p q : Int} (o : Int × Int) : (spotS p o).1 = (spotS q o).1 := by
 unfold spotS
 split
 · rfl
 · split <;> rfl
theorem spot_more {p q : Int} {o : Int × Int} (h : (spotS p o).2 = true) (hpq : (spotS p o).1.page + (spotS p o).1.count ≤ q) : (spotS q o).2 = true := by
 unfold spotS at h hpq ⊢
 split
 · rename_i h0; rw [if_pos h0] at h; cases h
 · rename_i h0
   rw [if_neg h0] at h hpq
   split
   · rename_i hc
     rw [if_pos hc] at h hpq
     simp only [Bool.and_eq_true, decide_eq_true_eq] at h ⊢
     simp only at hpq
     exact ⟨h.1, by omega⟩
   · rename_i hc
     rw [if_neg hc] at h hpq
     simp only [Bool.and_eq_true, decide_eq_true_eq] at h ⊢
     simp only at hpq
     have := pagesS_b h.1.1.1
     exact ⟨⟨h.1.1, by omega⟩, by omega⟩
theorem turn_right {s : Stt} {mode step : Int} (h : sttS s = true) (hb : superS s.sh mode (s.base + step) = true) (hf : ∀ i, i < s.slots.length → (nth s.slots i).live = true → fitsS (turnS s mode step) (nth s.slots i) ∧ modeP mode (nth s.slots i)) : sttS (turnS s mode step) = true := by
 obtain ⟨h1, h2, h3, h4⟩ := sttS_iff.1 h
 refine sttS_iff.2 ⟨hb, h2, hf, fun i j hij hj l1 l2 => ?_⟩
 have := h4 i j hij hj l1 l2
 refine ⟨fun t1 t2 => ?_, this.2⟩
 have := this.1 t1 t2
 rw [spot_page (p := s.base) (q := s.base + step), spot_page (p := s.base) (q := s.base + step)] at this
 exact this
theorem super_with {sh : Shape} {mode base mode' base' : Int} (h : superS sh mode base = true) (hb : 0 ≤ base' ∧ base' ≤ sh.pages) (hm : (mode' = 1 ∧ base' = 0) ∨ (mode' = 2 ∧ base' = sh.pages) ∨ mode' = 3 ∨ mode' = 4) : superS sh mode' base' = true := by
 simp only [superS, Bool.and_eq_true] at h ⊢
 refine ⟨⟨h.1.1, by simpa using hb⟩, ?_⟩
 rcases hm with ⟨rfl, rfl⟩ | ⟨rfl, rfl⟩ | rfl | rfl <;> simp
theorem up_last {s : Stt} (h : sttS s = true) (hb : s.base = s.sh.pages) : sttS (turnS s 2 0) = true := by
 have hsu := sttS_super h
 have hsb := superS_b hsu
 have two : ∀ i, i < s.slots.length → (nth s.slots i).live = true → (nth s.slots i).two = true := fun i hi hl => by
  cases ht : (nth s.slots i).two with
  | true => rfl
  | false =>
   exfalso
   have hf := ((sttS_iff.1 h).2.2.1 i hi hl).1
   unfold fitsS at hf
   rw [if_neg (by simp [ht])] at hf
   have hx := slotS1_live (tableS_slot (sttS_rows h) i hi) hl
   have := needS_pos hx.2.2
   omega
 refine turn_right h (super_with hsu (by omega) (.inr (.inl ⟨rfl, by omega⟩))) fun i hi hl => ⟨?_, ?_⟩
 · have hf := ((sttS_iff.1 h).2.2.1 i hi hl).1
   unfold fitsS at hf ⊢
   rw [if_pos (two i hi hl)] at hf ⊢
   show (spotS (s.base + 0) _).2 = true
   rw [Int.add_zero]; exact hf
 · exact ⟨fun e => by omega, fun _ => two i hi hl⟩
theorem up_turn {s : Stt} (h : sttS s = true) (hm : s.mode = 3) (hb : s.base ≠ s.sh.pages) (hc : onesS s.slots = [] ∨ (s.base + 1) * 32 ≤ (nth (onesS s.slots) 0).at_) : sttS (turnS s s.mode 1) = true := by
 have hsu := sttS_super h
 have hsb := superS_b hsu
 refine turn_right h (super_with hsu (by omega) (.inr (.inr (.inl hm)))) fun i hi hl => ⟨?_, ⟨fun e => by omega, fun e => by omega⟩⟩
 have hf := ((sttS_iff.1 h).2.2.1 i hi hl).1
 unfold fitsS at hf ⊢
 cases ht : (nth s.slots i).two with
 | true =>
  rw [if_pos ht] at hf
  rw [if_pos rfl]
  have g := (spot_words hf).good
  exact spot_more hf (by have := g.p1; show _ ≤ s.base + 1; omega)
 | false =>
  rw [if_neg (by simp [ht])] at hf
  rw [if_neg (by simp)]
  have hone : isOne (nth s.slots i) = true := by simp [isOne, hl, ht]
  refine ⟨?_, hf.2.1, hf.2.2⟩
  rcases hc with hc | hc
  · rw [ones_nil hc i hi] at hone; cases hone
  · by_cases hn : onesS s.slots = []
    · rw [ones_nil hn i hi] at hone; cases hone
    · have := ones_first hn i hi hone
      show (s.base + 1) * 32 ≤ _
      omega
open Go.Awp
/- The document's answers, in plain Lean: blocks in order, rows of free pages. -/
def insR : List Blk → Blk → List Blk
 | [], b => [b]
 | x :: l, b => if b.at_ < x.at_ then b :: x :: l else x :: insR l b
theorem insR_at {b : Blk} : ∀ {l : List Blk} {k : Nat}, k ≤ l.length → (∀ j, j < k → (nth l j).at_ ≤ b.at_) → (k < l.length → b.at_ < (nth l k).at_) → insR l b = l.take k ++ b :: l.drop k
 | [], k, h, _, _ => by
  obtain rfl : k = 0 := by simpa using h
  rfl
 | x :: l, 0, _, _, h2 => by
  have := h2 (by simp)
  unfold insR; rw [if_pos (by simpa [nth] using this)]; rfl
 | x :: l, k + 1, h, h1, h2 => by
  have h0 := h1 0 (by omega)
  unfold insR; rw [if_neg (by have : x.at_ ≤ b.at_ := by simpa [nth] using h0
                              omega)]
  rw [insR_at (l := l) (k := k) (by simpa using h) (fun j hj => by have := h1 (j + 1) (by omega); simpa [nth] using this) (fun hk => by have := h2 (by simpa using hk); simpa [nth] using this)]
  rfl
theorem insR_perm {b : Blk} : ∀ {l : List Blk}, (insR l b).Perm (b :: l)
 | [] => .refl _
 | x :: l => by
  unfold insR; split
  · exact .refl _
  · exact (List.Perm.cons x (insR_perm (l := l))).trans (List.Perm.swap b x l)
theorem insR_sorted {b : Blk} : ∀ {l : List Blk}, l.Pairwise beforeB → (∀ y ∈ l, y.slot < b.slot) → (insR l b).Pairwise beforeB
 | [], _, _ => by simp [insR]
 | x :: l, h, h2 => by
  rw [List.pairwise_cons] at h
  unfold insR; split
  · rename_i hx
    rw [List.pairwise_cons]
    refine ⟨fun y hy => ?_, List.pairwise_cons.2 h⟩
    rcases List.mem_cons.1 hy with rfl | hy
    · exact .inl hx
    · have := h.1 y hy; unfold beforeB at *; omega
  · rename_i hx
    rw [List.pairwise_cons]
    refine ⟨fun y hy => ?_, insR_sorted h.2 fun y hy => h2 y (by simp [hy])⟩
    rcases List.mem_cons.1 (insR_perm.mem_iff.1 hy) with rfl | hy
    · have := h2 x (by simp); unfold beforeB; omega
    · exact h.1 y hy
theorem before_uniq : ∀ {l m : List Blk}, l.Perm m → l.Pairwise beforeB → m.Pairwise beforeB → l = m
 | [], m, h, _, _ => (List.nil_perm.1 h).symm
 | a :: l, [], h, _, _ => by simpa using h.length_eq
 | a :: l, b :: m, h, h1, h2 => by
  rw [List.pairwise_cons] at h1 h2
  by_cases e : a = b
  · subst e; rw [before_uniq (List.Perm.cons_inv h) h1.2 h2.2]
  · exfalso
    have q1 : a ∈ m := (List.mem_cons.1 (h.mem_iff.1 (by simp))).resolve_left e
    have q2 : b ∈ l := (List.mem_cons.1 (h.mem_iff.2 (by simp))).resolve_left fun q => e q.symm
    have := h1.1 b q2; have := h2.1 a q1
    unfold beforeB at *; omega
def insI (l : List Slot) : Nat → List Blk
 | 0 => []
 | i + 1 => if isOne (nth l i) = true then insR (insI l i) (blkAt l i) else insI l i
theorem insI_perm {l : List Slot} : ∀ {i : Nat}, (insI l i).Perm ((oneIx l i).map (blkAt l))
 | 0 => .refl _
 | i + 1 => by
  unfold insI; split
  · rename_i h
    rw [oneIx_t h, List.map_append]
    exact insR_perm.trans ((List.Perm.cons _ insI_perm).trans (List.perm_append_comm (l₁ := [blkAt l i])))
  · rename_i h; rw [oneIx_f (by simpa using h)]; exact insI_perm
theorem insI_slot {l : List Slot} {i : Nat} : ∀ b ∈ insI l i, b.slot < (i : Int) := fun b hb => by
 have := insI_perm.mem_iff.1 hb
 simp only [List.mem_map] at this
 obtain ⟨k, hk, rfl⟩ := this
 have := (oneIx_mem hk).1
 show (k : Int) < i; omega
theorem insI_sorted {l : List Slot} : ∀ {i : Nat}, (insI l i).Pairwise beforeB
 | 0 => List.Pairwise.nil
 | i + 1 => by
  unfold insI; split
  · exact insR_sorted insI_sorted fun y hy => insI_slot y hy
  · exact insI_sorted
theorem insI_len {l : List Slot} {i : Nat} : (insI l i).length ≤ i := by
 rw [insI_perm.length_eq, List.length_map]; exact oneIx_len
theorem insI_onesS {l : List Slot} : insI l l.length = onesS l := before_uniq (insI_perm.trans (stS_perm _).symm) insI_sorted onesS_sorted
theorem runsI_skip {ks : List Int} {i : Nat} (h : nth ks i ≠ -1) : runsI ks (i + 1) = ((runsI ks i).1, false) := by
 conv => lhs; unfold runsI
 rw [if_neg h]
theorem runsI_free {ks : List Int} {i : Nat} (hf : (runsI ks i).2 = false) : ∀ {n : Nat}, (∀ t, t < n + 1 → nth ks (i + t) = -1) → runsI ks (i + (n + 1)) = ((runsI ks i).1 ++ [((i : Int), ((n + 1 : Nat) : Int))], true)
 | 0, h => by
  show runsI ks (i + 1) = _
  conv => lhs; unfold runsI
  rw [if_pos (by simpa using h 0 (by omega)), if_neg (by simp [hf])]; rfl
 | n + 1, h => by
  have ih := runsI_free hf (n := n) fun t ht => h t (by omega)
  show runsI ks ((i + (n + 1)) + 1) = _
  conv => lhs; unfold runsI
  rw [if_pos (h (n + 1) (by omega)), ih]
  simp only [if_true]
  rw [bumpR_last]; rfl
def gapsR (fr to : Int) (l : List (Int × Int)) : List (Int × Int) × Int := if gapsS fr to l = true then (gapsF to fr l, 0) else ([], 1)
open Go.Awp
theorem ct233 (g : Gl) : CtAt Tryz.prog g 233 [vI 64] (vI 13) := by
 refine ctAt_of_W Tryz.func233 rfl rfl (Nat.le_of_ble_eq_true rfl) fun B S => ?_
 refine xU ?_
 refine xO ?_
 refine xF [0] ?_
 refine W_seq (xU ?_)
 iterate 2 refine xO ?_
 refine xF [0,5] ?_
 refine W_cond rfl ?_ ?_
 · intro h5
   simp at h5
 intro h5
 refine W_skip ?_
 refine xT ?_
 iterate 7 refine xO ?_
 refine xG [0] ?_
 iterate 3 refine xO ?_
 refine xG [0] ?_
 iterate 2 refine xO ?_
 refine xF [0,3] ?_
 refine W_seq (W_block ?_)
 refine W_rounds (fun m σ o => ((m = 3 ∧ σ = slots [(0, .d (vI 10)), (3, .d (vI 10))]) ∨ (m = 2 ∧ σ = slots [(0, .d (vI 2)), (3, .d (vI 12))]) ∨ (m = 1 ∧ σ = slots [(0, .d (vI 1)), (3, .d (vI 13))])) ∧ o = []) 3 .refl ⟨.inl ⟨rfl, rfl⟩, rfl⟩ ?_
 rintro m σ o ⟨⟨rfl, rfl⟩ | ⟨rfl, rfl⟩ | ⟨rfl, rfl⟩, rfl⟩ _
 · skip
   skip
   refine W_seq (xU ?_)
   iterate 2 refine xO ?_
   refine xF [0,3,16] ?_
   refine W_cond rfl ?_ ?_
   · intro h16
     refine W_skip ?_
     rintro -
     refine W_block (xU ?_)
     iterate 7 refine xO ?_
     refine xF [0,3] ?_
     refine W_reg rfl ?_
     iterate 4 refine xO ?_
     refine xE [0,3] ?_
     refine rounds_kill [0,3] ?_
     exact rounds_next (m' := 2) (by omega) ⟨.inr (.inl ⟨rfl, rfl⟩), rfl⟩
   intro h16
   simp at h16
 · skip
   skip
   refine W_seq (xU ?_)
   iterate 2 refine xO ?_
   refine xF [0,3,16] ?_
   refine W_cond rfl ?_ ?_
   · intro h16
     refine W_skip ?_
     rintro -
     refine W_block (xU ?_)
     iterate 7 refine xO ?_
     refine xF [0,3] ?_
     refine W_reg rfl ?_
     iterate 4 refine xO ?_
     refine xE [0,3] ?_
     refine rounds_kill [0,3] ?_
     exact rounds_next (m' := 1) (by omega) ⟨.inr (.inr ⟨rfl, rfl⟩), rfl⟩
   intro h16
   simp at h16
 skip
 skip
 refine W_seq (xU ?_)
 iterate 2 refine xO ?_
 refine xF [0,3,16] ?_
 refine W_cond rfl ?_ ?_
 · intro h16
   simp at h16
 intro h16
 refine W_exit (xT ?_)
 iterate 2 refine xO ?_
 refine xF [2] ?_
 refine W_ret (xR (by simp [Tryz.f233]; exact .mk) ?_)
 simp [Tryz.f233]

theorem ct202 (g : Gl) (s : Shape) (hs : sizedSh s = true) : CtAt Tryz.prog g 202 [eShape s] (.agg [vI 1, vI 2, vI s.room, vI (headsS s), vI (tableA s), vI (rootsA s), vI (treeA s), vI (heapA s), vI (linesA s)]) := by
 refine ctAt_of_W Tryz.func202 rfl rfl (Nat.le_of_ble_eq_true rfl) fun B S => ?_
 simp only [eShape, List.map, argD_agg]
 have hb : 1 ≤ s.pages ∧ s.pages ≤ 64 ∧ 1 ≤ s.room ∧ s.room ≤ 4096 ∧ 2 ≤ s.slots ∧ s.slots ≤ 32 ∧ 2 ≤ s.roots ∧ s.roots ≤ 8 := by simp [sizedSh] at hs; omega
 have d1 : 0 ≤ s.slots.tdiv 2 ∧ s.slots.tdiv 2 ≤ 16 := by rw [Int.tdiv_eq_ediv_of_nonneg (by omega)]; omega
 have d2 : 0 ≤ s.roots.tdiv 2 ∧ s.roots.tdiv 2 ≤ 4 := by rw [Int.tdiv_eq_ediv_of_nonneg (by omega)]; omega
 have q1 : headsS s = 2 + s.room * 2 := rfl
 have q2 : tableA s = headsS s + 1 := rfl
 have q3 : rootsA s = tableA s + s.slots.tdiv 2 := rfl
 have q4 : treeA s = rootsA s + s.roots.tdiv 2 := rfl
 have q5 : heapA s = treeA s + 26 := rfl
 have q6 : linesA s = heapA s + s.pages * 4 := rfl
 have e1 : IntKind.i64.wrap (2 * s.room) = 2 * s.room := wrap64 (by omega) (by omega)
 have e2 : IntKind.i64.wrap (2 + 2 * s.room) = headsS s := (wrap64 (by omega) (by omega)).trans (by omega)
 have e3 : IntKind.i64.wrap (headsS s + 1) = tableA s := (wrap64 (by omega) (by omega)).trans (by omega)
 have e4 : IntKind.i64.wrap (s.slots.tdiv 2) = s.slots.tdiv 2 := wrap64 (by omega) (by omega)
 have e5 : IntKind.i64.wrap (tableA s + s.slots.tdiv 2) = rootsA s := (wrap64 (by omega) (by omega)).trans (by omega)
 have e6 : IntKind.i64.wrap (s.roots.tdiv 2) = s.roots.tdiv 2 := wrap64 (by omega) (by omega)
 have e7 : IntKind.i64.wrap (rootsA s + s.roots.tdiv 2) = treeA s := (wrap64 (by omega) (by omega)).trans (by omega)
 have e8 : IntKind.i64.wrap 26 = 26 := rfl
 have e9 : IntKind.i64.wrap (treeA s + 26) = heapA s := (wrap64 (by omega) (by omega)).trans (by omega)
 have e10 : IntKind.i64.wrap (4 * s.pages) = 4 * s.pages := wrap64 (by omega) (by omega)
 have e11 : IntKind.i64.wrap (heapA s + 4 * s.pages) = linesA s := (wrap64 (by omega) (by omega)).trans (by omega)
 refine xU ?_
 iterate 2 refine xO ?_
 refine xG [1,2] ?_
 iterate 2 refine xO ?_
 iterate 2 (refine xO ?_ (h := by simp [splice]; exact .mk))
 refine xO ?_
 refine xO ?_ (h := by simp [splice]; exact .mk)
 refine xG [1,2,3] ?_
 iterate 2 refine xO ?_
 refine xO ?_ (h := by simp [e1]; exact .mk)
 refine xO ?_ (h := by simp [e2]; exact .mk)
 refine xO ?_
 refine xO ?_ (h := by simp [splice]; exact .mk)
 refine xG [1,2,3] ?_
 iterate 2 refine xO ?_
 refine xO ?_ (h := by simp [e3]; exact .mk)
 refine xO ?_
 refine xO ?_ (h := by simp [splice]; exact .mk)
 refine xG [1,2,3] ?_
 iterate 4 refine xO ?_
 refine xO ?_ (h := by simp [e4]; exact .mk)
 refine xO ?_ (h := by simp [e5]; exact .mk)
 refine xO ?_
 refine xO ?_ (h := by simp [splice]; exact .mk)
 refine xG [1,2,3] ?_
 iterate 4 refine xO ?_
 refine xO ?_ (h := by simp [e6]; exact .mk)
 refine xO ?_ (h := by simp [e7]; exact .mk)
 refine xO ?_
 refine xO ?_ (h := by simp [splice]; exact .mk)
 refine xF [1,2,3] ?_
 refine W_seq ?_
 refine W_regD (by kernel_rfl) [] 4 [0,1,2,3,4,5,6] (by decide +kernel) ?_
 iterate 2 refine xO ?_
 refine xC (ct233 g) ?_
 refine xO ?_ (h := by simp [e8]; exact .mk)
 refine xO ?_ (h := by simp [e9]; exact .mk)
 refine xO ?_
 refine xO ?_ (h := by simp [splice]; exact .mk)
 refine xG [1,2,3] ?_
 iterate 4 refine xO ?_
 refine xO ?_ (h := by simp [e10]; exact .mk)
 refine xO ?_ (h := by simp [e11]; exact .mk)
 refine xO ?_
 refine xO ?_ (h := by simp [splice]; exact .mk)
 refine xG [2,3] ?_
 refine xO ?_
 refine xO ?_ (h := by simp [splice]; exact .mk)
 refine xF [2] ?_
 refine W_ret (xR (by simp [Tryz.f202]; exact .mk) ?_)
 simp [Tryz.f202]

theorem ct144 (g : Gl) (s : Shape) : CtAt Tryz.prog g 144 [eShape s] (.v (.bool (shapeS s))) := by
 refine ctAt_of_W Tryz.func144 rfl rfl (Nat.le_of_ble_eq_true rfl) fun B S => ?_
 simp only [eShape, List.map, argD_agg]
 have m1 : 2 ≤ s.slots → (s.slots.tmod 2 = 0 ∨ s.slots.tmod 2 = 1) := fun h => by rw [Int.tmod_eq_emod_of_nonneg (by omega)]; omega
 have m2 : 2 ≤ s.roots → (s.roots.tmod 2 = 0 ∨ s.roots.tmod 2 = 1) := fun h => by rw [Int.tmod_eq_emod_of_nonneg (by omega)]; omega
 refine xU ?_
 iterate 2 refine xO ?_
 refine xF [1] ?_
 refine W_seq (xU ?_)
 iterate 4 refine xO ?_
 iterate 3 refine xI ?_
 refine xP ?_
 refine xB ?_
 iterate 3 refine xI ?_
 refine xP ?_
 refine xB ?_
 iterate 3 refine xI ?_
 refine xP ?_
 refine xB ?_
 iterate 4 refine xI ?_
 refine xP ?_
 refine xB ?_
 iterate 3 refine xI ?_
 refine xP ?_
 refine xB ?_
 iterate 3 refine xI ?_
 refine xP ?_
 refine xB ?_
 iterate 4 refine xI ?_
 refine xP ?_
 refine xB ?_
 iterate 3 refine xI ?_
 refine xP ?_
 refine xB ?_
 iterate 3 refine xI ?_
 refine xP ?_
 refine xF [1,52] ?_
 refine W_cond rfl ?_ ?_
 · intro h52
   have hz : sizedSh s = false := by simp [sizedSh] at h52 ⊢; omega
   have hr : shapeS s = false := by simp [shapeS, hz]
   refine xU ?_
   refine xO ?_
   refine xF [2] ?_
   refine W_ret (xR (by simp [Tryz.f144]; exact .mk) ?_)
   simp [Tryz.f144, hr]
 intro h52
 have hz : sizedSh s = true := by simp [sizedSh] at h52 ⊢; omega
 have hr : shapeS s = decide (linesA s ≤ 4096) := by simp [shapeS, hz]
 refine W_skip ?_
 refine xT ?_
 refine xO ?_
 refine xC (ct202 g s hz) ?_
 iterate 3 refine xO ?_
 refine xF [2] ?_
 refine W_ret (xR (by simp [Tryz.f144]; exact .mk) ?_)
 simp [Tryz.f144, hr]

theorem ct92 (g : Gl) (s : Shape) (mode base : Int) : CtAt Tryz.prog g 92 [eShape s, vI mode, vI base] (.v (.bool (superS s mode base))) := by
 refine ctAt_of_W Tryz.func92 rfl rfl (Nat.le_of_ble_eq_true rfl) fun B S => ?_
 simp only [eShape, List.map, argD_agg, argD_v]
 refine xU ?_
 iterate 2 refine xO ?_
 refine xG [1,2,3] ?_
 refine xO ?_
 refine xC (ct144 g s) ?_
 refine xO ?_
 refine xF [1,2,3,7] ?_
 refine W_seq (xU ?_)
 iterate 3 refine xO ?_
 iterate 2 refine xI ?_
 refine xP ?_
 refine xB ?_
 iterate 4 refine xI ?_
 refine xP ?_
 refine xF [1,2,3,21] ?_
 refine W_cond rfl ?_ ?_
 · intro h21
   refine xU ?_
   refine xO ?_
   refine xF [6] ?_
   refine W_ret (xR (by simp [Tryz.f92]; exact .mk) ?_)
   first | (simp [Tryz.f92, superS, *]; done) | (simp [Tryz.f92, superS] at *; grind)
 intro h21
 refine W_skip ?_
 rintro -
 refine W_seq (xU ?_)
 refine xO ?_
 refine xF [2,3,22] ?_
 refine W_block (xU ?_)
 iterate 2 refine xO ?_
 refine xF [2,3,22,23] ?_
 refine W_cond rfl ?_ ?_
 · intro h23
   refine xU ?_
   iterate 3 refine xO ?_
   refine xF [6] ?_
   refine W_ret (xR (by simp [Tryz.f92]; exact .mk) ?_)
   first | (simp [Tryz.f92, superS, *]; done) | (simp [Tryz.f92, superS] at *; grind)
 intro h23
 refine xU ?_
 iterate 2 refine xO ?_
 refine xF [2,3,22,27] ?_
 refine W_cond rfl ?_ ?_
 · intro h27
   refine xU ?_
   iterate 5 refine xO ?_
   refine xF [6] ?_
   refine W_ret (xR (by simp [Tryz.f92]; exact .mk) ?_)
   first | (simp [Tryz.f92, superS, *]; done) | (simp [Tryz.f92, superS] at *; grind)
 intro h27
 refine W_seq (xU ?_)
 iterate 2 refine xO ?_
 refine xF [22,33] ?_
 refine W_cond rfl ?_ ?_
 · intro h33
   refine W_skip ?_
   rintro -
   refine W_cond rfl ?_ ?_
   · intro h33'
     refine xU ?_
     refine xO ?_
     refine xF [6] ?_
     refine W_ret (xR (by simp [Tryz.f92]; exact .mk) ?_)
     first | (simp [Tryz.f92, superS, *]; done) | (simp [Tryz.f92, superS] at *; grind)
   intro hq
   cases h33.symm.trans hq
 intro h33
 refine W_reg rfl ?_
 iterate 2 refine xO ?_
 refine xF [33] ?_
 refine W_cond rfl ?_ ?_
 · intro h33'
   refine xU ?_
   refine xO ?_
   refine xF [6] ?_
   refine W_ret (xR (by simp [Tryz.f92]; exact .mk) ?_)
   first | (simp [Tryz.f92, superS, *]; done) | (simp [Tryz.f92, superS] at *; grind)
 intro h33'
 refine W_skip ?_
 refine xT ?_
 refine xO ?_
 refine xF [6] ?_
 refine W_ret (xR (by simp [Tryz.f92]; exact .mk) ?_)
 first | (simp [Tryz.f92, superS, *]; done) | (simp [Tryz.f92, superS] at *; grind)

theorem ct145 (g : Gl) (s : Slot) : CtAt Tryz.prog g 145 [eSlot s] (.v (.bool (slotS1 s))) := by
 refine ctAt_of_W Tryz.func145 rfl rfl (Nat.le_of_ble_eq_true rfl) fun B S => ?_
 simp only [eSlot, List.map, argD_agg]
 refine xU ?_
 iterate 2 refine xO ?_
 refine xF [1] ?_
 refine W_seq (xU ?_)
 iterate 4 refine xO ?_
 iterate 3 refine xI ?_
 refine xP ?_
 refine xF [1,10] ?_
 refine W_cond rfl ?_ ?_
 · intro h10
   refine xU ?_
   refine xO ?_
   refine xF [2] ?_
   refine W_ret (xR (by simp [Tryz.f145]; exact .mk) ?_)
   simp [Tryz.f145, slotS1] at *; grind
 intro h10
 refine W_skip ?_
 rintro -
 refine W_seq (xU ?_)
 iterate 3 refine xO ?_
 refine xF [1,13] ?_
 refine W_cond rfl ?_ ?_
 · intro h13
   refine xU ?_
   iterate 4 refine xO ?_
   iterate 3 refine xI ?_
   refine xP ?_
   refine xB ?_
   iterate 3 refine xI ?_
   refine xP ?_
   refine xB ?_
   refine xF [2] ?_
   refine W_ret (xR (by simp [Tryz.f145]; exact .mk) ?_)
   simp [Tryz.f145, slotS1] at *; grind
 intro h13
 refine W_skip ?_
 refine xT ?_
 iterate 4 refine xO ?_
 iterate 3 refine xI ?_
 refine xP ?_
 refine xB ?_
 iterate 3 refine xI ?_
 refine xP ?_
 refine xB ?_
 iterate 3 refine xI ?_
 refine xP ?_
 refine xB ?_
 refine xF [2] ?_
 refine W_ret (xR (by simp [Tryz.f145]; exact .mk) ?_)
 simp [Tryz.f145, slotS1] at *; grind

theorem ct93 (g : Gl) (l : List Slot) (hl : l.length ≤ 2^40) : CtAt Tryz.prog g 93 [rSl l] (.v (.bool (tableS l))) := by
 refine ctAt_of_W Tryz.func93 rfl rfl (Nat.le_of_ble_eq_true rfl) fun B S => ?_
 refine xU ?_
 refine xO ?_
 refine xF [0] ?_
 refine W_seq (xU ?_)
 refine xO ?_
 refine xF [0,3] ?_
 refine W_block (W_rounds (fun m σ o => ∃ i : Nat, m = l.length - i ∧ i ≤ l.length ∧ (∀ j, j < i → slotS1 (nth l j) = true) ∧ σ = slots [(0, .d (rSl l)), (3, .d (vI i))] ∧ o = []) l.length .refl ⟨0, by simp, by simp, by simp, rfl, rfl⟩ ?_)
 rintro m σ o ⟨i, rfl, hi, hinv, rfl, rfl⟩ _
 refine W_seq (xU ?_)
 iterate 4 refine xO ?_
 refine xF [0,3,8] ?_
 refine W_cond rfl ?_ ?_
 · intro h8
   have hi2 : i < l.length := by simpa using h8
   refine W_skip ?_
   rintro -
   refine W_seq (W_block ?_)
   refine xU ?_
   iterate 2 refine xO ?_
   refine xO ?_ (h := by simp [eSlot, hi2]; exact .mk)
   refine xO ?_ (h := by simp [-List.getElem?_map, map_get hi2, eSlot]; exact .mk)
   refine xC (ct145 g (nth l i)) ?_
   refine xO ?_
   refine xG [0,3,4] ?_
   iterate 2 refine xO ?_
   refine xF [0,3,17] ?_
   refine W_cond rfl ?_ ?_
   · intro h17
     have hr : tableS l = false := by unfold tableS; rw [all_bad hi2 (by simpa using h17)]; rfl
     refine xU ?_
     refine xO ?_
     refine xF [2] ?_
     refine W_ret (xR (by simp [Tryz.f93]; exact .mk) ?_)
     first | (simp [Tryz.f93, hr]; done) | (simp [Tryz.f93, hr, tnewOk, Bool.and_assoc]; try (first | done | grind))
   intro h17
   refine W_skip ?_
   rintro -
   refine W_reg rfl ?_
   iterate 3 refine xO ?_
   refine xE [0,3] ?_
   refine rounds_drop 0 [0,3] (by simp) (by simp) (by simp) ?_
   refine rounds_next (m' := l.length - (i+1)) (by omega) ⟨i+1, rfl, by omega, ?_, ?_, rfl⟩
   · intro j hj
     rcases Nat.lt_succ_iff_lt_or_eq.1 hj with hj | rfl
     · exact hinv j hj
     simpa using h17
   rw [wrap64 (by omega) (by omega)]; rfl
 intro h8
 have hr : tableS l = tnewOk l.length := by unfold tableS; rw [all_good (fun j hj => hinv j (by simp at h8; omega))]; rfl
 refine W_exit (xT ?_)
 iterate 4 refine xO ?_
 iterate 3 refine xI ?_
 refine xP ?_
 refine xB ?_
 iterate 4 refine xI ?_
 refine xP ?_
 refine xB ?_
 refine xF [2] ?_
 refine W_ret (xR (by simp [Tryz.f93]; exact .mk) ?_)
 first | (simp [Tryz.f93, hr]; done) | (simp [Tryz.f93, hr, tnewOk, Bool.and_assoc]; try (first | done | grind))

open Go.Awp
theorem ct211 (g : Gl) : CtAt Tryz.prog g 211 [] (oI wordsL) := by
 refine ctAt_of_W Tryz.func211 rfl rfl (Nat.le_of_ble_eq_true rfl) fun B S => ?_
 refine xU ?_
 refine xO ?_
 refine xG [] ?_
 iterate 2 refine xO ?_
 refine xF [0] ?_
 refine W_ret (xR (by simp [Tryz.f211]; exact .mk) ?_)
 simp [Tryz.f211, ownR, wordsL]

theorem ct153 (g : Gl) (n : Int) : CtAt Tryz.prog g 153 [vI n] (.tup [vI (classS n).1, .v (.bool (classS n).2)]) := by
 refine ctAt_of_W Tryz.func153 rfl rfl (Nat.le_of_ble_eq_true rfl) fun B S => ?_
 refine xU ?_
 iterate 2 refine xO ?_
 refine xG [0] ?_
 refine xC (ct211 g) ?_
 refine xO ?_
 refine xF [0,4] ?_
 refine W_seq (xU ?_)
 refine xO ?_
 refine xF [0,4,5] ?_
 refine W_block (W_rounds (fun m σ o => ∃ i : Nat, m = 6 - i ∧ i ≤ 6 ∧ (∀ j, j < i → ¬ (1 ≤ n ∧ n ≤ 8 * nth wordsL j)) ∧ σ = slots [(0, .d (vI n)), (4, .hdr 0 0 6), (5, .d (vI i))] ∧ o = [.row 1 (wordsL.map vI)]) 6 .refl ⟨0, by simp, by simp, by simp, rfl, rfl⟩ ?_)
 rintro m σ o ⟨i, rfl, hi, hinv, rfl, rfl⟩ _
 refine W_seq (xU ?_)
 iterate 4 refine xO ?_
 refine xF [0,4,5,10] ?_
 refine W_cond rfl ?_ ?_
 · intro h10
   have hi2 : i < 6 := by simp at h10; omega
   have hi4 : (i : Int) < 6 := by omega
   have hi3 : i < wordsL.length := hi2
   have hw := wordsL_8 hi2
   have w1 : IntKind.i64.wrap (8 * nth wordsL i) = 8 * nth wordsL i := wrap64 (by omega) (by omega)
   refine W_skip ?_
   rintro -
   refine W_seq (W_block ?_)
   refine xU ?_
   iterate 3 refine xO ?_
   iterate 3 refine xI ?_
   refine run_if rfl (by simp; exact .mk) rfl (by simp <;> first | omega | grind) (fun hb => by simp [hi2, hi3, hi4]; exact .mk) ?_
   refine run_if rfl (by simp; exact .mk) rfl (by simp <;> first | omega | grind) (fun hb => by simp [-List.getElem?_map, hi2, map_get hi3]; exact .mk) ?_
   refine run_if rfl (by simp; exact .mk) rfl (by simp <;> first | omega | grind) (fun hb => by simp [w1]; exact .mk) ?_
   refine xI ?_
   refine xP ?_
   refine xF [0,4,5,23] ?_
   refine W_cond rfl ?_ ?_
   · intro h23
     have hr := classS_at hi2 (by simpa using h23) hinv
     refine xU ?_
     iterate 3 refine xO ?_
     refine xF [2,3] ?_
     refine W_ret (xR (by simp [Tryz.f153]; exact .mk) ?_)
     simp [Tryz.f153, hr]
   intro h23
   have hno : ¬ (1 ≤ n ∧ n ≤ 8 * nth wordsL i) := by simpa using h23
   refine W_skip ?_
   rintro -
   refine W_reg rfl ?_
   iterate 3 refine xO ?_
   refine xE [0,4,5] ?_
   refine rounds_kill [0,4,5] ?_
   refine rounds_next (m' := 6 - (i+1)) (by omega) ⟨i+1, rfl, by omega, ?_, ?_, rfl⟩
   · intro j hj
     rcases Nat.lt_succ_iff_lt_or_eq.1 hj with hj | rfl
     · exact hinv j hj
     exact hno
   rw [wrap64 (by omega) (by omega)]; rfl
 intro h10
 have hr : classS n = (0, false) := classS_no (fun j hj => hinv j (by simp at h10; omega))
 refine W_exit (xT ?_)
 iterate 2 refine xO ?_
 refine xF [2,3] ?_
 refine W_ret (xR (by simp [Tryz.f153]; exact .mk) ?_)
 simp [Tryz.f153, hr]

theorem ct213 (g : Gl) (c : Int) : CtAt Tryz.prog g 213 [vI c] (.tup [vI (if c < 0 ∨ 6 ≤ c then 0 else nth wordsL c.toNat), vI (if c < 0 ∨ 6 ≤ c then 1 else 0)]) := by
 refine ctAt_of_W Tryz.func213 rfl rfl (Nat.le_of_ble_eq_true rfl) fun B S => ?_
 refine xU ?_
 iterate 2 refine xO ?_
 refine xG [0] ?_
 refine xC (ct211 g) ?_
 refine xO ?_
 refine xF [0,4] ?_
 refine W_seq (xU ?_)
 iterate 3 refine xO ?_
 iterate 4 refine xI ?_
 refine xP ?_
 refine xF [0,4,13] ?_
 refine W_cond rfl ?_ ?_
 · intro h13
   have hr : c < 0 ∨ 6 ≤ c := by simpa [wordsL] using h13
   refine xU ?_
   iterate 2 refine xO ?_
   refine xF [2,3] ?_
   refine W_ret (xR (by simp [Tryz.f213]; exact .mk) ?_)
   first | (simp [Tryz.f213, hr]; done) | simp [Tryz.f213, hr, nth_eq hc]
 intro h13
 have hr : ¬ (c < 0 ∨ 6 ≤ c) := by simp [wordsL] at h13 ⊢; omega
 have hc : c.toNat < wordsL.length := by show c.toNat < 6; omega
 have hc2 : 0 ≤ c ∧ c < 6 := by omega
 have hc3 : c < (wordsL.length : Int) := hc2.2
 refine W_skip ?_
 refine xT ?_
 iterate 2 refine xO ?_
 refine xO ?_ (h := by simp [hc, hc2, hc3]; exact .mk)
 refine xO ?_ (h := by simp [-List.getElem?_map, hc, map_get hc]; exact .mk)
 iterate 2 refine xO ?_
 refine xF [2,3] ?_
 refine W_ret (xR (by simp [Tryz.f213]; exact .mk) ?_)
 first | (simp [Tryz.f213, hr]; done) | simp [Tryz.f213, hr, nth_eq hc]

theorem ct156 (g : Gl) (c : Int) : CtAt Tryz.prog g 156 [vI c] (.tup [vI (cellsS c).1, vI (cellsS c).2]) := by
 refine ctAt_of_W Tryz.func156 rfl rfl (Nat.le_of_ble_eq_true rfl) fun B S => ?_
 have c213 := ct213 g c
 obtain ⟨w, hw⟩ : ∃ w, w = (if c < 0 ∨ 6 ≤ c then 0 else nth wordsL c.toNat) := ⟨_, rfl⟩
 obtain ⟨e, he⟩ : ∃ e : Int, e = (if c < 0 ∨ 6 ≤ c then 1 else 0) := ⟨_, rfl⟩
 rw [← hw, ← he] at c213
 refine xU ?_
 iterate 2 refine xO ?_
 refine xG [0] ?_
 refine xO ?_
 refine xC (c213) ?_
 iterate 5 refine xO ?_
 refine xF [4,5] ?_
 refine W_seq (xU ?_)
 iterate 2 refine xO ?_
 refine xF [4,5,12] ?_
 refine W_cond rfl ?_ ?_
 · intro h12
   have hz : e ≠ 0 := by simpa using h12
   have hc : c < 0 ∨ 6 ≤ c := Classical.byContradiction fun q => by rw [if_neg q] at he; exact hz he
   rw [if_pos hc] at he
   have hr : cellsS c = (0, 1) := by unfold cellsS; rw [if_pos hc]
   refine xU ?_
   iterate 3 refine xO ?_
   refine xF [2,3] ?_
   refine W_ret (xR (by simp [Tryz.f156]; exact .mk) ?_)
   simp [Tryz.f156, hr, *]
 intro h12
 have hz : e = 0 := by simpa using h12
 have hc : ¬ (c < 0 ∨ 6 ≤ c) := fun q => by rw [if_pos q] at he; omega
 rw [if_neg hc] at hw
 have hw8 := wordsL_8 (j := c.toNat) (by omega)
 have hw0 : w ≠ 0 := by omega
 have hd : 0 ≤ (28 : Int).tdiv w ∧ (28 : Int).tdiv w ≤ 28 := ⟨Int.tdiv_nonneg (by omega) (by omega), by rw [Int.tdiv_eq_ediv_of_nonneg (by omega)]; exact Int.ediv_le_self _ (by omega)⟩
 have w1 : IntKind.i64.wrap ((28 : Int).tdiv w) = (28 : Int).tdiv w := wrap64 (by omega) (by omega)
 have hr : cellsS c = ((28 : Int).tdiv w, 0) := by unfold cellsS; rw [if_neg hc, hw]
 refine W_skip ?_
 refine xT ?_
 refine xO ?_
 refine xO ?_ (h := by simp [hw0, w1]; exact .mk)
 iterate 2 refine xO ?_
 refine xF [2,3] ?_
 refine W_ret (xR (by simp [Tryz.f156]; exact .mk) ?_)
 simp [Tryz.f156, hr, *]

theorem ct157 (g : Gl) (c : Int) (k : Nat) (hc : 0 ≤ c ∧ c < 6) (hk : k ≤ 14) : CtAt Tryz.prog g 157 [vI c, vI k] (.tup [vI (cellS c k).1, vI (cellS c k).2]) := by
 refine ctAt_of_W Tryz.func157 rfl rfl (Nat.le_of_ble_eq_true rfl) fun B S => ?_
 have c156 := ct156 g c
 have c213 := ct213 g c
 obtain ⟨b1, b2, b3, b4⟩ := cellsS_b hc
 rw [b3] at c156
 rw [if_neg (by omega), if_neg (by omega)] at c213
 refine xU ?_
 iterate 2 refine xO ?_
 refine xG [0,1] ?_
 refine xO ?_
 refine xC (c156) ?_
 iterate 5 refine xO ?_
 refine xF [0,1,6,7] ?_
 refine W_seq (xU ?_)
 iterate 3 refine xO ?_
 iterate 2 refine xI ?_
 refine xP ?_
 refine xB ?_
 iterate 3 refine xI ?_
 refine xP ?_
 refine xF [0,1,25] ?_
 refine W_cond rfl ?_ ?_
 · intro h25
   have hr : cellS c k = (0, 1) := by unfold cellS; rw [if_pos]; simp at h25; omega
   refine xU ?_
   iterate 2 refine xO ?_
   refine xF [4,5] ?_
   refine W_ret (xR (by simp [Tryz.f157]; exact .mk) ?_)
   first | (simp [Tryz.f157, hr]; done) | simp [Tryz.f157, d1]
 intro h25
 have hkc : (k : Int) < (cellsS c).1 := by simp at h25; omega
 obtain ⟨d1, d2, d3⟩ := cellS_b hc hkc
 have w1 : IntKind.i64.wrap (nth wordsL c.toNat * (k : Int)) = (k : Int) * nth wordsL c.toNat := (wrap64 (by rw [Int.mul_comm]; omega) (by rw [Int.mul_comm]; omega)).trans (Int.mul_comm _ _)
 have w2 : IntKind.i64.wrap (4 + (k : Int) * nth wordsL c.toNat) = 4 + (k : Int) * nth wordsL c.toNat := wrap64 (by omega) (by omega)
 refine W_skip ?_
 refine xT ?_
 refine xO ?_
 refine xC (c213) ?_
 iterate 5 refine xO ?_
 refine xG [1,8] ?_
 iterate 2 refine xO ?_
 refine xO ?_ (h := by simp [w1]; exact .mk)
 refine xO ?_ (h := by simp [w2]; exact .mk)
 iterate 2 refine xO ?_
 refine xF [4,5] ?_
 refine W_ret (xR (by simp [Tryz.f157]; exact .mk) ?_)
 first | (simp [Tryz.f157, hr]; done) | simp [Tryz.f157, d1]

theorem ct204 (g : Gl) (c off : Int) (hc : 0 ≤ c ∧ c < 6) (ho : 0 ≤ off ∧ off < 32) : CtAt Tryz.prog g 204 [vI c, vI off] (.tup [vI (whichS c off).1, .v (.bool (whichS c off).2)]) := by
 refine ctAt_of_W Tryz.func204 rfl rfl (Nat.le_of_ble_eq_true rfl) fun B S => ?_
 have c156 := ct156 g c
 obtain ⟨b1, b2, b3, b4⟩ := cellsS_b hc
 rw [b3] at c156
 obtain ⟨N, hN⟩ : ∃ N : Nat, (cellsS c).1 = N := ⟨(cellsS c).1.toNat, by omega⟩
 refine xU ?_
 iterate 2 refine xO ?_
 refine xG [0,1] ?_
 refine xO ?_
 refine xC (c156) ?_
 iterate 5 refine xO ?_
 refine xF [0,1,6] ?_
 refine W_seq (xU ?_)
 refine xO ?_
 refine xF [0,1,6,8] ?_
 refine W_block (W_rounds (fun m σ o => ∃ i : Nat, m = N - i ∧ i ≤ N ∧ (∀ j, j < i → (cellS c j).1 ≠ off) ∧ σ = slots [(0, .d (vI c)), (1, .d (vI off)), (6, .d (vI (cellsS c).1)), (8, .d (vI i))] ∧ o = []) (N) .refl ⟨0, by simp, by simp, by simp, rfl, rfl⟩ ?_)
 rintro m σ o ⟨i, rfl, hi, hinv, rfl, rfl⟩ _
 refine W_seq (xU ?_)
 iterate 3 refine xO ?_
 refine xF [0,1,6,8,18] ?_
 refine W_cond rfl ?_ ?_
 · intro h18
   have hi2 : i < N := by rw [hN] at h18; simpa using h18
   refine W_skip ?_
   rintro -
   refine W_seq (W_block ?_)
   refine xU ?_
   iterate 2 refine xO ?_
   refine xC (ct157 g c i hc (by omega)) ?_
   iterate 5 refine xO ?_
   refine xG [0,1,6,8,9] ?_
   iterate 3 refine xO ?_
   refine xF [0,1,6,8,29] ?_
   refine W_cond rfl ?_ ?_
   · intro h29
     have hr := which_at (k := i) hc (by omega) (by simpa using h29)
     refine xU ?_
     iterate 3 refine xO ?_
     refine xF [4,5] ?_
     refine W_ret (xR (by simp [Tryz.f204]; exact .mk) ?_)
     simp [Tryz.f204, hr]
   intro h29
   have hno : (cellS c i).1 ≠ off := by simpa using h29
   refine W_skip ?_
   rintro -
   refine W_reg rfl ?_
   iterate 3 refine xO ?_
   refine xE [0,1,6,8] ?_
   refine rounds_kill [0,1,6,8] ?_
   refine rounds_next (m' := N - (i+1)) (by omega) ⟨i+1, rfl, by omega, ?_, ?_, rfl⟩
   · intro j hj
     rcases Nat.lt_succ_iff_lt_or_eq.1 hj with hj | rfl
     · exact hinv j hj
     exact hno
   rw [wrap64 (by omega) (by omega)]; rfl
 intro h18
 have hr : whichS c off = (0, false) := which_no hc ho (fun j hj => hinv j (by rw [hN] at h18; simp at h18; omega))
 refine W_exit (xT ?_)
 iterate 2 refine xO ?_
 refine xF [4,5] ?_
 refine W_ret (xR (by simp [Tryz.f204]; exact .mk) ?_)
 simp [Tryz.f204, hr]

theorem ct154 (g : Gl) (n : Int) : CtAt Tryz.prog g 154 [vI n] (.tup [vI (pagesS n).1, vI (pagesS n).2]) := by
 refine ctAt_of_W Tryz.func154 rfl rfl (Nat.le_of_ble_eq_true rfl) fun B S => ?_
 refine xU ?_
 iterate 2 refine xO ?_
 refine xF [0] ?_
 refine W_seq (xU ?_)
 iterate 3 refine xO ?_
 iterate 2 refine xI ?_
 refine xP ?_
 refine xF [0,9] ?_
 refine W_cond rfl ?_ ?_
 · intro h9
   have hr : pagesS n = (0, 1) := by unfold pagesS; rw [if_pos]; simp at h9; omega
   refine xU ?_
   iterate 2 refine xO ?_
   refine xF [2,3] ?_
   refine W_ret (xR (by simp [Tryz.f154]; exact .mk) ?_)
   simp [Tryz.f154, hr]
 intro h9
 have hn : ¬ (n ≤ 120 ∨ 2048 < n) := by simp at h9; omega
 have hr : pagesS n = ((n + 256 - 1).tdiv 256, 0) := by unfold pagesS; rw [if_neg hn]
 have w1 : IntKind.i64.wrap (n + 256) = n + 256 := wrap64 (by omega) (by omega)
 have w2 : IntKind.i64.wrap (n + 256 - 1) = n + 256 - 1 := wrap64 (by omega) (by omega)
 have w3 : IntKind.i64.wrap ((n + 256 - 1).tdiv 256) = (n + 256 - 1).tdiv 256 := wrap64 (by rw [Int.tdiv_eq_ediv_of_nonneg (by omega)]; omega) (by rw [Int.tdiv_eq_ediv_of_nonneg (by omega)]; omega)
 refine W_skip ?_
 refine xT ?_
 refine xO ?_
 refine xO ?_ (h := by simp [w1]; exact .mk)
 refine xO ?_ (h := by simp [w2]; exact .mk)
 refine xO ?_ (h := by simp [w3]; exact .mk)
 iterate 2 refine xO ?_
 refine xF [2,3] ?_
 refine W_ret (xR (by simp [Tryz.f154]; exact .mk) ?_)
 simp [Tryz.f154, hr]

theorem ct150 (g : Gl) (o : Int × Int) (hb : o.1 ≤ 2^62) : CtAt Tryz.prog g 150 [eObj o] (.tup [vI (cellO o).1.1, vI (cellO o).1.2.1, vI (cellO o).1.2.2, .v (.bool (cellO o).2)]) := by
 refine ctAt_of_W Tryz.func150 rfl rfl (Nat.le_of_ble_eq_true rfl) fun B S => ?_
 simp only [eObj, List.map, argD_agg]
 refine xU ?_
 iterate 5 refine xO ?_
 refine xG [1] ?_
 iterate 2 refine xO ?_
 refine xC (ct153 g o.2) ?_
 iterate 5 refine xO ?_
 refine xF [1,6,7] ?_
 refine W_seq (xU ?_)
 iterate 3 refine xO ?_
 iterate 3 refine xI ?_
 refine xP ?_
 refine xF [1,6,22] ?_
 refine W_cond rfl ?_ ?_
 · intro h22
   have hr : cellO o = ((0, 0, 0), false) := by unfold cellO; rw [if_pos]; simp at h22; grind
   refine xU ?_
   iterate 4 refine xO ?_
   refine xF [2,3,4,5] ?_
   refine W_ret (xR (by simp [Tryz.f150]; exact .mk) ?_)
   simp [Tryz.f150, hr]
 intro h22
 have hz : (classS o.2).2 = true ∧ ¬ o.1 < 0 := by simp at h22; grind
 have hr : cellO o = ((o.1.tdiv 32, (classS o.2).1, (whichS (classS o.2).1 (o.1.tmod 32)).1), (whichS (classS o.2).1 (o.1.tmod 32)).2) := by unfold cellO; rw [if_neg (by simp [hz])]
 obtain ⟨c, hc6, hcc⟩ := classS_c hz.1
 have hm : 0 ≤ o.1.tmod 32 ∧ o.1.tmod 32 < 32 := by rw [Int.tmod_eq_emod_of_nonneg (by omega)]; omega
 have w1 : IntKind.i64.wrap (o.1.tmod 32) = o.1.tmod 32 := wrap64 (by omega) (by omega)
 have hd : 0 ≤ o.1.tdiv 32 ∧ o.1.tdiv 32 ≤ o.1 := by rw [Int.tdiv_eq_ediv_of_nonneg (by omega)]; omega
 have w2 : IntKind.i64.wrap (o.1.tdiv 32) = o.1.tdiv 32 := wrap64 (by omega) (by omega)
 have cw := ct204 g (classS o.2).1 (o.1.tmod 32) (by omega) hm
 refine W_skip ?_
 refine xT ?_
 iterate 3 refine xO ?_
 refine xO ?_ (h := by simp [w1]; exact .mk)
 refine xC (cw) ?_
 iterate 5 refine xO ?_
 refine xG [1,6,8,9] ?_
 iterate 2 refine xO ?_
 refine xO ?_ (h := by simp [w2]; exact .mk)
 iterate 7 refine xO ?_
 refine xF [2,3,4,5] ?_
 refine W_ret (xR (by simp [Tryz.f150]; exact .mk) ?_)
 simp [Tryz.f150, hr]

theorem ct149 (g : Gl) (pages : Int) (o : Int × Int) (hp : 0 ≤ pages ∧ pages ≤ 64) (hb : o.1 ≤ 2^62) : CtAt Tryz.prog g 149 [vI pages, eObj o] (.tup [eObj (spanR pages o).1, .v (.bool (spanR pages o).2)]) := by
 refine ctAt_of_W Tryz.func149 rfl rfl (Nat.le_of_ble_eq_true rfl) fun B S => ?_
 simp only [eObj, List.map, argD_agg, argD_v]
 have c150 := ct150 g o hb
 simp only [eObj] at c150
 have c154 := ct154 g o.2
 refine xU ?_
 iterate 3 refine xO ?_
 refine xG [0,3,4] ?_
 refine xO ?_
 refine xC (c150) ?_ (he := by simp [eObj]; exact .mk)
 iterate 9 refine xO ?_
 refine xF [0,3,4,6,9] ?_
 refine W_seq (xU ?_)
 refine xO ?_
 refine xF [0,3,4,6,20] ?_
 refine W_cond rfl ?_ ?_
 · intro h20
   have hz : (cellO o).2 = true := by simpa using h20
   have hr : spanR pages o = (((cellO o).1.1, 1), decide ((cellO o).1.1 < pages)) := by unfold spanR; rw [if_pos hz]
   refine xU ?_
   refine xO ?_
   refine xO ?_ (h := by simp [splice]; exact .mk)
   iterate 3 refine xO ?_
   refine xO ?_ (h := by simp [splice]; exact .mk)
   refine xO ?_
   refine xF [4,5] ?_
   refine W_ret (xR (by simp [Tryz.f149]; exact .mk) ?_)
   simp [Tryz.f149, hr, eObj]
 intro h20
 have hz : (cellO o).2 = false := by simpa using h20
 refine W_skip ?_
 refine xT ?_
 iterate 2 refine xO ?_
 refine xC (c154) ?_ (he := by simp [eObj]; exact .mk)
 iterate 5 refine xO ?_
 refine xF [0,3,4,10,11] ?_
 refine W_seq (xU ?_)
 iterate 3 refine xO ?_
 iterate 3 refine xI ?_
 refine xP ?_
 refine xB ?_
 iterate 4 refine xI ?_
 refine xP ?_
 refine xF [0,3,4,10,44] ?_
 refine W_cond rfl ?_ ?_
 · intro h44
   have hq : (pagesS o.2).2 ≠ 0 ∨ o.1 < 0 ∨ o.1.tmod 32 ≠ 0 := by simp at h44; grind
   have hr : spanR pages o = ((0, 0), false) := by unfold spanR; rw [if_neg (by simp [hz]), if_pos hq]
   refine xU ?_
   iterate 2 (refine xO ?_ (h := by simp [splice]; exact .mk))
   refine xO ?_
   refine xF [4,5] ?_
   refine W_ret (xR (by simp [Tryz.f149]; exact .mk) ?_)
   simp [Tryz.f149, hr, eObj]
 intro h44
 have hq : ¬ ((pagesS o.2).2 ≠ 0 ∨ o.1 < 0 ∨ o.1.tmod 32 ≠ 0) := by simp at h44; grind
 have hr : spanR pages o = ((o.1.tdiv 32, (pagesS o.2).1), decide (o.1.tdiv 32 ≤ pages) && decide ((pagesS o.2).1 ≤ pages - o.1.tdiv 32)) := by unfold spanR; rw [if_neg (by simp [hz]), if_neg hq]
 have hd : 0 ≤ o.1.tdiv 32 ∧ o.1.tdiv 32 ≤ o.1 := by rw [Int.tdiv_eq_ediv_of_nonneg (by omega)]; omega
 have w2 : IntKind.i64.wrap (o.1.tdiv 32) = o.1.tdiv 32 := wrap64 (by omega) (by omega)
 have w3 : IntKind.i64.wrap (pages - o.1.tdiv 32) = pages - o.1.tdiv 32 := wrap64 (by omega) (by omega)
 refine W_skip ?_
 refine xT ?_
 iterate 2 refine xO ?_
 refine xO ?_ (h := by simp [w2]; exact .mk)
 refine xO ?_
 refine xO ?_ (h := by simp [splice]; exact .mk)
 refine xO ?_
 refine xO ?_ (h := by simp [splice]; exact .mk)
 refine xF [0,4,12] ?_
 refine W_seq ?_
 refine W_regDS (hard := []) [7,10,14] (keepOk_lt (by decide)) (by kernel_rfl) 4 [[0,1,2,3,4,5,6,7,8,9,10,11,12,13,14,15], [0,1,2,3,4,5,6,7,8,9,14,10,11,12,13,15], [0,1,2,3,4,5,6,8,9,10,7,11,12,13,14,15], [0,1,2,3,4,5,6,8,9,10,11,14,7,12,13,15], [0,1,2,3,4,5,6,8,9,14,7,10,11,12,13,15], [0,1,2,3,4,5,6,8,9,14,10,7,11,12,13,15]] (by decide +kernel) ⟨?_, ?_, ?_, ?_, ?_, ?_, trivial⟩
 · skip
   iterate 6 refine xO ?_
   iterate 5 refine xI ?_
   refine run_if rfl (by simp; exact .mk) rfl (by simp <;> first | omega | grind) (fun hb => by simp [w3]; exact .mk) ?_
   refine xI ?_
   refine xP ?_
   refine run_op1 rfl rfl rfl (by simp <;> first | omega | grind) (by simp [splice]; exact .mk) ?_
   refine xB ?_
   refine xF [4,5] ?_
   refine W_ret (xR (by simp [Tryz.f149]; exact .mk) ?_)
   simp [Tryz.f149, hr, eObj]
 · skip
   iterate 6 refine xO ?_
   iterate 4 refine xI ?_
   refine run_op1 rfl rfl rfl (by simp <;> first | omega | grind) (by simp [splice]; exact .mk) ?_
   refine xI ?_
   refine run_if rfl (by simp; exact .mk) rfl (by simp <;> first | omega | grind) (fun hb => by simp [w3]; exact .mk) ?_
   refine xI ?_
   refine xP ?_
   refine xB ?_
   refine xF [4,5] ?_
   refine W_ret (xR (by simp [Tryz.f149]; exact .mk) ?_)
   simp [Tryz.f149, hr, eObj]
 · skip
   iterate 6 refine xO ?_
   iterate 5 refine xI ?_
   refine run_if rfl (by simp; exact .mk) rfl (by simp <;> first | omega | grind) (fun hb => by simp [w3]; exact .mk) ?_
   refine xI ?_
   refine xP ?_
   refine run_op1 rfl rfl rfl (by simp <;> first | omega | grind) (by simp [splice]; exact .mk) ?_
   refine xB ?_
   refine xF [4,5] ?_
   refine W_ret (xR (by simp [Tryz.f149]; exact .mk) ?_)
   simp [Tryz.f149, hr, eObj]
 · skip
   iterate 6 refine xO ?_
   iterate 4 refine xI ?_
   refine run_if rfl (by simp; exact .mk) rfl (by simp <;> first | omega | grind) (fun hb => by simp [w3]; exact .mk) ?_
   refine run_op1 rfl rfl rfl (by simp <;> first | omega | grind) (by simp [splice]; exact .mk) ?_
   iterate 2 refine xI ?_
   refine xP ?_
   refine xB ?_
   refine xF [4,5] ?_
   refine W_ret (xR (by simp [Tryz.f149]; exact .mk) ?_)
   simp [Tryz.f149, hr, eObj]
 · skip
   iterate 6 refine xO ?_
   iterate 3 refine xI ?_
   refine run_op1 rfl rfl rfl (by simp <;> first | omega | grind) (by simp [splice]; exact .mk) ?_
   iterate 2 refine xI ?_
   refine run_if rfl (by simp; exact .mk) rfl (by simp <;> first | omega | grind) (fun hb => by simp [w3]; exact .mk) ?_
   refine xI ?_
   refine xP ?_
   refine xB ?_
   refine xF [4,5] ?_
   refine W_ret (xR (by simp [Tryz.f149]; exact .mk) ?_)
   simp [Tryz.f149, hr, eObj]
 skip
 iterate 6 refine xO ?_
 iterate 3 refine xI ?_
 refine run_op1 rfl rfl rfl (by simp <;> first | omega | grind) (by simp [splice]; exact .mk) ?_
 iterate 2 refine xI ?_
 refine run_if rfl (by simp; exact .mk) rfl (by simp <;> first | omega | grind) (fun hb => by simp [w3]; exact .mk) ?_
 refine xI ?_
 refine xP ?_
 refine xB ?_
 refine xF [4,5] ?_
 refine W_ret (xR (by simp [Tryz.f149]; exact .mk) ?_)
 simp [Tryz.f149, hr, eObj]

open Go.Awp
theorem ct97 (g : Gl) (pages : Int) (l : List (Int × Int)) (hl : l.length ≤ 2^40) (hb : ∀ i, i < l.length → (nth l i).1 ≤ 2^62) : CtAt Tryz.prog g 97 [vI pages, rO l] (.tup [oI (kindsR pages l).1, .v (.bool (kindsR pages l).2)]) := by
 refine ctAt_of_W Tryz.func97 rfl rfl (Nat.le_of_ble_eq_true rfl) fun B S => ?_
 refine xU ?_
 iterate 2 refine xO ?_
 refine xF [0,1] ?_
 refine W_seq (xU ?_)
 iterate 3 refine xO ?_
 iterate 2 refine xI ?_
 refine xP ?_
 refine xF [0,1,22] ?_
 refine W_cond rfl ?_ ?_
 · intro h22
   have hr : kindsR pages l = ([], false) := kindsR_out (by simp at h22; omega)
   refine xU ?_
   iterate 2 refine xO ?_
   refine xF [4,5] ?_
   refine W_ret (xR (by simp [Tryz.f97]; exact .mk) ?_)
   simp [Tryz.f97, hr, ownR]
 intro h22
 have h0 : 0 ≤ pages ∧ pages ≤ 64 := by simp at h22; omega
 obtain ⟨N, rfl⟩ : ∃ N : Nat, pages = N := ⟨pages.toNat, by omega⟩
 have n1 : (N : Int) * 8 ≤ 140737488355328 := by omega
 have n2 : (N : Int) ≤ 140737488355328 := by omega
 have n3 : (8 : Int) * N ≤ 140737488355328 := by omega
 have n4 : 8 * N ≤ 140737488355328 := by omega
 have n5 : N ≤ 140737488355328 := by omega
 refine W_skip ?_
 refine xT ?_
 refine xO ?_
 refine xO ?_ (h := by simp [n1, n2, n3, n4, n5]; exact .mk)
 refine xO ?_
 refine xF [0,1,6] ?_
 refine W_seq (xU ?_)
 refine xO ?_
 refine xF [0,1,6,7] ?_
 refine W_block (W_rounds (fun m σ o => ∃ i : Nat, m = N - i ∧ i ≤ N ∧ σ = slots [(0, .d (vI N)), (1, .d (rO l)), (6, .hdr 0 0 N), (7, .d (vI i))] ∧ o = [.row 1 ((fillL N i).map vI)]) (N) .refl ⟨0, by simp, by simp, by simp, by rw [fillL_0]; simp⟩ ?_)
 rintro m σ o ⟨i, rfl, hi, rfl, rfl⟩ _
 refine W_seq (xU ?_)
 iterate 3 refine xO ?_
 refine xF [0,1,6,7,27] ?_
 refine W_cond rfl ?_ ?_
 · intro h27
   have hi2 : i < N := by simp at h27; omega
   have r1 : i < (fillL N i).length := by rw [fillL_len hi]; exact hi2
   refine W_skip ?_
   rintro -
   refine W_seq (W_block ?_)
   refine W_reg rfl ?_
   iterate 2 refine xO ?_
   refine xO ?_ (h := by simp [eObj, hi2]; exact .mk)
   refine xO ?_ (h := by simp [splice, hi2, r1, nrmL, nrm, putC]; exact .mk)
   refine xF [0,1,6,7] ?_
   refine W_reg rfl ?_
   iterate 3 refine xO ?_
   refine xE [0,1,6,7] ?_
   refine rounds_kill [0,1,6,7] ?_
   exact rounds_next (m' := N - (i + 1)) (by omega) ⟨i + 1, rfl, by omega, by rw [wrap64 (by omega) (by omega)]; rfl, by simp [fillL_set hi2]⟩
 intro h27
 obtain rfl : i = N := by simp at h27; omega
 rw [show fillL i i = (stI (i : Int) l 0).1 by rw [fillL_n]; simp [stI]]
 obtain ⟨N, rfl⟩ : ∃ N, N = i := ⟨_, rfl⟩
 refine W_exit ?_
 rintro -
 refine W_seq (xU ?_)
 refine xO ?_
 refine xF [0,1,6,8] ?_
 refine W_block (W_rounds (fun m σ o => ∃ i : Nat, m = l.length - i ∧ i ≤ l.length ∧ (∀ j, j < i → okI (N : Int) l j = true) ∧ σ = slots [(0, .d (vI N)), (1, .d (rO l)), (6, .hdr 0 0 N), (8, .d (vI i))] ∧ o = [.row 1 ((stI (N : Int) l i).1.map vI)]) l.length .refl ⟨0, by simp, by simp, by simp, rfl, rfl⟩ ?_)
 rintro m σ o ⟨i, rfl, hi, hinv, rfl, rfl⟩ _
 have hkl : (stI (N : Int) l i).1.length = N := by rw [stI_len.1]; simp
 refine W_seq (xU ?_)
 iterate 4 refine xO ?_
 refine xF [0,1,6,8,36] ?_
 refine W_cond rfl ?_ ?_
 · intro h36
   have hi2 : i < l.length := by simpa using h36
   obtain ⟨q1, q2⟩ := spanR_eq (pages := (N : Int)) (o := nth l i)
   refine W_skip ?_
   rintro -
   refine W_seq (W_block ?_)
   refine xU ?_
   iterate 3 refine xO ?_
   refine xO ?_ (h := by simp [eObj, hi2]; exact .mk)
   refine xO ?_ (h := by simp [-List.getElem?_map, map_get hi2, eObj]; exact .mk)
   refine xC (ct149 g N (nth l i) h0 (hb i hi2)) ?_
   iterate 4 refine xO ?_
   refine xO ?_ (h := by simp [splice]; exact .mk)
   refine xO ?_
   refine xF [0,1,6,8,9,10] ?_
   refine W_seq (xU ?_)
   iterate 2 refine xO ?_
   refine xF [0,1,6,8,9,49] ?_
   refine W_cond rfl ?_ ?_
   · intro h49
     have hr : kindsR (N : Int) l = ([], false) := kindsR_bad hi2 (okI_bad (by rw [← q1]; simpa using h49))
     refine xU ?_
     iterate 2 refine xO ?_
     refine xF [4,5] ?_
     refine W_ret (xR (by simp [Tryz.f97]; exact .mk) ?_)
     simp [Tryz.f97, hr, ownR]
   intro h49
   have hs : (spotS (N : Int) (nth l i)).2 = true := by rw [← q1]; simpa using h49
   obtain ⟨q3, q4, q5⟩ := q2 hs
   rw [q3]
   refine W_skip ?_
   refine xT ?_
   iterate 2 refine xO ?_
   refine xO ?_ (h := by simp [eObj, hi2]; exact .mk)
   refine xO ?_ (h := by simp [-List.getElem?_map, map_get hi2, eObj]; exact .mk)
   refine xC (ct150 g (nth l i) (hb i hi2)) ?_
   iterate 9 refine xO ?_
   refine xF [0,1,6,8,9,11,12,14] ?_
   refine W_seq (xU ?_)
   refine xO ?_
   refine xF [0,1,6,8,9,11,12,60] ?_
   refine W_cond rfl ?_ ?_
   · intro h60
     have hsm : (spotI (N : Int) l i).small = true := by show (spotS (N : Int) (nth l i)).1.small = true; rw [← q4]; simpa using h60
     have q6 := q5 hsm
     obtain ⟨p, c, k, e1, e2, e3, hc6, hpN, hk64, ha, hq⟩ := spot_cell hs hsm
     have hp2 : p < N := by omega
     have hpl : p < (stI (N : Int) l i).1.length := by omega
     have hpt : (spotI (N : Int) l i).page.toNat = p := by show (spotS (N : Int) (nth l i)).1.page.toNat = p; omega
     have hct : (spotI (N : Int) l i).cls = c := e2
     simp only [q6, e1, e2]
     refine W_seq (xU ?_)
     iterate 2 refine xO ?_
     refine xO ?_ (h := by simp [eObj, hp2]; exact .mk)
     refine xO ?_ (h := by simp [-List.getElem?_map, map_get hpl]; exact .mk)
     iterate 2 refine xO ?_
     iterate 2 refine xI ?_
     refine run_if rfl (by simp; exact .mk) rfl (by simp <;> first | omega | grind) (fun hb => by simp [eObj, hp2]; exact .mk) ?_
     refine run_if rfl (by simp; exact .mk) rfl (by simp <;> first | omega | grind) (fun hb => by simp [-List.getElem?_map, map_get hpl]; exact .mk) ?_
     iterate 2 refine xI ?_
     refine xP ?_
     refine xF [0,1,6,8,11,12,73] ?_
     refine W_cond rfl ?_ ?_
     · intro h73
       have hr : kindsR (N : Int) l = ([], false) := kindsR_bad hi2 (small_kind hs hsm (by rw [hpt]; simp at h73; exact h73.1) (by rw [hpt, hct]; simp at h73; exact h73.2))
       refine xU ?_
       iterate 2 refine xO ?_
       refine xF [4,5] ?_
       refine W_ret (xR (by simp [Tryz.f97]; exact .mk) ?_)
       simp [Tryz.f97, hr, ownR]
     intro h73
     have hk : nth (stI (N : Int) l i).1 p = -1 ∨ nth (stI (N : Int) l i).1 p = c := by simp at h73; grind
     refine W_skip ?_
     rintro -
     refine W_seq (xU ?_)
     refine xO ?_
     refine xF [0,1,6,8,11,12,15] ?_
     refine W_block (W_rounds (fun m σ o => ∃ j : Nat, m = i - j ∧ j ≤ i ∧ (∀ t, t < j → (nth l t).1 ≠ (nth l i).1) ∧ σ = slots [(0, .d (vI N)), (1, .d (rO l)), (6, .hdr 0 0 N), (8, .d (vI i)), (11, .d (vI p)), (12, .d (vI c)), (15, .d (vI j))] ∧ o = [.row 1 ((stI (N : Int) l i).1.map vI), .var 115 [.d (vI (p : Int)), .d (vI (spotS (N : Int) (nth l i)).1.count)]]) i .refl ⟨0, by simp, by simp, by simp, rfl, rfl⟩ ?_)
     rintro m σ o ⟨j, rfl, hj, hinv2, rfl, rfl⟩ _
     refine W_seq (xU ?_)
     iterate 3 refine xO ?_
     refine xF [0,1,6,8,11,12,15,76] ?_
     refine W_cond rfl ?_ ?_
     · intro h76
       have hj2 : j < i := by simpa using h76
       have hj3 : j < l.length := by omega
       refine W_skip ?_
       rintro -
       refine W_seq (W_block ?_)
       refine W_seq ?_
       refine W_regD (by kernel_rfl) [] 4 [0,1,2,3,4,5,6,7,8,9,10] (by decide +kernel) ?_
       iterate 2 refine xO ?_
       refine xO ?_ (h := by simp [eObj, hj3]; exact .mk)
       refine xO ?_
       refine xO ?_ (h := by simp [-List.getElem?_map, map_get hj3, eObj]; exact .mk)
       iterate 2 refine xO ?_
       refine xO ?_ (h := by simp [eObj, hi2]; exact .mk)
       refine xO ?_
       refine xO ?_ (h := by simp [-List.getElem?_map, map_get hi2, eObj]; exact .mk)
       refine xO ?_
       refine xF [0,1,6,8,11,12,15,89] ?_
       refine W_cond rfl ?_ ?_
       · intro h89
         have hr : kindsR (N : Int) l = ([], false) := kindsR_bad hi2 (small_had h0 hi2 hinv hs hsm hj2 (by simpa using h89))
         refine xU ?_
         iterate 2 refine xO ?_
         refine xF [4,5] ?_
         refine W_ret (xR (by simp [Tryz.f97]; exact .mk) ?_)
         simp [Tryz.f97, hr, ownR]
       intro h89
       have hne : (nth l j).1 ≠ (nth l i).1 := by simpa using h89
       refine W_skip ?_
       rintro -
       refine W_reg rfl ?_
       iterate 3 refine xO ?_
       refine xE [0,1,6,8,11,12,15] ?_
       refine rounds_kill [0,1,6,8,11,12,15] ?_
       refine rounds_next (m' := i - (j+1)) (by omega) ⟨j+1, rfl, by omega, ?_, ?_, rfl⟩
       · intro t ht
         rcases Nat.lt_succ_iff_lt_or_eq.1 ht with ht | rfl
         · exact hinv2 t ht
         exact hne
       rw [wrap64 (by omega) (by omega)]; rfl
     intro h76
     have hok := small_ok h0 hi2 hinv hs hsm (by rw [hpt, hct]; exact hk) (fun t ht => hinv2 t (by simp at h76; omega))
     rw [hpt, hct] at hok
     refine W_exit (xT ?_)
     iterate 3 refine xO ?_
     refine xO ?_ (h := by simp [eObj, hp2]; exact .mk)
     refine xO ?_ (h := by simp [splice, hp2, hpl]; exact .mk)
     refine xF [0,1,6,8] ?_
     refine W_exit ?_
     rintro -
     refine W_reg rfl ?_
     iterate 3 refine xO ?_
     refine xE [0,1,6,8] ?_
     refine rounds_kill [0,1,6,8] ?_
     refine rounds_drop 1 [0,1,6,8] (by decide) (by rfl) (by rfl) ?_
     refine rounds_next (m' := l.length - (i+1)) (by omega) ⟨i+1, rfl, by omega, ?_, ?_, ?_⟩
     · intro j hj
       rcases Nat.lt_succ_iff_lt_or_eq.1 hj with hj | rfl
       · exact hinv j hj
       exact hok.1
     · rw [wrap64 (by omega) (by omega)]; rfl
     rw [hok.2, List.map_set]; rfl
   intro h60
   have hsm : (spotI (N : Int) l i).small = false := by show (spotS (N : Int) (nth l i)).1.small = false; rw [← q4]; simpa using h60
   obtain ⟨p, n, c, e0, hpN, hn1, hpn, _⟩ := spot_ok hs
   have e1 : (spotS (N : Int) (nth l i)).1.page = p := by rw [e0]
   have e2 : (spotS (N : Int) (nth l i)).1.count = n := by rw [e0]
   have hp2 : p < N := by omega
   obtain ⟨l1, l2⟩ := large_eq hs hsm
   have hpt : (spotI (N : Int) l i).page.toNat = p := by show (spotS (N : Int) (nth l i)).1.page.toNat = p; omega
   have hnt : (spotI (N : Int) l i).count.toNat = n := by show (spotS (N : Int) (nth l i)).1.count.toNat = n; omega
   rw [hpt, hnt] at l1 l2
   have w1 : IntKind.i64.wrap ((p : Int) + n) = p + n := wrap64 (by omega) (by omega)
   simp only [e1, e2]
   refine W_skip ?_
   rintro -
   refine W_seq (xU ?_)
   refine xO ?_
   refine xO ?_ (h := by simp [eObj]; exact .mk)
   refine xO ?_
   refine xF [0,1,6,8,9,16] ?_
   refine W_block (W_rounds (fun m σ o => ∃ (t : Nat) (cur : List Int), m = n - t ∧ t ≤ n ∧ cur.length = N ∧ fillF p (n - t) t cur = fillF p n 0 (stI (N : Int) l i).1 ∧ σ = slots [(0, .d (vI N)), (1, .d (rO l)), (6, .hdr 0 0 N), (8, .d (vI i)), (9, .ptr 1 0 0), (16, .d (vI ((p + t : Nat) : Int)))] ∧ o = [.row 1 (cur.map vI), .var 115 [.d (vI (p : Int)), .d (vI (n : Int))]]) n .refl ⟨0, _, by simp, by simp, hkl, rfl, rfl, rfl⟩ ?_)
   rintro m σ o ⟨t, cur, rfl, ht, hcl, hfl, rfl, rfl⟩ _
   refine W_seq (xU ?_)
   iterate 2 refine xO ?_
   refine xO ?_ (h := by simp [eObj]; exact .mk)
   refine xO ?_
   refine xO ?_ (h := by simp [eObj]; exact .mk)
   refine xO ?_ (h := by simp [w1]; exact .mk)
   refine xO ?_
   refine xF [0,1,6,8,9,16,102] ?_
   refine W_cond rfl ?_ ?_
   · intro h102
     have ht2 : t < n := by simp at h102; omega
     have ht3 : p + t < N := by omega
     have ht4 : p + t < cur.length := by omega
     have ht5 : (p : Int) + t < N := by omega
     have ht6 : (0 : Int) ≤ (p : Int) + t := by omega
     have ht7 : ((p : Int) + t).toNat = p + t := by omega
     obtain ⟨f, hf⟩ : ∃ f, n - t = f + 1 := ⟨n - t - 1, by omega⟩
     rw [hf] at hfl
     refine W_skip ?_
     rintro -
     refine W_seq (W_block ?_)
     refine W_seq (xU ?_)
     iterate 2 refine xO ?_
     refine xO ?_ (h := by simp [eObj, ht3, ht5, ht6, ht7]; exact .mk)
     refine xO ?_ (h := by simp [-List.getElem?_map, map_get ht4]; exact .mk)
     refine xO ?_
     refine xF [0,1,6,8,9,16,109] ?_
     refine W_cond rfl ?_ ?_
     · intro h109
       have hr : kindsR (N : Int) l = ([], false) := kindsR_bad hi2 (by rw [l1, ← hfl, fillF_f (by simpa using h109)])
       refine xU ?_
       iterate 2 refine xO ?_
       refine xF [4,5] ?_
       refine W_ret (xR (by simp [Tryz.f97]; exact .mk) ?_)
       simp [Tryz.f97, hr, ownR]
     intro h109
     rw [fillF_t (by simpa using h109)] at hfl
     refine W_skip ?_
     rintro -
     refine W_reg rfl ?_
     iterate 2 refine xO ?_
     refine xO ?_ (h := by simp [eObj, ht3, ht5, ht6, ht7]; exact .mk)
     refine xO ?_ (h := by simp [splice, ht3, ht4]; exact .mk)
     refine xF [0,1,6,8,9,16] ?_
     refine W_reg rfl ?_
     iterate 3 refine xO ?_
     refine xE [0,1,6,8,9,16] ?_
     refine rounds_kill [0,1,6,8,9,16] ?_
     refine rounds_next (m' := n - (t+1)) (by omega) ⟨t+1, cur.set (p + t) 7, rfl, by omega, by simpa using hcl, by rw [← hfl, show n - (t + 1) = f by omega], ?_, ?_⟩
     · rw [wrap64 (by omega) (by omega)]; rfl
     rw [List.map_set]; rfl
   intro h102
   obtain rfl : t = n := by simp at h102; omega
   rw [Nat.sub_self] at hfl
   have hfl2 : (true, cur) = fillF p t 0 (stI (N : Int) l i).1 := hfl
   rw [← hfl2] at l1 l2
   have hok : okI (N : Int) l i = true ∧ (stI (N : Int) l (i + 1)).1 = cur.set p 6 := ⟨l1, l2 l1⟩
   have hpc : p < cur.length := by omega
   refine W_exit ?_
   rintro -
   refine W_reg rfl ?_
   iterate 2 refine xO ?_
   refine xO ?_ (h := by simp [eObj]; exact .mk)
   refine xO ?_ (h := by simp [eObj, hp2]; exact .mk)
   refine xO ?_ (h := by simp [splice, hp2, hpc]; exact .mk)
   refine xF [0,1,6,8] ?_
   refine W_reg rfl ?_
   iterate 3 refine xO ?_
   refine xE [0,1,6,8] ?_
   refine rounds_kill [0,1,6,8] ?_
   refine rounds_drop 1 [0,1,6,8] (by decide) (by rfl) (by rfl) ?_
   refine rounds_next (m' := l.length - (i+1)) (by omega) ⟨i+1, rfl, by omega, ?_, ?_, ?_⟩
   · intro j hj
     rcases Nat.lt_succ_iff_lt_or_eq.1 hj with hj | rfl
     · exact hinv j hj
     exact hok.1
   · rw [wrap64 (by omega) (by omega)]; rfl
   rw [hok.2, List.map_set]; rfl
 intro h36
 obtain rfl : i = l.length := by simp at h36; omega
 have hr := kindsR_good h0 hinv
 obtain ⟨K, hK⟩ : ∃ K, K = (stI (N : Int) l l.length).1 := ⟨_, rfl⟩
 rw [← hK] at hr hkl ⊢
 subst hkl
 refine W_exit (xT ?_)
 iterate 3 refine xO ?_
 refine xF [4,5] ?_
 refine W_ret (xR (by simp [Tryz.f97]; exact .mk) ?_)
 simp [Tryz.f97, hr, ownR]

open Go.Awp
/- Facts for the document's walks: taken cells, places, mates. -/
def takenB (l : List (Int × Int)) (a : Int) : Bool := (List.range l.length).any fun j => (nth l j).1 == a
theorem takenB_t {l : List (Int × Int)} {a : Int} {j : Nat} (hj : j < l.length) (h : ((nth l j).1 == a) = true) : takenB l a = true := by
 unfold takenB; rw [List.any_eq_true]; exact ⟨j, by simpa using hj, h⟩
theorem takenB_f {l : List (Int × Int)} {a : Int} (h : ∀ j, j < l.length → ((nth l j).1 == a) = false) : takenB l a = false := by
 unfold takenB; rw [List.any_eq_false]; intro j hj; simpa using h j (by simpa using hj)
theorem takenB_iff {l : List (Int × Int)} {a : Int} : takenB l a = true ↔ ∃ j, j < l.length ∧ (nth l j).1 = a := by
 unfold takenB; simp [List.any_eq_true]
theorem bestR_neg {ks : List Int} {n : Int} (h : ¬ 1 ≤ n) : bestR ks n = none := by
 have : ∀ l : List (Int × Int), l.foldl (bestRStep n) none = none := by
  intro l
  induction l with
  | nil => rfl
  | cons a l ih => rw [List.foldl_cons, show bestRStep n none a = none by unfold bestRStep; simp [h], ih]
 exact this _
theorem place_no {pages n : Int} {l : List (Int × Int)} (h : laidS pages l = none) : placeS pages l n = none := by unfold placeS; rw [h]
theorem place_large {pages n : Int} {l : List (Int × Int)} {st} (h : laidS pages l = some st) (hc : (classS n).2 = false) :
    (placeS pages l n).getD 0 = ((bestR st.1 (pagesS n).1).getD (0, 0)).1 * 32 ∧ (placeS pages l n).isSome = ((bestR st.1 (pagesS n).1).isSome && decide ((pagesS n).2 = 0)) := by
 unfold placeS
 rw [h]
 simp only
 rw [if_neg (by simp [hc])]
 by_cases he : (pagesS n).2 = 0
 · rw [if_neg (by simp [he])]
   cases bestR st.1 (pagesS n).1 <;> simp [he]
 · have e0 : (pagesS n).1 = 0 := by unfold pagesS at he ⊢; split at he <;> simp_all
   rw [if_pos he, e0, bestR_neg (by omega)]; simp
theorem place_small {pages n : Int} {l : List (Int × Int)} {st} (h : laidS pages l = some st) (hc : (classS n).2 = true) : placeS pages l n = cellR st.1 st.2 (classS n).1 := by
 unfold placeS; rw [h]; simp only; rw [if_pos hc]
theorem kinds_none {pages : Int} {l : List (Int × Int)} (h : (kindsR pages l).2 = false) : laidS pages l = none := by
 unfold kindsR at h; split at h
 · cases h
 · assumption
theorem kinds_some {pages : Int} {l : List (Int × Int)} (h : (kindsR pages l).2 = true) : ∃ st, laidS pages l = some st ∧ kindsR pages l = (st.1, true) := by
 cases hl : laidS pages l with
 | none => unfold kindsR at h; rw [hl] at h; cases h
 | some st => exact ⟨st, rfl, by unfold kindsR; rw [hl]⟩
def mateIx (pages : Int) (l : List (Int × Int)) (page : Int) (i : Nat) : List Nat := (List.range i).filter fun j => coverB pages page (nth l j)
theorem mateIx_t {pages page : Int} {l : List (Int × Int)} {i : Nat} (h : coverB pages page (nth l i) = true) : mateIx pages l page (i + 1) = mateIx pages l page i ++ [i] := by simp [mateIx, List.range_succ, List.filter_append, h]
theorem mateIx_f {pages page : Int} {l : List (Int × Int)} {i : Nat} (h : coverB pages page (nth l i) = false) : mateIx pages l page (i + 1) = mateIx pages l page i := by simp [mateIx, List.range_succ, List.filter_append, h]
theorem mateIx_len {pages page : Int} {l : List (Int × Int)} {i : Nat} : (mateIx pages l page i).length ≤ i := by
 have := List.length_filter_le (fun j => coverB pages page (nth l j)) (List.range i)
 simpa [mateIx] using this
def matesR (pages : Int) (l : List (Int × Int)) (page : Int) : List Nat := if (laidS pages l).isSome = true then matesS pages l page else []
end Go.Proofs
