/- Contracts of the program's functions, each against a plain function over lists and numbers (it answers what that one answers, for arguments of at most 2^40 elements where a lemma says so), and plain facts about these. -/
import Derived.Test.YtokgokbgidgfeaaGreatAwpD
import Derived.Test.YtokgokbgidgfeaaGreatCH
import Derived.Test.YtokgokbgidgfeaaGreatCB
import Derived.Test.YtokgokbgidgfeaaGreatCF
import Derived.Test.YtokgokbgidgfeaaGreatCC
import Derived.Test.YtokgokbgidgfeaaGreatCD
set_option linter.all false
set_option maxHeartbeats 4000000
set_option maxRecDepth 4000
namespace Go.Proofs
open Go.Awp
theorem in165 (g : Gl) (pages page : Int) (l : List (Int × Int)) (hl : l.length ≤ 2^40) (ho : ∀ i, i < l.length → (nth l i).1 ≤ 2^40) (hL : (laidS pages l).isSome = true) (hpg : -2^40 ≤ page ∧ page ≤ 2^40) : ∀ B S, CallsA Tryz.prog g B S ⟨0, true⟩ 165 ([vI pages, rO l, vI page].map argD) [] (fun x r => x = .hdr 7 0 (matesS pages l page).length ∧ r = [.var 3 [.d (vI page)], .var 33 [.hdr 7 0 (matesS pages l page).length], .var 3 [.d (vI (l.length : Nat))], .var 3 [.d (vI pages)], .var 32 [.d (rO l)], .dead, .dead, .row 1 ((matesS pages l page).map fun (k : Nat) => vI k)]) := by
 refine callsA_WI Tryz.func165 rfl (Nat.le_of_ble_eq_true rfl) fun B S => ?_
 obtain ⟨y, hls⟩ := Option.isSome_iff_exists.1 hL
 obtain ⟨hp, hokk, hy⟩ := laidS_some hls
 have hcl : ∀ B S, CallsA Tryz.prog g B S ⟨0, true⟩ 141 ([vI pages, rO l].map AV.d) [] (fun x r => ∃ y, x = .tup [y, .d (.v (.bool true))]) := fun B S vs w gs om a b c d e => (in141 g pages l hl ho B S vs w gs om a b c d e).mono fun e w' ⟨v, av, o', g', m', h1, h2, h3⟩ => ⟨v, av, o', g', m', h1, by rw [hls] at h2; exact ⟨_, h2.1⟩, h3⟩
 simp only [List.map, argD_agg, argD_v]
 refine WI_seq ?_
 refine WI_reg rfl ?_ (by decide +kernel)
 iterate 2 refine xO ?_
 refine xE [0,1,5] fun _ => ?_
 refine WI_seq ?_
 refine WI_seq ?_
 refine WI_reg rfl ?_ (by decide +kernel)
 iterate 2 refine xO ?_
 refine run_inl0 rfl rfl rfl rfl (by simp; exact .mk) ⟨_, Tryz.func141, rfl, rfl⟩ (calls_dead (by simp) hcl _) (.inl (by simp)) ?_
 iterate 5 refine xO ?_
 refine xE [0,1,5,8] fun _ => ?_
 refine WI_seq ?_
 refine WI_reg rfl ?_ (by decide +kernel)
 iterate 2 refine xO ?_
 refine xE [0,1,5,19] fun _ => ?_
 refine WI_cond rfl ?_ ?_
 · intro h19
   simp at h19
 intro h19
 refine WI_skip ?_
 rintro -
 refine WI_seq ?_
 refine WI_reg rfl ?_ (by decide +kernel)
 refine xO ?_
 refine xE [0,1,5,9] fun _ => ?_
 refine WI_seq ?_
 refine WI_reg rfl ?_ (by decide +kernel)
 refine xO ?_
 refine xO ?_ (h := by simp [splice]; exact .mk)
 refine xE [0,1,5,9,10] fun _ => ?_
 refine WI_seq ?_
 refine WI_seq ?_
 refine WI_reg rfl ?_ (by decide +kernel)
 iterate 2 refine xO ?_
 refine run_inl0 rfl rfl rfl rfl (by simp; exact .mk) ⟨_, Tryz.func199, rfl, rfl⟩ (in199m g _ _ _ pages l) (.inl (by simp)) ?_
 refine xE [5,9,10,22] fun _ => ?_
 refine WI_block ?_
 obtain ⟨U, hU⟩ : ∃ U : Nat → List Nat, U = (fun i => (List.range i).filter fun j => coverB pages page (nth l j)) := ⟨_, rfl⟩
 have hU0 : U 0 = [] := by rw [hU]; rfl
 have hUl : U l.length = matesS pages l page := by rw [hU]; rfl
 have hU1 : ∀ i, U (i + 1) = U i ++ (if coverB pages page (nth l i) = true then [i] else []) := fun i => by
  rw [hU]; simp only [List.range_succ, List.filter_append]; congr 1; simp only [List.filter_cons, List.filter_nil]
 have hUn : ∀ i, (U i).length ≤ i := fun i => by rw [hU]; exact Nat.le_trans (List.length_filter_le _ _) (by simp)
 refine WI_rangeFunc [5,9,10] (by simp; exact .mk) ⟨_, Tryz.func231, rfl, rfl⟩ (by simp; exact .mk) _ (fun fn b lb B S => in231m g pages page l hp hl ho b lb _ _ rfl ?_ U hU0 rfl rfl rfl (fun i hi B S => ?_) B S) ?_
 · intro p hp2
   have hp3 : p = 23 ∨ p = 24 := by simpa using hp2
   show p < 45
   rcases hp3 with rfl | rfl <;> decide
 · skip
   have hsp : (spotS pages (nth l i)).2 = true := by
    have hk := hokk i hi
    cases hq : (spotS pages (nth l i)).2 with
    | true => rfl
    | false => simp only [okI, layO] at hk; rw [if_neg (by simp [hq])] at hk; cases hk
   have hsw := spot_words hsp
   have hgd := hsw.good
   have g0 := hgd.p0
   have g1 := hgd.p1
   have g2 := hgd.c1
   have g3 := hUn i
   have e1 : IntKind.i64.wrap (page - (spotS pages (nth l i)).1.page) = page - (spotS pages (nth l i)).1.page := wrap64 (by omega) (by omega)
   have e3 : IntKind.i64.wrap ((i : Int) + 1) = (i : Int) + 1 := wrap64 (by omega) (by omega)
   have e4 : ((U i).length + 1) * 8 ≤ 140737488355328 := by omega
   have e5 : (U i).length ≤ 140737488355327 := by omega
   unfold RoundI
   refine WI_weak (Weak.kills [5,9,10,23,24] rfl) ?_
   refine WI_reg rfl ?_ (by decide +kernel)
   refine xO ?_
   refine xO ?_ (h := by simp [splice]; exact .mk)
   refine xE [5,9,10,11] ?_
   refine ⟨rfl, rfl, rfl, fun _ => ?_⟩
   refine WI_block ?_
   refine WI_seq ?_
   refine WI_seq ?_
   refine WI_reg rfl ?_ (by decide +kernel)
   iterate 5 refine xO ?_
   iterate 3 refine xI ?_
   refine run_if rfl (by simp; exact .mk) rfl (by simp <;> first | omega | grind) (fun hb => by simp [e1]; exact .mk) ?_
   iterate 3 refine xI ?_
   refine xP ?_
   refine xE [9,10,37] fun _ => ?_
   refine WI_cond rfl ?_ ?_
   · intro h37
     have hc : coverB pages page (nth l i) = true := by simpa [coverB] using h37
     have hUe := hU1 i
     rw [if_pos hc] at hUe
     refine WI_reg rfl ?_ (by decide +kernel)
     iterate 3 refine xO ?_
     refine xO ?_ (h := by simp [rows, e4, e5]; exact .mk)
     refine xO ?_ (h := by simp [splice]; exact .mk)
     refine xE [10] fun _ => ?_
     refine WI_reg rfl ?_ (by decide +kernel)
     refine xO ?_
     refine xO ?_ (h := by simp [e3]; exact .mk)
     refine xO ?_ (h := by simp [splice]; exact .mk)
     refine xE [] ?_
     simp only [inBlkI_normal]
     refine ⟨by first | trivial | rfl, by first | trivial | rfl, ?_⟩
     rw [hUe]
     try simp only [List.length_append, List.map_append, List.length_cons, List.length_nil, List.map_cons, List.map_nil, Nat.zero_add]
     first
     | exact .inl ⟨_, rfl⟩
     | exact .inr ⟨_, _, _, rfl⟩
   intro h37
   have hc : ¬ coverB pages page (nth l i) = true := by simpa [coverB] using h37
   have hUe := hU1 i
   rw [if_neg hc, List.append_nil] at hUe
   refine WI_skip ?_
   rintro -
   refine WI_reg rfl ?_ (by decide +kernel)
   refine xO ?_
   refine xO ?_ (h := by simp [e3]; exact .mk)
   refine xO ?_ (h := by simp [splice]; exact .mk)
   refine xE [] ?_
   simp only [inBlkI_normal]
   refine ⟨by first | trivial | rfl, by first | trivial | rfl, ?_⟩
   rw [hUe]
   try simp only [List.length_append, List.map_append, List.length_cons, List.length_nil, List.map_cons, List.map_nil, Nat.zero_add]
   first
   | exact .inl ⟨_, rfl⟩
   | exact .inr ⟨_, _, _, rfl⟩
 rintro fn b lb av o ⟨rfl, rfl⟩
 refine ⟨_, _, rfl, by simp, ?_⟩
 rw [hUl]
 simp only [pending_none, inBlkI_normal]
 rintro -
 refine WI_seq ?_
 refine WI_reg rfl ?_ (by decide +kernel)
 iterate 2 refine xO ?_
 refine xE [6] fun _ => ?_
 refine WI_ret ?_
 try simp only [thenI_ret, roundsI_ret, inBlkI_ret, thenI_exit, roundsI_exit, inBlkI_exit, inBlkI_normal, if_true]
 refine endInM_ret (fn := Tryz.f165) (rs := [.hdr 7 0 (matesS pages l page).length]) 8 (.cons (r := 5) rfl .nil) ?_ (Nat.zero_le _) ?_ ?_ ?_
 · simp [Tryz.f165]; exact .mk
 · rfl
 · rfl
 exact ⟨rfl, rfl⟩
theorem ct165 (g : Gl) (pages page : Int) (l : List (Int × Int)) (hl : l.length ≤ 2^40) (ho : ∀ i, i < l.length → (nth l i).1 ≤ 2^40) (hL : (laidS pages l).isSome = true) (hpg : -2^40 ≤ page ∧ page ≤ 2^40) : CtAt Tryz.prog g 165 [vI pages, rO l, vI page] (oI ((matesS pages l page).map fun (k : Nat) => (k : Int))) :=
 ctAt_of_callsO Tryz.func165 rfl rfl (in165 g pages page l hl ho hL hpg) (by simp [cl, cls]; exact ⟨by simp [ownR, Function.comp_def], rfl⟩) (by simp)


open Go.Awp
theorem ct214 (g : Gl) (ms : List Int) (x : Int) (hl : ms.length ≤ 2^40) : CtAt Tryz.prog g 214 [rI ms, vI x] (vI (ixN ms x)) := by
 refine ctAt_of_W Tryz.func214 rfl rfl (Nat.le_of_ble_eq_true rfl) fun B S => ?_
 simp only [List.map, argD_v]
 refine xU ?_
 refine xO ?_
 refine xF [0,1] ?_
 refine W_seq (xU ?_)
 iterate 3 refine xO ?_
 refine xF [0,1,7,8] ?_
 refine W_block (W_rounds (fun m σ o => ∃ i : Nat, m = ms.length - i ∧ i ≤ ms.length ∧ (∀ j, j < i → nth ms j ≠ x) ∧ σ = slots [(0, .d (rI ms)), (1, .d (vI x)), (7, .d (vI ms.length)), (8, .d (vI i))] ∧ o = []) ms.length .refl ⟨0, by simp, by simp, by simp, by simp, rfl⟩ ?_)
 rintro m σ o ⟨i, rfl, hi, hinv, rfl, rfl⟩ _
 refine xU ?_
 refine xO ?_
 refine xF [0,1,7,8,9] ?_
 refine W_seq (W_cond rfl ?_ ?_)
 · intro h9
   have hi2 : i < ms.length := by simpa using h9
   refine W_skip ?_
   rintro -
   refine W_seq (W_block ?_)
   refine xU ?_
   iterate 2 refine xO ?_
   refine xG [0,1,5,7,8] ?_
   iterate 3 refine xO ?_
   refine xO ?_ (h := by simp [hi2]; exact .mk)
   refine xO ?_ (h := by simp [-List.getElem?_map, map_get hi2]; exact .mk)
   refine xO ?_
   refine xF [0,1,5,7,8,16] ?_
   refine W_cond rfl ?_ ?_
   · intro h16
     have hx : nth ms i = x := by simp at h16; omega
     have hr : ixN ms x = i := ixN_at hi2 hinv hx
     refine xU ?_
     iterate 2 refine xO ?_
     refine xF [4] ?_
     refine W_ret (xR (by simp [Tryz.f214]; exact .mk) ?_)
     simp [Tryz.f214, hr]
   intro h16
   have hx : nth ms i ≠ x := by simp at h16; omega
   refine W_skip ?_
   rintro -
   refine W_reg rfl ?_
   iterate 2 refine xO ?_
   refine xE [0,1,7,8] ?_
   refine rounds_kill [0,1,7,8] ?_
   refine rounds_next (m' := ms.length - (i+1)) (by omega) ⟨i+1, rfl, by omega, fun j hj => ?_, ?_, rfl⟩
   · rcases Nat.lt_succ_iff_lt_or_eq.1 hj with hj | rfl
     · exact hinv j hj
     exact hx
   rw [wrap64 (by omega) (by omega)]; rfl
 intro h9
 have hr : ixN ms x = -1 := ixN_none (fun j hj => hinv j (by simp at h9; omega))
 refine W_exit (xT ?_)
 refine xO ?_
 refine xF [4] ?_
 refine W_ret (xR (by simp [Tryz.f214]; exact .mk) ?_)
 simp [Tryz.f214, hr]

theorem ct168 (g : Gl) (ms : List Int) (x : Int) (hl : ms.length ≤ 2^40) : CtAt Tryz.prog g 168 [rI ms, vI x] (.v (.bool (ms.contains x))) := by
 refine ctAt_of_W Tryz.func168 rfl rfl (Nat.le_of_ble_eq_true rfl) fun B S => ?_
 simp only [List.map, argD_v]
 refine xU ?_
 refine xO ?_
 refine xG [0,1] ?_
 iterate 2 refine xO ?_
 refine xC (ct214 g ms x hl) ?_
 iterate 2 refine xO ?_
 refine xF [4] ?_
 refine W_ret (xR (by simp [Tryz.f168]; exact .mk) ?_)
 simp [Tryz.f168, ixN_nonneg]

open Go.Awp
theorem in167 (g : Gl) (o0 o1 o2 o4 : Awp.Obj) (l : List (Int × Int)) (ms : List Nat) (i j : Nat) (hl : l.length ≤ 2^40) (hi : i < l.length) (hj : j < l.length) (hb : ∀ k, k < l.length → -2^40 ≤ (nth l k).1 ∧ (nth l k).1 ≤ 2^40) : ∀ B S, CallsA Tryz.prog g B S ⟨7, true⟩ 167 [.d (vI i), .d (vI j), .ptr 5 0 0] [o0, o1, o2, .row 2 (l.map eObj), o4, .var 32 [.hdr 3 0 l.length], .row 1 (ms.map fun (k : Nat) => vI k)] (fun x r => x = .d (vI ((nth l i).1 - (nth l j).1)) ∧ r = [o0, o1, o2, .row 2 (l.map eObj), o4, .var 32 [.hdr 3 0 l.length], .row 1 (ms.map fun (k : Nat) => vI k)]) := by
 refine callsA_at Tryz.func167 rfl (Nat.le_of_ble_eq_true rfl) fun B S => ?_
 have e1 : IntKind.i64.wrap ((nth l i).1 - (nth l j).1) = (nth l i).1 - (nth l j).1 := wrap64 (by have := hb i hi; have := hb j hj; omega) (by have := hb i hi; have := hb j hj; omega)
 refine xU ?_
 refine xO ?_
 refine xF [0,1,2] ?_
 refine W_seq ?_
 refine W_regD (by kernel_rfl) [] 4 [0,1,2,3,4,5,6,7,8,9,10,11] (by decide +kernel) ?_
 iterate 2 refine xO ?_
 refine xO ?_ (h := by simp [hi]; exact .mk)
 refine xO ?_
 refine xO ?_ (h := by simp [-List.getElem?_map, map_get hi, eObj]; exact .mk)
 iterate 2 refine xO ?_
 refine xO ?_ (h := by simp [hj]; exact .mk)
 refine xO ?_
 refine xO ?_ (h := by simp [-List.getElem?_map, map_get hj, eObj]; exact .mk)
 refine xO ?_ (h := by simp [e1]; exact .mk)
 refine xO ?_
 refine xF [5] ?_
 refine W_ret (endAt_ret (by simp [Tryz.f167]; exact .mk) ?_ ?_)
 · simp
 simp

theorem in166 (g : Gl) (o0 o1 o2 o4 : Awp.Obj) (l : List (Int × Int)) (ms : List Nat) (hl : l.length ≤ 2^40) (hm : ms.length ≤ 2^40) (hne : ms ≠ []) (hmm : ∀ i, i < ms.length → nth ms i < l.length) (hb : ∀ k, k < l.length → -2^40 ≤ (nth l k).1 ∧ (nth l k).1 ≤ 2^40) : ∀ B S, CallsA Tryz.prog g B S ⟨7, true⟩ 166 [.hdr 6 0 ms.length, .fn (.func 167) [] [.ptr 5 0 0]] [o0, o1, o2, .row 2 (l.map eObj), o4, .var 32 [.hdr 3 0 l.length], .row 1 (ms.map fun (k : Nat) => vI k)] (fun x r => x = .d (vI (leastS l ms : Nat)) ∧ r = [o0, o1, o2, .row 2 (l.map eObj), o4, .var 32 [.hdr 3 0 l.length], .row 1 (ms.map fun (k : Nat) => vI k)]) := by
 refine callsA_at Tryz.func166 rfl (Nat.le_of_ble_eq_true rfl) fun B S => ?_
 have hm0 : 0 < ms.length := List.length_pos_iff.2 hne
 refine xU ?_
 refine xO ?_
 refine xF [0,1] ?_
 refine W_seq (xU ?_)
 iterate 3 refine xO ?_
 refine xF [0,1,9] ?_
 refine W_cond rfl ?_ ?_
 · intro h9
   simp at h9; omega
 intro h9
 refine W_skip ?_
 refine xT ?_
 refine xO ?_
 refine xO ?_ (h := by simp [hm0]; exact .mk)
 refine xO ?_ (h := by simp [-List.getElem?_map, map_get hm0]; exact .mk)
 refine xO ?_
 refine xF [0,1,5] ?_
 refine W_seq (xU ?_)
 refine xO ?_
 refine xF [0,1,5,6] ?_
 refine W_block (W_rounds (fun m σ o => ∃ i : Nat, m = ms.length - i ∧ 1 ≤ i ∧ i ≤ ms.length ∧ σ = slots [(0, .hdr 6 0 ms.length), (1, .fn (.func 167) [] [.ptr 5 0 0]), (5, .d (vI (leastS l (ms.take i) : Nat))), (6, .d (vI i))] ∧ o = [o0, o1, o2, .row 2 (l.map eObj), o4, .var 32 [.hdr 3 0 l.length], .row 1 (ms.map fun (k : Nat) => vI k)]) (ms.length - 1) .refl ⟨1, by simp, by simp, by omega, by rw [leastS_one hne]; simp, rfl⟩ ?_)
 rintro m σ o ⟨i, rfl, hi1, hi, rfl, rfl⟩ _
 refine W_seq (xU ?_)
 iterate 4 refine xO ?_
 refine xF [0,1,5,6,17] ?_
 refine W_cond rfl ?_ ?_
 · intro h17
   have hi2 : i < ms.length := by simpa using h17
   have hle := leastS_in hne hmm hi1
   have hst := leastS_step l hi1 hi2
   refine W_skip ?_
   rintro -
   refine W_seq (W_block ?_)
   refine xU ?_
   iterate 3 refine xO ?_
   refine xO ?_ (h := by simp [hi2]; exact .mk)
   refine xO ?_ (h := by simp [-List.getElem?_map, map_get hi2]; exact .mk)
   refine xO ?_
   refine run_inl0 rfl rfl rfl rfl (by simp; exact .mk) ⟨_, Tryz.func167, rfl, rfl⟩ (in167 g o0 o1 o2 o4 l ms (nth ms i) (leastS l (ms.take i)) hl (hmm i hi2) hle hb) (.inl (by simp)) ?_
   refine xO ?_
   refine xF [0,1,5,6,27] ?_
   refine W_cond rfl ?_ ?_
   · intro h27
     have hlt : (nth l (nth ms i)).1 < (nth l (leastS l (ms.take i))).1 := by simp at h27; omega
     rw [if_pos hlt] at hst
     refine W_reg rfl ?_
     iterate 2 refine xO ?_
     refine xO ?_ (h := by simp [hi2]; exact .mk)
     refine xO ?_ (h := by simp [-List.getElem?_map, map_get hi2]; exact .mk)
     refine xO ?_
     refine xF [0,1,5,6] ?_
     refine W_reg rfl ?_
     iterate 3 refine xO ?_
     refine xE [0,1,5,6] ?_
     refine rounds_kill [0,1,5,6] ?_
     refine rounds_next (m' := ms.length - (i+1)) (by omega) ⟨i+1, rfl, by omega, by omega, ?_, rfl⟩
     rw [wrap64 (by omega) (by omega), hst]; rfl
   intro h27
   have hlt : ¬ (nth l (nth ms i)).1 < (nth l (leastS l (ms.take i))).1 := by simp at h27; omega
   rw [if_neg hlt] at hst
   refine W_skip ?_
   rintro -
   refine W_reg rfl ?_
   iterate 3 refine xO ?_
   refine xE [0,1,5,6] ?_
   refine rounds_kill [0,1,5,6] ?_
   refine rounds_next (m' := ms.length - (i+1)) (by omega) ⟨i+1, rfl, by omega, by omega, ?_, rfl⟩
   rw [wrap64 (by omega) (by omega), hst]; rfl
 intro h17
 obtain rfl : i = ms.length := by simp at h17; omega
 rw [List.take_length]
 refine W_exit (xT ?_)
 iterate 2 refine xO ?_
 refine xF [4] ?_
 refine W_ret (endAt_ret (by simp [Tryz.f166]; exact .mk) ?_ ?_)
 · simp
 simp

open Go.Awp
theorem ct122 (g : Gl) (s : Stt) (hs : s.Ok) (mode step : Int) (hb : -2^60 ≤ s.base + step ∧ s.base + step ≤ 2^60) : CtAt Tryz.prog g 122 [eStt s, vI mode, vI step] (.tup [oStt (turnS s mode step), vI 0]) := by
 refine ctAt_of_W Tryz.func122 rfl rfl (Nat.le_of_ble_eq_true rfl) fun B S => ?_
 simp only [eStt, List.map, argD_agg, argD_v]
 have e1 : IntKind.i64.wrap (s.base + step) = s.base + step := wrap64 (by omega) (by omega)
 refine xU ?_
 iterate 3 refine xO ?_
 refine xG [1,2,3,6] ?_
 refine xO ?_
 refine xO ?_ (h := by simp [eSlot]; exact .mk)
 refine xC (ct24 g s hs) ?_ (hi := by simp [oStt]; exact .mk)
 refine xO ?_
 refine xO ?_ (h := by simp [splice]; exact .mk)
 refine xG [1,2,6,8] ?_
 iterate 2 refine xO ?_
 refine xO ?_ (h := by simp [eSlot]; exact .mk)
 refine xO ?_
 refine xO ?_ (h := by simp [e1]; exact .mk)
 refine xO ?_
 refine xO ?_ (h := by simp [splice]; exact .mk)
 refine xO ?_
 refine xO ?_ (h := by simp [splice]; exact .mk)
 refine xG [6,8] ?_
 refine xO ?_ (h := by simp [eSlot]; exact .mk)
 refine xO ?_ (h := by simp [splice]; exact .mk)
 refine xO ?_
 refine xF [6,7] ?_
 refine W_ret (end_ret (by simp [Tryz.f122]; exact .mk) (by simp; exact .mk) ?_ (by simp [oStt]))
 simp [Tryz.f122, oStt, ownR, turnS]

theorem ct164 (g : Gl) (s : Stt) (hs : s.Ok) (hR : sttS s = true) (fr size : Int) (hfr : 0 ≤ fr ∧ fr ≤ 2^20) : CtAt Tryz.prog g 164 [eStt s, vI fr, vI size] (.tup [vI ((behindS s fr size).getD 0), .v (.bool (behindS s fr size).isSome)]) := by
 refine ctAt_of_W Tryz.func164 rfl rfl (Nat.le_of_ble_eq_true rfl) fun B S => ?_
 simp only [eStt, List.map, argD_agg, argD_v]
 have q0 := hs.h1
 have hb := superS_b (sttS_super hR)
 have hol := onesS_len (l := s.slots)
 have hT := tableS_len (sttS_rows hR)
 refine xU ?_
 iterate 3 refine xO ?_
 refine xG [1,2,3] ?_
 refine xO ?_
 refine xF [1,2,3,8] ?_
 refine W_seq (xU ?_)
 refine xO ?_
 refine xO ?_ (h := by simp [eBlk]; exact .mk)
 refine xC (ct28 g s hs) ?_
 iterate 2 refine xO ?_
 refine xF [1,2,3,8,21,22,23] ?_
 refine W_block ?_
 refine W_rounds (fun m σ o => ∃ i : Nat, m = (onesS s.slots).length - i ∧ i ≤ (onesS s.slots).length ∧ σ = slots [(1, .d (vI fr)), (2, .d (vI size)), (3, .ptr 0 0 0), (8, .hdr 2 0 i), (21, .hdr 1 0 (onesS s.slots).length), (22, .d (vI (onesS s.slots).length)), (23, .d (vI i))] ∧ o = [.var 144 [.d (vI s.sh.pages), .d (vI s.sh.slots), .d (vI s.sh.roots), .d (vI s.sh.room), .d (vI s.mode), .d (vI s.base), .d (rSl s.slots), .d (rR s.roots), .d (rBB s.data)], .row 3 ((onesS s.slots).map eBlk), .row 2 (((onesS s.slots).take i).map fun b => eObj (spanOf b))]) (onesS s.slots).length
  (Weak.trans (Weak.nilRow 8 2 rfl) (Weak.kills [1,2,3,8,21,22,23] rfl) (fun _ _ _ h1 h2 => by rw [← h1.len]; exact h2)) ⟨0, by simp, by simp, by simp, by simp⟩ ?_
 rintro m σ o ⟨i, rfl, hi, rfl, rfl⟩ _
 refine xU ?_
 refine xO ?_
 refine xF [1,2,3,8,21,22,23,24] ?_
 refine W_seq (W_cond rfl ?_ ?_)
 · intro h24
   have hi2 : i < (onesS s.slots).length := by simpa using h24
   have e1 : (i + 1) * 16 ≤ 140737488355328 := by omega
   have e2 : i ≤ 140737488355327 := by omega
   have htk : ((onesS s.slots).take i).length = i := by simp; omega
   refine W_skip ?_
   rintro -
   refine W_seq (W_block ?_)
   refine xU ?_
   refine xO ?_ (h := by simp [eBlk, hi2]; exact .mk)
   refine xO ?_ (h := by simp [-List.getElem?_map, map_get hi2, eBlk]; exact .mk)
   refine xO ?_
   refine xO ?_ (h := by simp [splice]; exact .mk)
   refine xF [1,2,3,8,10,21,22,23] ?_
   refine W_reg rfl ?_
   iterate 2 refine xO ?_
   refine xO ?_ (h := by simp [eBlk]; exact .mk)
   refine xO ?_
   refine xO ?_ (h := by simp [eBlk]; exact .mk)
   refine xO ?_ (h := by simp [splice]; exact .mk)
   refine xO ?_
   refine xO ?_ (h := by simp [rows, e1, e2, htk, Nat.min_eq_left hi]; exact .mk)
   refine xO ?_
   refine xF [1,2,3,8,21,22,23] ?_
   refine W_reg rfl ?_
   iterate 2 refine xO ?_
   refine xE [1,2,3,8,21,22,23] ?_
   refine rounds_kill [1,2,3,8,21,22,23] ?_
   refine rounds_kills [1,2,3,8,21,22,23] rfl ?_
   refine rounds_swap 2 5 1 (by decide) (by simp) (by decide) rfl rfl ?_
   refine rounds_drop 3 [1,2,3,8,21,22,23] (by decide) (by rfl) (by rfl) ?_
   refine rounds_next (m' := (onesS s.slots).length - (i+1)) (by omega) ⟨i+1, rfl, by omega, ?_, ?_⟩
   · rw [wrap64 (by omega) (by omega)]; simp; try rfl
   rw [take_succ hi2]; simp [eObj, spanOf, eBlk]; try rfl
 intro h24
 obtain rfl : i = (onesS s.slots).length := by simp at h24; omega
 obtain ⟨U, hU⟩ : ∃ U, U = spansS s.slots := ⟨_, rfl⟩
 have hm : List.take (onesS s.slots).length (List.map (fun b => eObj (spanOf b)) (onesS s.slots)) = U.map eObj := by rw [hU, spansS, ← List.map_take, List.take_length, List.map_map]; rfl
 have hm2 : (onesS s.slots).length = U.length := by rw [hU, spansS, List.length_map]
 rw [hm, hm2]
 have e4 : IntKind.i64.wrap (s.base * 32) = s.base * 32 := wrap64 (by omega) (by omega)
 have e5 : IntKind.i64.wrap (s.sh.pages * 32) = s.sh.pages * 32 := wrap64 (by omega) (by omega)
 have hG := sttS_gaps hR
 rw [← hU] at hG
 have c205 := ct205 g (s.base * 32) (s.sh.pages * 32) U (by omega) hG
 have hgl := gapsF_len (to := s.sh.pages * 32) (l := U) (a := s.base * 32)
 have hgm := gapsF_b hR
 obtain ⟨G, hGG⟩ : ∃ G, G = gapsF (s.sh.pages * 32) (s.base * 32) U := ⟨_, rfl⟩
 have hr : behindS s fr size = (bestS (clipS fr G) size).map (·.1) := by rw [hGG, hU]; rfl
 have hgo : gapsOf s = G := by rw [hGG, hU]; rfl
 rw [hgo] at hgm
 rw [← hGG] at c205 hgl
 refine W_exit (xT ?_)
 iterate 2 refine xO ?_
 refine xO ?_ (h := by simp [eBlk]; exact .mk)
 refine xO ?_ (h := by simp [e4]; exact .mk)
 iterate 3 refine xO ?_
 refine xO ?_ (h := by simp [eBlk]; exact .mk)
 refine xO ?_ (h := by simp [e5]; exact .mk)
 refine xO ?_
 refine xC (c205) ?_
 iterate 5 refine xO ?_
 refine xG [1,2,11] ?_
 refine xO ?_
 refine xF [1,2,11,13] ?_
 refine W_seq (xU ?_)
 iterate 3 refine xO ?_
 refine xF [1,2,13,50,51,52] ?_
 refine W_block ?_
 refine W_rounds (fun m σ o => ∃ i : Nat, m = G.length - i ∧ i ≤ G.length ∧ σ = slots [(1, .d (vI fr)), (2, .d (vI size)), (13, .hdr 4 0 (clipS fr (G.take i)).length), (50, .hdr 3 0 G.length), (51, .d (vI G.length)), (52, .d (vI i))] ∧ o = [.var 144 [.d (vI s.sh.pages), .d (vI s.sh.slots), .d (vI s.sh.roots), .d (vI s.sh.room), .d (vI s.mode), .d (vI s.base), .d (rSl s.slots), .d (rR s.roots), .d (rBB s.data)], .row 3 ((onesS s.slots).map eBlk), .row 2 (U.map eObj), .row 2 (G.map eObj), .row 2 ((clipS fr (G.take i)).map eObj)]) G.length
  (Weak.trans (Weak.nilRow 13 2 rfl) (Weak.kills [1,2,13,50,51,52] rfl) (fun _ _ _ h1 h2 => by rw [← h1.len]; exact h2)) ⟨0, by simp, by simp, by simp [clipS], by simp [clipS]⟩ ?_
 rintro m σ o ⟨i, rfl, hi3, rfl, rfl⟩ _
 refine xU ?_
 refine xO ?_
 refine xF [1,2,13,50,51,52,53] ?_
 refine W_seq (W_cond rfl ?_ ?_)
 · intro h53
   have hi4 : i < G.length := by simpa using h53
   have hst := clip_step (fr := fr) hi4
   have hcl := clip_len (fr := fr) (l := G.take i)
   have f1 : ((clipS fr (G.take i)).length + 1) * 16 ≤ 140737488355328 := by simp at hcl; omega
   have f2 : (clipS fr (G.take i)).length ≤ 140737488355327 := by simp at hcl; omega
   have hgi := hgm _ (nth_mem hi4)
   have w1 : IntKind.i64.wrap (fr - (nth G i).1) = fr - (nth G i).1 := wrap64 (by omega) (by omega)
   have w2 : IntKind.i64.wrap ((nth G i).2 - (fr - (nth G i).1)) = (nth G i).2 - (fr - (nth G i).1) := wrap64 (by omega) (by omega)
   refine W_skip ?_
   rintro -
   refine W_seq (W_block ?_)
   refine xU ?_
   refine xO ?_ (h := by simp [eBlk, hi4]; exact .mk)
   refine xO ?_ (h := by simp [-List.getElem?_map, map_get hi4, eObj]; exact .mk)
   refine xO ?_
   refine xO ?_ (h := by simp [splice]; exact .mk)
   refine xF [1,2,13,15,50,51,52] ?_
   refine W_seq (xU ?_)
   iterate 2 refine xO ?_
   refine xO ?_ (h := by simp [eBlk]; exact .mk)
   refine xO ?_ (h := by simp [w1]; exact .mk)
   refine xO ?_
   refine xG [1,2,13,15,16,50,51,52] ?_
   iterate 2 refine xO ?_
   refine xF [1,2,13,15,16,50,51,52,61] ?_
   refine W_cond rfl ?_ ?_
   · intro h61
     have hcg : clipG fr (nth G i) = (fr, (nth G i).2 - (fr - (nth G i).1)) := by unfold clipG; rw [if_pos (by simpa using h61)]
     rw [hcg] at hst
     refine W_reg rfl ?_
     iterate 2 refine xO ?_
     refine xO ?_ (h := by simp [eBlk]; exact .mk)
     refine xO ?_
     refine xO ?_ (h := by simp [w2]; exact .mk)
     refine xO ?_
     refine xO ?_ (h := by simp [splice]; exact .mk)
     refine xO ?_
     refine xO ?_ (h := by simp [splice]; exact .mk)
     refine xG [1,2,13,15,50,51,52] ?_
     refine xO ?_
     refine xO ?_ (h := by simp [eBlk]; exact .mk)
     refine xO ?_
     refine xF [1,2,13,15,50,51,52,71] ?_
     refine W_cond rfl ?_ ?_
     · intro h71
       rw [if_pos (by simpa using h71)] at hst
       refine W_reg rfl ?_
       refine xO ?_
       refine xO ?_ (h := by simp [eBlk]; exact .mk)
       refine xO ?_
       refine xO ?_ (h := by simp [rows, f1, f2]; exact .mk)
       refine xO ?_
       refine xF [1,2,13,50,51,52] ?_
       refine W_reg rfl ?_
       iterate 2 refine xO ?_
       refine xE [1,2,13,50,51,52] ?_
       refine rounds_kill [1,2,13,50,51,52] ?_
       first
       | (refine rounds_drop 5 [1,2,13,50,51,52] (by decide) (by rfl) (by rfl) ?_
          refine rounds_next (m' := G.length - (i+1)) (by omega) ⟨i+1, rfl, by omega, ?_, ?_⟩
          · rw [wrap64 (by omega) (by omega), hst]; rfl
          rw [hst]; rfl)
       | (refine rounds_kills [1,2,13,50,51,52] rfl ?_
          refine rounds_swap 4 7 1 (by decide) (by simp) (by decide) rfl rfl ?_
          refine rounds_drop 5 [1,2,13,50,51,52] (by decide) (by rfl) (by rfl) ?_
          refine rounds_next (m' := G.length - (i+1)) (by omega) ⟨i+1, rfl, by omega, ?_, ?_⟩
          · rw [wrap64 (by omega) (by omega), hst]; simp; try rfl
          rw [hst]; simp [eObj]; try rfl)
     intro h71
     rw [if_neg (by simpa using h71)] at hst
     rw [List.append_nil] at hst
     refine W_skip ?_
     rintro -
     refine W_reg rfl ?_
     iterate 2 refine xO ?_
     refine xE [1,2,13,50,51,52] ?_
     refine rounds_kill [1,2,13,50,51,52] ?_
     first
     | (refine rounds_drop 5 [1,2,13,50,51,52] (by decide) (by rfl) (by rfl) ?_
        refine rounds_next (m' := G.length - (i+1)) (by omega) ⟨i+1, rfl, by omega, ?_, ?_⟩
        · rw [wrap64 (by omega) (by omega), hst]; rfl
        rw [hst]; rfl)
     | (refine rounds_kills [1,2,13,50,51,52] rfl ?_
        refine rounds_swap 4 7 1 (by decide) (by simp) (by decide) rfl rfl ?_
        refine rounds_drop 5 [1,2,13,50,51,52] (by decide) (by rfl) (by rfl) ?_
        refine rounds_next (m' := G.length - (i+1)) (by omega) ⟨i+1, rfl, by omega, ?_, ?_⟩
        · rw [wrap64 (by omega) (by omega), hst]; simp; try rfl
        rw [hst]; simp [eObj]; try rfl)
   intro h61
   have hcg : clipG fr (nth G i) = nth G i := by unfold clipG; rw [if_neg (by simpa using h61)]
   rw [hcg] at hst
   refine W_skip ?_
   refine xT ?_
   refine xO ?_
   refine xO ?_ (h := by simp [eBlk]; exact .mk)
   refine xO ?_
   refine xF [1,2,13,15,50,51,52,71] ?_
   refine W_cond rfl ?_ ?_
   · intro h71
     rw [if_pos (by simpa using h71)] at hst
     refine W_reg rfl ?_
     refine xO ?_
     refine xO ?_ (h := by simp [eBlk]; exact .mk)
     refine xO ?_
     refine xO ?_ (h := by simp [rows, f1, f2]; exact .mk)
     refine xO ?_
     refine xF [1,2,13,50,51,52] ?_
     refine W_reg rfl ?_
     iterate 2 refine xO ?_
     refine xE [1,2,13,50,51,52] ?_
     refine rounds_kill [1,2,13,50,51,52] ?_
     first
     | (refine rounds_drop 5 [1,2,13,50,51,52] (by decide) (by rfl) (by rfl) ?_
        refine rounds_next (m' := G.length - (i+1)) (by omega) ⟨i+1, rfl, by omega, ?_, ?_⟩
        · rw [wrap64 (by omega) (by omega), hst]; rfl
        rw [hst]; rfl)
     | (refine rounds_kills [1,2,13,50,51,52] rfl ?_
        refine rounds_swap 4 7 1 (by decide) (by simp) (by decide) rfl rfl ?_
        refine rounds_drop 5 [1,2,13,50,51,52] (by decide) (by rfl) (by rfl) ?_
        refine rounds_next (m' := G.length - (i+1)) (by omega) ⟨i+1, rfl, by omega, ?_, ?_⟩
        · rw [wrap64 (by omega) (by omega), hst]; simp; try rfl
        rw [hst]; simp [eObj]; try rfl)
   intro h71
   rw [if_neg (by simpa using h71)] at hst
   rw [List.append_nil] at hst
   refine W_skip ?_
   rintro -
   refine W_reg rfl ?_
   iterate 2 refine xO ?_
   refine xE [1,2,13,50,51,52] ?_
   refine rounds_kill [1,2,13,50,51,52] ?_
   first
   | (refine rounds_drop 5 [1,2,13,50,51,52] (by decide) (by rfl) (by rfl) ?_
      refine rounds_next (m' := G.length - (i+1)) (by omega) ⟨i+1, rfl, by omega, ?_, ?_⟩
      · rw [wrap64 (by omega) (by omega), hst]; rfl
      rw [hst]; rfl)
   | (refine rounds_kills [1,2,13,50,51,52] rfl ?_
      refine rounds_swap 4 7 1 (by decide) (by simp) (by decide) rfl rfl ?_
      refine rounds_drop 5 [1,2,13,50,51,52] (by decide) (by rfl) (by rfl) ?_
      refine rounds_next (m' := G.length - (i+1)) (by omega) ⟨i+1, rfl, by omega, ?_, ?_⟩
      · rw [wrap64 (by omega) (by omega), hst]; simp; try rfl
      rw [hst]; simp [eObj]; try rfl)
 intro h53
 obtain rfl : i = G.length := by simp at h53; omega
 rw [List.take_length]
 have hcl := clip_len (fr := fr) (l := G)
 obtain ⟨V, hV⟩ : ∃ V, V = clipS fr G := ⟨_, rfl⟩
 rw [← hV] at hr hcl ⊢
 have c206 := ct206 g V (by omega) size
 obtain ⟨b, hbb⟩ : ∃ b, b = bestS V size := ⟨_, rfl⟩
 rw [← hbb] at hr c206
 refine W_exit (xT ?_)
 iterate 2 refine xO ?_
 refine xC (c206) ?_
 iterate 4 refine xO ?_
 refine xO ?_ (h := by simp [splice]; exact .mk)
 refine xO ?_
 refine xG [17,18] ?_
 refine xO ?_
 refine xO ?_ (h := by simp [eBlk]; exact .mk)
 iterate 3 refine xO ?_
 refine xF [6,7] ?_
 refine W_ret (xR (by simp [Tryz.f164]; exact .mk) ?_)
 first | (simp [Tryz.f164, hr]; done) | (simp [Tryz.f164, hr]; cases b <;> simp [eObj])

open Go.Awp
theorem ct125 (g : Gl) (s : Stt) (hs : s.Ok) (hR : sttS s = true) : CtAt Tryz.prog g 125 [eStt s] (.tup [oStt (downStep s).1, vI (downStep s).2]) := by
 refine ctAt_of_W Tryz.func125 rfl rfl (Nat.le_of_ble_eq_true rfl) fun B S => ?_
 simp only [eStt, List.map, argD_agg, argD_v]
 have q0 := hs.h1
 have hb := superS_b (sttS_super hR)
 have e1 : IntKind.i64.wrap (s.base - 1) = s.base - 1 := wrap64 (by omega) (by omega)
 have c22 := ct22 g s hs
 obtain ⟨l, hL⟩ : ∃ l, l = twosO s.slots := ⟨_, rfl⟩
 obtain ⟨I, hI⟩ : ∃ I, I = twosI s.slots := ⟨_, rfl⟩
 rw [← hL, ← hI] at c22
 obtain ⟨hll, hIl, hlaid, hlb⟩ := down_facts hs hR
 rw [← hL] at hll hIl hlaid hlb
 rw [← hI] at hIl
 obtain ⟨ms, hM⟩ : ∃ ms, ms = matesS s.base l (s.base - 1) := ⟨_, rfl⟩
 obtain ⟨M, hMM⟩ : ∃ M : List Int, M = ms.map fun (k : Nat) => (k : Int) := ⟨_, rfl⟩
 have hMl : ms.length = M.length := by rw [hMM, List.length_map]
 have hml : ms.length ≤ l.length := by rw [hM, matesS]; exact Nat.le_trans (List.length_filter_le _ _) (by simp)
 have c165 := ct165 g s.base (s.base - 1) l hll (fun i hi => (hlb i hi).2) hlaid (by omega)
 rw [← hM, ← hMM] at c165
 have hmm : ∀ i, i < ms.length → nth ms i < l.length := fun i hi => by
  have := nth_mem hi
  rw [hM] at this
  simp only [matesS, List.mem_filter, List.mem_range] at this
  rw [hM]; exact this.1
 have hrow : (ms.map fun (k : Nat) => vI k) = M.map vI := by rw [hMM, List.map_map]; rfl
 have c168 : ∀ i : Nat, CtAt Tryz.prog g 168 [rI M, vI i] (.v (.bool (ms.contains i))) := fun i => by
  have := ct168 g M i (by omega)
  rw [hMM, castN_contains] at this
  rw [hMM]; exact this
 refine xU ?_
 iterate 3 refine xO ?_
 refine xG [1,2] ?_
 refine xO ?_
 refine xO ?_ (h := by simp [eSlot]; exact .mk)
 refine xO ?_
 refine xO ?_ (h := by simp [splice]; exact .mk)
 refine xF [1,2,4] ?_
 refine W_seq (xU ?_)
 refine xO ?_
 refine xO ?_ (h := by simp [eSlot]; exact .mk)
 refine xO ?_
 refine xF [1,2,4,21] ?_
 refine W_cond rfl ?_ ?_
 · intro h21
   have hq : s.base = 0 := by simpa using h21
   have hr : downStep s = (turnS s 1 0, 0) := by unfold downStep; rw [if_pos hq]
   refine xU ?_
   refine xO ?_ (h := by simp [eSlot]; exact .mk)
   refine xC (ct122 g s hs 1 0 (by omega)) ?_ (he := by simp [row_rows, Function.comp_def]; exact .mk) (hi := by simp [oStt]; exact .mk)
   iterate 2 refine xO ?_
   refine xO ?_ (h := by simp [splice]; exact .mk)
   refine xO ?_
   refine xF [2,3] ?_
   refine W_ret (end_ret (by simp [Tryz.f125]; exact .mk) (by simp; exact .mk) ?_ (by simp [oStt]))
   first | (simp [Tryz.f125, hr, oStt, ownR]; done) | (simp [Tryz.f125, hr, oStt, zStt, ownR, turnS]; done)
 intro h21
 have hq : s.base ≠ 0 := by simpa using h21
 refine W_skip ?_
 refine xT ?_
 refine xO ?_ (h := by simp [eSlot]; exact .mk)
 refine xC (c22) ?_ (he := by simp [row_rows, Function.comp_def]; exact .mk) (hi := by simp [oStt]; exact .mk)
 iterate 4 refine xO ?_
 refine xO ?_ (h := by simp [splice]; exact .mk)
 refine xO ?_
 refine xG [1,2,4,5,6] ?_
 refine xO ?_
 iterate 2 (refine xO ?_ (h := by simp [eSlot]; exact .mk))
 refine xO ?_
 refine xO ?_ (h := by simp [eSlot]; exact .mk)
 refine xO ?_ (h := by simp [e1]; exact .mk)
 refine xC (c165) ?_ (he := by simp [row_rows, Function.comp_def]; exact .mk) (hi := by simp [oStt]; exact .mk)
 refine xO ?_
 refine xF [1,2,4,5,6,7] ?_
 refine W_seq (xU ?_)
 iterate 3 refine xO ?_
 refine xF [1,2,4,5,6,7,40] ?_
 refine W_cond rfl ?_ ?_
 · intro h40
   have hc : ms = [] := List.length_eq_zero_iff.1 (by rw [hMl]; simp at h40; simp [h40])
   have hr : downStep s = (turnS s s.mode (-1), 0) := by unfold downStep; rw [← hL, ← hM, if_neg hq, if_pos hc]
   refine xU ?_
   refine xO ?_ (h := by simp [eSlot]; exact .mk)
   refine xO ?_
   refine xO ?_ (h := by simp [eSlot]; exact .mk)
   refine xC (ct122 g s hs s.mode (-1) (by omega)) ?_ (he := by simp [row_rows, Function.comp_def]; exact .mk) (hi := by simp [oStt]; exact .mk)
   iterate 2 refine xO ?_
   refine xO ?_ (h := by simp [splice]; exact .mk)
   refine xO ?_
   refine xF [2,3] ?_
   refine W_ret (end_ret (by simp [Tryz.f125]; exact .mk) (by simp; exact .mk) ?_ (by simp [oStt]))
   first | (simp [Tryz.f125, hr, oStt, ownR]; done) | (simp [Tryz.f125, hr, oStt, zStt, ownR, turnS]; done)
 intro h40
 have hne : ms ≠ [] := fun e => by rw [e] at hMl; simp at h40; simp [List.length_eq_zero_iff] at hMl; exact absurd hMl.symm (by simpa using h40)
 obtain ⟨j, hj⟩ : ∃ j, j = leastS l ms := ⟨_, rfl⟩
 have hm0 : 0 < ms.length := List.length_pos_iff.2 hne
 have hjl : j < l.length := by have := leastS_in (l := l) hne hmm (i := ms.length) hm0; rwa [List.take_length, ← hj] at this
 have hjI : j < I.length := by omega
 have c166 := fun o0 o1 o2 o4 => in166 g o0 o1 o2 o4 l ms hll (by omega) hne hmm (fun k hk => ⟨by have := hlb k hk; omega, by have := hlb k hk; omega⟩)
 simp only [hrow, ← hj, hMl] at c166
 have hr0 : downStep s = (match roomS s false (nth l j).2 with | some a => moveS s (nth I j) false a | none => match placeS (s.base - 1) (restS l ms) (nth l j).2 with | some a => moveS s (nth I j) true a | none => (zStt, 10)) := by unfold downStep; rw [← hL, ← hI, ← hM, if_neg hq, if_neg hne, ← hj]; rfl
 refine W_skip ?_
 refine xT ?_
 iterate 2 refine xO ?_
 refine run_inl0 rfl rfl rfl rfl (by simp; exact .mk) ⟨_, Tryz.func166, rfl, rfl⟩ (c166 _ _ _ _) (.inl (by simp)) ?_
 refine xO ?_
 refine xG [2,4,5,6,7,8] ?_
 refine xO ?_ (h := by simp [eSlot]; exact .mk)
 refine xO ?_
 refine xO ?_ (h := by simp [eSlot, hjl]; exact .mk)
 refine xO ?_
 refine xO ?_ (h := by simp [-List.getElem?_map, map_get hjl, eObj]; exact .mk)
 refine xO ?_
 refine xF [2,4,5,6,7,8,9] ?_
 refine W_seq (xU ?_)
 refine xO ?_ (h := by simp [eSlot]; exact .mk)
 refine xO ?_
 refine xC (ct38 g s hs false (nth l j).2) ?_ (he := by simp [row_rows, Function.comp_def]; exact .mk) (hi := by simp [oStt]; exact .mk)
 iterate 5 refine xO ?_
 refine xG [2,4,5,6,7,8,9,10,11] ?_
 refine xO ?_
 refine xF [2,4,5,6,7,8,9,10,61] ?_
 refine W_cond rfl ?_ ?_
 · intro h61
   obtain ⟨a, ha⟩ : ∃ a, roomS s false (nth l j).2 = some a := Option.isSome_iff_exists.1 (by simpa using h61)
   rw [ha] at hr0 ⊢
   have hr : downStep s = moveS s (nth I j) false a := hr0
   refine W_seq ?_
   refine W_regD (by kernel_rfl) [] 4 [0,1,2,3,4,5,6,7,8,9,10] (by decide +kernel) ?_
   refine xO ?_ (h := by simp [eSlot]; exact .mk)
   iterate 2 refine xO ?_
   refine xO ?_ (h := by simp [eSlot, hjI]; exact .mk)
   refine xO ?_ (h := by simp [-List.getElem?_map, map_get hjI]; exact .mk)
   refine xO ?_
   refine xC (ct45 g s hs (nth I j) false a) ?_ (he := by simp [row_rows, Function.comp_def]; exact .mk) (hi := by simp [oStt]; exact .mk)
   iterate 2 refine xO ?_
   refine xO ?_ (h := by simp [splice]; exact .mk)
   refine xO ?_
   refine xF [2,3] ?_
   refine W_ret (end_ret (by simp [Tryz.f125]; exact .mk) (by simp; exact .mk) ?_ (by simp [oStt]))
   first | (simp [Tryz.f125, hr, oStt, ownR]; done) | (simp [Tryz.f125, hr, oStt, zStt, ownR, turnS]; done)
 intro h61
 have ha : roomS s false (nth l j).2 = none := by simpa using h61
 rw [ha] at hr0
 refine W_skip ?_
 refine xT ?_
 refine xO ?_
 refine xF [2,4,5,6,7,8,9,12] ?_
 refine W_seq (xU ?_)
 refine xO ?_ (h := by simp [eSlot]; exact .mk)
 iterate 2 refine xO ?_
 refine xF [2,4,6,7,8,9,12,71,72,73] ?_
 refine W_block ?_
 obtain ⟨R, hRR⟩ : ∃ R : Nat → List (Int × Int), R = fun i => ((List.range i).filter fun i => !ms.contains i).map (nth l) := ⟨_, rfl⟩
 have hR0 : R 0 = [] := by rw [hRR]; rfl
 have hRl : R l.length = restS l ms := by rw [hRR]; rfl
 have hRn : ∀ i, (R i).length ≤ i := fun i => by rw [hRR]; simp only [List.length_map]; exact Nat.le_trans (List.length_filter_le _ _) (by simp)
 have hR1 : ∀ i, R (i + 1) = R i ++ (if ms.contains i = true then [] else [nth l i]) := fun i => by
  rw [hRR]; simp only [List.range_succ, List.filter_append, List.map_append]; congr 1
  cases hq : ms.contains i <;> simp only [List.filter_cons, List.filter_nil, hq] <;> rfl
 refine W_rounds (fun m σ o => ∃ i : Nat, m = l.length - i ∧ i ≤ l.length ∧ σ = slots [(2, .ptr 1 0 0), (4, .ptr 2 0 0), (6, .hdr 4 0 I.length), (7, .hdr 6 0 M.length), (8, .d (vI j)), (9, .d (vI (nth l j).2)), (12, .hdr 7 0 (R i).length), (71, .hdr 3 0 l.length), (72, .d (vI l.length)), (73, .d (vI i))] ∧ o = [.var 144 [.d (vI s.sh.pages), .d (vI s.sh.slots), .d (vI s.sh.roots), .d (vI s.sh.room), .d (vI s.mode), .d (vI s.base), .d (rSl s.slots), .d (rR s.roots), .d (rBB s.data)], .var 28 [.d (vI 0), .d (vI 0), .d (vI 0), .d (vI 0), .d (vI 0), .d (vI 0), .d (.v (.slice none 0 0)), .d (.v (.slice none 0 0)), .d (.v (.slice none 0 0))], .var 28 [.d (vI s.sh.pages), .d (vI s.sh.slots), .d (vI s.sh.roots), .d (vI s.sh.room), .d (vI s.mode), .d (vI s.base), .d (rSl s.slots), .d (rR s.roots), .d (rBB s.data)], .row 2 (l.map eObj), .row 1 (I.map vI), .var 32 [.hdr 3 0 l.length], .row 1 (M.map vI), .row 2 ((R i).map eObj)]) l.length
  (Weak.trans (Weak.nilRow 12 2 rfl) (Weak.kills [2,4,6,7,8,9,12,71,72,73] rfl) (fun _ _ _ h1 h2 => by rw [← h1.len]; exact h2)) ⟨0, by simp, by simp, by simp [hR0], by simp [hR0]⟩ ?_
 rintro m σ o ⟨i, rfl, hi, rfl, rfl⟩ _
 refine xU ?_
 refine xO ?_
 refine xF [2,4,6,7,8,9,12,71,72,73,74] ?_
 refine W_seq (W_cond rfl ?_ ?_)
 · intro h74
   have hi2 : i < l.length := by simpa using h74
   have hRi := hR1 i
   have e4 : ((R i).length + 1) * 16 ≤ 140737488355328 := by have := hRn i; omega
   have e5 : (R i).length ≤ 140737488355327 := by have := hRn i; omega
   refine W_skip ?_
   rintro -
   refine W_seq (W_block ?_)
   refine xU ?_
   refine xO ?_
   refine xO ?_ (h := by simp [eSlot, hi2]; exact .mk)
   refine xO ?_ (h := by simp [-List.getElem?_map, map_get hi2, eObj]; exact .mk)
   iterate 2 refine xO ?_
   refine xO ?_ (h := by simp [splice]; exact .mk)
   refine xG [2,4,6,7,8,9,12,13,14,71,72,73] ?_
   iterate 2 refine xO ?_
   refine xC (c168 i) ?_ (he := by simp [row_rows, Function.comp_def]; exact .mk) (hi := by simp [oStt]; exact .mk)
   refine xO ?_
   refine xF [2,4,6,7,8,9,12,14,71,72,73,81] ?_
   refine W_cond rfl ?_ ?_
   · intro h81
     have hc : ms.contains i = false := by simpa using h81
     rw [if_neg (by rw [hc]; simp)] at hRi
     refine W_reg rfl ?_
     refine xO ?_
     refine xO ?_ (h := by simp [eSlot]; exact .mk)
     refine xO ?_
     refine xO ?_ (h := by simp [rows, e4, e5]; exact .mk)
     refine xO ?_
     refine xF [2,4,6,7,8,9,12,71,72,73] ?_
     refine W_reg rfl ?_
     iterate 2 refine xO ?_
     refine xE [2,4,6,7,8,9,12,71,72,73] ?_
     refine rounds_kill [2,4,6,7,8,9,12,71,72,73] ?_
     first
     | (refine rounds_drop 8 [2,4,6,7,8,9,12,71,72,73] (by decide) (by rfl) (by rfl) ?_
        refine rounds_next (m' := l.length - (i+1)) (by omega) ⟨i+1, rfl, by omega, ?_, ?_⟩
        · rw [wrap64 (by omega) (by omega), hRi]; rfl
        rw [hRi]; rfl)
     | (refine rounds_kills [2,4,6,7,8,9,12,71,72,73] rfl ?_
        refine rounds_swap 7 10 1 (by decide) (by simp) (by decide) rfl rfl ?_
        refine rounds_drop 8 [2,4,6,7,8,9,12,71,72,73] (by decide) (by rfl) (by rfl) ?_
        refine rounds_next (m' := l.length - (i+1)) (by omega) ⟨i+1, rfl, by omega, ?_, ?_⟩
        · rw [wrap64 (by omega) (by omega), hRi]; simp; try rfl
        rw [hRi]; simp [eObj]; try rfl)
   intro h81
   have hc : ms.contains i = true := by simpa using h81
   rw [if_pos hc, List.append_nil] at hRi
   refine W_skip ?_
   rintro -
   refine W_reg rfl ?_
   iterate 2 refine xO ?_
   refine xE [2,4,6,7,8,9,12,71,72,73] ?_
   refine rounds_kill [2,4,6,7,8,9,12,71,72,73] ?_
   first
   | (refine rounds_drop 8 [2,4,6,7,8,9,12,71,72,73] (by decide) (by rfl) (by rfl) ?_
      refine rounds_next (m' := l.length - (i+1)) (by omega) ⟨i+1, rfl, by omega, ?_, ?_⟩
      · rw [wrap64 (by omega) (by omega), hRi]; rfl
      rw [hRi]; rfl)
   | (refine rounds_kills [2,4,6,7,8,9,12,71,72,73] rfl ?_
      refine rounds_swap 7 10 1 (by decide) (by simp) (by decide) rfl rfl ?_
      refine rounds_drop 8 [2,4,6,7,8,9,12,71,72,73] (by decide) (by rfl) (by rfl) ?_
      refine rounds_next (m' := l.length - (i+1)) (by omega) ⟨i+1, rfl, by omega, ?_, ?_⟩
      · rw [wrap64 (by omega) (by omega), hRi]; simp; try rfl
      rw [hRi]; simp [eObj]; try rfl)
 intro h74
 obtain rfl : i = l.length := by simp at h74; omega
 rw [hRl]
 obtain ⟨V, hV⟩ : ∃ V, V = restS l ms := ⟨_, rfl⟩
 have hVn := hRn l.length
 rw [hRl] at hVn
 have hVb : ∀ k, k < V.length → (nth V k).1 ≤ 2^40 := by rw [hV]; exact rest_b (fun k hk => (hlb k hk).2)
 rw [← hV] at hr0 hVn ⊢
 have c152 := ct152 g (s.base - 1) V (by omega) hVb (nth l j).2
 refine W_exit ?_
 rintro -
 refine W_seq (xU ?_)
 refine xO ?_
 refine xO ?_ (h := by simp [eSlot]; exact .mk)
 refine xO ?_ (h := by simp [e1]; exact .mk)
 iterate 2 refine xO ?_
 refine xC (c152) ?_ (he := by simp [row_rows, Function.comp_def]; exact .mk) (hi := by simp [oStt]; exact .mk)
 iterate 5 refine xO ?_
 refine xG [2,4,6,8,15,16] ?_
 refine xO ?_
 refine xF [2,4,6,8,15,96] ?_
 refine W_cond rfl ?_ ?_
 · intro h96
   obtain ⟨a, ha2⟩ : ∃ a, placeS (s.base - 1) V (nth l j).2 = some a := Option.isSome_iff_exists.1 (by simpa using h96)
   rw [ha2] at hr0 ⊢
   have hr : downStep s = moveS s (nth I j) true a := hr0
   refine W_seq ?_
   refine W_regD (by kernel_rfl) [] 4 [0,1,2,3,4,5,6,7,8,9,10] (by decide +kernel) ?_
   refine xO ?_ (h := by simp [eSlot]; exact .mk)
   iterate 2 refine xO ?_
   refine xO ?_ (h := by simp [eSlot, hjI]; exact .mk)
   refine xO ?_ (h := by simp [-List.getElem?_map, map_get hjI]; exact .mk)
   refine xO ?_
   refine xC (ct45 g s hs (nth I j) true a) ?_ (he := by simp [row_rows, Function.comp_def]; exact .mk) (hi := by simp [oStt]; exact .mk)
   iterate 2 refine xO ?_
   refine xO ?_ (h := by simp [splice]; exact .mk)
   refine xO ?_
   refine xF [2,3] ?_
   refine W_ret (end_ret (by simp [Tryz.f125]; exact .mk) (by simp; exact .mk) ?_ (by simp [oStt]))
   first | (simp [Tryz.f125, hr, oStt, ownR]; done) | (simp [Tryz.f125, hr, oStt, zStt, ownR, turnS]; done)
 intro h96
 have ha2 : placeS (s.base - 1) V (nth l j).2 = none := by simpa using h96
 rw [ha2] at hr0
 have hr : downStep s = (zStt, 10) := hr0
 refine W_skip ?_
 refine xT ?_
 iterate 2 (refine xO ?_ (h := by simp [splice]; exact .mk))
 refine xO ?_
 refine xF [2,3] ?_
 refine W_ret (end_ret (by simp [Tryz.f125]; exact .mk) (by simp; exact .mk) ?_ (by simp [oStt]))
 first | (simp [Tryz.f125, hr, oStt, ownR]; done) | (simp [Tryz.f125, hr, oStt, zStt, ownR, turnS]; done)

open Go.Awp
theorem ct124 (g : Gl) (s : Stt) (hs : s.Ok) (hR : sttS s = true) : CtAt Tryz.prog g 124 [eStt s] (.tup [oStt (upStep s).1, vI (upStep s).2]) := by
 refine ctAt_of_W Tryz.func124 rfl rfl (Nat.le_of_ble_eq_true rfl) fun B S => ?_
 simp only [eStt, List.map, argD_agg, argD_v]
 have q0 := hs.h1
 have hb := superS_b (sttS_super hR)
 have e1 : IntKind.i64.wrap (s.base + 1) = s.base + 1 := wrap64 (by omega) (by omega)
 have e2 : IntKind.i64.wrap ((s.base + 1) * 32) = (s.base + 1) * 32 := wrap64 (by omega) (by omega)
 refine xU ?_
 iterate 3 refine xO ?_
 refine xG [1,2] ?_
 refine xO ?_
 refine xO ?_ (h := by simp [eSlot]; exact .mk)
 refine xO ?_
 refine xO ?_ (h := by simp [splice]; exact .mk)
 refine xG [1,2,4] ?_
 refine xO ?_
 refine xO ?_ (h := by simp [eSlot]; exact .mk)
 refine xO ?_ (h := by simp [e1]; exact .mk)
 refine xO ?_ (h := by simp [e1, e2]; exact .mk)
 refine xO ?_
 refine xG [1,2,4,5] ?_
 refine xO ?_ (h := by simp [eSlot]; exact .mk)
 refine xC (ct28 g s hs) ?_ (he := by simp [row_rows, Function.comp_def]; exact .mk) (hi := by simp [oStt]; exact .mk)
 refine xO ?_
 refine xF [1,2,4,5,6] ?_
 refine W_seq (W_block ?_)
 refine xU ?_
 refine xO ?_
 refine xO ?_ (h := by simp [eSlot]; exact .mk)
 iterate 2 refine xO ?_
 refine xO ?_ (h := by simp [eSlot]; exact .mk)
 iterate 2 refine xO ?_
 refine xF [1,2,4,5,6,20] ?_
 refine W_cond rfl ?_ ?_
 · intro h20
   have hq : s.base = s.sh.pages := by simpa using h20
   have hr : upStep s = (turnS s 2 0, 0) := by unfold upStep; rw [if_pos hq]
   refine xU ?_
   refine xO ?_ (h := by simp [eSlot]; exact .mk)
   refine xC (ct122 g s hs 2 0 (by omega)) ?_ (he := by simp [row_rows, Function.comp_def]; exact .mk) (hi := by simp [oStt]; exact .mk)
   iterate 2 refine xO ?_
   refine xO ?_ (h := by simp [splice]; exact .mk)
   refine xO ?_
   refine xF [2,3] ?_
   refine W_ret (end_ret (by simp [Tryz.f124]; exact .mk) (by simp; exact .mk) ?_ (by simp [oStt]))
   first | (simp [Tryz.f124, hr, oStt, ownR]; done) | (simp [Tryz.f124, hr, oStt, zStt, ownR, turnS]; done)
 intro h20
 have hq : s.base ≠ s.sh.pages := by simpa using h20
 refine xU ?_
 iterate 4 refine xO ?_
 refine xI ?_
 refine run_if rfl (by simp; exact .mk) rfl (by simp <;> first | omega | grind) (fun hb => by simp at hb; have hl0 := List.length_pos_iff.2 hb; simp [hl0]; exact .mk) ?_
 refine xI ?_
 refine run_if rfl (by simp; exact .mk) rfl (by simp <;> first | omega | grind) (fun hb => by simp at hb; have hl0 := List.length_pos_iff.2 hb; simp [-List.getElem?_map, map_get hl0, eBlk]; exact .mk) ?_
 iterate 2 refine xI ?_
 refine xP ?_
 refine xB ?_
 refine xF [1,2,4,5,6,31] ?_
 refine W_cond rfl ?_ ?_
 · intro h31
   have hc : onesS s.slots = [] ∨ (s.base + 1) * 32 ≤ (nth (onesS s.slots) 0).at_ := by simp at h31; exact h31
   have hr : upStep s = (turnS s s.mode 1, 0) := by unfold upStep; rw [if_neg hq, if_pos hc]
   refine xU ?_
   refine xO ?_ (h := by simp [eSlot]; exact .mk)
   refine xO ?_
   refine xO ?_ (h := by simp [eSlot]; exact .mk)
   refine xC (ct122 g s hs s.mode 1 (by omega)) ?_ (he := by simp [row_rows, Function.comp_def]; exact .mk) (hi := by simp [oStt]; exact .mk)
   iterate 2 refine xO ?_
   refine xO ?_ (h := by simp [splice]; exact .mk)
   refine xO ?_
   refine xF [2,3] ?_
   refine W_ret (end_ret (by simp [Tryz.f124]; exact .mk) (by simp; exact .mk) ?_ (by simp [oStt]))
   first | (simp [Tryz.f124, hr, oStt, ownR]; done) | (simp [Tryz.f124, hr, oStt, zStt, ownR, turnS]; done)
 intro h31
 have hc : ¬ (onesS s.slots = [] ∨ (s.base + 1) * 32 ≤ (nth (onesS s.slots) 0).at_) := by simp at h31 ⊢; exact h31
 have hne : onesS s.slots ≠ [] := fun e => hc (.inl e)
 obtain ⟨k, hk, hk1, hk2⟩ := ones_head hne
 have hsl : (nth (onesS s.slots) 0).slot = (k : Int) := by rw [hk2]; rfl
 have hl0 := List.length_pos_iff.2 hne
 have hr0 : upStep s = (match roomS s true (nth s.slots k).len with | some a => moveS s k true a | none => match behindS s ((s.base + 1) * 32) (nth (onesS s.slots) 0).len with | some a => moveS s k false a | none => (zStt, 10)) := by unfold upStep lenAt; rw [if_neg hq, if_neg hc, hsl]; rfl
 refine W_skip ?_
 refine xT ?_
 refine xO ?_
 refine xO ?_ (h := by simp [eSlot, hl0]; exact .mk)
 refine xO ?_
 refine xO ?_ (h := by simp [-List.getElem?_map, map_get hl0, eBlk, hsl]; exact .mk)
 refine xO ?_
 refine xF [1,2,4,5,6,7] ?_
 refine W_seq (W_seq ?_)
 refine W_regD (by kernel_rfl) [] 4 [0,1,2,3,4,5,6,7,8,9,10,11,12] (by decide +kernel) ?_
 refine xO ?_ (h := by simp [eSlot]; exact .mk)
 refine xO ?_
 refine xO ?_ (h := by simp [eSlot]; exact .mk)
 refine xO ?_
 refine xO ?_ (h := by simp [eSlot, hk]; exact .mk)
 refine xO ?_
 refine xO ?_ (h := by simp [eSlot]; exact .mk)
 refine xC (ct38 g s hs true (nth s.slots k).len) ?_ (he := by simp [row_rows, Function.comp_def]; exact .mk) (hi := by simp [oStt]; exact .mk)
 iterate 5 refine xO ?_
 refine xG [1,2,4,5,6,7,8,9] ?_
 refine xO ?_
 refine xF [1,2,4,5,6,7,8,64] ?_
 refine W_cond rfl ?_ ?_
 · intro h64
   obtain ⟨a, ha⟩ : ∃ a, roomS s true (nth s.slots k).len = some a := Option.isSome_iff_exists.1 (by simpa using h64)
   rw [ha] at hr0 ⊢
   have hr : upStep s = moveS s k true a := hr0
   refine xU ?_
   refine xO ?_ (h := by simp [eSlot]; exact .mk)
   iterate 2 refine xO ?_
   refine xC (ct45 g s hs k true a) ?_ (he := by simp [row_rows, Function.comp_def]; exact .mk) (hi := by simp [oStt]; exact .mk)
   iterate 2 refine xO ?_
   refine xO ?_ (h := by simp [splice]; exact .mk)
   refine xO ?_
   refine xF [2,3] ?_
   refine W_ret (end_ret (by simp [Tryz.f124]; exact .mk) (by simp; exact .mk) ?_ (by simp [oStt]))
   first | (simp [Tryz.f124, hr, oStt, ownR]; done) | (simp [Tryz.f124, hr, oStt, zStt, ownR, turnS]; done)
 intro h64
 have ha : roomS s true (nth s.slots k).len = none := by simpa using h64
 rw [ha] at hr0
 refine W_skip ?_
 rintro -
 refine W_seq (W_seq ?_)
 refine W_regD (by kernel_rfl) [] 4 [0,1,2,3,4,5,6,7,8,9,10,11] (by decide +kernel) ?_
 refine xO ?_ (h := by simp [eSlot]; exact .mk)
 iterate 2 refine xO ?_
 refine xO ?_ (h := by simp [eSlot, hl0]; exact .mk)
 refine xO ?_
 refine xO ?_ (h := by simp [-List.getElem?_map, map_get hl0, eBlk]; exact .mk)
 refine xC (ct164 g s hs hR ((s.base + 1) * 32) (nth (onesS s.slots) 0).len (by omega)) ?_ (he := by simp [row_rows, Function.comp_def]; exact .mk) (hi := by simp [oStt]; exact .mk)
 iterate 5 refine xO ?_
 refine xG [2,4,7,10,11] ?_
 refine xO ?_
 refine xF [2,4,7,10,81] ?_
 refine W_cond rfl ?_ ?_
 · intro h81
   obtain ⟨a, ha2⟩ : ∃ a, behindS s ((s.base + 1) * 32) (nth (onesS s.slots) 0).len = some a := Option.isSome_iff_exists.1 (by simpa using h81)
   rw [ha2] at hr0 ⊢
   have hr : upStep s = moveS s k false a := hr0
   refine xU ?_
   refine xO ?_ (h := by simp [eSlot]; exact .mk)
   iterate 2 refine xO ?_
   refine xC (ct45 g s hs k false a) ?_ (he := by simp [row_rows, Function.comp_def]; exact .mk) (hi := by simp [oStt]; exact .mk)
   iterate 2 refine xO ?_
   refine xO ?_ (h := by simp [splice]; exact .mk)
   refine xO ?_
   refine xF [2,3] ?_
   refine W_ret (end_ret (by simp [Tryz.f124]; exact .mk) (by simp; exact .mk) ?_ (by simp [oStt]))
   first | (simp [Tryz.f124, hr, oStt, ownR]; done) | (simp [Tryz.f124, hr, oStt, zStt, ownR, turnS]; done)
 intro h81
 have ha2 : behindS s ((s.base + 1) * 32) (nth (onesS s.slots) 0).len = none := by simpa using h81
 rw [ha2] at hr0
 have hr : upStep s = (zStt, 10) := hr0
 refine W_skip ?_
 refine xT ?_
 iterate 2 (refine xO ?_ (h := by simp [splice]; exact .mk))
 refine xO ?_
 refine xF [2,3] ?_
 refine W_ret (end_ret (by simp [Tryz.f124]; exact .mk) (by simp; exact .mk) ?_ (by simp [oStt]))
 first | (simp [Tryz.f124, hr, oStt, ownR]; done) | (simp [Tryz.f124, hr, oStt, zStt, ownR, turnS]; done)

open Go.Awp
theorem ct123 (g : Gl) : CtAt Tryz.prog g 123 [] (.tup [oStt zStt, vI 12]) := by
 refine ctAt_of_W Tryz.func123 rfl rfl (Nat.le_of_ble_eq_true rfl) fun B S => ?_
 refine xU ?_
 iterate 2 refine xO ?_
 refine xG [0] ?_
 iterate 2 (refine xO ?_ (h := by simp [splice]; exact .mk))
 refine xO ?_
 refine xF [0,1] ?_
 refine W_ret (end_ret (by simp [Tryz.f123]; exact .mk) (by simp; exact .mk) ?_ (by simp [oStt]))
 simp [Tryz.f123, oStt, zStt, ownR]

theorem ct119 (g : Gl) (s : Stt) : CtAt Tryz.prog g 119 [eStt s] (.v (.bool (movingS s))) := by
 refine ctAt_of_W Tryz.func119 rfl rfl (Nat.le_of_ble_eq_true rfl) fun B S => ?_
 simp only [eStt, List.map, argD_agg, argD_v]
 refine xU ?_
 iterate 2 refine xO ?_
 refine xG [1] ?_
 iterate 4 refine xO ?_
 iterate 3 refine xI ?_
 refine xP ?_
 refine xB ?_
 refine xF [2] ?_
 refine W_ret (xR (by simp [Tryz.f119]; exact .mk) ?_)
 first | (simp [Tryz.f119, movingS]; done) | (simp [Tryz.f119, movingS] at *; grind)

open Go.Awp
theorem ct55 (g : Gl) (s : Stt) (hs : s.Ok) : CtAt Tryz.prog g 55 [eStt s] (.tup [oStt (stepS s).1, vI (stepS s).2]) := by
 refine ctAt_of_W Tryz.func55 rfl rfl (Nat.le_of_ble_eq_true rfl) fun B S => ?_
 simp only [eStt, List.map, argD_agg, argD_v]
 refine xU ?_
 iterate 3 refine xO ?_
 refine xF [1,2] ?_
 refine W_seq (xU ?_)
 refine xO ?_ (h := by simp [eSlot]; exact .mk)
 refine xC (ct32 g s hs) ?_ (he := by simp [row_rows, Function.comp_def]; exact .mk) (hi := by simp [oStt]; exact .mk)
 refine xO ?_
 refine xF [1,2,8] ?_
 refine W_cond rfl ?_ ?_
 · intro h8
   have hr : stepS s = (zStt, 1) := by unfold stepS; rw [if_neg (by simpa using h8)]
   refine xU ?_
   iterate 2 (refine xO ?_ (h := by simp [splice]; exact .mk))
   refine xO ?_
   refine xF [2,3] ?_
   refine W_ret (end_ret (by simp [Tryz.f55]; exact .mk) (by simp; exact .mk) ?_ (by simp [oStt]))
   first | (simp [Tryz.f55, hr, oStt, ownR]; done) | (simp [Tryz.f55, hr, oStt, zStt, ownR]; done)
 intro h8
 have hR : sttS s = true := by simpa using h8
 refine W_skip ?_
 refine xT ?_
 refine xO ?_ (h := by simp [eSlot]; exact .mk)
 refine xO ?_ (h := by simp [splice]; exact .mk)
 refine xO ?_
 refine xO ?_ (h := by simp [splice]; exact .mk)
 refine xG [1,2,4] ?_
 refine xO ?_
 refine xF [1,2,4,5] ?_
 refine W_seq (xU ?_)
 refine xO ?_
 refine xO ?_ (h := by simp [eSlot]; exact .mk)
 refine xF [2,4,5,13] ?_
 refine W_block (xU ?_)
 iterate 2 refine xO ?_
 refine xF [2,4,5,13,14] ?_
 refine W_cond rfl ?_ ?_
 · intro h14
   have hm3 : s.mode = 3 := by simpa using h14
   have hr : stepS s = upStep s := by unfold stepS; rw [if_pos hR, if_pos hm3]
   refine W_reg rfl ?_
   refine xO ?_ (h := by simp [eSlot]; exact .mk)
   iterate 2 refine xO ?_
   refine xG [2,5] ?_
   refine xO ?_
   refine run_call0 rfl rfl rfl rfl (by simp; exact .mk) (by simp [row_rows, Function.comp_def]; exact .mk) (by first | (have := hm3; exact ct124 g s hs hR) | (have := hm4; exact ct125 g s hs hR) | exact ct123 g) (by simp) (by simp [oStt]; exact .mk) ?_
   iterate 2 refine xO ?_
   refine xO ?_ (h := by simp [splice]; exact .mk)
   refine xO ?_
   refine xF [2,3] ?_
   refine W_ret (end_ret (by simp [Tryz.f55]; exact .mk) (by simp; exact .mk) ?_ (by simp [oStt]))
   first | (simp [Tryz.f55, hr, oStt, ownR]; done) | (simp [Tryz.f55, hr, oStt, zStt, ownR]; done)
 intro h14
 have hn3 : ¬ s.mode = 3 := by simpa using h14
 refine xU ?_
 iterate 2 refine xO ?_
 refine xF [2,4,5,18] ?_
 refine W_cond rfl ?_ ?_
 · intro h18
   have hm4 : s.mode = 4 := by simpa using h18
   have hr : stepS s = downStep s := by unfold stepS; rw [if_pos hR, if_neg hn3, if_pos hm4]
   refine W_reg rfl ?_
   refine xO ?_ (h := by simp [eSlot]; exact .mk)
   iterate 2 refine xO ?_
   refine xG [2,5] ?_
   refine xO ?_
   refine run_call0 rfl rfl rfl rfl (by simp; exact .mk) (by simp [row_rows, Function.comp_def]; exact .mk) (by first | (have := hm3; exact ct124 g s hs hR) | (have := hm4; exact ct125 g s hs hR) | exact ct123 g) (by simp) (by simp [oStt]; exact .mk) ?_
   iterate 2 refine xO ?_
   refine xO ?_ (h := by simp [splice]; exact .mk)
   refine xO ?_
   refine xF [2,3] ?_
   refine W_ret (end_ret (by simp [Tryz.f55]; exact .mk) (by simp; exact .mk) ?_ (by simp [oStt]))
   first | (simp [Tryz.f55, hr, oStt, ownR]; done) | (simp [Tryz.f55, hr, oStt, zStt, ownR]; done)
 intro h18
 have hn4 : ¬ s.mode = 4 := by simpa using h18
 have hr : stepS s = (zStt, 12) := by unfold stepS; rw [if_pos hR, if_neg hn3, if_neg hn4]
 refine W_skip ?_
 refine xT ?_
 refine xO ?_
 refine run_call0 rfl rfl rfl rfl (by simp; exact .mk) (by simp [row_rows, Function.comp_def]; exact .mk) (by first | (have := hm3; exact ct124 g s hs hR) | (have := hm4; exact ct125 g s hs hR) | exact ct123 g) (by simp) (by simp [oStt]; exact .mk) ?_
 iterate 2 refine xO ?_
 refine xO ?_ (h := by simp [splice]; exact .mk)
 refine xO ?_
 refine xF [2,3] ?_
 refine W_ret (end_ret (by simp [Tryz.f55]; exact .mk) (by simp; exact .mk) ?_ (by simp [oStt]))
 first | (simp [Tryz.f55, hr, oStt, ownR]; done) | (simp [Tryz.f55, hr, oStt, zStt, ownR]; done)

open Go.Awp
theorem ct51 (g : Gl) (s : Stt) (hs : s.Ok) : CtAt Tryz.prog g 51 [eStt s] (.tup [oStt (endS s).1, vI ((endS s).2.1 : Nat), vI (endS s).2.2]) := by
 refine ctAt_of_W Tryz.func51 rfl rfl (Nat.le_of_ble_eq_true rfl) fun B S => ?_
 simp only [eStt, List.map, argD_agg, argD_v]
 refine xU ?_
 iterate 4 refine xO ?_
 refine xG [1,2] ?_
 refine xO ?_
 refine xF [1,2,5] ?_
 refine W_block (W_rounds (fun m σ o => ∃ (n : Nat) (t : Stt), m = needE n t ∧ t.Ok ∧ endF (needE n t) n t = endS s ∧ n + needE n t ≤ needE 0 s ∧ σ = slots [(1, .ptr 0 0 0), (2, .ptr 1 0 0), (5, .d (vI n))] ∧ ((n = 0 ∧ t = s ∧ o = [.var 28 [.d (vI s.sh.pages), .d (vI s.sh.slots), .d (vI s.sh.roots), .d (vI s.sh.room), .d (vI s.mode), .d (vI s.base), .d (rSl s.slots), .d (rR s.roots), .d (rBB s.data)], .var 28 [.d (vI 0), .d (vI 0), .d (vI 0), .d (vI 0), .d (vI 0), .d (vI 0), .d (.v (.slice none 0 0)), .d (.v (.slice none 0 0)), .d (.v (.slice none 0 0))]]) ∨ (0 < n ∧ sttS s = true ∧ o = [.var 28 [.d (vI t.sh.pages), .d (vI t.sh.slots), .d (vI t.sh.roots), .d (vI t.sh.room), .d (vI t.mode), .d (vI t.base), .hdr 2 0 t.slots.length, .hdr 3 0 t.roots.length, .hdr 4 0 t.data.length], .var 28 [.d (vI 0), .d (vI 0), .d (vI 0), .d (vI 0), .d (vI 0), .d (vI 0), .d (.v (.slice none 0 0)), .d (.v (.slice none 0 0)), .d (.v (.slice none 0 0))], .row 5 (t.slots.map eSlot), .row 3 (t.roots.map eRoot), .row 1 (t.data.map oB)]))) (needE 0 s) .refl ⟨0, s, rfl, hs, rfl, by omega, rfl, .inl ⟨rfl, rfl, rfl⟩⟩ ?_)
 rintro m σ o ⟨n, t, rfl, hto, hinv, hle, rfl, ⟨rfl, rfl, rfl⟩ | ⟨hn0, hRs, rfl⟩⟩ _
 · skip
   skip
   refine W_seq (W_block ?_)
   refine W_seq (xU ?_)
   iterate 3 refine xO ?_
   refine run_if rfl (by simp; exact .mk) rfl (by simp <;> first | omega | grind) (fun hb => by simp [eSlot]; exact .mk) ?_
   refine run_call rfl (by simp; exact .mk) rfl rfl (by simp) (by simp; exact .mk) (by simp [row_rows, Function.comp_def]; exact .mk) (fun hb => ct119 g t) (by simp) (by simp [oStt]; exact .mk) (by simp) ?_
   refine xI ?_
   refine xP ?_
   refine xF [1,2,5,16] ?_
   refine W_cond rfl ?_ ?_
   · intro h16
     simp at h16
   intro h16
   have hnot : ¬ (0 < 0 ∧ movingS t = false) := fun q => absurd q.1 (Nat.lt_irrefl 0)
   refine W_skip ?_
   rintro -
   refine W_seq ?_
   have c55 := ct55 g t hto
   obtain ⟨T, hT⟩ : ∃ X, X = (stepS t).1 := ⟨_, rfl⟩
   have hTo : T.Ok := by rw [hT]; exact stepS_Ok hto
   rw [← hT] at c55
   refine W_reg rfl ?_
   refine xO ?_ (h := by simp [eSlot]; exact .mk)
   refine xC (c55) ?_ (he := by simp [row_rows, Function.comp_def]; exact .mk) (hi := by simp [oStt]; exact .mk)
   iterate 4 refine xO ?_
   refine xO ?_ (h := by simp [splice]; exact .mk)
   refine xO ?_
   refine xF [1,2,5,6,7] ?_
   refine W_seq (xU ?_)
   iterate 2 refine xO ?_
   refine xF [1,2,5,6,7,25] ?_
   refine W_cond rfl ?_ ?_
   · intro h25
     have he : (stepS t).2 ≠ 0 := by simpa using h25
     obtain ⟨f, hf⟩ : ∃ f, needE 0 t = f + 1 := ⟨needE 0 t - 1, by have := need_pos (n := 0) (s := t); omega⟩
     have hr : endS t = (zStt, 0, (stepS t).2) := by rw [← hinv, hf, endF_err hnot he]
     refine xU ?_
     refine xO ?_ (h := by simp [splice]; exact .mk)
     iterate 2 refine xO ?_
     refine xO ?_ (h := by simp [splice]; exact .mk)
     iterate 2 refine xO ?_
     refine xF [2,3,4] ?_
     refine W_ret (end_ret (by simp [Tryz.f51]; exact .mk) (by simp; exact .mk) ?_ (by simp [oStt]))
     first | (simp [Tryz.f51, hr, oStt, ownR]; done) | (simp [Tryz.f51, hr, oStt, zStt, ownR]; done)
   intro h25
   have he : (stepS t).2 = 0 := by simpa using h25
   obtain ⟨n1, n2⟩ := end_next hnot he
   have hRt := (step_ok he).1
   have hn1 := need_le (n := 0) hRt
   rw [← hT] at n1 n2
   refine W_skip ?_
   rintro -
   refine W_reg rfl ?_
   refine xO ?_ (h := by simp [eSlot]; exact .mk)
   refine xO ?_ (h := by simp [splice]; exact .mk)
   refine xF [1,2,5] ?_
   refine W_reg rfl ?_
   iterate 3 refine xO ?_
   refine xE [1,2,5] ?_
   refine rounds_kill [1,2,5] ?_
   refine rounds_drop 5 [1,2,5] (by decide) (by rfl) (by rfl) ?_
   refine rounds_next (m' := needE (0 + 1) T) (by omega) ⟨0 + 1, T, rfl, hTo, by rw [← n1]; exact hinv, by omega, ?_, .inr ⟨by omega, hRt, rfl⟩⟩
   rw [wrap64 (by omega) (by omega)]; rfl
 skip
 have hn1 := need_le (n := 0) hRs
 refine W_seq (W_block ?_)
 refine W_seq (xU ?_)
 iterate 3 refine xO ?_
 refine run_if rfl (by simp; exact .mk) rfl (by simp <;> first | omega | grind) (fun hb => by simp [eSlot]; exact .mk) ?_
 refine run_call rfl (by simp; exact .mk) rfl rfl (by simp) (by simp; exact .mk) (by simp [row_rows, Function.comp_def]; exact .mk) (fun hb => ct119 g t) (by simp) (by simp [oStt]; exact .mk) (by simp) ?_
 refine xI ?_
 refine xP ?_
 refine xF [1,2,5,16] ?_
 refine W_cond rfl ?_ ?_
 · intro h16
   have hv : movingS t = false := by simp at h16; exact h16.2
   obtain ⟨f, hf⟩ : ∃ f, needE n t = f + 1 := ⟨needE n t - 1, by have := need_pos (n := n) (s := t); omega⟩
   have hr : endS s = (t, n, 0) := by rw [← hinv, hf, endF_stop ⟨hn0, hv⟩]
   refine xU ?_
   refine xO ?_ (h := by simp [eSlot]; exact .mk)
   refine xO ?_
   refine xO ?_ (h := by simp [splice]; exact .mk)
   iterate 2 refine xO ?_
   refine xF [2,3,4] ?_
   refine W_ret (end_ret (by simp [Tryz.f51]; exact .mk) (by simp; exact .mk) ?_ (by simp [oStt]))
   first | (simp [Tryz.f51, hr, oStt, ownR]; done) | (simp [Tryz.f51, hr, oStt, zStt, ownR]; done)
 intro h16
 have hnot : ¬ (0 < n ∧ movingS t = false) := by simp at h16; intro q; have := h16 q.1; rw [q.2] at this; cases this
 refine W_skip ?_
 rintro -
 refine W_seq ?_
 have c55 := ct55 g t hto
 obtain ⟨T, hT⟩ : ∃ X, X = (stepS t).1 := ⟨_, rfl⟩
 have hTo : T.Ok := by rw [hT]; exact stepS_Ok hto
 rw [← hT] at c55
 refine W_reg rfl ?_
 refine xO ?_ (h := by simp [eSlot]; exact .mk)
 refine xC (c55) ?_ (he := by simp [row_rows, Function.comp_def]; exact .mk) (hi := by simp [oStt]; exact .mk)
 iterate 4 refine xO ?_
 refine xO ?_ (h := by simp [splice]; exact .mk)
 refine xO ?_
 refine xF [1,2,5,6,7] ?_
 refine W_seq (xU ?_)
 iterate 2 refine xO ?_
 refine xF [1,2,5,6,7,25] ?_
 refine W_cond rfl ?_ ?_
 · intro h25
   have he : (stepS t).2 ≠ 0 := by simpa using h25
   obtain ⟨f, hf⟩ : ∃ f, needE n t = f + 1 := ⟨needE n t - 1, by have := need_pos (n := n) (s := t); omega⟩
   have hr : endS s = (zStt, n, (stepS t).2) := by rw [← hinv, hf, endF_err hnot he]
   refine xU ?_
   refine xO ?_ (h := by simp [splice]; exact .mk)
   iterate 2 refine xO ?_
   refine xO ?_ (h := by simp [splice]; exact .mk)
   iterate 2 refine xO ?_
   refine xF [2,3,4] ?_
   refine W_ret (end_ret (by simp [Tryz.f51]; exact .mk) (by simp; exact .mk) ?_ (by simp [oStt]))
   first | (simp [Tryz.f51, hr, oStt, ownR]; done) | (simp [Tryz.f51, hr, oStt, zStt, ownR]; done)
 intro h25
 have he : (stepS t).2 = 0 := by simpa using h25
 obtain ⟨n1, n2⟩ := end_next hnot he
 rw [← hT] at n1 n2
 refine W_skip ?_
 rintro -
 refine W_reg rfl ?_
 refine xO ?_ (h := by simp [eSlot]; exact .mk)
 refine xO ?_ (h := by simp [splice]; exact .mk)
 refine xF [1,2,5] ?_
 refine W_reg rfl ?_
 iterate 3 refine xO ?_
 refine xE [1,2,5] ?_
 refine rounds_kill [1,2,5] ?_
 refine rounds_kills [1,2,5] rfl ?_
 refine rounds_swap 2 5 3 (by decide) (by simp) (by decide) rfl rfl ?_
 refine rounds_drop 5 [1,2,5] (by decide) (by rfl) (by rfl) ?_
 refine rounds_next (m' := needE (n + 1) T) (by omega) ⟨n + 1, T, rfl, hTo, by rw [← n1]; exact hinv, by omega, ?_, .inr ⟨by omega, hRs, rfl⟩⟩
 rw [wrap64 (by omega) (by omega)]; rfl

open Go.Awp
theorem ct54 (g : Gl) (s : Stt) (hs : s.Ok) (up : Bool) : CtAt Tryz.prog g 54 [eStt s, vT up] (.tup [oStt (startS s up).1, vI (startS s up).2]) := by
 refine ctAt_of_W Tryz.func54 rfl rfl (Nat.le_of_ble_eq_true rfl) fun B S => ?_
 simp only [eStt, List.map, argD_agg, argD_v]
 refine xU ?_
 iterate 3 refine xO ?_
 refine xF [1,2,4] ?_
 refine W_seq (xU ?_)
 refine xO ?_ (h := by simp [eSlot]; exact .mk)
 refine xC (ct32 g s hs) ?_ (he := by simp [row_rows, Function.comp_def]; exact .mk) (hi := by simp [oStt]; exact .mk)
 refine xO ?_
 refine xF [1,2,4,15] ?_
 refine W_cond rfl ?_ ?_
 · intro h15
   have hR : sttS s = false := by simpa using h15
   have hr : startS s up = (zStt, 1) := by unfold startS; rw [if_pos hR]
   refine xU ?_
   iterate 2 (refine xO ?_ (h := by simp [splice]; exact .mk))
   refine xO ?_
   refine xF [4,5] ?_
   refine W_ret (end_ret (by simp [Tryz.f54]; exact .mk) (by simp; exact .mk) ?_ (by simp [oStt]))
   first | (simp [Tryz.f54, hr, oStt, ownR, toM]; done) | (simp [Tryz.f54, hr, oStt, zStt, ownR, toM]; done) | (simp [Tryz.f54, hr, oStt, zStt, ownR, turnS]; done)
 intro h15
 have hR : sttS s = true := by simpa using h15
 have hRf : ¬ sttS s = false := by rw [hR]; simp
 have hb := superS_b (sttS_super hR)
 refine W_skip ?_
 refine xT ?_
 iterate 2 refine xO ?_
 refine xF [1,2,4,6,7] ?_
 refine W_seq (xU ?_)
 refine xO ?_
 refine xF [2,4,6,7,17] ?_
 refine W_cond rfl ?_ ?_
 · intro h17
   obtain rfl : up = true := by simpa using h17
   refine W_reg rfl ?_
   iterate 2 refine xO ?_
   refine xF [2,4,6,7] ?_
   refine W_seq (xU ?_)
   refine xO ?_
   refine xO ?_ (h := by simp [eSlot]; exact .mk)
   iterate 2 refine xO ?_
   refine xF [2,4,7,21] ?_
   refine W_cond rfl ?_ ?_
   · intro h21
     first
     | (have hn : s.mode ≠ fromM true := by (simp [fromM] at h21 ⊢; exact h21)
        have hr : startS s true = (zStt, 12) := by unfold startS; rw [if_neg hRf, if_pos hn])
     | (have hn : s.mode ≠ fromM false := by (simp [fromM] at h21 ⊢; exact h21)
        have hr : startS s false = (zStt, 12) := by unfold startS; rw [if_neg hRf, if_pos hn])
     refine xU ?_
     iterate 2 (refine xO ?_ (h := by simp [splice]; exact .mk))
     refine xO ?_
     refine xF [4,5] ?_
     refine W_ret (end_ret (by simp [Tryz.f54]; exact .mk) (by simp; exact .mk) ?_ (by simp [oStt]))
     first | (simp [Tryz.f54, hr, oStt, ownR, toM]; done) | (simp [Tryz.f54, hr, oStt, zStt, ownR, toM]; done) | (simp [Tryz.f54, hr, oStt, zStt, ownR, turnS]; done)
   intro h21
   first
   | (have hn : ¬ s.mode ≠ fromM true := by (simp [fromM] at h21 ⊢; exact h21))
   | (have hn : ¬ s.mode ≠ fromM false := by (simp [fromM] at h21 ⊢; exact h21))
   refine W_skip ?_
   refine xT ?_
   refine xO ?_ (h := by simp [eSlot]; exact .mk)
   refine xO ?_ (h := by simp [splice]; exact .mk)
   refine xO ?_
   refine run_call0 rfl rfl rfl rfl (by simp; exact .mk) (by simp [row_rows, Function.comp_def]; exact .mk) (by first | exact ct122 g s hs 3 0 (by omega) | exact ct122 g s hs 4 0 (by omega)) (by simp) (by simp [oStt]; exact .mk) ?_
   iterate 4 refine xO ?_
   refine xO ?_ (h := by simp [splice]; exact .mk)
   refine xO ?_
   refine xF [4,8] ?_
   refine W_seq (xU ?_)
   refine xO ?_ (h := by simp [eSlot]; exact .mk)
   refine run_call0 rfl rfl rfl rfl (by simp; exact .mk) (by simp [row_rows, Function.comp_def]; exact .mk) (by first | exact ct51 g (turnS s 3 0) (turn_ok hs) | exact ct51 g (turnS s 4 0) (turn_ok hs)) (by simp) (by simp [oStt]; exact .mk) ?_
   iterate 5 refine xO ?_
   refine xO ?_ (h := by simp [splice]; exact .mk)
   iterate 2 refine xO ?_
   refine xG [4,8,12] ?_
   iterate 2 refine xO ?_
   refine xF [4,8,12,37] ?_
   refine W_cond rfl ?_ ?_
   · intro h37
     first
     | (have he : (endS (turnS s (toM true) 0)).2.2 ≠ 0 := by (simpa [toM] using h37)
        have hr : startS s true = (zStt, (endS (turnS s (toM true) 0)).2.2) := by unfold startS; rw [if_neg hRf, if_neg hn, if_pos he])
     | (have he : (endS (turnS s (toM false) 0)).2.2 ≠ 0 := by (simpa [toM] using h37)
        have hr : startS s false = (zStt, (endS (turnS s (toM false) 0)).2.2) := by unfold startS; rw [if_neg hRf, if_neg hn, if_pos he])
     refine xU ?_
     refine xO ?_ (h := by simp [splice]; exact .mk)
     refine xO ?_
     refine xO ?_ (h := by simp [splice]; exact .mk)
     refine xO ?_
     refine xF [4,5] ?_
     refine W_ret (end_ret (by simp [Tryz.f54]; exact .mk) (by simp; exact .mk) ?_ (by simp [oStt]))
     first | (simp [Tryz.f54, hr, oStt, ownR, toM]; done) | (simp [Tryz.f54, hr, oStt, zStt, ownR, toM]; done) | (simp [Tryz.f54, hr, oStt, zStt, ownR, turnS]; done)
   intro h37
   first
   | (have he : ¬ (endS (turnS s (toM true) 0)).2.2 ≠ 0 := by (simpa [toM] using h37)
      have hr : startS s true = (turnS s 3 0, 0) := by unfold startS; rw [if_neg hRf, if_neg hn, if_neg he]; rfl)
   | (have he : ¬ (endS (turnS s (toM false) 0)).2.2 ≠ 0 := by (simpa [toM] using h37)
      have hr : startS s false = (turnS s 4 0, 0) := by unfold startS; rw [if_neg hRf, if_neg hn, if_neg he]; rfl)
   refine W_skip ?_
   refine xT ?_
   refine xO ?_ (h := by simp [eSlot]; exact .mk)
   refine xO ?_ (h := by simp [splice]; exact .mk)
   refine xO ?_
   refine xF [4,5] ?_
   refine W_ret (end_ret (by simp [Tryz.f54]; exact .mk) (by simp; exact .mk) ?_ (by simp [oStt]))
   first | (simp [Tryz.f54, hr, oStt, ownR, toM]; done) | (simp [Tryz.f54, hr, oStt, zStt, ownR, toM]; done) | (simp [Tryz.f54, hr, oStt, zStt, ownR, turnS]; done)
 intro h17
 obtain rfl : up = false := by simpa using h17
 refine W_skip ?_
 rintro -
 refine W_seq (xU ?_)
 refine xO ?_
 refine xO ?_ (h := by simp [eSlot]; exact .mk)
 iterate 2 refine xO ?_
 refine xF [2,4,7,21] ?_
 refine W_cond rfl ?_ ?_
 · intro h21
   first
   | (have hn : s.mode ≠ fromM true := by (simp [fromM] at h21 ⊢; exact h21)
      have hr : startS s true = (zStt, 12) := by unfold startS; rw [if_neg hRf, if_pos hn])
   | (have hn : s.mode ≠ fromM false := by (simp [fromM] at h21 ⊢; exact h21)
      have hr : startS s false = (zStt, 12) := by unfold startS; rw [if_neg hRf, if_pos hn])
   refine xU ?_
   iterate 2 (refine xO ?_ (h := by simp [splice]; exact .mk))
   refine xO ?_
   refine xF [4,5] ?_
   refine W_ret (end_ret (by simp [Tryz.f54]; exact .mk) (by simp; exact .mk) ?_ (by simp [oStt]))
   first | (simp [Tryz.f54, hr, oStt, ownR, toM]; done) | (simp [Tryz.f54, hr, oStt, zStt, ownR, toM]; done) | (simp [Tryz.f54, hr, oStt, zStt, ownR, turnS]; done)
 intro h21
 first
 | (have hn : ¬ s.mode ≠ fromM true := by (simp [fromM] at h21 ⊢; exact h21))
 | (have hn : ¬ s.mode ≠ fromM false := by (simp [fromM] at h21 ⊢; exact h21))
 refine W_skip ?_
 refine xT ?_
 refine xO ?_ (h := by simp [eSlot]; exact .mk)
 refine xO ?_ (h := by simp [splice]; exact .mk)
 refine xO ?_
 refine run_call0 rfl rfl rfl rfl (by simp; exact .mk) (by simp [row_rows, Function.comp_def]; exact .mk) (by first | exact ct122 g s hs 3 0 (by omega) | exact ct122 g s hs 4 0 (by omega)) (by simp) (by simp [oStt]; exact .mk) ?_
 iterate 4 refine xO ?_
 refine xO ?_ (h := by simp [splice]; exact .mk)
 refine xO ?_
 refine xF [4,8] ?_
 refine W_seq (xU ?_)
 refine xO ?_ (h := by simp [eSlot]; exact .mk)
 refine run_call0 rfl rfl rfl rfl (by simp; exact .mk) (by simp [row_rows, Function.comp_def]; exact .mk) (by first | exact ct51 g (turnS s 3 0) (turn_ok hs) | exact ct51 g (turnS s 4 0) (turn_ok hs)) (by simp) (by simp [oStt]; exact .mk) ?_
 iterate 5 refine xO ?_
 refine xO ?_ (h := by simp [splice]; exact .mk)
 iterate 2 refine xO ?_
 refine xG [4,8,12] ?_
 iterate 2 refine xO ?_
 refine xF [4,8,12,37] ?_
 refine W_cond rfl ?_ ?_
 · intro h37
   first
   | (have he : (endS (turnS s (toM true) 0)).2.2 ≠ 0 := by (simpa [toM] using h37)
      have hr : startS s true = (zStt, (endS (turnS s (toM true) 0)).2.2) := by unfold startS; rw [if_neg hRf, if_neg hn, if_pos he])
   | (have he : (endS (turnS s (toM false) 0)).2.2 ≠ 0 := by (simpa [toM] using h37)
      have hr : startS s false = (zStt, (endS (turnS s (toM false) 0)).2.2) := by unfold startS; rw [if_neg hRf, if_neg hn, if_pos he])
   refine xU ?_
   refine xO ?_ (h := by simp [splice]; exact .mk)
   refine xO ?_
   refine xO ?_ (h := by simp [splice]; exact .mk)
   refine xO ?_
   refine xF [4,5] ?_
   refine W_ret (end_ret (by simp [Tryz.f54]; exact .mk) (by simp; exact .mk) ?_ (by simp [oStt]))
   first | (simp [Tryz.f54, hr, oStt, ownR, toM]; done) | (simp [Tryz.f54, hr, oStt, zStt, ownR, toM]; done) | (simp [Tryz.f54, hr, oStt, zStt, ownR, turnS]; done)
 intro h37
 first
 | (have he : ¬ (endS (turnS s (toM true) 0)).2.2 ≠ 0 := by (simpa [toM] using h37)
    have hr : startS s true = (turnS s 3 0, 0) := by unfold startS; rw [if_neg hRf, if_neg hn, if_neg he]; rfl)
 | (have he : ¬ (endS (turnS s (toM false) 0)).2.2 ≠ 0 := by (simpa [toM] using h37)
    have hr : startS s false = (turnS s 4 0, 0) := by unfold startS; rw [if_neg hRf, if_neg hn, if_neg he]; rfl)
 refine W_skip ?_
 refine xT ?_
 refine xO ?_ (h := by simp [eSlot]; exact .mk)
 refine xO ?_ (h := by simp [splice]; exact .mk)
 refine xO ?_
 refine xF [4,5] ?_
 refine W_ret (end_ret (by simp [Tryz.f54]; exact .mk) (by simp; exact .mk) ?_ (by simp [oStt]))
 first | (simp [Tryz.f54, hr, oStt, ownR, toM]; done) | (simp [Tryz.f54, hr, oStt, zStt, ownR, toM]; done) | (simp [Tryz.f54, hr, oStt, zStt, ownR, turnS]; done)

open Go.Awp
theorem ct50 (g : Gl) : CtAt Tryz.prog g 50 [] (.v (.bool true)) := by
 refine ctAt_of_W Tryz.func50 rfl rfl (Nat.le_of_ble_eq_true rfl) fun B S => ?_
 obtain ⟨A, B, C, D, E, F, id, h1, h2, h3, h4, h5, h6, h7, h8, h9, h10, h11, h12⟩ := small_facts
 have hA := fewStt_ok h12
 have hB : B.Ok := by have := startS_Ok (up := true) hA; rwa [h2] at this
 have hC : C.Ok := by have := endS_Ok hB; rwa [h3] at this
 have hD : D.Ok := by have := putS_ok (n := 16) hA; rwa [h5] at this
 have hE : E.Ok := by have := startS_Ok (up := true) hD; rwa [h6] at this
 have hF : F.Ok := by have := endS_Ok hE; rwa [h7] at this
 have c1 := ct53 g sh0 1
 have c2 := ct54 g A hA true
 have c3 := ct51 g B hB
 have c4 := ct42 g A hA 16
 have c5 := ct54 g D hD true
 have c6 := ct51 g E hE
 have c7 := ct55 g A hA
 rw [h1] at c1
 rw [h2] at c2
 rw [h3] at c3
 rw [h5] at c4
 rw [h6] at c5
 rw [h7] at c6
 rw [h11] at c7
 obtain ⟨G, hG⟩ : ∃ G, G = (stepS A).1 := ⟨_, rfl⟩
 rw [← hG] at c7
 have hl0 : 0 < F.slots.length := by omega
 refine xU ?_
 refine xO ?_
 refine xG [] ?_
 refine xO ?_ (h := by simp [splice]; exact .mk)
 refine xC (c1) ?_ (he := by simp [row_rows, Function.comp_def]; exact .mk) (hi := by simp [oStt]; exact .mk)
 iterate 4 refine xO ?_
 refine xO ?_ (h := by simp [splice]; exact .mk)
 refine xO ?_
 refine xG [1,2] ?_
 refine xO ?_ (h := by simp [eSlot]; exact .mk)
 refine xC (c2) ?_ (he := by simp [row_rows, Function.comp_def]; exact .mk) (hi := by simp [oStt]; exact .mk)
 iterate 4 refine xO ?_
 refine xO ?_ (h := by simp [splice]; exact .mk)
 refine xO ?_
 refine xG [1,2,3,4] ?_
 refine xO ?_ (h := by simp [eSlot]; exact .mk)
 refine xC (c3) ?_ (he := by simp [row_rows, Function.comp_def]; exact .mk) (hi := by simp [oStt]; exact .mk)
 iterate 5 refine xO ?_
 refine xO ?_ (h := by simp [splice]; exact .mk)
 iterate 2 refine xO ?_
 refine xG [1,2,4,5,6,7] ?_
 refine xO ?_ (h := by simp [eSlot]; exact .mk)
 refine xC (c4) ?_ (he := by simp [row_rows, Function.comp_def]; exact .mk) (hi := by simp [oStt]; exact .mk)
 iterate 6 refine xO ?_
 iterate 2 (refine xO ?_ (h := by simp [splice]; exact .mk))
 refine xO ?_
 refine xG [1,2,4,5,6,7,8,10] ?_
 refine xO ?_ (h := by simp [eSlot]; exact .mk)
 refine xC (c5) ?_ (he := by simp [row_rows, Function.comp_def]; exact .mk) (hi := by simp [oStt]; exact .mk)
 iterate 4 refine xO ?_
 refine xO ?_ (h := by simp [splice]; exact .mk)
 refine xO ?_
 refine xG [1,2,4,5,6,7,10,11,12] ?_
 refine xO ?_ (h := by simp [eSlot]; exact .mk)
 refine xC (c6) ?_ (he := by simp [row_rows, Function.comp_def]; exact .mk) (hi := by simp [oStt]; exact .mk)
 iterate 5 refine xO ?_
 refine xO ?_ (h := by simp [splice]; exact .mk)
 iterate 2 refine xO ?_
 refine xG [1,2,4,5,6,7,10,12,13,14,15] ?_
 refine xO ?_ (h := by simp [eSlot]; exact .mk)
 refine xC (c7) ?_ (he := by simp [row_rows, Function.comp_def]; exact .mk) (hi := by simp [oStt]; exact .mk)
 iterate 4 refine xO ?_
 refine xO ?_ (h := by simp [splice]; exact .mk)
 refine xO ?_
 refine xG [2,4,5,6,7,10,12,13,14,15,17] ?_
 iterate 3 refine xO ?_
 iterate 2 refine xI ?_
 refine xP ?_
 refine xB ?_
 iterate 2 refine xI ?_
 refine xP ?_
 refine xB ?_
 iterate 2 refine xI ?_
 refine xP ?_
 refine xB ?_
 refine xI ?_
 refine run_if rfl (by simp; exact .mk) rfl (by simp <;> first | omega | grind) (fun hb => by simp [eSlot]; exact .mk) ?_
 refine run_if rfl (by simp; exact .mk) rfl (by simp <;> first | omega | grind) (fun hb => by simp [h4]; exact .mk) ?_
 refine xP ?_
 refine xB ?_
 iterate 2 refine xI ?_
 refine xP ?_
 refine xB ?_
 iterate 2 refine xI ?_
 refine xP ?_
 refine xB ?_
 iterate 2 refine xI ?_
 refine xP ?_
 refine xB ?_
 iterate 2 refine xI ?_
 refine xP ?_
 refine xB ?_
 refine xI ?_
 refine run_if rfl (by simp; exact .mk) rfl (by simp <;> first | omega | grind) (fun hb => by simp [eSlot]; exact .mk) ?_
 refine run_if rfl (by simp; exact .mk) rfl (by simp <;> first | omega | grind) (fun hb => by simp [h8]; exact .mk) ?_
 refine xP ?_
 refine xB ?_
 refine xI ?_
 refine run_if rfl (by simp; exact .mk) rfl (by simp <;> first | omega | grind) (fun hb => by simp [eSlot]; exact .mk) ?_
 refine xI ?_
 refine run_if rfl (by simp; exact .mk) rfl (by simp <;> first | omega | grind) (fun hb => by simp [h9]; exact .mk) ?_
 refine xP ?_
 refine xB ?_
 refine xI ?_
 refine run_if rfl (by simp; exact .mk) rfl (by simp <;> first | omega | grind) (fun hb => by simp [eSlot]; exact .mk) ?_
 refine run_if rfl (by simp; exact .mk) rfl (by simp <;> first | omega | grind) (fun hb => by simp [eSlot, h9]; exact .mk) ?_
 refine xI ?_
 refine run_if rfl (by simp; exact .mk) rfl (by simp <;> first | omega | grind) (fun hb => by simp [-List.getElem?_map, map_get hl0, eSlot, h10]; exact .mk) ?_
 refine xP ?_
 refine xB ?_
 iterate 2 refine xI ?_
 refine xP ?_
 refine xB ?_
 refine xF [0] ?_
 refine W_ret (xR (by simp [Tryz.f50]; exact .mk) ?_)
 simp [Tryz.f50, *]

open Go.Awp
theorem ct56 (g : Gl) (s : Stt) (hs : s.Ok) : CtAt Tryz.prog g 56 [eStt s] (.tup [oStt (stepS s).1, vI (stepS s).2]) := by
 refine ctAt_of_W Tryz.func56 rfl rfl (Nat.le_of_ble_eq_true rfl) fun B S => ?_
 simp only [eStt, List.map, argD_agg, argD_v]
 refine xU ?_
 iterate 3 refine xO ?_
 refine xG [1,2] ?_
 refine xO ?_ (h := by simp [eSlot]; exact .mk)
 refine xC (ct33 g s hs) ?_ (he := by simp [row_rows, Function.comp_def]; exact .mk) (hi := by simp [oStt]; exact .mk)
 refine xO ?_
 refine xF [1,2,4] ?_
 refine W_seq (xU ?_)
 iterate 2 refine xO ?_
 refine xF [1,2,8] ?_
 refine W_cond rfl ?_ ?_
 · intro h8
   have hr : stepS s = (zStt, 1) := by unfold stepS; rw [if_neg (by simpa using h8)]
   refine xU ?_
   iterate 2 (refine xO ?_ (h := by simp [splice]; exact .mk))
   refine xO ?_
   refine xF [2,3] ?_
   refine W_ret (end_ret (by simp [Tryz.f56]; exact .mk) (by simp; exact .mk) ?_ (by simp [oStt]))
   first | (simp [Tryz.f56, hr, oStt, ownR]; done) | (simp [Tryz.f56, hr, oStt, zStt, ownR]; done)
 intro h8
 have hR : sttS s = true := by simpa using h8
 refine W_skip ?_
 rintro -
 refine W_seq (xU ?_)
 refine xO ?_
 refine xO ?_ (h := by simp [eSlot]; exact .mk)
 refine xF [1,2,11] ?_
 refine W_block (xU ?_)
 iterate 2 refine xO ?_
 refine xF [1,2,11,12] ?_
 refine W_cond rfl ?_ ?_
 · intro h12
   have hm3 : s.mode = 3 := by simpa using h12
   have hr : stepS s = upStep s := by unfold stepS; rw [if_pos hR, if_pos hm3]
   refine xU ?_
   refine xO ?_ (h := by simp [eSlot]; exact .mk)
   refine xC (ct126 g s hs hR) ?_ (he := by simp [row_rows, Function.comp_def]; exact .mk) (hi := by simp [oStt]; exact .mk)
   iterate 2 refine xO ?_
   refine xO ?_ (h := by simp [splice]; exact .mk)
   refine xO ?_
   refine xF [2,3] ?_
   refine W_ret (end_ret (by simp [Tryz.f56]; exact .mk) (by simp; exact .mk) ?_ (by simp [oStt]))
   first | (simp [Tryz.f56, hr, oStt, ownR]; done) | (simp [Tryz.f56, hr, oStt, zStt, ownR]; done)
 intro h12
 have hn3 : ¬ s.mode = 3 := by simpa using h12
 refine xU ?_
 iterate 2 refine xO ?_
 refine xF [1,2,18] ?_
 refine W_cond rfl ?_ ?_
 · intro h18
   have hm4 : s.mode = 4 := by simpa using h18
   have hr : stepS s = downStep s := by unfold stepS; rw [if_pos hR, if_neg hn3, if_pos hm4]
   refine xU ?_
   refine xO ?_ (h := by simp [eSlot]; exact .mk)
   refine xC (ct127 g s hs hR) ?_ (he := by simp [row_rows, Function.comp_def]; exact .mk) (hi := by simp [oStt]; exact .mk)
   iterate 2 refine xO ?_
   refine xO ?_ (h := by simp [splice]; exact .mk)
   refine xO ?_
   refine xF [2,3] ?_
   refine W_ret (end_ret (by simp [Tryz.f56]; exact .mk) (by simp; exact .mk) ?_ (by simp [oStt]))
   first | (simp [Tryz.f56, hr, oStt, ownR]; done) | (simp [Tryz.f56, hr, oStt, zStt, ownR]; done)
 intro h18
 have hn4 : ¬ s.mode = 4 := by simpa using h18
 have hr : stepS s = (zStt, 12) := by unfold stepS; rw [if_pos hR, if_neg hn3, if_neg hn4]
 refine W_skip ?_
 refine xT ?_
 iterate 2 (refine xO ?_ (h := by simp [splice]; exact .mk))
 refine xO ?_
 refine xF [2,3] ?_
 refine W_ret (end_ret (by simp [Tryz.f56]; exact .mk) (by simp; exact .mk) ?_ (by simp [oStt]))
 first | (simp [Tryz.f56, hr, oStt, ownR]; done) | (simp [Tryz.f56, hr, oStt, zStt, ownR]; done)

theorem ct52 (g : Gl) (s : Stt) (hs : s.Ok) : CtAt Tryz.prog g 52 [eStt s] (.tup [oStt (endS s).1, vI ((endS s).2.1 : Nat), vI (endS s).2.2]) := by
 refine ctAt_of_W Tryz.func52 rfl rfl (Nat.le_of_ble_eq_true rfl) fun B S => ?_
 simp only [eStt, List.map, argD_agg, argD_v]
 have hnot : ¬ (0 < 0 ∧ movingS s = false) := fun q => absurd q.1 (Nat.lt_irrefl 0)
 obtain ⟨f0, hf0⟩ : ∃ f, needE 0 s = f + 1 := ⟨needE 0 s - 1, by have := need_pos (n := 0) (s := s); omega⟩
 refine xU ?_
 iterate 4 refine xO ?_
 refine xF [1,2] ?_
 refine W_seq ?_
 have c56 := ct56 g s hs
 obtain ⟨T, hT⟩ : ∃ X, X = (stepS s).1 := ⟨_, rfl⟩
 have hTo : T.Ok := by rw [hT]; exact stepS_Ok hs
 rw [← hT] at c56
 refine W_reg rfl ?_
 refine xO ?_ (h := by simp [eSlot]; exact .mk)
 refine xC (c56) ?_ (he := by simp [row_rows, Function.comp_def]; exact .mk) (hi := by simp [oStt]; exact .mk)
 iterate 4 refine xO ?_
 refine xO ?_ (h := by simp [splice]; exact .mk)
 refine xO ?_
 refine xF [2,5,6] ?_
 refine W_seq (xU ?_)
 iterate 2 refine xO ?_
 refine xF [2,5,6,16] ?_
 refine W_cond rfl ?_ ?_
 · intro h16
   have he : (stepS s).2 ≠ 0 := by simpa using h16
   have hr : endS s = (zStt, 0, (stepS s).2) := by unfold endS; rw [hf0, endF_err hnot he]
   refine xU ?_
   refine xO ?_ (h := by simp [splice]; exact .mk)
   refine xO ?_
   refine xO ?_ (h := by simp [splice]; exact .mk)
   iterate 2 refine xO ?_
   refine xF [2,3,4] ?_
   refine W_ret (end_ret (by simp [Tryz.f52]; exact .mk) (by simp; exact .mk) ?_ (by simp [oStt]))
   first | (simp [Tryz.f52, hr, oStt, ownR]; done) | (simp [Tryz.f52, hr, oStt, zStt, ownR]; done)
 intro h16
 have he : (stepS s).2 = 0 := by simpa using h16
 obtain ⟨n1, n2⟩ := end_next hnot he
 have hRs := (step_ok he).1
 have hn1 := need_le (n := 0) hRs
 rw [← hT, Nat.zero_add] at n1 n2
 have hend : endF (needE 1 T) 1 T = endS s := by rw [← n1]; rfl
 refine W_skip ?_
 refine xT ?_
 refine xO ?_
 refine xF [2,5,7] ?_
 refine W_seq (W_block ?_)
 refine W_rounds (fun m σ o => ∃ (n : Nat) (t : Stt), m = needE n t ∧ t.Ok ∧ endF (needE n t) n t = endS s ∧ 0 < n ∧ n + needE n t ≤ needE 0 s ∧ σ = slots [(2, .ptr 1 0 0), (5, .ptr 5 0 0), (7, .d (vI n))] ∧ o = [.var 28 [.d (vI s.sh.pages), .d (vI s.sh.slots), .d (vI s.sh.roots), .d (vI s.sh.room), .d (vI s.mode), .d (vI s.base), .d (rSl s.slots), .d (rR s.roots), .d (rBB s.data)], .var 28 [.d (vI 0), .d (vI 0), .d (vI 0), .d (vI 0), .d (vI 0), .d (vI 0), .d (.v (.slice none 0 0)), .d (.v (.slice none 0 0)), .d (.v (.slice none 0 0))], .row 5 (t.slots.map eSlot), .row 3 (t.roots.map eRoot), .row 1 (t.data.map oB), .var 28 [.d (vI t.sh.pages), .d (vI t.sh.slots), .d (vI t.sh.roots), .d (vI t.sh.room), .d (vI t.mode), .d (vI t.base), .hdr 2 0 t.slots.length, .hdr 3 0 t.roots.length, .hdr 4 0 t.data.length]]) (needE 1 T) .refl ⟨1, T, rfl, hTo, hend, by omega, by omega, rfl, rfl⟩ ?_
 rintro m σ o ⟨n, t, rfl, hto, hinv, hn0, hle, rfl, rfl⟩ _
 refine W_seq (xU ?_)
 refine xO ?_
 refine xO ?_ (h := by simp [eSlot]; exact .mk)
 iterate 2 refine xO ?_
 refine xI ?_
 refine run_if rfl (by simp; exact .mk) rfl (by simp <;> first | omega | grind) (fun hb => by simp [eSlot]; exact .mk) ?_
 refine xI ?_
 refine xP ?_
 refine xF [2,5,7,26] ?_
 refine W_cond rfl ?_ ?_
 · intro h26
   have hnot2 : ¬ (0 < n ∧ movingS t = false) := by simp [movingS]; simp at h26; omega
   refine W_skip ?_
   rintro -
   refine W_block (W_seq ?_)
   have c56t := ct56 g t hto
   obtain ⟨U, hU⟩ : ∃ X, X = (stepS t).1 := ⟨_, rfl⟩
   have hUo : U.Ok := by rw [hU]; exact stepS_Ok hto
   rw [← hU] at c56t
   refine W_reg rfl ?_
   refine xO ?_ (h := by simp [eSlot]; exact .mk)
   refine xC (c56t) ?_ (he := by simp [row_rows, Function.comp_def]; exact .mk) (hi := by simp [oStt]; exact .mk)
   iterate 4 refine xO ?_
   refine xO ?_ (h := by simp [splice]; exact .mk)
   refine xO ?_
   refine xF [2,5,7,8,9] ?_
   refine W_seq (xU ?_)
   iterate 2 refine xO ?_
   refine xF [2,5,7,8,9,33] ?_
   refine W_cond rfl ?_ ?_
   · intro h33
     have he2 : (stepS t).2 ≠ 0 := by simpa using h33
     obtain ⟨f, hf⟩ : ∃ f, needE n t = f + 1 := ⟨needE n t - 1, by have := need_pos (n := n) (s := t); omega⟩
     have hr : endS s = (zStt, n, (stepS t).2) := by rw [← hinv, hf, endF_err hnot2 he2]
     refine xU ?_
     refine xO ?_ (h := by simp [splice]; exact .mk)
     iterate 2 refine xO ?_
     refine xO ?_ (h := by simp [splice]; exact .mk)
     iterate 2 refine xO ?_
     refine xF [2,3,4] ?_
     refine W_ret (end_ret (by simp [Tryz.f52]; exact .mk) (by simp; exact .mk) ?_ (by simp [oStt]))
     first | (simp [Tryz.f52, hr, oStt, ownR]; done) | (simp [Tryz.f52, hr, oStt, zStt, ownR]; done)
   intro h33
   have he2 : (stepS t).2 = 0 := by simpa using h33
   obtain ⟨m1, m2⟩ := end_next hnot2 he2
   rw [← hU] at m1 m2
   refine W_skip ?_
   refine xT ?_
   refine xO ?_ (h := by simp [eSlot]; exact .mk)
   refine xO ?_ (h := by simp [splice]; exact .mk)
   refine xF [2,5,7] ?_
   refine W_reg rfl ?_
   iterate 3 refine xO ?_
   refine xE [2,5,7] ?_
   refine rounds_kill [2,5,7] ?_
   refine rounds_kills [2,5,7] rfl ?_
   refine rounds_swap 2 6 3 (by decide) (by simp) (by decide) rfl rfl ?_
   refine rounds_drop 6 [2,5,7] (by decide) (by rfl) (by rfl) ?_
   refine rounds_next (m' := needE (n + 1) U) (by omega) ⟨n + 1, U, rfl, hUo, by rw [← m1]; exact hinv, by omega, by omega, ?_, rfl⟩
   rw [wrap64 (by omega) (by omega)]; rfl
 intro h26
 have hv : movingS t = false := by simp [movingS]; simp at h26; omega
 obtain ⟨f, hf⟩ : ∃ f, needE n t = f + 1 := ⟨needE n t - 1, by have := need_pos (n := n) (s := t); omega⟩
 have hr : endS s = (t, n, 0) := by rw [← hinv, hf, endF_stop ⟨hn0, hv⟩]
 refine W_exit (xT ?_)
 refine xO ?_ (h := by simp [eSlot]; exact .mk)
 refine xO ?_
 refine xO ?_ (h := by simp [splice]; exact .mk)
 iterate 2 refine xO ?_
 refine xF [2,3,4] ?_
 refine W_ret (end_ret (by simp [Tryz.f52]; exact .mk) (by simp; exact .mk) ?_ (by simp [oStt]))
 first | (simp [Tryz.f52, hr, oStt, ownR]; done) | (simp [Tryz.f52, hr, oStt, zStt, ownR]; done)

open Go.Awp
theorem ct80 (g : Gl) (x y : List Slot) (hx : x.length ≤ 2^40) : CtAt Tryz.prog g 80 [rSl x, rSl y] (.v (.bool (sameL sameSlot x y))) := by
 refine ctAt_of_W Tryz.func80 rfl rfl (Nat.le_of_ble_eq_true rfl) fun B S => ?_
 refine xU ?_
 refine xO ?_
 refine xF [0,1] ?_
 refine W_seq (xU ?_)
 iterate 5 refine xO ?_
 refine xF [0,1,10] ?_
 refine W_cond rfl ?_ ?_
 · intro h10
   have hr : sameL sameSlot x y = false := sameL_len (by simp at h10; omega)
   refine xU ?_
   refine xO ?_
   refine xF [4] ?_
   refine W_ret (xR (by simp [Tryz.f80]; exact .mk) ?_)
   simp [Tryz.f80, hr]
 intro h10
 have hxy : x.length = y.length := by simp at h10; omega
 refine W_skip ?_
 rintro -
 refine W_seq (xU ?_)
 refine xO ?_
 refine xF [0,1,5] ?_
 refine W_block (W_rounds (fun m σ o => ∃ i : Nat, m = x.length - i ∧ i ≤ x.length ∧ (∀ j, j < i → sameSlot (nth x j) (nth y j) = true) ∧ σ = slots [(0, .d (rSl x)), (1, .d (rSl y)), (5, .d (vI i))] ∧ o = []) x.length .refl ⟨0, by simp, by simp, by simp, rfl, rfl⟩ ?_)
 rintro m σ o ⟨i, rfl, hi, hinv, rfl, rfl⟩ _
 refine W_seq (xU ?_)
 iterate 4 refine xO ?_
 refine xF [0,1,5,14] ?_
 refine W_cond rfl ?_ ?_
 · intro h14
   have h2 : i < x.length := by simpa using h14
   have h3 : i < y.length := by omega
   refine W_skip ?_
   rintro -
   refine W_seq (W_block ?_)
   refine W_seq ?_
   refine W_regD (by kernel_rfl) [] 4 [0,1,2,3,4,5,6,7,8] (by decide +kernel) ?_
   iterate 2 refine xO ?_
   refine xO ?_ (h := by simp [eSlot, *]; exact .mk)
   refine xO ?_ (h := by simp [eSlot]; exact .mk)
   iterate 2 refine xO ?_
   refine xO ?_ (h := by simp [eSlot, *]; exact .mk)
   refine xO ?_ (h := by simp [eSlot]; exact .mk)
   refine xO ?_
   refine xF [0,1,5,25] ?_
   refine W_cond rfl ?_ ?_
   · intro h25
     have hr : sameL sameSlot x y = false := sameL_bad h2 (by simp [sameSlot] at h25 ⊢; grind)
     refine xU ?_
     refine xO ?_
     refine xF [4] ?_
     refine W_ret (xR (by simp [Tryz.f80]; exact .mk) ?_)
     simp [Tryz.f80, hr]
   intro h25
   refine W_skip ?_
   rintro -
   refine W_reg rfl ?_
   iterate 3 refine xO ?_
   refine xE [0,1,5] ?_
   refine rounds_kill [0,1,5] ?_
   refine rounds_next (m' := x.length - (i+1)) (by omega) ⟨i+1, rfl, by omega, ?_, ?_, rfl⟩
   · intro j hj
     rcases Nat.lt_succ_iff_lt_or_eq.1 hj with hj | rfl
     · exact hinv j hj
     simp [sameSlot] at h25 ⊢; grind
   rw [wrap64 (by omega) (by omega)]; rfl
 intro h14
 have hr : sameL sameSlot x y = true := sameL_good hxy (fun j hj => hinv j (by simp at h14; omega))
 refine W_exit (xT ?_)
 refine xO ?_
 refine xF [4] ?_
 refine W_ret (xR (by simp [Tryz.f80]; exact .mk) ?_)
 simp [Tryz.f80, hr]

theorem ct25 (g : Gl) (s t : Stt) (hs : s.Ok) : CtAt Tryz.prog g 25 [eStt s, eStt t] (.v (.bool (sameStt s t))) := by
 refine ctAt_of_W Tryz.func25 rfl rfl (Nat.le_of_ble_eq_true rfl) fun B S => ?_
 simp only [eStt, List.map, argD_agg, argD_v]
 refine xU ?_
 iterate 3 refine xO ?_
 refine xG [2,3] ?_
 iterate 6 refine xO ?_
 iterate 5 refine xI ?_
 refine xP ?_
 refine xB ?_
 iterate 5 refine xI ?_
 refine xP ?_
 refine xB ?_
 iterate 4 refine xI ?_
 refine run_call rfl (by simp; exact .mk) rfl rfl (by simp) (by simp; exact .mk) (by simp; exact .mk) (fun hb => ct80 g _ _ hs.h1) (by simp) (by simp; exact .mk) (by simp) ?_
 refine xP ?_
 refine xB ?_
 iterate 4 refine xI ?_
 refine run_call rfl (by simp; exact .mk) rfl rfl (by simp) (by simp; exact .mk) (by simp; exact .mk) (fun hb => ct81 g _ _ hs.h2) (by simp) (by simp; exact .mk) (by simp) ?_
 refine xP ?_
 refine xB ?_
 iterate 4 refine xI ?_
 refine run_call rfl (by simp; exact .mk) rfl rfl (by simp) (by simp; exact .mk) (by simp; exact .mk) (fun hb => ct82 g _ _ hs.h3) (by simp) (by simp; exact .mk) (by simp) ?_
 refine xP ?_
 refine xB ?_
 refine xF [4] ?_
 refine W_ret (xR (by simp [Tryz.f25]; exact .mk) ?_)
 simp [Tryz.f25, sameShape, sameStt, sameB, Bool.and_assoc]

open Go.Awp
theorem ct6 (g : Gl) (s : Stt) : CtAt Tryz.prog g 6 [eStt s] (.v (.bool true)) := by
 refine ctAt_of_W Tryz.func6 rfl rfl (Nat.le_of_ble_eq_true rfl) fun B S => ?_
 simp only [eStt, List.map, argD_agg, argD_v]
 refine xU ?_
 iterate 2 refine xO ?_
 refine xG [1] ?_
 refine xC (ct50 g) ?_ (he := by simp [row_rows, Function.comp_def]; exact .mk) (hi := by simp [oStt]; exact .mk)
 refine xO ?_
 refine xG [1,3] ?_
 refine xO ?_ (h := by simp [eSlot]; exact .mk)
 refine xC (ct20 g s) ?_ (he := by simp [row_rows, Function.comp_def]; exact .mk) (hi := by simp [oStt]; exact .mk)
 refine xO ?_
 refine xF [1,3,4] ?_
 refine W_seq (xU ?_)
 iterate 3 refine xO ?_
 iterate 2 refine xI ?_
 refine run_if rfl (by simp; exact .mk) rfl (by simp <;> first | omega | grind) (fun hb => by simp [eSlot]; exact .mk) ?_
 iterate 4 refine xI ?_
 refine run_if rfl (by simp; exact .mk) rfl (by simp <;> first | omega | grind) (fun hb => by simp [eSlot]; exact .mk) ?_
 refine xI ?_
 iterate 2 refine xP ?_
 refine xF [1,3,27] ?_
 refine W_cond rfl ?_ ?_
 · intro h27
   refine xU ?_
   iterate 2 refine xO ?_
   refine xF [2] ?_
   refine W_ret (xR (by simp [Tryz.f6]; exact .mk) ?_)
   simp [Tryz.f6]
 intro h27
 have hs := fewStt_ok (s := s) (by simp at h27; exact h27.1)
 have c51 := ct51 g s hs
 have c52 := ct52 g s hs
 obtain ⟨E, hE⟩ : ∃ E, E = endS s := ⟨_, rfl⟩
 have hEo : E.1.Ok := by rw [hE]; exact endS_Ok hs
 rw [← hE] at c51 c52
 have c25 := ct25 g E.1 E.1 hEo
 rw [sameStt_refl] at c25
 refine W_skip ?_
 refine xT ?_
 refine xO ?_ (h := by simp [eSlot]; exact .mk)
 refine xC (c51) ?_ (he := by simp [row_rows, Function.comp_def]; exact .mk) (hi := by simp [oStt]; exact .mk)
 iterate 5 refine xO ?_
 refine xO ?_ (h := by simp [splice]; exact .mk)
 iterate 2 refine xO ?_
 refine xG [1,3,5,6,7] ?_
 refine xO ?_ (h := by simp [eSlot]; exact .mk)
 refine xC (c52) ?_ (he := by simp [row_rows, Function.comp_def]; exact .mk) (hi := by simp [oStt]; exact .mk)
 iterate 5 refine xO ?_
 refine xO ?_ (h := by simp [splice]; exact .mk)
 iterate 2 refine xO ?_
 refine xG [3,5,6,7,8,9,10] ?_
 iterate 2 refine xO ?_
 iterate 2 (refine run_if rfl (by simp; exact .mk) rfl (by simp <;> first | omega | grind) (fun hb => by simp [eSlot]; exact .mk) ?_)
 refine run_call rfl (by simp; exact .mk) rfl rfl (by simp) (by simp; exact .mk) (by simp [row_rows, Function.comp_def]; exact .mk) (fun hb => c25) (by simp) (by simp [oStt]; exact .mk) (by simp) ?_
 refine xP ?_
 refine xB ?_
 iterate 3 refine xI ?_
 refine xP ?_
 refine xB ?_
 iterate 3 refine xI ?_
 refine xP ?_
 refine xB ?_
 refine xF [2] ?_
 refine W_ret (xR (by simp [Tryz.f6]; exact .mk) ?_)
 simp [Tryz.f6]

end Go.Proofs
