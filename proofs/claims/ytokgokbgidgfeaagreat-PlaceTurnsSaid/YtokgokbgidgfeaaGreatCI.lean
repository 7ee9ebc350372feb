/- Contracts of the program's functions and plain facts, for arguments as each lemma says. -/
import Derived.Test.YtokgokbgidgfeaaGreatAwpD
import Derived.Test.YtokgokbgidgfeaaGreatCH
import Derived.Test.YtokgokbgidgfeaaGreatCD
set_option linter.all false
set_option maxHeartbeats 4000000
set_option maxRecDepth 4000
namespace Go.Proofs
open Go.Awp
theorem ct5 (g : Gl) (s : Stt) (n k : Int) (two : Bool) (at_ : Int) : CtAt Tryz.prog g 5 [eStt s, vI n, vI k, vT two, vI at_] (.v (.bool true)) := by
 refine xA Tryz.func5 fun B S => ?_
 simp only [eStt, List.map, argD_agg, argD_v]
 refine xU ?_
 refine xO2 ?_
 refine xG [1,2,3,4,5] ?_
 refine xC (ct37 g) ?_ (he := by simp [row_rows, Function.comp_def]; exact .mk) (hi := by simp [oStt]; exact .mk)
 refine xO ?_
 refine xG [1,2,3,4,5,11] ?_
 refine xOl ?_
 refine xC (ct20 g s) ?_ (he := by simp [row_rows, Function.comp_def]; exact .mk) (hi := by simp [oStt]; exact .mk)
 refine xH [1,2,3,4,5,11,12] ?_
 refine W_seq (xU ?_)
 refine xO2 ?_
 refine xQ [1,2,3,4,5,11,37] ?_ ?_
 · intro h37
   refine xU ?_
   refine xH2 [10] ?_
   refine W_ret (xR (by simp [Tryz.f5]; exact .mk) ?_)
   simp [Tryz.f5]
 intro h37
 have hs := fewStt_ok (s := s) (by simpa using h37)
 have c42 := ct42 g s hs n
 have c46 := ct46 g s hs n
 have c43 := ct43 g s hs k
 have c47 := ct47 g s hs k
 have c44 := ct44 g s hs k n
 have c48 := ct48 g s hs k n
 have c45 := ct45 g s hs k two at_
 have c49 := ct49 g s hs k two at_
 obtain ⟨A, hA⟩ : ∃ X, X = (putS s n).1 := ⟨_, rfl⟩
 obtain ⟨p, hp⟩ : ∃ X, X = (putS s n).2.1 := ⟨_, rfl⟩
 obtain ⟨U, hU⟩ : ∃ X, X = (takeS s k).1 := ⟨_, rfl⟩
 obtain ⟨Z, hZ⟩ : ∃ X, X = (rszS s k n).1 := ⟨_, rfl⟩
 obtain ⟨Y, hY⟩ : ∃ X, X = (moveS s k two at_).1 := ⟨_, rfl⟩
 have hAo : A.Ok := by rw [hA]; exact putS_ok hs
 have hUo : U.Ok := by rw [hU]; exact takeS_ok hs
 have hZo : Z.Ok := by rw [hZ]; exact rszS_ok hs
 have hYo : Y.Ok := by rw [hY]; exact moveS_ok hs
 rw [← hA, ← hp] at c42 c46
 rw [← hU] at c43 c47
 rw [← hZ] at c44 c48
 rw [← hY] at c45 c49
 have cA := ct25 g A A hAo
 have cU := ct25 g U U hUo
 have cZ := ct25 g Z Z hZo
 have cY := ct25 g Y Y hYo
 have cS := ct25 g s s hs
 rw [sameStt_refl] at cA cU cZ cY cS
 clear hA hp hU hZ hY
 refine W_skip ?_
 refine xT ?_
 refine xOl ?_
 refine xC (ct21 g s hs) ?_ (he := by simp [row_rows, Function.comp_def]; exact .mk) (hi := by simp [oStt]; exact .mk)
 refine xO ?_
 refine xOs ?_
 refine xG [1,2,3,4,5,11,13] ?_
 refine xOl ?_
 refine xO ?_
 refine xC (c42) ?_ (he := by simp [row_rows, Function.comp_def]; exact .mk) (hi := by simp [oStt]; exact .mk)
 iterate 6 refine xO ?_
 iterate 2 (refine xOs ?_)
 refine xO ?_
 refine xG [1,2,3,4,5,11,13,14,15,16] ?_
 refine xOl ?_
 refine xO ?_
 refine xC (c43) ?_ (he := by simp [row_rows, Function.comp_def]; exact .mk) (hi := by simp [oStt]; exact .mk)
 refine xO4 ?_
 refine xOs ?_
 refine xO ?_
 refine xG [1,2,3,4,5,11,13,14,15,16,17,18] ?_
 refine xOl ?_
 refine xO2 ?_
 refine xC (c44) ?_ (he := by simp [row_rows, Function.comp_def]; exact .mk) (hi := by simp [oStt]; exact .mk)
 refine xO4 ?_
 refine xOs ?_
 refine xO ?_
 refine xG [1,2,3,4,5,11,13,14,15,16,17,18,19,20] ?_
 refine xOl ?_
 refine xO3 ?_
 refine xC (c45) ?_ (he := by simp [row_rows, Function.comp_def]; exact .mk) (hi := by simp [oStt]; exact .mk)
 refine xO4 ?_
 refine xOs ?_
 refine xO ?_
 refine xG [1,2,3,4,5,11,13,14,15,16,17,18,19,20,21,22] ?_
 refine xOl ?_
 refine xO ?_
 refine xC (c46) ?_ (he := by simp [row_rows, Function.comp_def]; exact .mk) (hi := by simp [oStt]; exact .mk)
 iterate 6 refine xO ?_
 iterate 2 (refine xOs ?_)
 refine xO ?_
 refine xG [1,2,3,4,5,11,13,14,15,16,17,18,19,20,21,22,23,24,25] ?_
 refine xOl ?_
 refine xO ?_
 refine xC (c47) ?_ (he := by simp [row_rows, Function.comp_def]; exact .mk) (hi := by simp [oStt]; exact .mk)
 refine xO4 ?_
 refine xOs ?_
 refine xO ?_
 refine xG [1,2,3,4,5,11,13,14,15,16,17,18,19,20,21,22,23,24,25,26,27] ?_
 refine xOl ?_
 refine xO2 ?_
 refine xC (c48) ?_ (he := by simp [row_rows, Function.comp_def]; exact .mk) (hi := by simp [oStt]; exact .mk)
 refine xO4 ?_
 refine xOs ?_
 refine xO ?_
 refine xG [2,3,4,5,11,13,14,15,16,17,18,19,20,21,22,23,24,25,26,27,28,29] ?_
 refine xOl ?_
 refine xO3 ?_
 refine xC (c49) ?_ (he := by simp [row_rows, Function.comp_def]; exact .mk) (hi := by simp [oStt]; exact .mk)
 refine xO4 ?_
 refine xOs ?_
 refine xO ?_
 refine xG [5,11,13,14,15,16,17,18,19,20,21,22,23,24,25,26,27,28,29,30,31] ?_
 iterate 2 (refine xOl ?_)
 refine xC (cA) ?_ (he := by simp [row_rows, Function.comp_def]; exact .mk) (hi := by simp [oStt]; exact .mk)
 refine xO ?_
 iterate 2 (refine xI ?_ (h := fun hb => by simp [eSlot]; exact .mk))
 refine run_call rfl (by simp; exact .mk) rfl rfl (by simp) (by simp; exact .mk) (by simp [row_rows, Function.comp_def]; exact .mk) (fun hb => cU) (by simp) (by simp [oStt]; exact .mk) (by simp) ?_
 refine xP ?_
 refine xB ?_
 iterate 2 (refine xI ?_ (h := fun hb => by simp [eSlot]; exact .mk))
 refine run_call rfl (by simp; exact .mk) rfl rfl (by simp) (by simp; exact .mk) (by simp [row_rows, Function.comp_def]; exact .mk) (fun hb => cZ) (by simp) (by simp [oStt]; exact .mk) (by simp) ?_
 refine xP ?_
 refine xB ?_
 iterate 2 (refine xI ?_ (h := fun hb => by simp [eSlot]; exact .mk))
 refine run_call rfl (by simp; exact .mk) rfl rfl (by simp) (by simp; exact .mk) (by simp [row_rows, Function.comp_def]; exact .mk) (fun hb => cY) (by simp) (by simp [oStt]; exact .mk) (by simp) ?_
 refine xP ?_
 refine xB ?_
 refine xF [5,11,13,14,15,16,17,18,19,20,21,22,24,25,27,29,31,32] ?_
 refine W_seq ?_
 have c26A := in26 g [.var 28 [.d (vI s.sh.pages), .d (vI s.sh.slots), .d (vI s.sh.roots), .d (vI s.sh.room), .d (vI s.mode), .d (vI s.base), .d (rSl s.slots), .d (rR s.roots), .d (rBB s.data)], .row 5 (s.slots.map eSlot), .row 3 (s.roots.map eRoot), .row 1 (s.data.map oB), .var 28 [.d (vI s.sh.pages), .d (vI s.sh.slots), .d (vI s.sh.roots), .d (vI s.sh.room), .d (vI s.mode), .d (vI s.base), .hdr 1 0 s.slots.length, .hdr 2 0 s.roots.length, .hdr 3 0 s.data.length]] [.var 28 [.d (vI A.sh.pages), .d (vI A.sh.slots), .d (vI A.sh.roots), .d (vI A.sh.room), .d (vI A.mode), .d (vI A.base), .hdr 5 0 A.slots.length, .hdr 6 0 A.roots.length, .hdr 7 0 A.data.length], .var 50 [.d (vI p.1), .d (vI p.2)], .row 5 (U.slots.map eSlot), .row 3 (U.roots.map eRoot), .row 1 (U.data.map oB), .var 28 [.d (vI U.sh.pages), .d (vI U.sh.slots), .d (vI U.sh.roots), .d (vI U.sh.room), .d (vI U.mode), .d (vI U.base), .hdr 10 0 U.slots.length, .hdr 11 0 U.roots.length, .hdr 12 0 U.data.length], .row 5 (Z.slots.map eSlot), .row 3 (Z.roots.map eRoot), .row 1 (Z.data.map oB), .var 28 [.d (vI Z.sh.pages), .d (vI Z.sh.slots), .d (vI Z.sh.roots), .d (vI Z.sh.room), .d (vI Z.mode), .d (vI Z.base), .hdr 14 0 Z.slots.length, .hdr 15 0 Z.roots.length, .hdr 16 0 Z.data.length], .row 5 (Y.slots.map eSlot), .row 3 (Y.roots.map eRoot), .row 1 (Y.data.map oB), .var 28 [.d (vI Y.sh.pages), .d (vI Y.sh.slots), .d (vI Y.sh.roots), .d (vI Y.sh.room), .d (vI Y.mode), .d (vI Y.base), .hdr 18 0 Y.slots.length, .hdr 19 0 Y.roots.length, .hdr 20 0 Y.data.length], .row 5 (A.slots.map eSlot), .row 3 (A.roots.map eRoot), .row 1 (A.data.map oB), .var 28 [.d (vI A.sh.pages), .d (vI A.sh.slots), .d (vI A.sh.roots), .d (vI A.sh.room), .d (vI A.mode), .d (vI A.base), .hdr 22 0 A.slots.length, .hdr 23 0 A.roots.length, .hdr 24 0 A.data.length], .var 50 [.d (vI p.1), .d (vI p.2)], .row 5 (U.slots.map eSlot), .row 3 (U.roots.map eRoot), .row 1 (U.data.map oB), .var 28 [.d (vI U.sh.pages), .d (vI U.sh.slots), .d (vI U.sh.roots), .d (vI U.sh.room), .d (vI U.mode), .d (vI U.base), .hdr 27 0 U.slots.length, .hdr 28 0 U.roots.length, .hdr 29 0 U.data.length], .row 5 (Z.slots.map eSlot), .row 3 (Z.roots.map eRoot), .row 1 (Z.data.map oB), .var 28 [.d (vI Z.sh.pages), .d (vI Z.sh.slots), .d (vI Z.sh.roots), .d (vI Z.sh.room), .d (vI Z.mode), .d (vI Z.base), .hdr 31 0 Z.slots.length, .hdr 32 0 Z.roots.length, .hdr 33 0 Z.data.length], .row 5 (Y.slots.map eSlot), .row 3 (Y.roots.map eRoot), .row 1 (Y.data.map oB), .var 28 [.d (vI Y.sh.pages), .d (vI Y.sh.slots), .d (vI Y.sh.roots), .d (vI Y.sh.room), .d (vI Y.mode), .d (vI Y.base), .hdr 35 0 Y.slots.length, .hdr 36 0 Y.roots.length, .hdr 37 0 Y.data.length]] A hAo (by simp) (by simp) (by simp) (by simp)
 simp only [List.cons_append, List.nil_append, List.length_cons, List.length_nil, Nat.zero_add, Nat.reduceAdd] at c26A
 refine W_regK rfl [1001] rfl ?_
 refine xOl ?_
 refine run_inlK rfl rfl rfl rfl (by simp; exact .mk) ⟨_, Tryz.func26, rfl, rfl⟩ (fixS_put (by simp) (fixS_slots (by simp))) (by simpa using c26A) (by simp) (by decide) ?_
 refine xF [5,11,13,15,16,17,18,19,20,21,22,24,25,27,29,31,32] ?_
 refine W_seq ?_
 have c26U := in26 g [.var 28 [.d (vI s.sh.pages), .d (vI s.sh.slots), .d (vI s.sh.roots), .d (vI s.sh.room), .d (vI s.mode), .d (vI s.base), .d (rSl s.slots), .d (rR s.roots), .d (rBB s.data)], .row 5 (s.slots.map eSlot), .row 3 (s.roots.map eRoot), .row 1 (s.data.map oB), .var 28 [.d (vI s.sh.pages), .d (vI s.sh.slots), .d (vI s.sh.roots), .d (vI s.sh.room), .d (vI s.mode), .d (vI s.base), .hdr 1 0 s.slots.length, .hdr 2 0 s.roots.length, .hdr 3 0 s.data.length], .dead, .dead, .dead, .var 28 [.d (vI A.sh.pages), .d (vI A.sh.slots), .d (vI A.sh.roots), .d (vI A.sh.room), .d (vI A.mode), .d (vI A.base), .hdr 5 0 A.slots.length, .hdr 6 0 A.roots.length, .hdr 7 0 A.data.length], .var 50 [.d (vI p.1), .d (vI p.2)]] [.var 28 [.d (vI U.sh.pages), .d (vI U.sh.slots), .d (vI U.sh.roots), .d (vI U.sh.room), .d (vI U.mode), .d (vI U.base), .hdr 10 0 U.slots.length, .hdr 11 0 U.roots.length, .hdr 12 0 U.data.length], .row 5 (Z.slots.map eSlot), .row 3 (Z.roots.map eRoot), .row 1 (Z.data.map oB), .var 28 [.d (vI Z.sh.pages), .d (vI Z.sh.slots), .d (vI Z.sh.roots), .d (vI Z.sh.room), .d (vI Z.mode), .d (vI Z.base), .hdr 14 0 Z.slots.length, .hdr 15 0 Z.roots.length, .hdr 16 0 Z.data.length], .row 5 (Y.slots.map eSlot), .row 3 (Y.roots.map eRoot), .row 1 (Y.data.map oB), .var 28 [.d (vI Y.sh.pages), .d (vI Y.sh.slots), .d (vI Y.sh.roots), .d (vI Y.sh.room), .d (vI Y.mode), .d (vI Y.base), .hdr 18 0 Y.slots.length, .hdr 19 0 Y.roots.length, .hdr 20 0 Y.data.length], .row 5 (A.slots.map eSlot), .row 3 (A.roots.map eRoot), .row 1 (A.data.map oB), .var 28 [.d (vI A.sh.pages), .d (vI A.sh.slots), .d (vI A.sh.roots), .d (vI A.sh.room), .d (vI A.mode), .d (vI A.base), .hdr 22 0 A.slots.length, .hdr 23 0 A.roots.length, .hdr 24 0 A.data.length], .var 50 [.d (vI p.1), .d (vI p.2)], .row 5 (U.slots.map eSlot), .row 3 (U.roots.map eRoot), .row 1 (U.data.map oB), .var 28 [.d (vI U.sh.pages), .d (vI U.sh.slots), .d (vI U.sh.roots), .d (vI U.sh.room), .d (vI U.mode), .d (vI U.base), .hdr 27 0 U.slots.length, .hdr 28 0 U.roots.length, .hdr 29 0 U.data.length], .row 5 (Z.slots.map eSlot), .row 3 (Z.roots.map eRoot), .row 1 (Z.data.map oB), .var 28 [.d (vI Z.sh.pages), .d (vI Z.sh.slots), .d (vI Z.sh.roots), .d (vI Z.sh.room), .d (vI Z.mode), .d (vI Z.base), .hdr 31 0 Z.slots.length, .hdr 32 0 Z.roots.length, .hdr 33 0 Z.data.length], .row 5 (Y.slots.map eSlot), .row 3 (Y.roots.map eRoot), .row 1 (Y.data.map oB), .var 28 [.d (vI Y.sh.pages), .d (vI Y.sh.slots), .d (vI Y.sh.roots), .d (vI Y.sh.room), .d (vI Y.mode), .d (vI Y.base), .hdr 35 0 Y.slots.length, .hdr 36 0 Y.roots.length, .hdr 37 0 Y.data.length]] U hUo (by simp) (by simp) (by simp) (by simp)
 simp only [List.cons_append, List.nil_append, List.length_cons, List.length_nil, Nat.zero_add, Nat.reduceAdd] at c26U
 refine W_regK rfl [1001] rfl ?_
 refine xOl ?_
 refine run_inlK rfl rfl rfl rfl (by simp; exact .mk) ⟨_, Tryz.func26, rfl, rfl⟩ (fixS_put (by simp) (fixS_slots (by simp))) (by simpa using c26U) (by simp) (by decide) ?_
 refine xF [5,11,13,15,16,18,19,20,21,22,24,25,27,29,31,32] ?_
 refine W_seq ?_
 have c26Z := in26 g [.var 28 [.d (vI s.sh.pages), .d (vI s.sh.slots), .d (vI s.sh.roots), .d (vI s.sh.room), .d (vI s.mode), .d (vI s.base), .d (rSl s.slots), .d (rR s.roots), .d (rBB s.data)], .row 5 (s.slots.map eSlot), .row 3 (s.roots.map eRoot), .row 1 (s.data.map oB), .var 28 [.d (vI s.sh.pages), .d (vI s.sh.slots), .d (vI s.sh.roots), .d (vI s.sh.room), .d (vI s.mode), .d (vI s.base), .hdr 1 0 s.slots.length, .hdr 2 0 s.roots.length, .hdr 3 0 s.data.length], .dead, .dead, .dead, .var 28 [.d (vI A.sh.pages), .d (vI A.sh.slots), .d (vI A.sh.roots), .d (vI A.sh.room), .d (vI A.mode), .d (vI A.base), .hdr 5 0 A.slots.length, .hdr 6 0 A.roots.length, .hdr 7 0 A.data.length], .var 50 [.d (vI p.1), .d (vI p.2)], .dead, .dead, .dead, .var 28 [.d (vI U.sh.pages), .d (vI U.sh.slots), .d (vI U.sh.roots), .d (vI U.sh.room), .d (vI U.mode), .d (vI U.base), .hdr 10 0 U.slots.length, .hdr 11 0 U.roots.length, .hdr 12 0 U.data.length]] [.var 28 [.d (vI Z.sh.pages), .d (vI Z.sh.slots), .d (vI Z.sh.roots), .d (vI Z.sh.room), .d (vI Z.mode), .d (vI Z.base), .hdr 14 0 Z.slots.length, .hdr 15 0 Z.roots.length, .hdr 16 0 Z.data.length], .row 5 (Y.slots.map eSlot), .row 3 (Y.roots.map eRoot), .row 1 (Y.data.map oB), .var 28 [.d (vI Y.sh.pages), .d (vI Y.sh.slots), .d (vI Y.sh.roots), .d (vI Y.sh.room), .d (vI Y.mode), .d (vI Y.base), .hdr 18 0 Y.slots.length, .hdr 19 0 Y.roots.length, .hdr 20 0 Y.data.length], .row 5 (A.slots.map eSlot), .row 3 (A.roots.map eRoot), .row 1 (A.data.map oB), .var 28 [.d (vI A.sh.pages), .d (vI A.sh.slots), .d (vI A.sh.roots), .d (vI A.sh.room), .d (vI A.mode), .d (vI A.base), .hdr 22 0 A.slots.length, .hdr 23 0 A.roots.length, .hdr 24 0 A.data.length], .var 50 [.d (vI p.1), .d (vI p.2)], .row 5 (U.slots.map eSlot), .row 3 (U.roots.map eRoot), .row 1 (U.data.map oB), .var 28 [.d (vI U.sh.pages), .d (vI U.sh.slots), .d (vI U.sh.roots), .d (vI U.sh.room), .d (vI U.mode), .d (vI U.base), .hdr 27 0 U.slots.length, .hdr 28 0 U.roots.length, .hdr 29 0 U.data.length], .row 5 (Z.slots.map eSlot), .row 3 (Z.roots.map eRoot), .row 1 (Z.data.map oB), .var 28 [.d (vI Z.sh.pages), .d (vI Z.sh.slots), .d (vI Z.sh.roots), .d (vI Z.sh.room), .d (vI Z.mode), .d (vI Z.base), .hdr 31 0 Z.slots.length, .hdr 32 0 Z.roots.length, .hdr 33 0 Z.data.length], .row 5 (Y.slots.map eSlot), .row 3 (Y.roots.map eRoot), .row 1 (Y.data.map oB), .var 28 [.d (vI Y.sh.pages), .d (vI Y.sh.slots), .d (vI Y.sh.roots), .d (vI Y.sh.room), .d (vI Y.mode), .d (vI Y.base), .hdr 35 0 Y.slots.length, .hdr 36 0 Y.roots.length, .hdr 37 0 Y.data.length]] Z hZo (by simp) (by simp) (by simp) (by simp)
 simp only [List.cons_append, List.nil_append, List.length_cons, List.length_nil, Nat.zero_add, Nat.reduceAdd] at c26Z
 refine W_regK rfl [1001] rfl ?_
 refine xOl ?_
 refine run_inlK rfl rfl rfl rfl (by simp; exact .mk) ⟨_, Tryz.func26, rfl, rfl⟩ (fixS_put (by simp) (fixS_slots (by simp))) (by simpa using c26Z) (by simp) (by decide) ?_
 refine xF [5,11,13,15,16,18,20,21,22,24,25,27,29,31,32] ?_
 refine W_seq ?_
 have c26Y := in26 g [.var 28 [.d (vI s.sh.pages), .d (vI s.sh.slots), .d (vI s.sh.roots), .d (vI s.sh.room), .d (vI s.mode), .d (vI s.base), .d (rSl s.slots), .d (rR s.roots), .d (rBB s.data)], .row 5 (s.slots.map eSlot), .row 3 (s.roots.map eRoot), .row 1 (s.data.map oB), .var 28 [.d (vI s.sh.pages), .d (vI s.sh.slots), .d (vI s.sh.roots), .d (vI s.sh.room), .d (vI s.mode), .d (vI s.base), .hdr 1 0 s.slots.length, .hdr 2 0 s.roots.length, .hdr 3 0 s.data.length], .dead, .dead, .dead, .var 28 [.d (vI A.sh.pages), .d (vI A.sh.slots), .d (vI A.sh.roots), .d (vI A.sh.room), .d (vI A.mode), .d (vI A.base), .hdr 5 0 A.slots.length, .hdr 6 0 A.roots.length, .hdr 7 0 A.data.length], .var 50 [.d (vI p.1), .d (vI p.2)], .dead, .dead, .dead, .var 28 [.d (vI U.sh.pages), .d (vI U.sh.slots), .d (vI U.sh.roots), .d (vI U.sh.room), .d (vI U.mode), .d (vI U.base), .hdr 10 0 U.slots.length, .hdr 11 0 U.roots.length, .hdr 12 0 U.data.length], .dead, .dead, .dead, .var 28 [.d (vI Z.sh.pages), .d (vI Z.sh.slots), .d (vI Z.sh.roots), .d (vI Z.sh.room), .d (vI Z.mode), .d (vI Z.base), .hdr 14 0 Z.slots.length, .hdr 15 0 Z.roots.length, .hdr 16 0 Z.data.length]] [.var 28 [.d (vI Y.sh.pages), .d (vI Y.sh.slots), .d (vI Y.sh.roots), .d (vI Y.sh.room), .d (vI Y.mode), .d (vI Y.base), .hdr 18 0 Y.slots.length, .hdr 19 0 Y.roots.length, .hdr 20 0 Y.data.length], .row 5 (A.slots.map eSlot), .row 3 (A.roots.map eRoot), .row 1 (A.data.map oB), .var 28 [.d (vI A.sh.pages), .d (vI A.sh.slots), .d (vI A.sh.roots), .d (vI A.sh.room), .d (vI A.mode), .d (vI A.base), .hdr 22 0 A.slots.length, .hdr 23 0 A.roots.length, .hdr 24 0 A.data.length], .var 50 [.d (vI p.1), .d (vI p.2)], .row 5 (U.slots.map eSlot), .row 3 (U.roots.map eRoot), .row 1 (U.data.map oB), .var 28 [.d (vI U.sh.pages), .d (vI U.sh.slots), .d (vI U.sh.roots), .d (vI U.sh.room), .d (vI U.mode), .d (vI U.base), .hdr 27 0 U.slots.length, .hdr 28 0 U.roots.length, .hdr 29 0 U.data.length], .row 5 (Z.slots.map eSlot), .row 3 (Z.roots.map eRoot), .row 1 (Z.data.map oB), .var 28 [.d (vI Z.sh.pages), .d (vI Z.sh.slots), .d (vI Z.sh.roots), .d (vI Z.sh.room), .d (vI Z.mode), .d (vI Z.base), .hdr 31 0 Z.slots.length, .hdr 32 0 Z.roots.length, .hdr 33 0 Z.data.length], .row 5 (Y.slots.map eSlot), .row 3 (Y.roots.map eRoot), .row 1 (Y.data.map oB), .var 28 [.d (vI Y.sh.pages), .d (vI Y.sh.slots), .d (vI Y.sh.roots), .d (vI Y.sh.room), .d (vI Y.mode), .d (vI Y.base), .hdr 35 0 Y.slots.length, .hdr 36 0 Y.roots.length, .hdr 37 0 Y.data.length]] Y hYo (by simp) (by simp) (by simp) (by simp)
 simp only [List.cons_append, List.nil_append, List.length_cons, List.length_nil, Nat.zero_add, Nat.reduceAdd] at c26Y
 refine W_regK rfl [1001] rfl ?_
 refine xOl ?_
 refine run_inlK rfl rfl rfl rfl (by simp; exact .mk) ⟨_, Tryz.func26, rfl, rfl⟩ (fixS_put (by simp) (fixS_slots (by simp))) (by simpa using c26Y) (by simp) (by decide) ?_
 refine xG [5,11,13,15,16,18,20,22,24,25,27,29,31,32] ?_
 refine xO2 ?_
 refine xI ?_
 refine xP ?_
 refine xB ?_
 iterate 2 (refine xI ?_ (h := fun hb => by simp [eSlot]; exact .mk))
 refine xI ?_
 refine xP ?_
 refine xB ?_
 iterate 3 refine xI ?_
 refine xP ?_
 refine xB ?_
 iterate 3 refine xI ?_
 refine xP ?_
 refine xB ?_
 iterate 3 refine xI ?_
 refine xP ?_
 refine xB ?_
 iterate 3 refine xI ?_
 refine xP ?_
 refine xB ?_
 iterate 2 (refine xI ?_ (h := fun hb => by simp [eSlot]; exact .mk))
 refine run_call rfl (by simp; exact .mk) rfl rfl (by simp) (by simp; exact .mk) (by simp [row_rows, Function.comp_def]; exact .mk) (fun hb => cS) (by simp) (by simp [oStt]; exact .mk) (by simp) ?_
 refine xP ?_
 refine xB ?_
 refine xF [10] ?_
 refine W_ret (xR (by simp [Tryz.f5]; exact .mk) ?_)
 simp [Tryz.f5]

end Go.Proofs
