/- Contracts of the program's functions and plain facts, for arguments as each lemma says. -/
import Derived.Test.YtokgokbgidgfeaaCB
import Derived.Test.YtokgokbgidgfeaaCD
import Derived.Test.YtokgokbgidgfeaaCE
import Derived.Test.YtokgokbgidgfeaaCA
import Derived.Test.YtokgokbgidgfeaaAwpD
set_option linter.all false
set_option maxHeartbeats 4000000
set_option maxRecDepth 4000
namespace Go.Proofs
open Go.Awp
theorem ct3 (g : Gl) (a : Abs) (o : Op) : CtAt Try.prog g 3 [eAbs a, eOp o] (.v (.bool true)) := by
 refine ctAt_of_W Try.func3 rfl rfl (Nat.le_of_ble_eq_true rfl) fun B S => ?_
 simp only [eAbs, eOp, List.map, argD_agg, argD_v]
 refine xU ?_
 iterate 3 refine xO ?_
 refine xG [2,3] ?_
 refine xC (ct9 g) ?_ (he := by simp [row_rows, Function.comp_def, List.take_append]; exact .mk) (hi := by simp [oAbs]; exact .mk)
 refine xO ?_
 refine xG [2,3,5] ?_
 refine xO ?_ (h := by simp [eRoot]; exact .mk)
 refine xC (ct10 g a) ?_ (he := by simp [row_rows, Function.comp_def, List.take_append]; exact .mk) (hi := by simp [oAbs]; exact .mk)
 refine xO ?_
 refine xG [2,3,5,6] ?_
 refine xO ?_ (h := by simp [eRoot]; exact .mk)
 refine xC (ct11 g o) ?_ (he := by simp [row_rows, Function.comp_def, List.take_append]; exact .mk) (hi := by simp [oAbs]; exact .mk)
 refine xO ?_
 refine xF [2,3,5,6,7] ?_
 refine W_seq (xU ?_)
 iterate 3 refine xO ?_
 iterate 2 refine xI ?_
 refine xP ?_
 refine xF [2,3,5,29] ?_
 refine W_cond rfl ?_ ?_
 · intro h29
   refine xU ?_
   iterate 2 refine xO ?_
   refine xF [4] ?_
   refine W_ret (xR (by simp [Try.f3]; exact .mk) ?_)
   simp [Try.f3]
 intro h29
 have hF : fewS a = true ∧ fewOp o = true := by simp at h29; grind
 have ha := few_ok hF.1
 have hop : (o.b.length : Int) ≤ 4096 ∧ (o.name.size : Int) ≤ 1024 := by simpa [fewOp] using hF.2
 have hob : o.b.length ≤ 2^40 := by omega
 have hn : o.name.size ≤ 2^40 := by omega
 obtain ⟨R, hR⟩ : ∃ R, R = doS a o := ⟨_, rfl⟩
 have hRo : R.a.Ok := by rw [hR]; exact do_ok a o
 have c14 := ct14 g a o ha hn hob
 have c17 := ct17 g a o ha hob
 rw [← hR] at c14 c17
 have c16a := ct16 g a a ha
 have c16r := ct16 g R.a R.a hRo
 rw [sameAbs_refl] at c16a c16r
 refine W_skip ?_
 refine xT ?_
 refine xO ?_ (h := by simp [eRoot]; exact .mk)
 refine xC (ct12 g a ha) ?_ (he := by simp [row_rows, Function.comp_def, List.take_append]; exact .mk) (hi := by simp [oAbs]; exact .mk)
 refine xO ?_
 refine xO ?_ (h := by simp [splice]; exact .mk)
 refine xF [2,3,5,8] ?_
 refine W_seq ?_
 have c13 := in13 g [.var 26 [.d (rI a.gens), .d (rBB a.data), .d (rR a.roots)], .var 31 [.d (vI o.act), .d (vI o.ix), .d (vI o.gen), .d (vI o.n), .d (vI o.off), .d (rB o.b), .d (vS o.name)], .row 1 (a.gens.map vI), .row 1 (a.data.map oB), .row 3 (a.roots.map eRoot), .var 26 [.hdr 2 0 a.gens.length, .hdr 3 0 a.data.length, .hdr 4 0 a.roots.length]] o.b hob
 simp only [List.map_append, List.map_cons, List.map_nil, List.cons_append, List.nil_append, List.length_cons, List.length_nil, Nat.zero_add, Nat.reduceAdd] at c13
 refine W_reg rfl ?_
 refine xO ?_
 refine xO ?_ (h := by simp [eRoot]; exact .mk)
 refine run_inl0 rfl rfl rfl rfl (by simp; exact .mk) ⟨_, Try.func13, rfl, rfl⟩ c13 (.inr ⟨_, rfl⟩) ?_
 refine xO ?_
 refine xG [2,3,5,8,9] ?_
 refine xO ?_ (h := by simp [eRoot]; exact .mk)
 refine xO ?_
 refine xO ?_ (h := by simp [splice]; exact .mk)
 refine xG [2,3,5,8,9,10] ?_
 iterate 2 refine xO ?_
 refine xO ?_ (h := by simp [splice]; exact .mk)
 refine xG [2,3,5,8,9,10] ?_
 iterate 2 (refine xO ?_ (h := by simp [eRoot]; exact .mk))
 refine xC (c14) ?_ (he := by simp [row_rows, Function.comp_def, List.take_append]; exact .mk) (hi := by simp [oAbs]; exact .mk)
 iterate 6 refine xO ?_
 iterate 2 (refine xO ?_ (h := by simp [splice]; exact .mk))
 refine xO ?_
 refine xF [2,3,5,8,9,11,12,13] ?_
 refine W_seq ?_
 have c15 := in15 g [.var 26 [.d (rI a.gens), .d (rBB a.data), .d (rR a.roots)], .var 31 [.d (vI o.act), .d (vI o.ix), .d (vI o.gen), .d (vI o.n), .d (vI o.off), .d (rB o.b), .d (vS o.name)], .row 1 (a.gens.map vI), .row 1 (a.data.map oB), .row 3 (a.roots.map eRoot), .var 26 [.hdr 2 0 a.gens.length, .hdr 3 0 a.data.length, .hdr 4 0 a.roots.length]] [.var 31 [.d (vI o.act), .d (vI o.ix), .d (vI o.gen), .d (vI o.n), .d (vI o.off), .hdr 6 0 o.b.length, .d (vS o.name)], .row 1 (R.a.gens.map vI), .row 1 (R.a.data.map oB), .row 3 (R.a.roots.map eRoot), .row 1 (R.b.map vB), .var 26 [.hdr 8 0 R.a.gens.length, .hdr 9 0 R.a.data.length, .hdr 10 0 R.a.roots.length], .var 38 [.d (vI R.ix), .d (vI R.gen), .hdr 11 0 R.b.length]] o.b hob
 simp only [List.map_append, List.map_cons, List.map_nil, List.cons_append, List.nil_append, List.length_cons, List.length_nil, Nat.zero_add, Nat.reduceAdd] at c15
 refine W_reg rfl ?_
 iterate 2 refine xO ?_
 refine xO ?_ (h := by simp [eRoot]; exact .mk)
 refine run_inl0 rfl rfl rfl rfl (by simp; exact .mk) ⟨_, Try.func15, rfl, rfl⟩ c15 (.inl (by simp)) ?_
 refine xO ?_
 iterate 2 (refine run_if rfl (by simp; exact .mk) rfl (by simp <;> first | omega | grind) (fun hb => by simp [eRoot]; exact .mk) ?_)
 refine run_call rfl (by simp; exact .mk) rfl rfl (by simp) (by simp; exact .mk) (by simp [row_rows, Function.comp_def, List.take_append]; exact .mk) (fun hb => c16a) (by simp) (by simp [oAbs]; exact .mk) (by simp) ?_
 refine xP ?_
 refine xB ?_
 refine xG [2,3,5,8,9,11,12,13,14] ?_
 iterate 2 (refine xO ?_ (h := by simp [eRoot]; exact .mk))
 refine xC (c17) ?_ (he := by simp [row_rows, Function.comp_def, List.take_append]; exact .mk) (hi := by simp [oAbs]; exact .mk)
 iterate 6 refine xO ?_
 iterate 2 (refine xO ?_ (h := by simp [splice]; exact .mk))
 refine xO ?_
 refine xG [2,5,8,9,11,12,13,14,15,16,17] ?_
 iterate 2 (refine xO ?_ (h := by simp [eRoot]; exact .mk))
 refine xC (c16r) ?_ (he := by simp [row_rows, Function.comp_def, List.take_append]; exact .mk) (hi := by simp [oAbs]; exact .mk)
 refine xO ?_
 iterate 2 (refine run_if rfl (by simp; exact .mk) rfl (by simp <;> first | omega | grind) (fun hb => by simp [eRoot]; exact .mk) ?_)
 refine run_call rfl (by simp; exact .mk) rfl rfl (by simp) (by simp; exact .mk) (by simp [row_rows, Function.comp_def, List.take_append]; exact .mk) (fun hb => ct18 g R.ix R.gen R.b) (by simp) (by simp [oAbs]; exact .mk) (by simp) ?_
 refine xP ?_
 refine xB ?_
 iterate 2 (refine run_if rfl (by simp; exact .mk) rfl (by simp <;> first | omega | grind) (fun hb => by simp [eRoot]; exact .mk) ?_)
 refine run_call rfl (by simp; exact .mk) rfl rfl (by simp) (by simp; exact .mk) (by simp [row_rows, Function.comp_def, List.take_append]; exact .mk) (fun hb => ct19 g R.ix R.gen R.b) (by simp) (by simp [oAbs]; exact .mk) (by simp) ?_
 refine xP ?_
 refine xB ?_
 refine xF [2,5,8,9,11,12,13,14,17,18] ?_
 refine W_seq ?_
 have c20 := in20 g [.var 26 [.d (rI a.gens), .d (rBB a.data), .d (rR a.roots)], .var 31 [.d (vI o.act), .d (vI o.ix), .d (vI o.gen), .d (vI o.n), .d (vI o.off), .d (rB o.b), .d (vS o.name)], .row 1 (a.gens.map vI), .row 1 (a.data.map oB), .row 3 (a.roots.map eRoot), .var 26 [.hdr 2 0 a.gens.length, .hdr 3 0 a.data.length, .hdr 4 0 a.roots.length], .row 1 ((o.b ++ [77]).map vB), .var 31 [.d (vI o.act), .d (vI o.ix), .d (vI o.gen), .d (vI o.n), .d (vI o.off), .hdr 6 0 o.b.length, .d (vS o.name)]] [.row 1 (R.b.map vB), .var 26 [.hdr 8 0 R.a.gens.length, .hdr 9 0 R.a.data.length, .hdr 10 0 R.a.roots.length], .var 38 [.d (vI R.ix), .d (vI R.gen), .hdr 11 0 R.b.length], .row 1 (R.a.gens.map vI), .row 1 (R.a.data.map oB), .row 3 (R.a.roots.map eRoot), .row 1 (R.b.map vB), .var 26 [.hdr 14 0 R.a.gens.length, .hdr 15 0 R.a.data.length, .hdr 16 0 R.a.roots.length], .var 38 [.d (vI R.ix), .d (vI R.gen), .hdr 17 0 R.b.length]] R.a hRo (by simp [eRoot]) (by simp [eRoot]) (by simp) (by simp)
 simp only [List.map_append, List.map_cons, List.map_nil, List.cons_append, List.nil_append, List.length_cons, List.length_nil, Nat.zero_add, Nat.reduceAdd] at c20
 refine W_regK rfl [1001] rfl ?_
 refine xO ?_ (h := by simp [eRoot]; exact .mk)
 refine run_inlK rfl rfl rfl rfl (by simp; exact .mk) ⟨_, Try.func20, rfl, rfl⟩ (fixS_put (by simp) (fixS_slots (by simp))) (by simpa using c20) (by simp) (by decide) ?_
 refine xF [2,5,8,9,12,13,14,17,18] ?_
 refine W_seq (W_weak (objs2 := [.var 26 [.d (rI a.gens), .d (rBB a.data), .d (rR a.roots)], .var 31 [.d (vI o.act), .d (vI o.ix), .d (vI o.gen), .d (vI o.n), .d (vI o.off), .d (rB o.b), .d (vS o.name)], .row 1 (a.gens.map vI), .row 1 (a.data.map oB), .row 3 (a.roots.map eRoot), .var 26 [.hdr 2 0 a.gens.length, .hdr 3 0 a.data.length, .hdr 4 0 a.roots.length], .row 1 (o.b.map vB), .var 31 [.d (vI o.act), .d (vI o.ix), .d (vI o.gen), .d (vI o.n), .d (vI o.off), .hdr 6 0 o.b.length, .d (vS o.name)], .dead, .dead, .dead, .row 1 (R.b.map vB), .var 26 [.hdr 8 0 R.a.gens.length, .hdr 9 0 R.a.data.length, .hdr 10 0 R.a.roots.length], .var 38 [.d (vI R.ix), .d (vI R.gen), .hdr 11 0 R.b.length], .row 1 (R.a.gens.map vI), .row 1 (R.a.data.map oB), .row 3 (R.a.roots.map eRoot), .row 1 (R.b.map vB), .var 26 [.hdr 14 0 R.a.gens.length, .hdr 15 0 R.a.data.length, .hdr 16 0 R.a.roots.length], .var 38 [.d (vI R.ix), .d (vI R.gen), .hdr 17 0 R.b.length]]) (Weak.cutRow 6 o.b.length (ys := o.b.map vB) rfl (by simp [List.take_append])) ?_)
 have c21 := in21 g [.var 26 [.d (rI a.gens), .d (rBB a.data), .d (rR a.roots)], .var 31 [.d (vI o.act), .d (vI o.ix), .d (vI o.gen), .d (vI o.n), .d (vI o.off), .d (rB o.b), .d (vS o.name)], .row 1 (a.gens.map vI), .row 1 (a.data.map oB), .row 3 (a.roots.map eRoot), .var 26 [.hdr 2 0 a.gens.length, .hdr 3 0 a.data.length, .hdr 4 0 a.roots.length], .dead, .var 31 [.d (vI o.act), .d (vI o.ix), .d (vI o.gen), .d (vI o.n), .d (vI o.off), .hdr 6 0 o.b.length, .d (vS o.name)], .dead, .dead, .dead, .dead, .var 26 [.hdr 8 0 R.a.gens.length, .hdr 9 0 R.a.data.length, .hdr 10 0 R.a.roots.length], .var 38 [.d (vI R.ix), .d (vI R.gen), .hdr 11 0 R.b.length], .row 1 (R.a.gens.map vI), .row 1 (R.a.data.map oB), .row 3 (R.a.roots.map eRoot), .row 1 (R.b.map vB), .var 26 [.hdr 14 0 R.a.gens.length, .hdr 15 0 R.a.data.length, .hdr 16 0 R.a.roots.length], .var 38 [.d (vI R.ix), .d (vI R.gen), .hdr 17 0 R.b.length]] [] [R.b, o.b] (by simp [eRoot]) (by simp) (by simp) (by simp) (by simp)
 simp only [ownR, List.map_append, List.map_cons, List.map_nil, List.cons_append, List.nil_append, List.length_cons, List.length_nil, Nat.zero_add, Nat.reduceAdd] at c21
 refine W_regK rfl [1004] rfl ?_
 refine xO ?_
 refine xO ?_ (h := by simp [eRoot]; exact .mk)
 iterate 2 refine xO ?_
 refine run_inlK rfl rfl rfl rfl (by simp; exact .mk) ⟨_, Try.func21, rfl, rfl⟩ (fixS_put (by simp) (fixS_put (by simp) (fixS_put (by simp) (fixS_put (by simp) (fixS_slots (by simp)))))) (by simpa using c21) (by simp) (by decide) ?_
 refine xG [2,5,8,13,14,17,18] ?_
 iterate 2 refine xO ?_
 refine xI ?_
 refine xP ?_
 refine xB ?_
 refine xI ?_
 refine xP ?_
 refine xB ?_
 iterate 3 refine xI ?_
 refine xP ?_
 refine xB ?_
 iterate 2 (refine run_if rfl (by simp; exact .mk) rfl (by simp <;> first | omega | grind) (fun hb => by simp [eRoot]; exact .mk) ?_)
 refine run_call rfl (by simp; exact .mk) rfl rfl (by simp) (by simp; exact .mk) (by simp [row_rows, Function.comp_def, List.take_append]; exact .mk) (fun hb => c16a) (by simp) (by simp [oAbs]; exact .mk) (by simp) ?_
 refine xP ?_
 refine xB ?_
 refine xF [4] ?_
 refine W_ret (xR (by simp [Try.f3]; exact .mk) ?_)
 simp [Try.f3]

end Go.Proofs
