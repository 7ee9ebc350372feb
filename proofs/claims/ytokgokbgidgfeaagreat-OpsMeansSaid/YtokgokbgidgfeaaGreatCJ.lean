/- Contracts of the program's functions, each against a plain function over lists and numbers (it answers what that one answers, for arguments of at most 2^40 elements where a lemma says so), and plain facts about these. -/
import Derived.Test.YtokgokbgidgfeaaGreatAwpD
import Derived.Test.YtokgokbgidgfeaaGreatCI
import Derived.Test.YtokgokbgidgfeaaGreatCE
import Derived.Test.YtokgokbgidgfeaaGreatCA
import Derived.Test.YtokgokbgidgfeaaGreatCG
set_option linter.all false
set_option maxHeartbeats 4000000
set_option maxRecDepth 4000
namespace Go.Proofs
open Go.Awp
theorem ct16 (g : Gl) (s : Stt) (l : List Op) (hl : l.length ≤ 9223372036854775807) : CtAt Tryz.prog g 16 [eStt s, rows 7 eOp l] (.v (.bool true)) := by
 refine ctAt_of_W Tryz.func16 rfl rfl (Nat.le_of_ble_eq_true rfl) fun B S => ?_
 simp only [eStt, List.map, argD_agg, argD_v]
 refine xU ?_
 iterate 2 refine xO ?_
 refine xE [1,2] ?_
 refine xT ?_
 refine xC (ct62 g) ?_ (he := by simp [row_rows, Function.comp_def, rRep, repOf]; exact .mk) (hi := by simp [oStt, oEfo, oAbs]; exact .mk)
 refine xO ?_
 refine xE [1,2,5] ?_
 refine xT ?_
 refine xO ?_ (h := by simp [eSlot]; exact .mk)
 refine xC (ct20 g s) ?_ (he := by simp [row_rows, Function.comp_def, rRep, repOf]; exact .mk) (hi := by simp [oStt, oEfo, oAbs]; exact .mk)
 refine xO ?_
 refine xE [1,2,5,6] ?_
 refine xT ?_
 refine xO ?_
 refine xC (ct70 g l hl) ?_ (he := by simp [row_rows, Function.comp_def, rRep, repOf]; exact .mk) (hi := by simp [oStt, oEfo, oAbs]; exact .mk)
 refine xO ?_
 refine xE [1,2,5,6,7] fun _ => ?_
 refine W_seq ?_
 refine xU ?_
 iterate 3 refine xO ?_
 iterate 2 refine xI ?_
 refine xP ?_
 refine xB ?_
 refine run_if rfl (by simp; exact .mk) rfl (by simp <;> first | omega | grind) (fun hb => by simp [eSlot]; exact .mk) ?_
 refine run_call rfl (by simp; exact .mk) rfl rfl (by simp) (by simp; exact .mk) (by simp [row_rows, Function.comp_def, rRep, repOf]; exact .mk) (fun hb => ct32 g s (fewStt_ok (by simp at hb; first | exact hb | exact hb.1 | exact hb.1.1))) (by simp) (by simp [oStt, oEfo, oAbs]; exact .mk) (by simp) ?_
 refine xI ?_
 refine xP ?_
 refine xE [1,2,5,31] fun _ => ?_
 refine W_cond rfl ?_ ?_
 · intro h31
   refine xU ?_
   iterate 2 refine xO ?_
   refine xE [4] fun _ => ?_
   refine W_ret ?_
   refine xR (by simp [Tryz.f16]; exact .mk) ?_
   simp [Tryz.f16]
 intro h31
 have hF : fewStt s = true ∧ fewOps l = true ∧ sttS s = true := by simp at h31; grind
 have hs := fewStt_ok hF.1
 have hF2 := fewOps_ok hF.2.1
 have hR := hF.2.2
 refine W_skip ?_
 refine xT ?_
 refine xO ?_ (h := by simp [eSlot]; exact .mk)
 refine xC (ct60 g s hs) ?_ (he := by simp [row_rows, Function.comp_def, rRep, repOf]; exact .mk) (hi := by simp [oStt, oEfo, oAbs]; exact .mk)
 refine xO ?_
 refine xO ?_ (h := by simp [splice]; exact .mk)
 refine xE [1,2,5,8] fun _ => ?_
 refine W_seq ?_
 refine xU ?_
 refine xO ?_
 refine xE [1,2,5,8,9] fun _ => ?_
 refine W_block ?_
 refine W_rounds (fun m σ o => ∃ (i : Nat) (y : Stt), m = l.length - i ∧ i ≤ l.length ∧ y.Ok ∧ sttS y = true ∧ σ = slots [(1, .d (rows 7 eOp l)), (2, .ptr 0 0 0), (5, .d (.v (.bool true))), (8, .ptr 4 0 0), (9, .d (vI i))] ∧ ((y = s ∧ o = [.var 28 [.d (vI s.sh.pages), .d (vI s.sh.slots), .d (vI s.sh.roots), .d (vI s.sh.room), .d (vI s.mode), .d (vI s.base), .d (rSl s.slots), .d (rR s.roots), .d (rBB s.data)], .row 1 ((ofS s).gens.map vI), .row 1 ((ofS s).data.map oB), .row 3 ((ofS s).roots.map eRoot), .var 67 [.hdr 1 0 (ofS s).gens.length, .hdr 2 0 (ofS s).data.length, .hdr 3 0 (ofS s).roots.length]]) ∨ o = [.var 28 [.d (vI y.sh.pages), .d (vI y.sh.slots), .d (vI y.sh.roots), .d (vI y.sh.room), .d (vI y.mode), .d (vI y.base), .hdr 5 0 y.slots.length, .hdr 6 0 y.roots.length, .hdr 7 0 y.data.length], .row 1 ((ofS y).gens.map vI), .row 1 ((ofS y).data.map oB), .row 3 ((ofS y).roots.map eRoot), .var 67 [.hdr 1 0 (ofS y).gens.length, .hdr 2 0 (ofS y).data.length, .hdr 3 0 (ofS y).roots.length], .row 5 (y.slots.map eSlot), .row 3 (y.roots.map eRoot), .row 1 (y.data.map oB)])) l.length .refl ⟨0, s, by simp, by simp, hs, hR, rfl, .inl ⟨rfl, rfl⟩⟩ ?_
 have q1 := hF2.1
 rintro m σ o ⟨i, y, rfl, hi, hyo, hyR, rfl, ⟨rfl, rfl⟩ | rfl⟩ _
 · skip
   skip
   refine W_seq ?_
   refine xU ?_
   iterate 4 refine xO ?_
   refine xE [1,2,5,8,9,38] fun _ => ?_
   refine W_cond rfl ?_ ?_
   · intro h38
     have hi2 : i < l.length := by simpa using h38
     obtain ⟨o, ho⟩ : ∃ o, o = nth l i := ⟨_, rfl⟩
     have on := hF2.2.1 i hi2
     have ob := hF2.2.2 i hi2
     rw [← ho] at on ob
     obtain ⟨Q, hQ⟩ : ∃ Q, Q = ofS y := ⟨_, rfl⟩
     rw [← hQ]
     have hQo : Q.Ok := by rw [hQ]; exact ofS_ok hyo
     have cdo := ct65 g y o hyo on ob
     rw [doO_of hyR] at cdo
     have hM := means (o := o) hyR
     obtain ⟨E, hE⟩ : ∃ E, E = doF y o := ⟨_, rfl⟩
     rw [← hE] at cdo hM
     have c74 := ct74 g Q o hQo on ob
     rw [← hQ] at hM
     obtain ⟨R, hR0⟩ : ∃ R, R = doS Q o := ⟨_, rfl⟩
     rw [← hR0] at c74 hM
     have hEo : E.s.Ok := by rw [hE]; exact doF_Ok hyo hyR
     refine W_skip ?_
     rintro -
     refine W_seq ?_
     refine W_block ?_
     refine W_seq ?_
     refine W_regDSK (hard := []) [5,10,11] (keepOk_lt (by decide)) (by kernel_rfl) 4 [0,1,2,3,4,5,6,7,8,9,10,11,12,13,14] [[0,1,2,3,4,5,6,7,8,9,11,10,12,13,14], [0,1,2,3,4,10,5,6,7,8,9,11,12,13,14], [0,1,2,3,4,10,11,5,6,7,8,9,12,13,14], [0,1,2,3,4,11,5,6,7,8,9,10,12,13,14], [0,1,2,3,4,11,10,5,6,7,8,9,12,13,14]] (by decide +kernel) ?_
     refine xO ?_ (h := by simp [eSlot]; exact .mk)
     iterate 2 refine xO ?_
     refine xO ?_ (h := by simp [eSlot, hi2]; exact .mk)
     refine xO ?_ (h := by simp [-List.getElem?_map, map_get hi2, ← ho, eOp]; exact .mk)
     refine xC (cdo) ?_ (he := by simp [row_rows, Function.comp_def, rRep, repOf]; exact .mk) (hi := by simp [oStt, oEfo, oAbs]; exact .mk)
     iterate 6 refine xO ?_
     iterate 2 (refine xO ?_ (h := by simp [splice]; exact .mk))
     refine xO ?_
     refine xE [1,2,5,8,9,10,11,12] ?_
     refine ⟨_, rfl, ⟨?_, ?_, ?_, ?_, ?_, trivial⟩, ?_⟩
     · skip
       refine xO ?_ (h := by simp [eSlot]; exact .mk)
       iterate 2 refine xO ?_
       refine xO ?_ (h := by simp [eSlot, hi2]; exact .mk)
       refine xO ?_ (h := by simp [-List.getElem?_map, map_get hi2, ← ho, eOp]; exact .mk)
       refine xC (cdo) ?_ (he := by simp [row_rows, Function.comp_def, rRep, repOf]; exact .mk) (hi := by simp [oStt, oEfo, oAbs]; exact .mk)
       iterate 6 refine xO ?_
       iterate 2 (refine xO ?_ (h := by simp [splice]; exact .mk))
       refine xO ?_
       refine xE [1,2,5,8,9,10,11,12] ?_
       exact Weak.perm [0,1,2,3,4,5,6,7,8,10,9] [0,1,2,3,4,5,6,7,8,10,9] rfl rfl rfl
     · skip
       refine xO ?_ (h := by simp [eSlot]; exact .mk)
       iterate 2 refine xO ?_
       refine xO ?_ (h := by simp [eSlot, hi2]; exact .mk)
       refine xO ?_ (h := by simp [-List.getElem?_map, map_get hi2, ← ho, eOp]; exact .mk)
       refine xO ?_
       refine xC (cdo) ?_ (he := by simp [row_rows, Function.comp_def, rRep, repOf]; exact .mk) (hi := by simp [oStt, oEfo, oAbs]; exact .mk)
       iterate 5 refine xO ?_
       iterate 2 (refine xO ?_ (h := by simp [splice]; exact .mk))
       refine xO ?_
       refine xE [1,2,5,8,9,10,11,12] ?_
       exact Weak.perm [0,1,2,3,4,9,5,6,7,8,10] [0,1,2,3,4,6,7,8,9,5,10] rfl rfl rfl
     · skip
       refine xO ?_ (h := by simp [eSlot]; exact .mk)
       iterate 2 refine xO ?_
       refine xO ?_ (h := by simp [eSlot, hi2]; exact .mk)
       refine xO ?_ (h := by simp [-List.getElem?_map, map_get hi2, ← ho, eOp]; exact .mk)
       iterate 2 refine xO ?_
       refine xC (cdo) ?_ (he := by simp [row_rows, Function.comp_def, rRep, repOf]; exact .mk) (hi := by simp [oStt, oEfo, oAbs]; exact .mk)
       iterate 4 refine xO ?_
       iterate 2 (refine xO ?_ (h := by simp [splice]; exact .mk))
       refine xO ?_
       refine xE [1,2,5,8,9,10,11,12] ?_
       exact Weak.perm [0,1,2,3,4,9,10,5,6,7,8] [0,1,2,3,4,7,8,9,10,5,6] rfl rfl rfl
     · skip
       refine xO ?_ (h := by simp [eSlot]; exact .mk)
       iterate 2 refine xO ?_
       refine xO ?_ (h := by simp [eSlot, hi2]; exact .mk)
       refine xO ?_ (h := by simp [-List.getElem?_map, map_get hi2, ← ho, eOp]; exact .mk)
       refine xO ?_
       refine xC (cdo) ?_ (he := by simp [row_rows, Function.comp_def, rRep, repOf]; exact .mk) (hi := by simp [oStt, oEfo, oAbs]; exact .mk)
       iterate 5 refine xO ?_
       iterate 2 (refine xO ?_ (h := by simp [splice]; exact .mk))
       refine xO ?_
       refine xE [1,2,5,8,9,10,11,12] ?_
       exact Weak.perm [0,1,2,3,4,10,5,6,7,8,9] [0,1,2,3,4,6,7,8,9,10,5] rfl rfl rfl
     · skip
       refine xO ?_ (h := by simp [eSlot]; exact .mk)
       iterate 2 refine xO ?_
       refine xO ?_ (h := by simp [eSlot, hi2]; exact .mk)
       refine xO ?_ (h := by simp [-List.getElem?_map, map_get hi2, ← ho, eOp]; exact .mk)
       iterate 2 refine xO ?_
       refine xC (cdo) ?_ (he := by simp [row_rows, Function.comp_def, rRep, repOf]; exact .mk) (hi := by simp [oStt, oEfo, oAbs]; exact .mk)
       iterate 4 refine xO ?_
       iterate 2 (refine xO ?_ (h := by simp [splice]; exact .mk))
       refine xO ?_
       refine xE [1,2,5,8,9,10,11,12] ?_
       exact Weak.perm [0,1,2,3,4,10,9,5,6,7,8] [0,1,2,3,4,7,8,9,10,6,5] rfl rfl rfl
     rintro -
     refine W_seq ?_
     refine W_regDSK (hard := []) [5,10,11] (keepOk_lt (by decide)) (by kernel_rfl) 4 [0,1,2,3,4,5,6,7,8,9,10,11,12,13,14] [[0,1,2,3,4,5,6,7,8,9,11,10,12,13,14], [0,1,2,3,4,10,5,6,7,8,9,11,12,13,14], [0,1,2,3,4,10,11,5,6,7,8,9,12,13,14], [0,1,2,3,4,11,5,6,7,8,9,10,12,13,14], [0,1,2,3,4,11,10,5,6,7,8,9,12,13,14]] (by decide +kernel) ?_
     refine xO ?_ (h := by simp [eSlot]; exact .mk)
     iterate 2 refine xO ?_
     refine xO ?_ (h := by simp [eSlot, hi2]; exact .mk)
     refine xO ?_ (h := by simp [-List.getElem?_map, map_get hi2, ← ho, eOp]; exact .mk)
     refine xC (c74) ?_ (he := by simp [row_rows, Function.comp_def, rRep, repOf]; exact .mk) (hi := by simp [oStt, oEfo, oAbs]; exact .mk)
     iterate 6 refine xO ?_
     iterate 2 (refine xO ?_ (h := by simp [splice]; exact .mk))
     refine xO ?_
     refine xE [1,2,5,8,9,10,11,12,13,14,15] ?_
     refine ⟨_, rfl, ⟨?_, ?_, ?_, ?_, ?_, trivial⟩, ?_⟩
     · skip
       refine xO ?_ (h := by simp [eSlot]; exact .mk)
       iterate 2 refine xO ?_
       refine xO ?_ (h := by simp [eSlot, hi2]; exact .mk)
       refine xO ?_ (h := by simp [-List.getElem?_map, map_get hi2, ← ho, eOp]; exact .mk)
       refine xC (c74) ?_ (he := by simp [row_rows, Function.comp_def, rRep, repOf]; exact .mk) (hi := by simp [oStt, oEfo, oAbs]; exact .mk)
       iterate 6 refine xO ?_
       iterate 2 (refine xO ?_ (h := by simp [splice]; exact .mk))
       refine xO ?_
       refine xE [1,2,5,8,9,10,11,12,13,14,15] ?_
       exact Weak.perm [0,1,2,3,4,5,6,7,8,9,10,11,12,13,14,16,15] [0,1,2,3,4,5,6,7,8,9,10,11,12,13,14,16,15] rfl rfl rfl
     · skip
       refine xO ?_ (h := by simp [eSlot]; exact .mk)
       iterate 2 refine xO ?_
       refine xO ?_ (h := by simp [eSlot, hi2]; exact .mk)
       refine xO ?_ (h := by simp [-List.getElem?_map, map_get hi2, ← ho, eOp]; exact .mk)
       refine xO ?_
       refine xC (c74) ?_ (he := by simp [row_rows, Function.comp_def, rRep, repOf]; exact .mk) (hi := by simp [oStt, oEfo, oAbs]; exact .mk)
       iterate 5 refine xO ?_
       iterate 2 (refine xO ?_ (h := by simp [splice]; exact .mk))
       refine xO ?_
       refine xE [1,2,5,8,9,10,11,12,13,14,15] ?_
       exact Weak.perm [0,1,2,3,4,5,6,7,8,9,10,15,11,12,13,14,16] [0,1,2,3,4,5,6,7,8,9,10,12,13,14,15,11,16] rfl rfl rfl
     · skip
       refine xO ?_ (h := by simp [eSlot]; exact .mk)
       iterate 2 refine xO ?_
       refine xO ?_ (h := by simp [eSlot, hi2]; exact .mk)
       refine xO ?_ (h := by simp [-List.getElem?_map, map_get hi2, ← ho, eOp]; exact .mk)
       iterate 2 refine xO ?_
       refine xC (c74) ?_ (he := by simp [row_rows, Function.comp_def, rRep, repOf]; exact .mk) (hi := by simp [oStt, oEfo, oAbs]; exact .mk)
       iterate 4 refine xO ?_
       iterate 2 (refine xO ?_ (h := by simp [splice]; exact .mk))
       refine xO ?_
       refine xE [1,2,5,8,9,10,11,12,13,14,15] ?_
       exact Weak.perm [0,1,2,3,4,5,6,7,8,9,10,15,16,11,12,13,14] [0,1,2,3,4,5,6,7,8,9,10,13,14,15,16,11,12] rfl rfl rfl
     · skip
       refine xO ?_ (h := by simp [eSlot]; exact .mk)
       iterate 2 refine xO ?_
       refine xO ?_ (h := by simp [eSlot, hi2]; exact .mk)
       refine xO ?_ (h := by simp [-List.getElem?_map, map_get hi2, ← ho, eOp]; exact .mk)
       refine xO ?_
       refine xC (c74) ?_ (he := by simp [row_rows, Function.comp_def, rRep, repOf]; exact .mk) (hi := by simp [oStt, oEfo, oAbs]; exact .mk)
       iterate 5 refine xO ?_
       iterate 2 (refine xO ?_ (h := by simp [splice]; exact .mk))
       refine xO ?_
       refine xE [1,2,5,8,9,10,11,12,13,14,15] ?_
       exact Weak.perm [0,1,2,3,4,5,6,7,8,9,10,16,11,12,13,14,15] [0,1,2,3,4,5,6,7,8,9,10,12,13,14,15,16,11] rfl rfl rfl
     · skip
       refine xO ?_ (h := by simp [eSlot]; exact .mk)
       iterate 2 refine xO ?_
       refine xO ?_ (h := by simp [eSlot, hi2]; exact .mk)
       refine xO ?_ (h := by simp [-List.getElem?_map, map_get hi2, ← ho, eOp]; exact .mk)
       iterate 2 refine xO ?_
       refine xC (c74) ?_ (he := by simp [row_rows, Function.comp_def, rRep, repOf]; exact .mk) (hi := by simp [oStt, oEfo, oAbs]; exact .mk)
       iterate 4 refine xO ?_
       iterate 2 (refine xO ?_ (h := by simp [splice]; exact .mk))
       refine xO ?_
       refine xE [1,2,5,8,9,10,11,12,13,14,15] ?_
       exact Weak.perm [0,1,2,3,4,5,6,7,8,9,10,16,15,11,12,13,14] [0,1,2,3,4,5,6,7,8,9,10,13,14,15,16,12,11] rfl rfl rfl
     rintro -
     refine W_seq ?_
     refine xU ?_
     iterate 3 refine xO ?_
     iterate 2 refine xI ?_
     refine xP ?_
     refine xB ?_
     iterate 2 refine xI ?_
     refine run_if rfl (by simp; exact .mk) rfl (by simp <;> first | omega | grind) (fun hb => by simp [eSlot, hi2]; exact .mk) ?_
     refine xI ?_
     refine run_if rfl (by simp; exact .mk) rfl (by simp <;> first | omega | grind) (fun hb => by simp [-List.getElem?_map, map_get hi2, ← ho, eOp]; exact .mk) ?_
     iterate 4 refine xI ?_
     refine run_if rfl (by simp; exact .mk) rfl (by simp <;> first | omega | grind) (fun hb => by simp [eSlot, hi2]; exact .mk) ?_
     refine xI ?_
     refine run_if rfl (by simp; exact .mk) rfl (by simp <;> first | omega | grind) (fun hb => by simp [-List.getElem?_map, map_get hi2, ← ho, eOp]; exact .mk) ?_
     refine xI ?_
     iterate 2 refine xP ?_
     refine xE [1,2,5,8,9,10,11,12,13,14,15,82] fun _ => ?_
     refine W_cond rfl ?_ ?_
     · intro h82
       refine W_exit ?_
       rintro -
       refine W_reg rfl ?_
       iterate 3 refine xO ?_
       refine xE [1,2,5,8,9] ?_
       refine rounds_kill [1,2,5,8,9] ?_
       first
       | (refine rounds_drop 5 [1,2,5,8,9] (by decide) (by rfl) (by rfl) ?_
          refine rounds_next (m' := l.length - (i+1)) (by omega) ⟨i+1, y, rfl, by omega, hyo, hyR, ?_, .inl ⟨rfl, by subst hQ; rfl⟩⟩
          rw [wrap64 (by omega) (by omega)]; rfl)
       | (refine rounds_drop 8 [1,2,5,8,9] (by decide) (by rfl) (by rfl) ?_
          refine rounds_next (m' := l.length - (i+1)) (by omega) ⟨i+1, y, rfl, by omega, hyo, hyR, ?_, .inr (by subst hQ; rfl)⟩
          rw [wrap64 (by omega) (by omega)]; rfl)
       | (refine rounds_kills [1,2,5,8,9] rfl ?_
          refine rounds_swap 1 11 3 (by decide) (by simp) (by decide) rfl rfl ?_
          refine rounds_drop 8 [1,2,5,8,9] (by decide) (by rfl) (by rfl) ?_
          refine rounds_next (m' := l.length - (i+1)) (by omega) ⟨i+1, E.s, rfl, by omega, hEo, hA.right, ?_, .inr (by rw [hA.of]; rfl)⟩
          rw [wrap64 (by omega) (by omega)]; rfl)
       | (refine rounds_kills [1,2,5,8,9] rfl ?_
          refine rounds_swap 5 8 3 (by decide) (by simp) (by decide) rfl rfl ?_
          refine rounds_swap 1 14 3 (by decide) (by simp) (by decide) rfl rfl ?_
          refine rounds_drop 8 [1,2,5,8,9] (by decide) (by rfl) (by rfl) ?_
          refine rounds_next (m' := l.length - (i+1)) (by omega) ⟨i+1, E.s, rfl, by omega, hEo, hA.right, ?_, .inr (by rw [hA.of]; rfl)⟩
          rw [wrap64 (by omega) (by omega)]; rfl)
     intro h82
     refine W_skip ?_
     rintro -
     refine W_seq ?_
     refine xU ?_
     iterate 3 refine xO ?_
     refine xE [1,2,5,8,9,10,11,12,13,14,85] fun _ => ?_
     refine W_cond rfl ?_ ?_
     · intro h85
       exfalso
       have q1 : ¬ E.e = R.e := by simpa using h85
       simp at h82
       rcases hM with hM | hM | hM
       · have := h82 hM.1 hM.2.1; omega
       · exact q1 hM.1
       omega
     intro h85
     refine W_skip ?_
     rintro -
     refine W_seq ?_
     refine xU ?_
     iterate 2 refine xO ?_
     refine xE [1,2,5,8,9,10,11,13,14,87] fun _ => ?_
     refine W_cond rfl ?_ ?_
     · intro h87
       refine W_exit ?_
       rintro -
       refine W_reg rfl ?_
       iterate 3 refine xO ?_
       refine xE [1,2,5,8,9] ?_
       refine rounds_kill [1,2,5,8,9] ?_
       first
       | (refine rounds_drop 5 [1,2,5,8,9] (by decide) (by rfl) (by rfl) ?_
          refine rounds_next (m' := l.length - (i+1)) (by omega) ⟨i+1, y, rfl, by omega, hyo, hyR, ?_, .inl ⟨rfl, by subst hQ; rfl⟩⟩
          rw [wrap64 (by omega) (by omega)]; rfl)
       | (refine rounds_drop 8 [1,2,5,8,9] (by decide) (by rfl) (by rfl) ?_
          refine rounds_next (m' := l.length - (i+1)) (by omega) ⟨i+1, y, rfl, by omega, hyo, hyR, ?_, .inr (by subst hQ; rfl)⟩
          rw [wrap64 (by omega) (by omega)]; rfl)
       | (refine rounds_kills [1,2,5,8,9] rfl ?_
          refine rounds_swap 1 11 3 (by decide) (by simp) (by decide) rfl rfl ?_
          refine rounds_drop 8 [1,2,5,8,9] (by decide) (by rfl) (by rfl) ?_
          refine rounds_next (m' := l.length - (i+1)) (by omega) ⟨i+1, E.s, rfl, by omega, hEo, hA.right, ?_, .inr (by rw [hA.of]; rfl)⟩
          rw [wrap64 (by omega) (by omega)]; rfl)
       | (refine rounds_kills [1,2,5,8,9] rfl ?_
          refine rounds_swap 5 8 3 (by decide) (by simp) (by decide) rfl rfl ?_
          refine rounds_swap 1 14 3 (by decide) (by simp) (by decide) rfl rfl ?_
          refine rounds_drop 8 [1,2,5,8,9] (by decide) (by rfl) (by rfl) ?_
          refine rounds_next (m' := l.length - (i+1)) (by omega) ⟨i+1, E.s, rfl, by omega, hEo, hA.right, ?_, .inr (by rw [hA.of]; rfl)⟩
          rw [wrap64 (by omega) (by omega)]; rfl)
     intro h87
     have he : E.e = 0 := by simpa using h87
     have hM3 := (hM.resolve_left fun q => by omega).resolve_left fun q => by omega
     obtain ⟨_, _, hA, hrep⟩ := hM3
     have hRo : R.a.Ok := by rw [← hA.of]; exact ofS_ok hEo
     have c32E := ct32 g E.s hEo
     rw [hA.right] at c32E
     have c60E := ct60 g E.s hEo
     rw [hA.of] at c60E
     have c61 := ct61 g R.a R.a hRo
     rw [sameAbs_refl] at c61
     have c75 := ct75 g (repOf E) ⟨R.ix, R.gen, R.b⟩
     rw [show sameRep (repOf E) ⟨R.ix, R.gen, R.b⟩ = true from by rw [hrep]; exact sameRep_refl _] at c75
     have m1 := hA.mode
     have m2 := hA.base
     refine W_skip ?_
     rintro -
     refine W_seq ?_
     refine W_seq ?_
     refine W_regD (by kernel_rfl) [] 24 [0,1,2,3,4,6,5,7,8,9,10,11,12,13,14,15,16,17,18,19,20,21,22,23,24,25,26,27,28,29] (by decide +kernel) ?_
     refine xO ?_ (h := by simp [eSlot]; exact .mk)
     refine xC (c32E) ?_ (he := by simp [row_rows, Function.comp_def, rRep, repOf]; exact .mk) (hi := by simp [oStt, oEfo, oAbs]; exact .mk)
     iterate 2 refine xO ?_
     iterate 2 (refine run_if rfl (by simp; exact .mk) rfl (by simp <;> first | omega | grind) (fun hb => by simp [eSlot]; exact .mk) ?_)
     refine run_call rfl (by simp; exact .mk) rfl rfl (by simp) (by simp; exact .mk) (by simp [row_rows, Function.comp_def, rRep, repOf]; exact .mk) (fun hb => c60E) (by simp) (by simp [oStt, oEfo, oAbs]; exact .mk) (by simp) ?_
     refine run_call rfl (by simp; exact .mk) rfl rfl (by simp) (by simp; exact .mk) (by simp [row_rows, Function.comp_def, rRep, repOf]; exact .mk) (fun hb => c61) (by simp) (by simp [oStt, oEfo, oAbs]; exact .mk) (by simp) ?_
     refine xI ?_
     refine xP ?_
     refine xB ?_
     iterate 2 (refine run_if rfl (by simp; exact .mk) rfl (by simp <;> first | omega | grind) (fun hb => by simp [eSlot]; exact .mk) ?_)
     refine run_call rfl (by simp; exact .mk) rfl rfl (by simp) (by simp; exact .mk) (by simp [row_rows, Function.comp_def, rRep, repOf]; exact .mk) (fun hb => c75) (by simp) (by simp [oStt, oEfo, oAbs]; exact .mk) (by simp) ?_
     refine xI ?_
     refine xP ?_
     refine xB ?_
     refine xI ?_
     refine run_if rfl (by simp; exact .mk) rfl (by simp <;> first | omega | grind) (fun hb => by simp [eSlot]; exact .mk) ?_
     refine xI ?_
     refine run_if rfl (by simp; exact .mk) rfl (by simp <;> first | omega | grind) (fun hb => by simp [eSlot]; exact .mk) ?_
     refine run_if rfl (by simp; exact .mk) rfl (by simp <;> first | omega | grind) (fun hb => by simp [m1]; exact .mk) ?_
     refine xP ?_
     refine xB ?_
     refine xI ?_
     refine run_if rfl (by simp; exact .mk) rfl (by simp <;> first | omega | grind) (fun hb => by simp [eSlot]; exact .mk) ?_
     refine xI ?_
     refine run_if rfl (by simp; exact .mk) rfl (by simp <;> first | omega | grind) (fun hb => by simp [eSlot]; exact .mk) ?_
     refine run_if rfl (by simp; exact .mk) rfl (by simp <;> first | omega | grind) (fun hb => by simp [m2]; exact .mk) ?_
     refine xP ?_
     refine xE [1,2,5,8,9,10,13,117] fun _ => ?_
     refine W_cond rfl ?_ ?_
     · intro h117
       simp at h117
     intro h117
     refine W_skip ?_
     refine xT ?_
     refine xO ?_ (h := by simp [eSlot]; exact .mk)
     refine xO ?_ (h := by simp [splice]; exact .mk)
     refine xE [1,2,5,8,9,13] fun _ => ?_
     refine W_reg rfl ?_
     refine xO ?_ (h := by simp [eSlot]; exact .mk)
     refine xO ?_ (h := by simp [splice]; exact .mk)
     refine xE [1,2,5,8,9] fun _ => ?_
     refine W_reg rfl ?_
     iterate 3 refine xO ?_
     refine xE [1,2,5,8,9] ?_
     refine rounds_kill [1,2,5,8,9] ?_
     first
     | (refine rounds_drop 5 [1,2,5,8,9] (by decide) (by rfl) (by rfl) ?_
        refine rounds_next (m' := l.length - (i+1)) (by omega) ⟨i+1, y, rfl, by omega, hyo, hyR, ?_, .inl ⟨rfl, by subst hQ; rfl⟩⟩
        rw [wrap64 (by omega) (by omega)]; rfl)
     | (refine rounds_drop 8 [1,2,5,8,9] (by decide) (by rfl) (by rfl) ?_
        refine rounds_next (m' := l.length - (i+1)) (by omega) ⟨i+1, y, rfl, by omega, hyo, hyR, ?_, .inr (by subst hQ; rfl)⟩
        rw [wrap64 (by omega) (by omega)]; rfl)
     | (refine rounds_kills [1,2,5,8,9] rfl ?_
        refine rounds_swap 1 11 3 (by decide) (by simp) (by decide) rfl rfl ?_
        refine rounds_drop 8 [1,2,5,8,9] (by decide) (by rfl) (by rfl) ?_
        refine rounds_next (m' := l.length - (i+1)) (by omega) ⟨i+1, E.s, rfl, by omega, hEo, hA.right, ?_, .inr (by rw [hA.of]; rfl)⟩
        rw [wrap64 (by omega) (by omega)]; rfl)
     | (refine rounds_kills [1,2,5,8,9] rfl ?_
        refine rounds_swap 5 8 3 (by decide) (by simp) (by decide) rfl rfl ?_
        refine rounds_swap 1 14 3 (by decide) (by simp) (by decide) rfl rfl ?_
        refine rounds_drop 8 [1,2,5,8,9] (by decide) (by rfl) (by rfl) ?_
        refine rounds_next (m' := l.length - (i+1)) (by omega) ⟨i+1, E.s, rfl, by omega, hEo, hA.right, ?_, .inr (by rw [hA.of]; rfl)⟩
        rw [wrap64 (by omega) (by omega)]; rfl)
   intro h38
   refine W_exit ?_
   refine xT ?_
   iterate 2 refine xO ?_
   refine xE [4] fun _ => ?_
   refine W_ret ?_
   refine xR (by simp [Tryz.f16]; exact .mk) ?_
   simp [Tryz.f16]
 skip
 skip
 refine W_seq ?_
 refine xU ?_
 iterate 4 refine xO ?_
 refine xE [1,2,5,8,9,38] fun _ => ?_
 refine W_cond rfl ?_ ?_
 · intro h38
   have hi2 : i < l.length := by simpa using h38
   obtain ⟨o, ho⟩ : ∃ o, o = nth l i := ⟨_, rfl⟩
   have on := hF2.2.1 i hi2
   have ob := hF2.2.2 i hi2
   rw [← ho] at on ob
   obtain ⟨Q, hQ⟩ : ∃ Q, Q = ofS y := ⟨_, rfl⟩
   rw [← hQ]
   have hQo : Q.Ok := by rw [hQ]; exact ofS_ok hyo
   have cdo := ct65 g y o hyo on ob
   rw [doO_of hyR] at cdo
   have hM := means (o := o) hyR
   obtain ⟨E, hE⟩ : ∃ E, E = doF y o := ⟨_, rfl⟩
   rw [← hE] at cdo hM
   have c74 := ct74 g Q o hQo on ob
   rw [← hQ] at hM
   obtain ⟨R, hR0⟩ : ∃ R, R = doS Q o := ⟨_, rfl⟩
   rw [← hR0] at c74 hM
   have hEo : E.s.Ok := by rw [hE]; exact doF_Ok hyo hyR
   refine W_skip ?_
   rintro -
   refine W_seq ?_
   refine W_block ?_
   refine W_seq ?_
   refine W_regDSK (hard := []) [5,10,11] (keepOk_lt (by decide)) (by kernel_rfl) 4 [0,1,2,3,4,5,6,7,8,9,10,11,12,13,14] [[0,1,2,3,4,5,6,7,8,9,11,10,12,13,14], [0,1,2,3,4,10,5,6,7,8,9,11,12,13,14], [0,1,2,3,4,10,11,5,6,7,8,9,12,13,14], [0,1,2,3,4,11,5,6,7,8,9,10,12,13,14], [0,1,2,3,4,11,10,5,6,7,8,9,12,13,14]] (by decide +kernel) ?_
   refine xO ?_ (h := by simp [eSlot]; exact .mk)
   iterate 2 refine xO ?_
   refine xO ?_ (h := by simp [eSlot, hi2]; exact .mk)
   refine xO ?_ (h := by simp [-List.getElem?_map, map_get hi2, ← ho, eOp]; exact .mk)
   refine xC (cdo) ?_ (he := by simp [row_rows, Function.comp_def, rRep, repOf]; exact .mk) (hi := by simp [oStt, oEfo, oAbs]; exact .mk)
   iterate 6 refine xO ?_
   iterate 2 (refine xO ?_ (h := by simp [splice]; exact .mk))
   refine xO ?_
   refine xE [1,2,5,8,9,10,11,12] ?_
   refine ⟨_, rfl, ⟨?_, ?_, ?_, ?_, ?_, trivial⟩, ?_⟩
   · skip
     refine xO ?_ (h := by simp [eSlot]; exact .mk)
     iterate 2 refine xO ?_
     refine xO ?_ (h := by simp [eSlot, hi2]; exact .mk)
     refine xO ?_ (h := by simp [-List.getElem?_map, map_get hi2, ← ho, eOp]; exact .mk)
     refine xC (cdo) ?_ (he := by simp [row_rows, Function.comp_def, rRep, repOf]; exact .mk) (hi := by simp [oStt, oEfo, oAbs]; exact .mk)
     iterate 6 refine xO ?_
     iterate 2 (refine xO ?_ (h := by simp [splice]; exact .mk))
     refine xO ?_
     refine xE [1,2,5,8,9,10,11,12] ?_
     exact Weak.perm [0,1,2,3,4,5,6,7,8,9,10,11,13,12] [0,1,2,3,4,5,6,7,8,9,10,11,13,12] rfl rfl rfl
   · skip
     refine xO ?_ (h := by simp [eSlot]; exact .mk)
     iterate 2 refine xO ?_
     refine xO ?_ (h := by simp [eSlot, hi2]; exact .mk)
     refine xO ?_ (h := by simp [-List.getElem?_map, map_get hi2, ← ho, eOp]; exact .mk)
     refine xO ?_
     refine xC (cdo) ?_ (he := by simp [row_rows, Function.comp_def, rRep, repOf]; exact .mk) (hi := by simp [oStt, oEfo, oAbs]; exact .mk)
     iterate 5 refine xO ?_
     iterate 2 (refine xO ?_ (h := by simp [splice]; exact .mk))
     refine xO ?_
     refine xE [1,2,5,8,9,10,11,12] ?_
     exact Weak.perm [0,1,2,3,4,5,6,7,12,8,9,10,11,13] [0,1,2,3,4,5,6,7,9,10,11,12,8,13] rfl rfl rfl
   · skip
     refine xO ?_ (h := by simp [eSlot]; exact .mk)
     iterate 2 refine xO ?_
     refine xO ?_ (h := by simp [eSlot, hi2]; exact .mk)
     refine xO ?_ (h := by simp [-List.getElem?_map, map_get hi2, ← ho, eOp]; exact .mk)
     iterate 2 refine xO ?_
     refine xC (cdo) ?_ (he := by simp [row_rows, Function.comp_def, rRep, repOf]; exact .mk) (hi := by simp [oStt, oEfo, oAbs]; exact .mk)
     iterate 4 refine xO ?_
     iterate 2 (refine xO ?_ (h := by simp [splice]; exact .mk))
     refine xO ?_
     refine xE [1,2,5,8,9,10,11,12] ?_
     exact Weak.perm [0,1,2,3,4,5,6,7,12,13,8,9,10,11] [0,1,2,3,4,5,6,7,10,11,12,13,8,9] rfl rfl rfl
   · skip
     refine xO ?_ (h := by simp [eSlot]; exact .mk)
     iterate 2 refine xO ?_
     refine xO ?_ (h := by simp [eSlot, hi2]; exact .mk)
     refine xO ?_ (h := by simp [-List.getElem?_map, map_get hi2, ← ho, eOp]; exact .mk)
     refine xO ?_
     refine xC (cdo) ?_ (he := by simp [row_rows, Function.comp_def, rRep, repOf]; exact .mk) (hi := by simp [oStt, oEfo, oAbs]; exact .mk)
     iterate 5 refine xO ?_
     iterate 2 (refine xO ?_ (h := by simp [splice]; exact .mk))
     refine xO ?_
     refine xE [1,2,5,8,9,10,11,12] ?_
     exact Weak.perm [0,1,2,3,4,5,6,7,13,8,9,10,11,12] [0,1,2,3,4,5,6,7,9,10,11,12,13,8] rfl rfl rfl
   · skip
     refine xO ?_ (h := by simp [eSlot]; exact .mk)
     iterate 2 refine xO ?_
     refine xO ?_ (h := by simp [eSlot, hi2]; exact .mk)
     refine xO ?_ (h := by simp [-List.getElem?_map, map_get hi2, ← ho, eOp]; exact .mk)
     iterate 2 refine xO ?_
     refine xC (cdo) ?_ (he := by simp [row_rows, Function.comp_def, rRep, repOf]; exact .mk) (hi := by simp [oStt, oEfo, oAbs]; exact .mk)
     iterate 4 refine xO ?_
     iterate 2 (refine xO ?_ (h := by simp [splice]; exact .mk))
     refine xO ?_
     refine xE [1,2,5,8,9,10,11,12] ?_
     exact Weak.perm [0,1,2,3,4,5,6,7,13,12,8,9,10,11] [0,1,2,3,4,5,6,7,10,11,12,13,9,8] rfl rfl rfl
   rintro -
   refine W_seq ?_
   refine W_regDSK (hard := []) [5,10,11] (keepOk_lt (by decide)) (by kernel_rfl) 4 [0,1,2,3,4,5,6,7,8,9,10,11,12,13,14] [[0,1,2,3,4,5,6,7,8,9,11,10,12,13,14], [0,1,2,3,4,10,5,6,7,8,9,11,12,13,14], [0,1,2,3,4,10,11,5,6,7,8,9,12,13,14], [0,1,2,3,4,11,5,6,7,8,9,10,12,13,14], [0,1,2,3,4,11,10,5,6,7,8,9,12,13,14]] (by decide +kernel) ?_
   refine xO ?_ (h := by simp [eSlot]; exact .mk)
   iterate 2 refine xO ?_
   refine xO ?_ (h := by simp [eSlot, hi2]; exact .mk)
   refine xO ?_ (h := by simp [-List.getElem?_map, map_get hi2, ← ho, eOp]; exact .mk)
   refine xC (c74) ?_ (he := by simp [row_rows, Function.comp_def, rRep, repOf]; exact .mk) (hi := by simp [oStt, oEfo, oAbs]; exact .mk)
   iterate 6 refine xO ?_
   iterate 2 (refine xO ?_ (h := by simp [splice]; exact .mk))
   refine xO ?_
   refine xE [1,2,5,8,9,10,11,12,13,14,15] ?_
   refine ⟨_, rfl, ⟨?_, ?_, ?_, ?_, ?_, trivial⟩, ?_⟩
   · skip
     refine xO ?_ (h := by simp [eSlot]; exact .mk)
     iterate 2 refine xO ?_
     refine xO ?_ (h := by simp [eSlot, hi2]; exact .mk)
     refine xO ?_ (h := by simp [-List.getElem?_map, map_get hi2, ← ho, eOp]; exact .mk)
     refine xC (c74) ?_ (he := by simp [row_rows, Function.comp_def, rRep, repOf]; exact .mk) (hi := by simp [oStt, oEfo, oAbs]; exact .mk)
     iterate 6 refine xO ?_
     iterate 2 (refine xO ?_ (h := by simp [splice]; exact .mk))
     refine xO ?_
     refine xE [1,2,5,8,9,10,11,12,13,14,15] ?_
     exact Weak.perm [0,1,2,3,4,5,6,7,8,9,10,11,12,13,14,15,16,17,19,18] [0,1,2,3,4,5,6,7,8,9,10,11,12,13,14,15,16,17,19,18] rfl rfl rfl
   · skip
     refine xO ?_ (h := by simp [eSlot]; exact .mk)
     iterate 2 refine xO ?_
     refine xO ?_ (h := by simp [eSlot, hi2]; exact .mk)
     refine xO ?_ (h := by simp [-List.getElem?_map, map_get hi2, ← ho, eOp]; exact .mk)
     refine xO ?_
     refine xC (c74) ?_ (he := by simp [row_rows, Function.comp_def, rRep, repOf]; exact .mk) (hi := by simp [oStt, oEfo, oAbs]; exact .mk)
     iterate 5 refine xO ?_
     iterate 2 (refine xO ?_ (h := by simp [splice]; exact .mk))
     refine xO ?_
     refine xE [1,2,5,8,9,10,11,12,13,14,15] ?_
     exact Weak.perm [0,1,2,3,4,5,6,7,8,9,10,11,12,13,18,14,15,16,17,19] [0,1,2,3,4,5,6,7,8,9,10,11,12,13,15,16,17,18,14,19] rfl rfl rfl
   · skip
     refine xO ?_ (h := by simp [eSlot]; exact .mk)
     iterate 2 refine xO ?_
     refine xO ?_ (h := by simp [eSlot, hi2]; exact .mk)
     refine xO ?_ (h := by simp [-List.getElem?_map, map_get hi2, ← ho, eOp]; exact .mk)
     iterate 2 refine xO ?_
     refine xC (c74) ?_ (he := by simp [row_rows, Function.comp_def, rRep, repOf]; exact .mk) (hi := by simp [oStt, oEfo, oAbs]; exact .mk)
     iterate 4 refine xO ?_
     iterate 2 (refine xO ?_ (h := by simp [splice]; exact .mk))
     refine xO ?_
     refine xE [1,2,5,8,9,10,11,12,13,14,15] ?_
     exact Weak.perm [0,1,2,3,4,5,6,7,8,9,10,11,12,13,18,19,14,15,16,17] [0,1,2,3,4,5,6,7,8,9,10,11,12,13,16,17,18,19,14,15] rfl rfl rfl
   · skip
     refine xO ?_ (h := by simp [eSlot]; exact .mk)
     iterate 2 refine xO ?_
     refine xO ?_ (h := by simp [eSlot, hi2]; exact .mk)
     refine xO ?_ (h := by simp [-List.getElem?_map, map_get hi2, ← ho, eOp]; exact .mk)
     refine xO ?_
     refine xC (c74) ?_ (he := by simp [row_rows, Function.comp_def, rRep, repOf]; exact .mk) (hi := by simp [oStt, oEfo, oAbs]; exact .mk)
     iterate 5 refine xO ?_
     iterate 2 (refine xO ?_ (h := by simp [splice]; exact .mk))
     refine xO ?_
     refine xE [1,2,5,8,9,10,11,12,13,14,15] ?_
     exact Weak.perm [0,1,2,3,4,5,6,7,8,9,10,11,12,13,19,14,15,16,17,18] [0,1,2,3,4,5,6,7,8,9,10,11,12,13,15,16,17,18,19,14] rfl rfl rfl
   · skip
     refine xO ?_ (h := by simp [eSlot]; exact .mk)
     iterate 2 refine xO ?_
     refine xO ?_ (h := by simp [eSlot, hi2]; exact .mk)
     refine xO ?_ (h := by simp [-List.getElem?_map, map_get hi2, ← ho, eOp]; exact .mk)
     iterate 2 refine xO ?_
     refine xC (c74) ?_ (he := by simp [row_rows, Function.comp_def, rRep, repOf]; exact .mk) (hi := by simp [oStt, oEfo, oAbs]; exact .mk)
     iterate 4 refine xO ?_
     iterate 2 (refine xO ?_ (h := by simp [splice]; exact .mk))
     refine xO ?_
     refine xE [1,2,5,8,9,10,11,12,13,14,15] ?_
     exact Weak.perm [0,1,2,3,4,5,6,7,8,9,10,11,12,13,19,18,14,15,16,17] [0,1,2,3,4,5,6,7,8,9,10,11,12,13,16,17,18,19,15,14] rfl rfl rfl
   rintro -
   refine W_seq ?_
   refine xU ?_
   iterate 3 refine xO ?_
   iterate 2 refine xI ?_
   refine xP ?_
   refine xB ?_
   iterate 2 refine xI ?_
   refine run_if rfl (by simp; exact .mk) rfl (by simp <;> first | omega | grind) (fun hb => by simp [eSlot, hi2]; exact .mk) ?_
   refine xI ?_
   refine run_if rfl (by simp; exact .mk) rfl (by simp <;> first | omega | grind) (fun hb => by simp [-List.getElem?_map, map_get hi2, ← ho, eOp]; exact .mk) ?_
   iterate 4 refine xI ?_
   refine run_if rfl (by simp; exact .mk) rfl (by simp <;> first | omega | grind) (fun hb => by simp [eSlot, hi2]; exact .mk) ?_
   refine xI ?_
   refine run_if rfl (by simp; exact .mk) rfl (by simp <;> first | omega | grind) (fun hb => by simp [-List.getElem?_map, map_get hi2, ← ho, eOp]; exact .mk) ?_
   refine xI ?_
   iterate 2 refine xP ?_
   refine xE [1,2,5,8,9,10,11,12,13,14,15,82] fun _ => ?_
   refine W_cond rfl ?_ ?_
   · intro h82
     refine W_exit ?_
     rintro -
     refine W_reg rfl ?_
     iterate 3 refine xO ?_
     refine xE [1,2,5,8,9] ?_
     refine rounds_kill [1,2,5,8,9] ?_
     first
     | (refine rounds_drop 5 [1,2,5,8,9] (by decide) (by rfl) (by rfl) ?_
        refine rounds_next (m' := l.length - (i+1)) (by omega) ⟨i+1, y, rfl, by omega, hyo, hyR, ?_, .inl ⟨rfl, by subst hQ; rfl⟩⟩
        rw [wrap64 (by omega) (by omega)]; rfl)
     | (refine rounds_drop 8 [1,2,5,8,9] (by decide) (by rfl) (by rfl) ?_
        refine rounds_next (m' := l.length - (i+1)) (by omega) ⟨i+1, y, rfl, by omega, hyo, hyR, ?_, .inr (by subst hQ; rfl)⟩
        rw [wrap64 (by omega) (by omega)]; rfl)
     | (refine rounds_kills [1,2,5,8,9] rfl ?_
        refine rounds_swap 1 11 3 (by decide) (by simp) (by decide) rfl rfl ?_
        refine rounds_drop 8 [1,2,5,8,9] (by decide) (by rfl) (by rfl) ?_
        refine rounds_next (m' := l.length - (i+1)) (by omega) ⟨i+1, E.s, rfl, by omega, hEo, hA.right, ?_, .inr (by rw [hA.of]; rfl)⟩
        rw [wrap64 (by omega) (by omega)]; rfl)
     | (refine rounds_kills [1,2,5,8,9] rfl ?_
        refine rounds_swap 5 8 3 (by decide) (by simp) (by decide) rfl rfl ?_
        refine rounds_swap 1 14 3 (by decide) (by simp) (by decide) rfl rfl ?_
        refine rounds_drop 8 [1,2,5,8,9] (by decide) (by rfl) (by rfl) ?_
        refine rounds_next (m' := l.length - (i+1)) (by omega) ⟨i+1, E.s, rfl, by omega, hEo, hA.right, ?_, .inr (by rw [hA.of]; rfl)⟩
        rw [wrap64 (by omega) (by omega)]; rfl)
   intro h82
   refine W_skip ?_
   rintro -
   refine W_seq ?_
   refine xU ?_
   iterate 3 refine xO ?_
   refine xE [1,2,5,8,9,10,11,12,13,14,85] fun _ => ?_
   refine W_cond rfl ?_ ?_
   · intro h85
     exfalso
     have q1 : ¬ E.e = R.e := by simpa using h85
     simp at h82
     rcases hM with hM | hM | hM
     · have := h82 hM.1 hM.2.1; omega
     · exact q1 hM.1
     omega
   intro h85
   refine W_skip ?_
   rintro -
   refine W_seq ?_
   refine xU ?_
   iterate 2 refine xO ?_
   refine xE [1,2,5,8,9,10,11,13,14,87] fun _ => ?_
   refine W_cond rfl ?_ ?_
   · intro h87
     refine W_exit ?_
     rintro -
     refine W_reg rfl ?_
     iterate 3 refine xO ?_
     refine xE [1,2,5,8,9] ?_
     refine rounds_kill [1,2,5,8,9] ?_
     first
     | (refine rounds_drop 5 [1,2,5,8,9] (by decide) (by rfl) (by rfl) ?_
        refine rounds_next (m' := l.length - (i+1)) (by omega) ⟨i+1, y, rfl, by omega, hyo, hyR, ?_, .inl ⟨rfl, by subst hQ; rfl⟩⟩
        rw [wrap64 (by omega) (by omega)]; rfl)
     | (refine rounds_drop 8 [1,2,5,8,9] (by decide) (by rfl) (by rfl) ?_
        refine rounds_next (m' := l.length - (i+1)) (by omega) ⟨i+1, y, rfl, by omega, hyo, hyR, ?_, .inr (by subst hQ; rfl)⟩
        rw [wrap64 (by omega) (by omega)]; rfl)
     | (refine rounds_kills [1,2,5,8,9] rfl ?_
        refine rounds_swap 1 11 3 (by decide) (by simp) (by decide) rfl rfl ?_
        refine rounds_drop 8 [1,2,5,8,9] (by decide) (by rfl) (by rfl) ?_
        refine rounds_next (m' := l.length - (i+1)) (by omega) ⟨i+1, E.s, rfl, by omega, hEo, hA.right, ?_, .inr (by rw [hA.of]; rfl)⟩
        rw [wrap64 (by omega) (by omega)]; rfl)
     | (refine rounds_kills [1,2,5,8,9] rfl ?_
        refine rounds_swap 5 8 3 (by decide) (by simp) (by decide) rfl rfl ?_
        refine rounds_swap 1 14 3 (by decide) (by simp) (by decide) rfl rfl ?_
        refine rounds_drop 8 [1,2,5,8,9] (by decide) (by rfl) (by rfl) ?_
        refine rounds_next (m' := l.length - (i+1)) (by omega) ⟨i+1, E.s, rfl, by omega, hEo, hA.right, ?_, .inr (by rw [hA.of]; rfl)⟩
        rw [wrap64 (by omega) (by omega)]; rfl)
   intro h87
   have he : E.e = 0 := by simpa using h87
   have hM3 := (hM.resolve_left fun q => by omega).resolve_left fun q => by omega
   obtain ⟨_, _, hA, hrep⟩ := hM3
   have hRo : R.a.Ok := by rw [← hA.of]; exact ofS_ok hEo
   have c32E := ct32 g E.s hEo
   rw [hA.right] at c32E
   have c60E := ct60 g E.s hEo
   rw [hA.of] at c60E
   have c61 := ct61 g R.a R.a hRo
   rw [sameAbs_refl] at c61
   have c75 := ct75 g (repOf E) ⟨R.ix, R.gen, R.b⟩
   rw [show sameRep (repOf E) ⟨R.ix, R.gen, R.b⟩ = true from by rw [hrep]; exact sameRep_refl _] at c75
   have m1 := hA.mode
   have m2 := hA.base
   refine W_skip ?_
   rintro -
   refine W_seq ?_
   refine W_seq ?_
   refine W_regD (by kernel_rfl) [] 24 [0,1,2,3,4,6,5,7,8,9,10,11,12,13,14,15,16,17,18,19,20,21,22,23,24,25,26,27,28,29] (by decide +kernel) ?_
   refine xO ?_ (h := by simp [eSlot]; exact .mk)
   refine xC (c32E) ?_ (he := by simp [row_rows, Function.comp_def, rRep, repOf]; exact .mk) (hi := by simp [oStt, oEfo, oAbs]; exact .mk)
   iterate 2 refine xO ?_
   iterate 2 (refine run_if rfl (by simp; exact .mk) rfl (by simp <;> first | omega | grind) (fun hb => by simp [eSlot]; exact .mk) ?_)
   refine run_call rfl (by simp; exact .mk) rfl rfl (by simp) (by simp; exact .mk) (by simp [row_rows, Function.comp_def, rRep, repOf]; exact .mk) (fun hb => c60E) (by simp) (by simp [oStt, oEfo, oAbs]; exact .mk) (by simp) ?_
   refine run_call rfl (by simp; exact .mk) rfl rfl (by simp) (by simp; exact .mk) (by simp [row_rows, Function.comp_def, rRep, repOf]; exact .mk) (fun hb => c61) (by simp) (by simp [oStt, oEfo, oAbs]; exact .mk) (by simp) ?_
   refine xI ?_
   refine xP ?_
   refine xB ?_
   iterate 2 (refine run_if rfl (by simp; exact .mk) rfl (by simp <;> first | omega | grind) (fun hb => by simp [eSlot]; exact .mk) ?_)
   refine run_call rfl (by simp; exact .mk) rfl rfl (by simp) (by simp; exact .mk) (by simp [row_rows, Function.comp_def, rRep, repOf]; exact .mk) (fun hb => c75) (by simp) (by simp [oStt, oEfo, oAbs]; exact .mk) (by simp) ?_
   refine xI ?_
   refine xP ?_
   refine xB ?_
   refine xI ?_
   refine run_if rfl (by simp; exact .mk) rfl (by simp <;> first | omega | grind) (fun hb => by simp [eSlot]; exact .mk) ?_
   refine xI ?_
   refine run_if rfl (by simp; exact .mk) rfl (by simp <;> first | omega | grind) (fun hb => by simp [eSlot]; exact .mk) ?_
   refine run_if rfl (by simp; exact .mk) rfl (by simp <;> first | omega | grind) (fun hb => by simp [m1]; exact .mk) ?_
   refine xP ?_
   refine xB ?_
   refine xI ?_
   refine run_if rfl (by simp; exact .mk) rfl (by simp <;> first | omega | grind) (fun hb => by simp [eSlot]; exact .mk) ?_
   refine xI ?_
   refine run_if rfl (by simp; exact .mk) rfl (by simp <;> first | omega | grind) (fun hb => by simp [eSlot]; exact .mk) ?_
   refine run_if rfl (by simp; exact .mk) rfl (by simp <;> first | omega | grind) (fun hb => by simp [m2]; exact .mk) ?_
   refine xP ?_
   refine xE [1,2,5,8,9,10,13,117] fun _ => ?_
   refine W_cond rfl ?_ ?_
   · intro h117
     simp at h117
   intro h117
   refine W_skip ?_
   refine xT ?_
   refine xO ?_ (h := by simp [eSlot]; exact .mk)
   refine xO ?_ (h := by simp [splice]; exact .mk)
   refine xE [1,2,5,8,9,13] fun _ => ?_
   refine W_reg rfl ?_
   refine xO ?_ (h := by simp [eSlot]; exact .mk)
   refine xO ?_ (h := by simp [splice]; exact .mk)
   refine xE [1,2,5,8,9] fun _ => ?_
   refine W_reg rfl ?_
   iterate 3 refine xO ?_
   refine xE [1,2,5,8,9] ?_
   refine rounds_kill [1,2,5,8,9] ?_
   first
   | (refine rounds_drop 5 [1,2,5,8,9] (by decide) (by rfl) (by rfl) ?_
      refine rounds_next (m' := l.length - (i+1)) (by omega) ⟨i+1, y, rfl, by omega, hyo, hyR, ?_, .inl ⟨rfl, by subst hQ; rfl⟩⟩
      rw [wrap64 (by omega) (by omega)]; rfl)
   | (refine rounds_drop 8 [1,2,5,8,9] (by decide) (by rfl) (by rfl) ?_
      refine rounds_next (m' := l.length - (i+1)) (by omega) ⟨i+1, y, rfl, by omega, hyo, hyR, ?_, .inr (by subst hQ; rfl)⟩
      rw [wrap64 (by omega) (by omega)]; rfl)
   | (refine rounds_kills [1,2,5,8,9] rfl ?_
      refine rounds_swap 1 11 3 (by decide) (by simp) (by decide) rfl rfl ?_
      refine rounds_drop 8 [1,2,5,8,9] (by decide) (by rfl) (by rfl) ?_
      refine rounds_next (m' := l.length - (i+1)) (by omega) ⟨i+1, E.s, rfl, by omega, hEo, hA.right, ?_, .inr (by rw [hA.of]; rfl)⟩
      rw [wrap64 (by omega) (by omega)]; rfl)
   | (refine rounds_kills [1,2,5,8,9] rfl ?_
      refine rounds_swap 5 8 3 (by decide) (by simp) (by decide) rfl rfl ?_
      refine rounds_swap 1 14 3 (by decide) (by simp) (by decide) rfl rfl ?_
      refine rounds_drop 8 [1,2,5,8,9] (by decide) (by rfl) (by rfl) ?_
      refine rounds_next (m' := l.length - (i+1)) (by omega) ⟨i+1, E.s, rfl, by omega, hEo, hA.right, ?_, .inr (by rw [hA.of]; rfl)⟩
      rw [wrap64 (by omega) (by omega)]; rfl)
 intro h38
 refine W_exit ?_
 refine xT ?_
 iterate 2 refine xO ?_
 refine xE [4] fun _ => ?_
 refine W_ret ?_
 refine xR (by simp [Tryz.f16]; exact .mk) ?_
 simp [Tryz.f16]

end Go.Proofs

namespace Go.Awp
open Go.RowKit
theorem row_slice {w : World} {S N : Nat → Prop} {m : M} {k : Nat} {xs : List D} {v : Value} {F : List Nat} (h : RelD w S N (.row m k xs) v F) : ∃ a c, v = .slice a xs.length c := by
 cases h with
 | nil => exact ⟨_, _, rfl⟩
 | empty => exact ⟨_, _, rfl⟩
 | old => exact ⟨_, _, rfl⟩
 | own => exact ⟨_, _, rfl⟩
theorem Opens.bound {P : Program} {t e : TypeId} {α : Type} {k : Nat} {f : α → D} (ht : P.underlying t = some (.slice e)) (h : Opens P t fun l : List α => [rows k f l]) : Opens P t fun l : {l : List α // l.length ≤ 9223372036854775807} => [rows k f l.1] := .mk fun en W sp hd fuel cs x hx => by
 obtain ⟨l, hl⟩ := h.get en W sp hd fuel cs x hx
 have key : ∃ v, cs = [v] ∧ ∃ a c, v = .slice a l.length c := by
  have hl2 := hl
  generalize hF : ([] : List Nat) = F at hl2
  cases hl2 with
  | @cons _ v F1 _ vs F2 h1 h2 =>
   cases h2
   obtain ⟨a, c, e1⟩ := row_slice h1
   exact ⟨v, rfl, a, c, by rw [e1, List.length_map]⟩
 obtain ⟨v, rfl, a, c, rfl⟩ := key
 refine ⟨⟨l, ?_⟩, hl⟩
 rcases DataW.trod_slice ht hx with ⟨h1, _⟩ | ⟨a, len, cap, elems, rest, n, _, h1, _, _, hlc, hcm, _⟩
 · simp only [List.cons.injEq, Value.slice.injEq, and_true] at h1
   omega
 · simp only [List.cons.injEq, Value.slice.injEq, and_true] at h1
   have : maxLen = 9223372036854775807 := rfl
   omega
end Go.Awp
namespace Go.Proofs
open Go.Awp
theorem op84 : Opens Tryz.prog 84 fun l : {l : List Op // l.length ≤ 9223372036854775807} => [rows 7 eOp l.1] := Opens.bound Tryz.underlying84 (opens_slice (k := 7) (f := eOp) Tryz.underlying84 (by kernel_rfl) (by decide) op73 (fun _ => rfl) (fun _ => ⟨rfl, by simp [eOp, D.cells, D.isCell, rows]⟩))
end Go.Proofs
