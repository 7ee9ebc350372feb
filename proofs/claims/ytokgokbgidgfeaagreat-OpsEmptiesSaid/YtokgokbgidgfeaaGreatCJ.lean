/- Contracts of the program's functions, each against a plain function over lists and numbers (it answers what that one answers, for arguments of at most 2^40 elements where a lemma says so), and plain facts about these. -/
import Derived.Test.YtokgokbgidgfeaaGreatAwpD
import Derived.Test.YtokgokbgidgfeaaGreatCG
import Derived.Test.YtokgokbgidgfeaaGreatCI
import Derived.Test.YtokgokbgidgfeaaGreatCE
set_option linter.all false
set_option maxHeartbeats 4000000
set_option maxRecDepth 4000
namespace Go.Proofs
open Go.Awp
theorem ct15 (g : Gl) (s : Stt) : CtAt Tryz.prog g 15 [eStt s] (.v (.bool true)) := by
 refine ctAt_of_W Tryz.func15 rfl rfl (Nat.le_of_ble_eq_true rfl) fun B S => ?_
 simp only [eStt, List.map, argD_agg, argD_v]
 refine xU ?_
 iterate 2 refine xO ?_
 refine xE [1] ?_
 refine xT ?_
 refine xC (ct62 g) ?_ (he := by simp [row_rows, Function.comp_def]; exact .mk) (hi := by simp [oStt, oEfo]; exact .mk)
 refine xO ?_
 refine xE [1,3] ?_
 refine xT ?_
 refine xO ?_ (h := by simp [eSlot]; exact .mk)
 refine xC (ct20 g s) ?_ (he := by simp [row_rows, Function.comp_def]; exact .mk) (hi := by simp [oStt, oEfo]; exact .mk)
 refine xO ?_
 refine xE [1,3,4] fun _ => ?_
 refine W_seq ?_
 refine xU ?_
 iterate 3 refine xO ?_
 refine run_if rfl (by simp; exact .mk) rfl (by simp <;> first | omega | grind) (fun hb => by simp [eSlot]; exact .mk) ?_
 refine run_call rfl (by simp; exact .mk) rfl rfl (by simp) (by simp; exact .mk) (by simp [row_rows, Function.comp_def]; exact .mk) (fun hb => ct32 g s (fewStt_ok (by first | exact hb | (simp at hb; first | exact hb | exact hb.1)))) (by simp) (by simp [oStt, oEfo]; exact .mk) (by simp) ?_
 refine xI ?_
 refine xP ?_
 refine xE [1,3,26] fun _ => ?_
 refine W_cond rfl ?_ ?_
 · intro h26
   refine xU ?_
   iterate 2 refine xO ?_
   refine xE [2] fun _ => ?_
   refine W_ret ?_
   refine xR (by simp [Tryz.f15]; exact .mk) ?_
   first | (simp [Tryz.f15]; done) | (simp [Tryz.f15, hAB]; grind) | (simp [Tryz.f15]; grind)
 intro h26
 have hF : fewStt s = true ∧ sttS s = true := by simp at h26; grind
 have hs := fewStt_ok hF.1
 have hR := hF.2
 have hs1 := hs.h1
 obtain ⟨N, hNN⟩ : ∃ N, N = s.slots.length := ⟨_, rfl⟩
 refine W_skip ?_
 rintro -
 refine W_seq ?_
 refine xU ?_
 refine xO ?_
 refine xE [1,3,5] fun _ => ?_
 refine W_block ?_
 refine W_rounds (fun m σ o => ∃ (i : Nat) (y : Stt), m = N - i ∧ i ≤ N ∧ EmI s i y ∧ σ = slots [(1, .ptr 0 0 0), (3, .d (.v (.bool true))), (5, .d (vI i))] ∧ ((y = s ∧ o = [.var 28 [.d (vI s.sh.pages), .d (vI s.sh.slots), .d (vI s.sh.roots), .d (vI s.sh.room), .d (vI s.mode), .d (vI s.base), .d (rSl s.slots), .d (rR s.roots), .d (rBB s.data)]]) ∨ o = [.var 28 [.d (vI y.sh.pages), .d (vI y.sh.slots), .d (vI y.sh.roots), .d (vI y.sh.room), .d (vI y.mode), .d (vI y.base), .hdr 1 0 y.slots.length, .hdr 2 0 y.roots.length, .hdr 3 0 y.data.length], .row 5 (y.slots.map eSlot), .row 3 (y.roots.map eRoot), .row 1 (y.data.map oB)])) N .refl ⟨0, s, by simp, by simp, ⟨hR, hs, rfl, fun j hj => absurd hj (Nat.not_lt_zero _)⟩, rfl, .inl ⟨rfl, rfl⟩⟩ ?_
 rintro m σ o ⟨i, y, rfl, hi, hI, rfl, ⟨rfl, rfl⟩ | rfl⟩ _
 · skip
   skip
   refine W_seq ?_
   refine xU ?_
   iterate 2 refine xO ?_
   refine xO ?_ (h := by simp [eSlot]; exact .mk)
   iterate 2 refine xO ?_
   refine xE [1,3,5,32] fun _ => ?_
   refine W_cond rfl ?_ ?_
   · intro h32
     have hi2 : i < y.slots.length := by simpa using h32
     refine W_skip ?_
     rintro -
     refine W_seq ?_
     refine W_block ?_
     refine W_seq ?_
     refine xU ?_
     refine xO ?_
     refine xO ?_ (h := by simp [eSlot]; exact .mk)
     refine xO ?_
     refine xO ?_ (h := by simp [-List.getElem?_map, hi2, map_get hi2, eSlot]; exact .mk)
     refine xO ?_
     refine xO ?_ (h := by simp [eSlot]; exact .mk)
     refine xO ?_
     refine xE [1,3,5,41] fun _ => ?_
     refine W_cond rfl ?_ ?_
     · intro h41
       have hl : (nth y.slots i).live = false := by simpa using h41
       refine W_exit ?_
       rintro -
       refine W_reg rfl ?_
       iterate 3 refine xO ?_
       refine xE [1,3,5] ?_
       refine rounds_kill [1,3,5] ?_
       first
       | exact rounds_next (m' := N - (i+1)) (by have := hI.len; omega) ⟨i+1, y, rfl, by have := hI.len; omega, emI_skip hI hl, by rw [wrap64 (by omega) (by omega)]; rfl, by first | exact .inl ⟨rfl, rfl⟩ | exact .inr rfl⟩
       | (refine rounds_drop 4 [1,3,5] (by decide) (by rfl) (by rfl) ?_
          exact rounds_next (m' := N - (i+1)) (by have := hI.len; omega) ⟨i+1, Z, rfl, by have := hI.len; omega, hIn, by rw [wrap64 (by omega) (by omega)]; rfl, .inr rfl⟩)
       | (refine rounds_kills [1,3,5] rfl ?_
          refine rounds_swap 1 4 3 (by decide) (by simp) (by decide) rfl rfl ?_
          refine rounds_drop 4 [1,3,5] (by decide) (by rfl) (by rfl) ?_
          exact rounds_next (m' := N - (i+1)) (by have := hI.len; omega) ⟨i+1, Z, rfl, by have := hI.len; omega, hIn, by rw [wrap64 (by omega) (by omega)]; rfl, .inr rfl⟩)
     intro h41
     have hl : (nth y.slots i).live = true := by simpa using h41
     have cdo := ct65 g y (opF i (nth y.slots i).gen) hI.ok (by show (0 : Nat) ≤ 2^40; decide) (by show (0 : Nat) ≤ 2^40; decide)
     rw [doO_of hI.right, free_one hI.right hi2 hl] at cdo
     have hIn := emI_free hI hi2
     have hlv := live_take hi2 hl
     obtain ⟨Z, hZ⟩ : ∃ Z, Z = takeAt y i := ⟨_, rfl⟩
     rw [← hZ] at cdo hIn hlv
     have hle := liveIx_le (l := y.slots) (i := y.slots.length)
     have h40 := hI.ok.h1
     have w1 : IntKind.i64.wrap ((liveIx y.slots y.slots.length : Int) - 1) = (liveIx y.slots y.slots.length : Int) - 1 := wrap64 (by omega) (by omega)
     refine W_skip ?_
     rintro -
     refine W_seq ?_
     refine W_regDSK (hard := []) [10,15,16] (keepOk_lt (by decide)) (by kernel_rfl) 4 [0,1,2,3,4,5,6,7,8,9,10,11,12,13,14,15,16,17,18,19] [[0,1,2,3,4,5,6,7,8,9,10,11,12,13,14,16,15,17,18,19], [0,1,2,3,4,5,6,7,8,9,15,10,11,12,13,14,16,17,18,19], [0,1,2,3,4,5,6,7,8,9,15,16,10,11,12,13,14,17,18,19], [0,1,2,3,4,5,6,7,8,9,16,10,11,12,13,14,15,17,18,19], [0,1,2,3,4,5,6,7,8,9,16,15,10,11,12,13,14,17,18,19]] (by decide +kernel) ?_
     refine xO ?_ (h := by simp [eSlot]; exact .mk)
     iterate 2 refine xO ?_
     refine xO ?_ (h := by simp [eSlot]; exact .mk)
     refine xO ?_
     refine xO ?_ (h := by simp [-List.getElem?_map, hi2, map_get hi2, eSlot]; exact .mk)
     refine xO ?_
     refine xO ?_ (h := by simp [eSlot]; exact .mk)
     iterate 2 (refine xO ?_ (h := by simp [splice]; exact .mk))
     refine xC (cdo) ?_ (he := by simp [row_rows, Function.comp_def]; exact .mk) (hi := by simp [oStt, oEfo]; exact .mk)
     iterate 6 refine xO ?_
     iterate 2 (refine xO ?_ (h := by simp [splice]; exact .mk))
     refine xO ?_
     refine xE [1,3,5,6,8] ?_
     refine ⟨_, rfl, ⟨?_, ?_, ?_, ?_, ?_, trivial⟩, ?_⟩
     · skip
       refine xO ?_ (h := by simp [eSlot]; exact .mk)
       iterate 2 refine xO ?_
       refine xO ?_ (h := by simp [eSlot]; exact .mk)
       refine xO ?_
       refine xO ?_ (h := by simp [-List.getElem?_map, hi2, map_get hi2, eSlot]; exact .mk)
       refine xO ?_
       refine xO ?_ (h := by simp [eSlot]; exact .mk)
       iterate 2 (refine xO ?_ (h := by simp [splice]; exact .mk))
       refine xC (cdo) ?_ (he := by simp [row_rows, Function.comp_def]; exact .mk) (hi := by simp [oStt, oEfo]; exact .mk)
       iterate 6 refine xO ?_
       iterate 2 (refine xO ?_ (h := by simp [splice]; exact .mk))
       refine xO ?_
       refine xE [1,3,5,6,8] ?_
       exact Weak.perm [0,1,2,3,4,6,5] [0,1,2,3,4,6,5] rfl rfl rfl
     · skip
       refine xO ?_ (h := by simp [eSlot]; exact .mk)
       iterate 2 refine xO ?_
       refine xO ?_ (h := by simp [eSlot]; exact .mk)
       refine xO ?_
       refine xO ?_ (h := by simp [-List.getElem?_map, hi2, map_get hi2, eSlot]; exact .mk)
       refine xO ?_
       refine xO ?_ (h := by simp [eSlot]; exact .mk)
       iterate 2 (refine xO ?_ (h := by simp [splice]; exact .mk))
       refine xO ?_
       refine xC (cdo) ?_ (he := by simp [row_rows, Function.comp_def]; exact .mk) (hi := by simp [oStt, oEfo]; exact .mk)
       iterate 5 refine xO ?_
       iterate 2 (refine xO ?_ (h := by simp [splice]; exact .mk))
       refine xO ?_
       refine xE [1,3,5,6,8] ?_
       exact Weak.perm [0,5,1,2,3,4,6] [0,2,3,4,5,1,6] rfl rfl rfl
     · skip
       refine xO ?_ (h := by simp [eSlot]; exact .mk)
       iterate 2 refine xO ?_
       refine xO ?_ (h := by simp [eSlot]; exact .mk)
       refine xO ?_
       refine xO ?_ (h := by simp [-List.getElem?_map, hi2, map_get hi2, eSlot]; exact .mk)
       refine xO ?_
       refine xO ?_ (h := by simp [eSlot]; exact .mk)
       iterate 2 (refine xO ?_ (h := by simp [splice]; exact .mk))
       iterate 2 refine xO ?_
       refine xC (cdo) ?_ (he := by simp [row_rows, Function.comp_def]; exact .mk) (hi := by simp [oStt, oEfo]; exact .mk)
       iterate 4 refine xO ?_
       iterate 2 (refine xO ?_ (h := by simp [splice]; exact .mk))
       refine xO ?_
       refine xE [1,3,5,6,8] ?_
       exact Weak.perm [0,5,6,1,2,3,4] [0,3,4,5,6,1,2] rfl rfl rfl
     · skip
       refine xO ?_ (h := by simp [eSlot]; exact .mk)
       iterate 2 refine xO ?_
       refine xO ?_ (h := by simp [eSlot]; exact .mk)
       refine xO ?_
       refine xO ?_ (h := by simp [-List.getElem?_map, hi2, map_get hi2, eSlot]; exact .mk)
       refine xO ?_
       refine xO ?_ (h := by simp [eSlot]; exact .mk)
       iterate 2 (refine xO ?_ (h := by simp [splice]; exact .mk))
       refine xO ?_
       refine xC (cdo) ?_ (he := by simp [row_rows, Function.comp_def]; exact .mk) (hi := by simp [oStt, oEfo]; exact .mk)
       iterate 5 refine xO ?_
       iterate 2 (refine xO ?_ (h := by simp [splice]; exact .mk))
       refine xO ?_
       refine xE [1,3,5,6,8] ?_
       exact Weak.perm [0,6,1,2,3,4,5] [0,2,3,4,5,6,1] rfl rfl rfl
     · skip
       refine xO ?_ (h := by simp [eSlot]; exact .mk)
       iterate 2 refine xO ?_
       refine xO ?_ (h := by simp [eSlot]; exact .mk)
       refine xO ?_
       refine xO ?_ (h := by simp [-List.getElem?_map, hi2, map_get hi2, eSlot]; exact .mk)
       refine xO ?_
       refine xO ?_ (h := by simp [eSlot]; exact .mk)
       iterate 2 (refine xO ?_ (h := by simp [splice]; exact .mk))
       iterate 2 refine xO ?_
       refine xC (cdo) ?_ (he := by simp [row_rows, Function.comp_def]; exact .mk) (hi := by simp [oStt, oEfo]; exact .mk)
       iterate 4 refine xO ?_
       iterate 2 (refine xO ?_ (h := by simp [splice]; exact .mk))
       refine xO ?_
       refine xE [1,3,5,6,8] ?_
       exact Weak.perm [0,6,5,1,2,3,4] [0,3,4,5,6,2,1] rfl rfl rfl
     rintro -
     refine W_seq ?_
     refine W_seq ?_
     refine W_regD (by kernel_rfl) [] 4 [0,1,2,3,5,4,6,7,8,9] (by decide +kernel) ?_
     iterate 3 refine xO ?_
     iterate 2 (refine run_if rfl (by simp; exact .mk) rfl (by simp <;> first | omega | grind) (fun hb => by simp [eSlot]; exact .mk) ?_)
     refine run_call rfl (by simp; exact .mk) rfl rfl (by simp) (by simp; exact .mk) (by simp [row_rows, Function.comp_def]; exact .mk) (fun hb => ct35 g Z hIn.ok) (by simp) (by simp [oStt, oEfo]; exact .mk) (by simp) ?_
     refine run_call rfl (by simp; exact .mk) rfl rfl (by simp) (by simp; exact .mk) (by simp [row_rows, Function.comp_def]; exact .mk) (fun hb => ct35 g y hI.ok) (by simp) (by simp [oStt, oEfo]; exact .mk) (by simp) ?_
     refine run_if rfl (by simp; exact .mk) rfl (by simp <;> first | omega | grind) (fun hb => by simp [w1]; exact .mk) ?_
     refine run_if rfl (by simp; exact .mk) rfl (by simp <;> first | omega | grind) (fun hb => by simp [hlv]; exact .mk) ?_
     refine xP ?_
     refine xE [1,3,5,6,66] fun _ => ?_
     refine W_cond rfl ?_ ?_
     · intro h66
       simp [hlv] at h66
     intro h66
     refine W_skip ?_
     rintro -
     refine W_reg rfl ?_
     refine xO ?_ (h := by simp [eSlot]; exact .mk)
     refine xO ?_ (h := by simp [splice]; exact .mk)
     refine xE [1,3,5] fun _ => ?_
     refine W_reg rfl ?_
     iterate 3 refine xO ?_
     refine xE [1,3,5] ?_
     refine rounds_kill [1,3,5] ?_
     first
     | exact rounds_next (m' := N - (i+1)) (by have := hI.len; omega) ⟨i+1, y, rfl, by have := hI.len; omega, emI_skip hI hl, by rw [wrap64 (by omega) (by omega)]; rfl, by first | exact .inl ⟨rfl, rfl⟩ | exact .inr rfl⟩
     | (refine rounds_drop 4 [1,3,5] (by decide) (by rfl) (by rfl) ?_
        exact rounds_next (m' := N - (i+1)) (by have := hI.len; omega) ⟨i+1, Z, rfl, by have := hI.len; omega, hIn, by rw [wrap64 (by omega) (by omega)]; rfl, .inr rfl⟩)
     | (refine rounds_kills [1,3,5] rfl ?_
        refine rounds_swap 1 4 3 (by decide) (by simp) (by decide) rfl rfl ?_
        refine rounds_drop 4 [1,3,5] (by decide) (by rfl) (by rfl) ?_
        exact rounds_next (m' := N - (i+1)) (by have := hI.len; omega) ⟨i+1, Z, rfl, by have := hI.len; omega, hIn, by rw [wrap64 (by omega) (by omega)]; rfl, .inr rfl⟩)
   intro h32
   obtain rfl : i = y.slots.length := by simp at h32; have := hI.len; omega
   obtain ⟨hN, hz⟩ := emI_end (y := y) hI
   have c35y := ct35 g y hI.ok
   rw [hz] at c35y
   have c32y := ct32 g y hI.ok
   rw [hI.right] at c32y
   refine W_exit ?_
   rintro -
   refine W_seq ?_
   refine xU ?_
   refine xO ?_ (h := by simp [eSlot]; exact .mk)
   refine xC (c35y) ?_ (he := by simp [row_rows, Function.comp_def]; exact .mk) (hi := by simp [oStt, oEfo]; exact .mk)
   iterate 2 refine xO ?_
   refine run_if rfl (by simp; exact .mk) rfl (by simp <;> first | omega | grind) (fun hb => by simp [eSlot]; exact .mk) ?_
   refine run_call rfl (by simp; exact .mk) rfl rfl (by simp) (by simp; exact .mk) (by simp [row_rows, Function.comp_def]; exact .mk) (fun hb => c32y) (by simp) (by simp [oStt, oEfo]; exact .mk) (by simp) ?_
   refine xI ?_
   refine xP ?_
   refine xE [1,3,75] fun _ => ?_
   refine W_cond rfl ?_ ?_
   · intro h75
     simp at h75
   intro h75
   refine W_skip ?_
   refine xT ?_
   refine xO ?_ (h := by simp [eSlot]; exact .mk)
   refine xC (ct24 g y hI.ok) ?_ (he := by simp [row_rows, Function.comp_def]; exact .mk) (hi := by simp [oStt, oEfo]; exact .mk)
   refine xO ?_
   refine xO ?_ (h := by simp [splice]; exact .mk)
   refine xE [1,3,9] fun _ => ?_
   refine W_seq ?_
   refine xU ?_
   refine xO ?_
   refine xE [1,3,9,10] fun _ => ?_
   refine W_block ?_
   refine W_rounds (fun m σ o => ∃ i : Nat, m = y.slots.length - i ∧ i ≤ y.slots.length ∧ σ = slots [(1, .ptr 0 0 0), (3, .d (.v (.bool true))), (9, .ptr 4 0 0), (10, .d (vI i))] ∧ o = [.var 28 [.d (vI y.sh.pages), .d (vI y.sh.slots), .d (vI y.sh.roots), .d (vI y.sh.room), .d (vI y.mode), .d (vI y.base), .d (rSl y.slots), .d (rR y.roots), .d (rBB y.data)], .row 5 ((wiped y i).slots.map eSlot), .row 3 (y.roots.map eRoot), .row 1 (y.data.map oB), .var 28 [.d (vI y.sh.pages), .d (vI y.sh.slots), .d (vI y.sh.roots), .d (vI y.sh.room), .d (vI y.mode), .d (vI y.base), .hdr 1 0 (wiped y i).slots.length, .hdr 2 0 y.roots.length, .hdr 3 0 y.data.length]]) y.slots.length .refl ⟨0, by simp, by simp, rfl, by rw [wiped_zero]⟩ ?_
   rintro m σ o ⟨i, rfl, hi5, rfl, rfl⟩ _
   have hwl := wiped_len (y := y) hi5
   refine W_seq ?_
   refine xU ?_
   iterate 2 refine xO ?_
   refine xO ?_ (h := by simp [eSlot]; exact .mk)
   iterate 2 refine xO ?_
   refine xE [1,3,9,10,82] fun _ => ?_
   refine W_cond rfl ?_ ?_
   · intro h82
     have hi4 : i < y.slots.length := by rw [hwl] at h82; simpa using h82
     have hi6 : i < (wiped y i).slots.length := by omega
     refine W_skip ?_
     rintro -
     refine W_seq ?_
     refine W_block ?_
     refine W_reg rfl ?_
     refine xO ?_
     refine xO ?_ (h := by simp [eSlot]; exact .mk)
     refine xO ?_
     refine xO ?_ (h := by simp [splice]; exact .mk)
     refine xO ?_ (h := by simp [eSlot, hi6]; exact .mk)
     refine xO ?_ (h := by simp [-List.getElem?_map, map_get hi6, hi6, nrmL, nrm, putC, splice, eSlot]; exact .mk)
     refine xE [1,3,9,10] fun _ => ?_
     refine W_reg rfl ?_
     iterate 3 refine xO ?_
     refine xE [1,3,9,10] ?_
     refine rounds_kill [1,3,9,10] ?_
     refine rounds_next (m' := y.slots.length - (i+1)) (by omega) ⟨i+1, rfl, by omega, ?_, ?_⟩
     · rw [wrap64 (by omega) (by omega)]; rfl
     have hw2 := wiped_len (y := y) (i := i + 1) (by omega)
     rw [hw2, ← hwl, ← wiped_set hi4, List.map_set]; rfl
   intro h82
   obtain rfl : i = y.slots.length := by rw [hwl] at h82; simp at h82; omega
   have hTo := wiped_Ok hI.ok
   have hTR := wiped_right hI.right hN
   have cA := ct65 g y opA2 hI.ok (by show (0 : Nat) ≤ 2^40; decide) (by show (0 : Nat) ≤ 2^40; decide)
   have cB := ct65 g (wiped y y.slots.length) opA2 hTo (by show (0 : Nat) ≤ 2^40; decide) (by show (0 : Nat) ≤ 2^40; decide)
   rw [doO_of hI.right] at cA
   rw [doO_of hTR] at cB
   have law := empties_law hI.right hN
   simp only at law
   obtain ⟨A, hA⟩ : ∃ A, A = doF y opA2 := ⟨_, rfl⟩
   obtain ⟨U, hU⟩ : ∃ U, U = doF (wiped y y.slots.length) opA2 := ⟨_, rfl⟩
   rw [← hA] at cA law
   rw [← hU] at cB law
   refine W_exit ?_
   refine xT ?_
   refine xO ?_ (h := by simp [eSlot]; exact .mk)
   refine xO ?_ (h := by simp [splice]; exact .mk)
   refine xC (cA) ?_ (he := by simp [row_rows, Function.comp_def]; exact .mk) (hi := by simp [oStt, oEfo]; exact .mk)
   iterate 6 refine xO ?_
   iterate 2 (refine xO ?_ (h := by simp [splice]; exact .mk))
   refine xO ?_
   refine xE [3,9,11,12,13] ?_
   refine xT ?_
   refine xO ?_ (h := by simp [eSlot]; exact .mk)
   refine xO ?_ (h := by simp [splice]; exact .mk)
   refine xC (cB) ?_ (he := by simp [row_rows, Function.comp_def]; exact .mk) (hi := by simp [oStt, oEfo]; exact .mk)
   iterate 6 refine xO ?_
   iterate 2 (refine xO ?_ (h := by simp [splice]; exact .mk))
   refine xO ?_
   refine xE [3,11,12,13,14,15,16] fun _ => ?_
   refine W_seq ?_
   refine xU ?_
   iterate 2 refine xO ?_
   refine xE [3,11,12,13,14,15,16,105] fun _ => ?_
   refine W_cond rfl ?_ ?_
   · intro h105
     refine xU ?_
     iterate 2 refine xO ?_
     refine xE [2] fun _ => ?_
     refine W_ret ?_
     refine xR (by simp [Tryz.f15]; exact .mk) ?_
     first | (simp [Tryz.f15]; done) | (simp [Tryz.f15, hAB]; grind) | (simp [Tryz.f15]; grind)
   intro h105
   have hlaw := law.resolve_left (by simpa using h105)
   have ff := fun q => empties_facts hlaw q
   have hAB := hlaw.1
   refine W_skip ?_
   rintro -
   refine W_seq ?_
   refine W_regD (by kernel_rfl) [] 24 [0,1,2,3,4,5,6,7,8,9,10,11,12,13,14,15,16,17,18,19,20,21,22,23,24,25,26,27,28,29,30,31,32,33,34,35,36,37,38,39,40,41,42,43,44,45,46,47,48] (by decide +kernel) ?_
   iterate 2 refine xO ?_
   iterate 3 refine xI ?_
   refine xP ?_
   refine xB ?_
   iterate 4 refine xI ?_
   refine run_if rfl (by simp; exact .mk) rfl (by simp <;> first | omega | grind) (fun hb => by simp [eSlot]; exact .mk) ?_
   iterate 2 refine xI ?_
   refine run_if rfl (by simp; exact .mk) rfl (by simp <;> first | omega | grind) (fun hb => by simp [eSlot]; exact .mk) ?_
   refine run_if rfl (by simp; exact .mk) rfl (by simp <;> first | omega | grind) (fun hb => by have q0 : A.e = 0 := (by simp at hb; grind); simp [(ff q0).1.1, (ff q0).1.2.1]; exact .mk) ?_
   refine xI ?_
   refine run_if rfl (by simp; exact .mk) rfl (by simp <;> first | omega | grind) (fun hb => by have q0 : A.e = 0 := (by simp at hb; grind); simp [-List.getElem?_map, map_get (ff q0).1.2.2, eSlot]; exact .mk) ?_
   refine xI ?_
   refine run_if rfl (by simp; exact .mk) rfl (by simp <;> first | omega | grind) (fun hb => by simp [eSlot]; exact .mk) ?_
   iterate 2 refine xI ?_
   refine run_if rfl (by simp; exact .mk) rfl (by simp <;> first | omega | grind) (fun hb => by simp [eSlot]; exact .mk) ?_
   refine run_if rfl (by simp; exact .mk) rfl (by simp <;> first | omega | grind) (fun hb => by have q0 : A.e = 0 := (by simp at hb; grind); simp [(ff q0).2.1.1, (ff q0).2.1.2.1]; exact .mk) ?_
   refine xI ?_
   refine run_if rfl (by simp; exact .mk) rfl (by simp <;> first | omega | grind) (fun hb => by have q0 : A.e = 0 := (by simp at hb; grind); simp [-List.getElem?_map, map_get (ff q0).2.1.2.2, eSlot]; exact .mk) ?_
   iterate 3 refine xI ?_
   refine run_if rfl (by simp; exact .mk) rfl (by simp <;> first | omega | grind) (fun hb => by simp [eSlot]; exact .mk) ?_
   iterate 2 refine xI ?_
   refine run_if rfl (by simp; exact .mk) rfl (by simp <;> first | omega | grind) (fun hb => by simp [eSlot]; exact .mk) ?_
   refine run_if rfl (by simp; exact .mk) rfl (by simp <;> first | omega | grind) (fun hb => by have q0 : A.e = 0 := (by simp at hb; grind); simp [(ff q0).1.1, (ff q0).1.2.1]; exact .mk) ?_
   refine xI ?_
   refine run_if rfl (by simp; exact .mk) rfl (by simp <;> first | omega | grind) (fun hb => by have q0 : A.e = 0 := (by simp at hb; grind); simp [-List.getElem?_map, map_get (ff q0).1.2.2, eSlot]; exact .mk) ?_
   refine xI ?_
   refine run_if rfl (by simp; exact .mk) rfl (by simp <;> first | omega | grind) (fun hb => by simp [eSlot]; exact .mk) ?_
   iterate 2 refine xI ?_
   refine run_if rfl (by simp; exact .mk) rfl (by simp <;> first | omega | grind) (fun hb => by simp [eSlot]; exact .mk) ?_
   refine run_if rfl (by simp; exact .mk) rfl (by simp <;> first | omega | grind) (fun hb => by have q0 : A.e = 0 := (by simp at hb; grind); simp [(ff q0).2.1.1, (ff q0).2.1.2.1]; exact .mk) ?_
   refine xI ?_
   refine run_if rfl (by simp; exact .mk) rfl (by simp <;> first | omega | grind) (fun hb => by have q0 : A.e = 0 := (by simp at hb; grind); simp [-List.getElem?_map, map_get (ff q0).2.1.2.2, eSlot]; exact .mk) ?_
   refine xI ?_
   iterate 3 refine xP ?_
   refine xB ?_
   refine xE [2] fun _ => ?_
   refine W_ret ?_
   refine xR (by simp [Tryz.f15]; exact .mk) ?_
   first | (simp [Tryz.f15]; done) | (simp [Tryz.f15, hAB]; grind) | (simp [Tryz.f15]; grind)
 skip
 skip
 refine W_seq ?_
 refine xU ?_
 iterate 2 refine xO ?_
 refine xO ?_ (h := by simp [eSlot]; exact .mk)
 iterate 2 refine xO ?_
 refine xE [1,3,5,32] fun _ => ?_
 refine W_cond rfl ?_ ?_
 · intro h32
   have hi2 : i < y.slots.length := by simpa using h32
   refine W_skip ?_
   rintro -
   refine W_seq ?_
   refine W_block ?_
   refine W_seq ?_
   refine xU ?_
   refine xO ?_
   refine xO ?_ (h := by simp [eSlot]; exact .mk)
   refine xO ?_
   refine xO ?_ (h := by simp [eSlot, hi2]; exact .mk)
   refine xO ?_
   refine xO ?_ (h := by simp [-List.getElem?_map, map_get hi2, eSlot]; exact .mk)
   refine xO ?_
   refine xE [1,3,5,41] fun _ => ?_
   refine W_cond rfl ?_ ?_
   · intro h41
     have hl : (nth y.slots i).live = false := by simpa using h41
     refine W_exit ?_
     rintro -
     refine W_reg rfl ?_
     iterate 3 refine xO ?_
     refine xE [1,3,5] ?_
     refine rounds_kill [1,3,5] ?_
     first
     | exact rounds_next (m' := N - (i+1)) (by have := hI.len; omega) ⟨i+1, y, rfl, by have := hI.len; omega, emI_skip hI hl, by rw [wrap64 (by omega) (by omega)]; rfl, by first | exact .inl ⟨rfl, rfl⟩ | exact .inr rfl⟩
     | (refine rounds_drop 4 [1,3,5] (by decide) (by rfl) (by rfl) ?_
        exact rounds_next (m' := N - (i+1)) (by have := hI.len; omega) ⟨i+1, Z, rfl, by have := hI.len; omega, hIn, by rw [wrap64 (by omega) (by omega)]; rfl, .inr rfl⟩)
     | (refine rounds_kills [1,3,5] rfl ?_
        refine rounds_swap 1 4 3 (by decide) (by simp) (by decide) rfl rfl ?_
        refine rounds_drop 4 [1,3,5] (by decide) (by rfl) (by rfl) ?_
        exact rounds_next (m' := N - (i+1)) (by have := hI.len; omega) ⟨i+1, Z, rfl, by have := hI.len; omega, hIn, by rw [wrap64 (by omega) (by omega)]; rfl, .inr rfl⟩)
   intro h41
   have hl : (nth y.slots i).live = true := by simpa using h41
   have cdo := ct65 g y (opF i (nth y.slots i).gen) hI.ok (by show (0 : Nat) ≤ 2^40; decide) (by show (0 : Nat) ≤ 2^40; decide)
   rw [doO_of hI.right, free_one hI.right hi2 hl] at cdo
   have hIn := emI_free hI hi2
   have hlv := live_take hi2 hl
   obtain ⟨Z, hZ⟩ : ∃ Z, Z = takeAt y i := ⟨_, rfl⟩
   rw [← hZ] at cdo hIn hlv
   have hle := liveIx_le (l := y.slots) (i := y.slots.length)
   have h40 := hI.ok.h1
   have w1 : IntKind.i64.wrap ((liveIx y.slots y.slots.length : Int) - 1) = (liveIx y.slots y.slots.length : Int) - 1 := wrap64 (by omega) (by omega)
   refine W_skip ?_
   rintro -
   refine W_seq ?_
   refine W_regDSK (hard := []) [10,15,16] (keepOk_lt (by decide)) (by kernel_rfl) 4 [0,1,2,3,4,5,6,7,8,9,10,11,12,13,14,15,16,17,18,19] [[0,1,2,3,4,5,6,7,8,9,10,11,12,13,14,16,15,17,18,19], [0,1,2,3,4,5,6,7,8,9,15,10,11,12,13,14,16,17,18,19], [0,1,2,3,4,5,6,7,8,9,15,16,10,11,12,13,14,17,18,19], [0,1,2,3,4,5,6,7,8,9,16,10,11,12,13,14,15,17,18,19], [0,1,2,3,4,5,6,7,8,9,16,15,10,11,12,13,14,17,18,19]] (by decide +kernel) ?_
   refine xO ?_ (h := by simp [eSlot]; exact .mk)
   iterate 2 refine xO ?_
   refine xO ?_ (h := by simp [eSlot]; exact .mk)
   refine xO ?_
   refine xO ?_ (h := by simp [eSlot, hi2]; exact .mk)
   refine xO ?_
   refine xO ?_ (h := by simp [-List.getElem?_map, map_get hi2, eSlot]; exact .mk)
   iterate 2 (refine xO ?_ (h := by simp [splice]; exact .mk))
   refine xC (cdo) ?_ (he := by simp [row_rows, Function.comp_def]; exact .mk) (hi := by simp [oStt, oEfo]; exact .mk)
   iterate 6 refine xO ?_
   iterate 2 (refine xO ?_ (h := by simp [splice]; exact .mk))
   refine xO ?_
   refine xE [1,3,5,6,8] ?_
   refine ⟨_, rfl, ⟨?_, ?_, ?_, ?_, ?_, trivial⟩, ?_⟩
   · skip
     refine xO ?_ (h := by simp [eSlot]; exact .mk)
     iterate 2 refine xO ?_
     refine xO ?_ (h := by simp [eSlot]; exact .mk)
     refine xO ?_
     refine xO ?_ (h := by simp [eSlot, hi2]; exact .mk)
     refine xO ?_
     refine xO ?_ (h := by simp [-List.getElem?_map, map_get hi2, eSlot]; exact .mk)
     iterate 2 (refine xO ?_ (h := by simp [splice]; exact .mk))
     refine xC (cdo) ?_ (he := by simp [row_rows, Function.comp_def]; exact .mk) (hi := by simp [oStt, oEfo]; exact .mk)
     iterate 6 refine xO ?_
     iterate 2 (refine xO ?_ (h := by simp [splice]; exact .mk))
     refine xO ?_
     refine xE [1,3,5,6,8] ?_
     exact Weak.perm [0,1,2,3,4,5,6,7,9,8] [0,1,2,3,4,5,6,7,9,8] rfl rfl rfl
   · skip
     refine xO ?_ (h := by simp [eSlot]; exact .mk)
     iterate 2 refine xO ?_
     refine xO ?_ (h := by simp [eSlot]; exact .mk)
     refine xO ?_
     refine xO ?_ (h := by simp [eSlot, hi2]; exact .mk)
     refine xO ?_
     refine xO ?_ (h := by simp [-List.getElem?_map, map_get hi2, eSlot]; exact .mk)
     iterate 2 (refine xO ?_ (h := by simp [splice]; exact .mk))
     refine xO ?_
     refine xC (cdo) ?_ (he := by simp [row_rows, Function.comp_def]; exact .mk) (hi := by simp [oStt, oEfo]; exact .mk)
     iterate 5 refine xO ?_
     iterate 2 (refine xO ?_ (h := by simp [splice]; exact .mk))
     refine xO ?_
     refine xE [1,3,5,6,8] ?_
     exact Weak.perm [0,1,2,3,8,4,5,6,7,9] [0,1,2,3,5,6,7,8,4,9] rfl rfl rfl
   · skip
     refine xO ?_ (h := by simp [eSlot]; exact .mk)
     iterate 2 refine xO ?_
     refine xO ?_ (h := by simp [eSlot]; exact .mk)
     refine xO ?_
     refine xO ?_ (h := by simp [eSlot, hi2]; exact .mk)
     refine xO ?_
     refine xO ?_ (h := by simp [-List.getElem?_map, map_get hi2, eSlot]; exact .mk)
     iterate 2 (refine xO ?_ (h := by simp [splice]; exact .mk))
     iterate 2 refine xO ?_
     refine xC (cdo) ?_ (he := by simp [row_rows, Function.comp_def]; exact .mk) (hi := by simp [oStt, oEfo]; exact .mk)
     iterate 4 refine xO ?_
     iterate 2 (refine xO ?_ (h := by simp [splice]; exact .mk))
     refine xO ?_
     refine xE [1,3,5,6,8] ?_
     exact Weak.perm [0,1,2,3,8,9,4,5,6,7] [0,1,2,3,6,7,8,9,4,5] rfl rfl rfl
   · skip
     refine xO ?_ (h := by simp [eSlot]; exact .mk)
     iterate 2 refine xO ?_
     refine xO ?_ (h := by simp [eSlot]; exact .mk)
     refine xO ?_
     refine xO ?_ (h := by simp [eSlot, hi2]; exact .mk)
     refine xO ?_
     refine xO ?_ (h := by simp [-List.getElem?_map, map_get hi2, eSlot]; exact .mk)
     iterate 2 (refine xO ?_ (h := by simp [splice]; exact .mk))
     refine xO ?_
     refine xC (cdo) ?_ (he := by simp [row_rows, Function.comp_def]; exact .mk) (hi := by simp [oStt, oEfo]; exact .mk)
     iterate 5 refine xO ?_
     iterate 2 (refine xO ?_ (h := by simp [splice]; exact .mk))
     refine xO ?_
     refine xE [1,3,5,6,8] ?_
     exact Weak.perm [0,1,2,3,9,4,5,6,7,8] [0,1,2,3,5,6,7,8,9,4] rfl rfl rfl
   · skip
     refine xO ?_ (h := by simp [eSlot]; exact .mk)
     iterate 2 refine xO ?_
     refine xO ?_ (h := by simp [eSlot]; exact .mk)
     refine xO ?_
     refine xO ?_ (h := by simp [eSlot, hi2]; exact .mk)
     refine xO ?_
     refine xO ?_ (h := by simp [-List.getElem?_map, map_get hi2, eSlot]; exact .mk)
     iterate 2 (refine xO ?_ (h := by simp [splice]; exact .mk))
     iterate 2 refine xO ?_
     refine xC (cdo) ?_ (he := by simp [row_rows, Function.comp_def]; exact .mk) (hi := by simp [oStt, oEfo]; exact .mk)
     iterate 4 refine xO ?_
     iterate 2 (refine xO ?_ (h := by simp [splice]; exact .mk))
     refine xO ?_
     refine xE [1,3,5,6,8] ?_
     exact Weak.perm [0,1,2,3,9,8,4,5,6,7] [0,1,2,3,6,7,8,9,5,4] rfl rfl rfl
   rintro -
   refine W_seq ?_
   refine W_seq ?_
   refine W_regD (by kernel_rfl) [] 4 [0,1,2,3,5,4,6,7,8,9] (by decide +kernel) ?_
   iterate 3 refine xO ?_
   iterate 2 (refine run_if rfl (by simp; exact .mk) rfl (by simp <;> first | omega | grind) (fun hb => by simp [eSlot]; exact .mk) ?_)
   refine run_call rfl (by simp; exact .mk) rfl rfl (by simp) (by simp; exact .mk) (by simp [row_rows, Function.comp_def]; exact .mk) (fun hb => ct35 g Z hIn.ok) (by simp) (by simp [oStt, oEfo]; exact .mk) (by simp) ?_
   refine run_call rfl (by simp; exact .mk) rfl rfl (by simp) (by simp; exact .mk) (by simp [row_rows, Function.comp_def]; exact .mk) (fun hb => ct35 g y hI.ok) (by simp) (by simp [oStt, oEfo]; exact .mk) (by simp) ?_
   refine run_if rfl (by simp; exact .mk) rfl (by simp <;> first | omega | grind) (fun hb => by simp [w1]; exact .mk) ?_
   refine run_if rfl (by simp; exact .mk) rfl (by simp <;> first | omega | grind) (fun hb => by simp [hlv]; exact .mk) ?_
   refine xP ?_
   refine xE [1,3,5,6,66] fun _ => ?_
   refine W_cond rfl ?_ ?_
   · intro h66
     simp [hlv] at h66
   intro h66
   refine W_skip ?_
   rintro -
   refine W_reg rfl ?_
   refine xO ?_ (h := by simp [eSlot]; exact .mk)
   refine xO ?_ (h := by simp [splice]; exact .mk)
   refine xE [1,3,5] fun _ => ?_
   refine W_reg rfl ?_
   iterate 3 refine xO ?_
   refine xE [1,3,5] ?_
   refine rounds_kill [1,3,5] ?_
   first
   | exact rounds_next (m' := N - (i+1)) (by have := hI.len; omega) ⟨i+1, y, rfl, by have := hI.len; omega, emI_skip hI hl, by rw [wrap64 (by omega) (by omega)]; rfl, by first | exact .inl ⟨rfl, rfl⟩ | exact .inr rfl⟩
   | (refine rounds_drop 4 [1,3,5] (by decide) (by rfl) (by rfl) ?_
      exact rounds_next (m' := N - (i+1)) (by have := hI.len; omega) ⟨i+1, Z, rfl, by have := hI.len; omega, hIn, by rw [wrap64 (by omega) (by omega)]; rfl, .inr rfl⟩)
   | (refine rounds_kills [1,3,5] rfl ?_
      refine rounds_swap 1 4 3 (by decide) (by simp) (by decide) rfl rfl ?_
      refine rounds_drop 4 [1,3,5] (by decide) (by rfl) (by rfl) ?_
      exact rounds_next (m' := N - (i+1)) (by have := hI.len; omega) ⟨i+1, Z, rfl, by have := hI.len; omega, hIn, by rw [wrap64 (by omega) (by omega)]; rfl, .inr rfl⟩)
 intro h32
 obtain rfl : i = y.slots.length := by simp at h32; have := hI.len; omega
 obtain ⟨hN, hz⟩ := emI_end (y := y) hI
 have c35y := ct35 g y hI.ok
 rw [hz] at c35y
 have c32y := ct32 g y hI.ok
 rw [hI.right] at c32y
 refine W_exit ?_
 rintro -
 refine W_seq ?_
 refine xU ?_
 refine xO ?_ (h := by simp [eSlot]; exact .mk)
 refine xC (c35y) ?_ (he := by simp [row_rows, Function.comp_def]; exact .mk) (hi := by simp [oStt, oEfo]; exact .mk)
 iterate 2 refine xO ?_
 refine run_if rfl (by simp; exact .mk) rfl (by simp <;> first | omega | grind) (fun hb => by simp [eSlot]; exact .mk) ?_
 refine run_call rfl (by simp; exact .mk) rfl rfl (by simp) (by simp; exact .mk) (by simp [row_rows, Function.comp_def]; exact .mk) (fun hb => c32y) (by simp) (by simp [oStt, oEfo]; exact .mk) (by simp) ?_
 refine xI ?_
 refine xP ?_
 refine xE [1,3,75] fun _ => ?_
 refine W_cond rfl ?_ ?_
 · intro h75
   simp at h75
 intro h75
 refine W_skip ?_
 refine xT ?_
 refine xO ?_ (h := by simp [eSlot]; exact .mk)
 refine xC (ct24 g y hI.ok) ?_ (he := by simp [row_rows, Function.comp_def]; exact .mk) (hi := by simp [oStt, oEfo]; exact .mk)
 refine xO ?_
 refine xO ?_ (h := by simp [splice]; exact .mk)
 refine xE [1,3,9] fun _ => ?_
 refine W_seq ?_
 refine xU ?_
 refine xO ?_
 refine xE [1,3,9,10] fun _ => ?_
 refine W_block ?_
 refine W_rounds (fun m σ o => ∃ i : Nat, m = y.slots.length - i ∧ i ≤ y.slots.length ∧ σ = slots [(1, .ptr 0 0 0), (3, .d (.v (.bool true))), (9, .ptr 7 0 0), (10, .d (vI i))] ∧ o = [.var 28 [.d (vI y.sh.pages), .d (vI y.sh.slots), .d (vI y.sh.roots), .d (vI y.sh.room), .d (vI y.mode), .d (vI y.base), .hdr 1 0 y.slots.length, .hdr 2 0 y.roots.length, .hdr 3 0 y.data.length], .row 5 (y.slots.map eSlot), .row 3 (y.roots.map eRoot), .row 1 (y.data.map oB), .row 5 ((wiped y i).slots.map eSlot), .row 3 (y.roots.map eRoot), .row 1 (y.data.map oB), .var 28 [.d (vI y.sh.pages), .d (vI y.sh.slots), .d (vI y.sh.roots), .d (vI y.sh.room), .d (vI y.mode), .d (vI y.base), .hdr 4 0 (wiped y i).slots.length, .hdr 5 0 y.roots.length, .hdr 6 0 y.data.length]]) y.slots.length .refl ⟨0, by simp, by simp, rfl, by rw [wiped_zero]⟩ ?_
 rintro m σ o ⟨i, rfl, hi5, rfl, rfl⟩ _
 have hwl := wiped_len (y := y) hi5
 refine W_seq ?_
 refine xU ?_
 iterate 2 refine xO ?_
 refine xO ?_ (h := by simp [eSlot]; exact .mk)
 iterate 2 refine xO ?_
 refine xE [1,3,9,10,82] fun _ => ?_
 refine W_cond rfl ?_ ?_
 · intro h82
   have hi4 : i < y.slots.length := by rw [hwl] at h82; simpa using h82
   have hi6 : i < (wiped y i).slots.length := by omega
   refine W_skip ?_
   rintro -
   refine W_seq ?_
   refine W_block ?_
   refine W_reg rfl ?_
   refine xO ?_
   refine xO ?_ (h := by simp [eSlot]; exact .mk)
   refine xO ?_
   refine xO ?_ (h := by simp [splice]; exact .mk)
   refine xO ?_ (h := by simp [eSlot, hi6]; exact .mk)
   refine xO ?_ (h := by simp [-List.getElem?_map, map_get hi6, hi6, nrmL, nrm, putC, splice, eSlot]; exact .mk)
   refine xE [1,3,9,10] fun _ => ?_
   refine W_reg rfl ?_
   iterate 3 refine xO ?_
   refine xE [1,3,9,10] ?_
   refine rounds_kill [1,3,9,10] ?_
   refine rounds_next (m' := y.slots.length - (i+1)) (by omega) ⟨i+1, rfl, by omega, ?_, ?_⟩
   · rw [wrap64 (by omega) (by omega)]; rfl
   have hw2 := wiped_len (y := y) (i := i + 1) (by omega)
   rw [hw2, ← hwl, ← wiped_set hi4, List.map_set]; rfl
 intro h82
 obtain rfl : i = y.slots.length := by rw [hwl] at h82; simp at h82; omega
 have hTo := wiped_Ok hI.ok
 have hTR := wiped_right hI.right hN
 have cA := ct65 g y opA2 hI.ok (by show (0 : Nat) ≤ 2^40; decide) (by show (0 : Nat) ≤ 2^40; decide)
 have cB := ct65 g (wiped y y.slots.length) opA2 hTo (by show (0 : Nat) ≤ 2^40; decide) (by show (0 : Nat) ≤ 2^40; decide)
 rw [doO_of hI.right] at cA
 rw [doO_of hTR] at cB
 have law := empties_law hI.right hN
 simp only at law
 obtain ⟨A, hA⟩ : ∃ A, A = doF y opA2 := ⟨_, rfl⟩
 obtain ⟨U, hU⟩ : ∃ U, U = doF (wiped y y.slots.length) opA2 := ⟨_, rfl⟩
 rw [← hA] at cA law
 rw [← hU] at cB law
 refine W_exit ?_
 refine xT ?_
 refine xO ?_ (h := by simp [eSlot]; exact .mk)
 refine xO ?_ (h := by simp [splice]; exact .mk)
 refine xC (cA) ?_ (he := by simp [row_rows, Function.comp_def]; exact .mk) (hi := by simp [oStt, oEfo]; exact .mk)
 iterate 6 refine xO ?_
 iterate 2 (refine xO ?_ (h := by simp [splice]; exact .mk))
 refine xO ?_
 refine xE [3,9,11,12,13] ?_
 refine xT ?_
 refine xO ?_ (h := by simp [eSlot]; exact .mk)
 refine xO ?_ (h := by simp [splice]; exact .mk)
 refine xC (cB) ?_ (he := by simp [row_rows, Function.comp_def]; exact .mk) (hi := by simp [oStt, oEfo]; exact .mk)
 iterate 6 refine xO ?_
 iterate 2 (refine xO ?_ (h := by simp [splice]; exact .mk))
 refine xO ?_
 refine xE [3,11,12,13,14,15,16] fun _ => ?_
 refine W_seq ?_
 refine xU ?_
 iterate 2 refine xO ?_
 refine xE [3,11,12,13,14,15,16,105] fun _ => ?_
 refine W_cond rfl ?_ ?_
 · intro h105
   refine xU ?_
   iterate 2 refine xO ?_
   refine xE [2] fun _ => ?_
   refine W_ret ?_
   refine xR (by simp [Tryz.f15]; exact .mk) ?_
   first | (simp [Tryz.f15]; done) | (simp [Tryz.f15, hAB]; grind) | (simp [Tryz.f15]; grind)
 intro h105
 have hlaw := law.resolve_left (by simpa using h105)
 have ff := fun q => empties_facts hlaw q
 have hAB := hlaw.1
 refine W_skip ?_
 rintro -
 refine W_seq ?_
 refine W_regD (by kernel_rfl) [] 24 [0,1,2,3,4,5,6,7,8,9,10,11,12,13,14,15,16,17,18,19,20,21,22,23,24,25,26,27,28,29,30,31,32,33,34,35,36,37,38,39,40,41,42,43,44,45,46,47,48] (by decide +kernel) ?_
 iterate 2 refine xO ?_
 iterate 3 refine xI ?_
 refine xP ?_
 refine xB ?_
 iterate 4 refine xI ?_
 refine run_if rfl (by simp; exact .mk) rfl (by simp <;> first | omega | grind) (fun hb => by simp [eSlot]; exact .mk) ?_
 iterate 2 refine xI ?_
 refine run_if rfl (by simp; exact .mk) rfl (by simp <;> first | omega | grind) (fun hb => by simp [eSlot]; exact .mk) ?_
 refine run_if rfl (by simp; exact .mk) rfl (by simp <;> first | omega | grind) (fun hb => by have q0 : A.e = 0 := (by simp at hb; grind); simp [(ff q0).1.1, (ff q0).1.2.1]; exact .mk) ?_
 refine xI ?_
 refine run_if rfl (by simp; exact .mk) rfl (by simp <;> first | omega | grind) (fun hb => by have q0 : A.e = 0 := (by simp at hb; grind); simp [-List.getElem?_map, map_get (ff q0).1.2.2, eSlot]; exact .mk) ?_
 refine xI ?_
 refine run_if rfl (by simp; exact .mk) rfl (by simp <;> first | omega | grind) (fun hb => by simp [eSlot]; exact .mk) ?_
 iterate 2 refine xI ?_
 refine run_if rfl (by simp; exact .mk) rfl (by simp <;> first | omega | grind) (fun hb => by simp [eSlot]; exact .mk) ?_
 refine run_if rfl (by simp; exact .mk) rfl (by simp <;> first | omega | grind) (fun hb => by have q0 : A.e = 0 := (by simp at hb; grind); simp [(ff q0).2.1.1, (ff q0).2.1.2.1]; exact .mk) ?_
 refine xI ?_
 refine run_if rfl (by simp; exact .mk) rfl (by simp <;> first | omega | grind) (fun hb => by have q0 : A.e = 0 := (by simp at hb; grind); simp [-List.getElem?_map, map_get (ff q0).2.1.2.2, eSlot]; exact .mk) ?_
 iterate 3 refine xI ?_
 refine run_if rfl (by simp; exact .mk) rfl (by simp <;> first | omega | grind) (fun hb => by simp [eSlot]; exact .mk) ?_
 iterate 2 refine xI ?_
 refine run_if rfl (by simp; exact .mk) rfl (by simp <;> first | omega | grind) (fun hb => by simp [eSlot]; exact .mk) ?_
 refine run_if rfl (by simp; exact .mk) rfl (by simp <;> first | omega | grind) (fun hb => by have q0 : A.e = 0 := (by simp at hb; grind); simp [(ff q0).1.1, (ff q0).1.2.1]; exact .mk) ?_
 refine xI ?_
 refine run_if rfl (by simp; exact .mk) rfl (by simp <;> first | omega | grind) (fun hb => by have q0 : A.e = 0 := (by simp at hb; grind); simp [-List.getElem?_map, map_get (ff q0).1.2.2, eSlot]; exact .mk) ?_
 refine xI ?_
 refine run_if rfl (by simp; exact .mk) rfl (by simp <;> first | omega | grind) (fun hb => by simp [eSlot]; exact .mk) ?_
 iterate 2 refine xI ?_
 refine run_if rfl (by simp; exact .mk) rfl (by simp <;> first | omega | grind) (fun hb => by simp [eSlot]; exact .mk) ?_
 refine run_if rfl (by simp; exact .mk) rfl (by simp <;> first | omega | grind) (fun hb => by have q0 : A.e = 0 := (by simp at hb; grind); simp [(ff q0).2.1.1, (ff q0).2.1.2.1]; exact .mk) ?_
 refine xI ?_
 refine run_if rfl (by simp; exact .mk) rfl (by simp <;> first | omega | grind) (fun hb => by have q0 : A.e = 0 := (by simp at hb; grind); simp [-List.getElem?_map, map_get (ff q0).2.1.2.2, eSlot]; exact .mk) ?_
 refine xI ?_
 iterate 3 refine xP ?_
 refine xB ?_
 refine xE [2] fun _ => ?_
 refine W_ret ?_
 refine xR (by simp [Tryz.f15]; exact .mk) ?_
 first | (simp [Tryz.f15]; done) | (simp [Tryz.f15, hAB]; grind) | (simp [Tryz.f15]; grind)

end Go.Proofs
