/- Contracts of the program's functions and plain facts, for arguments as each lemma says. -/
import Derived.Test.YtokgokbgidgfeaaGreatCH
import Derived.Test.YtokgokbgidgfeaaGreatCC
import Derived.Test.YtokgokbgidgfeaaGreatCE
import Derived.Test.YtokgokbgidgfeaaGreatCG
import Derived.Test.YtokgokbgidgfeaaGreatAwpD
import Derived.Test.YtokgokbgidgfeaaGreatCD
set_option linter.all false
set_option maxHeartbeats 4000000
set_option maxRecDepth 4000
namespace Go.Proofs
open Go.Awp
theorem ct54 (g : Gl) (s : Stt) (hs : s.Ok) (up : Bool) : CtAt Tryz.prog g 54 [eStt s, vT up] (.tup [oStt (startS s up).1, vI (startS s up).2]) := by
 refine xA Tryz.func54 fun B S => ?_
 simp only [eStt, List.map, argD_agg, argD_v]
 refine xU ?_
 refine xH3 [1,2,4] ?_
 refine W_seq (xU ?_)
 refine xOl ?_
 refine xC (ct32 g s hs) ?_ (he := by simp [row_rows, Function.comp_def]; exact .mk) (hi := by simp [oStt]; exact .mk)
 refine xO ?_
 refine xQ [1,2,4,15] ?_ ?_
 · intro h15
   have hR : sttS s = false := by simpa using h15
   have hr : startS s up = (zStt, 1) := by unfold startS; rw [if_pos hR]
   refine xU ?_
   iterate 2 (refine xOs ?_)
   refine xH [4,5] ?_
   refine W_ret (end_ret (by simp [Tryz.f54]; exact .mk) (by simp; exact .mk) ?_ (by simp [oStt]))
   first | (simp [Tryz.f54, hr, oStt, ownR, toM]; done) | (simp [Tryz.f54, hr, oStt, zStt, ownR, toM]; done) | (simp [Tryz.f54, hr, oStt, zStt, ownR, turnS]; done)
 intro h15
 have hR : sttS s = true := by simpa using h15
 have hRf : ¬ sttS s = false := by rw [hR]; simp
 have hb := superS_b (sttS_super hR)
 refine W_skip ?_
 refine xT ?_
 refine xH2 [1,2,4,6,7] ?_
 refine W_seq (xU ?_)
 refine xO ?_
 refine xQ [2,4,6,7,17] ?_ ?_
 · intro h17
   obtain rfl : up = true := by simpa using h17
   refine xY ?_
   refine xH2 [2,4,6,7] ?_
   refine W_seq (xU ?_)
   refine xO ?_
   refine xOl ?_
   refine xO2 ?_
   refine xQ [2,4,7,21] ?_ ?_
   · intro h21
     first
     | (have hn : s.mode ≠ fromM true := by (simp [fromM] at h21 ⊢; exact h21)
        have hr : startS s true = (zStt, 12) := by unfold startS; rw [if_neg hRf, if_pos hn])
     | (have hn : s.mode ≠ fromM false := by (simp [fromM] at h21 ⊢; exact h21)
        have hr : startS s false = (zStt, 12) := by unfold startS; rw [if_neg hRf, if_pos hn])
     refine xU ?_
     iterate 2 (refine xOs ?_)
     refine xH [4,5] ?_
     refine W_ret (end_ret (by simp [Tryz.f54]; exact .mk) (by simp; exact .mk) ?_ (by simp [oStt]))
     first | (simp [Tryz.f54, hr, oStt, ownR, toM]; done) | (simp [Tryz.f54, hr, oStt, zStt, ownR, toM]; done) | (simp [Tryz.f54, hr, oStt, zStt, ownR, turnS]; done)
   intro h21
   first
   | (have hn : ¬ s.mode ≠ fromM true := by (simp [fromM] at h21 ⊢; exact h21))
   | (have hn : ¬ s.mode ≠ fromM false := by (simp [fromM] at h21 ⊢; exact h21))
   refine W_skip ?_
   refine xT ?_
   refine xOl ?_
   refine xOs ?_
   refine xO ?_
   refine run_call0 rfl rfl rfl rfl (by simp; exact .mk) (by simp [row_rows, Function.comp_def]; exact .mk) (by first | exact ct122 g s hs 3 0 (by omega) | exact ct122 g s hs 4 0 (by omega)) (by simp) (by simp [oStt]; exact .mk) ?_
   refine xO4 ?_
   refine xOs ?_
   refine xH [4,8] ?_
   refine W_seq (xU ?_)
   refine xOl ?_
   refine run_call0 rfl rfl rfl rfl (by simp; exact .mk) (by simp [row_rows, Function.comp_def]; exact .mk) (by first | exact ct51 g (turnS s 3 0) (turn_ok hs) | exact ct51 g (turnS s 4 0) (turn_ok hs)) (by simp) (by simp [oStt]; exact .mk) ?_
   refine xO5 ?_
   refine xOs ?_
   refine xO2 ?_
   refine xG [4,8,12] ?_
   refine xO2 ?_
   refine xQ [4,8,12,37] ?_ ?_
   · intro h37
     first
     | (have he : (endS (turnS s (toM true) 0)).2.2 ≠ 0 := by (simpa [toM] using h37)
        have hr : startS s true = (zStt, (endS (turnS s (toM true) 0)).2.2) := by unfold startS; rw [if_neg hRf, if_neg hn, if_pos he])
     | (have he : (endS (turnS s (toM false) 0)).2.2 ≠ 0 := by (simpa [toM] using h37)
        have hr : startS s false = (zStt, (endS (turnS s (toM false) 0)).2.2) := by unfold startS; rw [if_neg hRf, if_neg hn, if_pos he])
     refine xU ?_
     refine xOs ?_
     refine xO ?_
     refine xOs ?_
     refine xH [4,5] ?_
     refine W_ret (end_ret (by simp [Tryz.f54]; exact .mk) (by simp; exact .mk) ?_ (by simp [oStt]))
     first | (simp [Tryz.f54, hr, oStt, ownR, toM]; done) | (simp [Tryz.f54, hr, oStt, zStt, ownR, toM]; done) | (simp [Tryz.f54, hr, oStt, zStt, ownR, turnS]; done)
   intro h37
   first
   | (have he : ¬ (endS (turnS s (toM true) 0)).2.2 ≠ 0 := by (simpa [toM] using h37)
      have hr : startS s true = (turnS s 3 0, 0) := by unfold startS; rw [if_neg hRf, if_neg hn, if_neg he]; rfl)
   | (have he : ¬ (endS (turnS s (toM false) 0)).2.2 ≠ 0 := by (simpa [toM] using h37)
      have hr : startS s false = (turnS s 4 0, 0) := by unfold startS; rw [if_neg hRf, if_neg hn, if_neg he]; rfl)
   refine W_skip ?_
   refine xT ?_
   refine xOl ?_
   refine xOs ?_
   refine xH [4,5] ?_
   refine W_ret (end_ret (by simp [Tryz.f54]; exact .mk) (by simp; exact .mk) ?_ (by simp [oStt]))
   first | (simp [Tryz.f54, hr, oStt, ownR, toM]; done) | (simp [Tryz.f54, hr, oStt, zStt, ownR, toM]; done) | (simp [Tryz.f54, hr, oStt, zStt, ownR, turnS]; done)
 intro h17
 obtain rfl : up = false := by simpa using h17
 refine W_skip fun _ => ?_
 refine W_seq (xU ?_)
 refine xO ?_
 refine xOl ?_
 refine xO2 ?_
 refine xQ [2,4,7,21] ?_ ?_
 · intro h21
   first
   | (have hn : s.mode ≠ fromM true := by (simp [fromM] at h21 ⊢; exact h21)
      have hr : startS s true = (zStt, 12) := by unfold startS; rw [if_neg hRf, if_pos hn])
   | (have hn : s.mode ≠ fromM false := by (simp [fromM] at h21 ⊢; exact h21)
      have hr : startS s false = (zStt, 12) := by unfold startS; rw [if_neg hRf, if_pos hn])
   refine xU ?_
   iterate 2 (refine xOs ?_)
   refine xH [4,5] ?_
   refine W_ret (end_ret (by simp [Tryz.f54]; exact .mk) (by simp; exact .mk) ?_ (by simp [oStt]))
   first | (simp [Tryz.f54, hr, oStt, ownR, toM]; done) | (simp [Tryz.f54, hr, oStt, zStt, ownR, toM]; done) | (simp [Tryz.f54, hr, oStt, zStt, ownR, turnS]; done)
 intro h21
 first
 | (have hn : ¬ s.mode ≠ fromM true := by (simp [fromM] at h21 ⊢; exact h21))
 | (have hn : ¬ s.mode ≠ fromM false := by (simp [fromM] at h21 ⊢; exact h21))
 refine W_skip ?_
 refine xT ?_
 refine xOl ?_
 refine xOs ?_
 refine xO ?_
 refine run_call0 rfl rfl rfl rfl (by simp; exact .mk) (by simp [row_rows, Function.comp_def]; exact .mk) (by first | exact ct122 g s hs 3 0 (by omega) | exact ct122 g s hs 4 0 (by omega)) (by simp) (by simp [oStt]; exact .mk) ?_
 refine xO4 ?_
 refine xOs ?_
 refine xH [4,8] ?_
 refine W_seq (xU ?_)
 refine xOl ?_
 refine run_call0 rfl rfl rfl rfl (by simp; exact .mk) (by simp [row_rows, Function.comp_def]; exact .mk) (by first | exact ct51 g (turnS s 3 0) (turn_ok hs) | exact ct51 g (turnS s 4 0) (turn_ok hs)) (by simp) (by simp [oStt]; exact .mk) ?_
 refine xO5 ?_
 refine xOs ?_
 refine xO2 ?_
 refine xG [4,8,12] ?_
 refine xO2 ?_
 refine xQ [4,8,12,37] ?_ ?_
 · intro h37
   first
   | (have he : (endS (turnS s (toM true) 0)).2.2 ≠ 0 := by (simpa [toM] using h37)
      have hr : startS s true = (zStt, (endS (turnS s (toM true) 0)).2.2) := by unfold startS; rw [if_neg hRf, if_neg hn, if_pos he])
   | (have he : (endS (turnS s (toM false) 0)).2.2 ≠ 0 := by (simpa [toM] using h37)
      have hr : startS s false = (zStt, (endS (turnS s (toM false) 0)).2.2) := by unfold startS; rw [if_neg hRf, if_neg hn, if_pos he])
   refine xU ?_
   refine xOs ?_
   refine xO ?_
   refine xOs ?_
   refine xH [4,5] ?_
   refine W_ret (end_ret (by simp [Tryz.f54]; exact .mk) (by simp; exact .mk) ?_ (by simp [oStt]))
   first | (simp [Tryz.f54, hr, oStt, ownR, toM]; done) | (simp [Tryz.f54, hr, oStt, zStt, ownR, toM]; done) | (simp [Tryz.f54, hr, oStt, zStt, ownR, turnS]; done)
 intro h37
 first
 | (have he : ¬ (endS (turnS s (toM true) 0)).2.2 ≠ 0 := by (simpa [toM] using h37)
    have hr : startS s true = (turnS s 3 0, 0) := by unfold startS; rw [if_neg hRf, if_neg hn, if_neg he]; rfl)
 | (have he : ¬ (endS (turnS s (toM false) 0)).2.2 ≠ 0 := by (simpa [toM] using h37)
    have hr : startS s false = (turnS s 4 0, 0) := by unfold startS; rw [if_neg hRf, if_neg hn, if_neg he]; rfl)
 refine W_skip ?_
 refine xT ?_
 refine xOl ?_
 refine xOs ?_
 refine xH [4,5] ?_
 refine W_ret (end_ret (by simp [Tryz.f54]; exact .mk) (by simp; exact .mk) ?_ (by simp [oStt]))
 first | (simp [Tryz.f54, hr, oStt, ownR, toM]; done) | (simp [Tryz.f54, hr, oStt, zStt, ownR, toM]; done) | (simp [Tryz.f54, hr, oStt, zStt, ownR, turnS]; done)

open Go.Awp
theorem ct50 (g : Gl) : CtAt Tryz.prog g 50 [] (.v (.bool true)) := by
 refine xA Tryz.func50 fun B S => ?_
 obtain ⟨A, B, C, D, E, F, id, h1, h2, h3, h4, h5, h6, h7, h8, h9, h10, h11, h12⟩ := small_facts
 have hA := fewStt_ok h12
 have hB : B.Ok := by have := startS_Ok (up := true) hA; rwa [h2] at this
 have hC : C.Ok := by have := endS_Ok hB; rwa [h3] at this
 have hD : D.Ok := by have := putS_ok (n := 16) hA; rwa [h5] at this
 have hE : E.Ok := by have := startS_Ok (up := true) hD; rwa [h6] at this
 have hF : F.Ok := by have := endS_Ok hE; rwa [h7] at this
 have c1 := ct53 g sh0 1
 have c2 := ct54 g A hA true
 have c3 := ct51 g B hB
 have c4 := ct42 g A hA 16
 have c5 := ct54 g D hD true
 have c6 := ct51 g E hE
 have c7 := ct55 g A hA
 rw [h1] at c1
 rw [h2] at c2
 rw [h3] at c3
 rw [h5] at c4
 rw [h6] at c5
 rw [h7] at c6
 rw [h11] at c7
 obtain ⟨G, hG⟩ : ∃ G, G = (stepS A).1 := ⟨_, rfl⟩
 rw [← hG] at c7
 have hl0 : 0 < F.slots.length := by omega
 refine xU ?_
 refine xO ?_
 refine xG [] ?_
 refine xOs ?_
 refine xC (c1) ?_ (he := by simp [row_rows, Function.comp_def]; exact .mk) (hi := by simp [oStt]; exact .mk)
 refine xO4 ?_
 refine xOs ?_
 refine xO ?_
 refine xG [1,2] ?_
 refine xOl ?_
 refine xC (c2) ?_ (he := by simp [row_rows, Function.comp_def]; exact .mk) (hi := by simp [oStt]; exact .mk)
 refine xO4 ?_
 refine xOs ?_
 refine xO ?_
 refine xG [1,2,3,4] ?_
 refine xOl ?_
 refine xC (c3) ?_ (he := by simp [row_rows, Function.comp_def]; exact .mk) (hi := by simp [oStt]; exact .mk)
 refine xO5 ?_
 refine xOs ?_
 refine xO2 ?_
 refine xG [1,2,4,5,6,7] ?_
 refine xOl ?_
 refine xC (c4) ?_ (he := by simp [row_rows, Function.comp_def]; exact .mk) (hi := by simp [oStt]; exact .mk)
 iterate 6 refine xO ?_
 iterate 2 (refine xOs ?_)
 refine xO ?_
 refine xG [1,2,4,5,6,7,8,10] ?_
 refine xOl ?_
 refine xC (c5) ?_ (he := by simp [row_rows, Function.comp_def]; exact .mk) (hi := by simp [oStt]; exact .mk)
 refine xO4 ?_
 refine xOs ?_
 refine xO ?_
 refine xG [1,2,4,5,6,7,10,11,12] ?_
 refine xOl ?_
 refine xC (c6) ?_ (he := by simp [row_rows, Function.comp_def]; exact .mk) (hi := by simp [oStt]; exact .mk)
 refine xO5 ?_
 refine xOs ?_
 refine xO2 ?_
 refine xG [1,2,4,5,6,7,10,12,13,14,15] ?_
 refine xOl ?_
 refine xC (c7) ?_ (he := by simp [row_rows, Function.comp_def]; exact .mk) (hi := by simp [oStt]; exact .mk)
 refine xO4 ?_
 refine xOs ?_
 refine xO ?_
 refine xG [2,4,5,6,7,10,12,13,14,15,17] ?_
 refine xO3 ?_
 iterate 2 refine xI ?_
 refine xP ?_
 refine xB ?_
 iterate 2 refine xI ?_
 refine xP ?_
 refine xB ?_
 iterate 2 refine xI ?_
 refine xP ?_
 refine xB ?_
 refine xI ?_
 refine xI ?_ (h := fun hb => by simp [eSlot]; exact .mk)
 refine xI ?_ (h := fun hb => by simp [h4]; exact .mk)
 refine xP ?_
 refine xB ?_
 iterate 2 refine xI ?_
 refine xP ?_
 refine xB ?_
 iterate 2 refine xI ?_
 refine xP ?_
 refine xB ?_
 iterate 2 refine xI ?_
 refine xP ?_
 refine xB ?_
 iterate 2 refine xI ?_
 refine xP ?_
 refine xB ?_
 refine xI ?_
 refine xI ?_ (h := fun hb => by simp [eSlot]; exact .mk)
 refine xI ?_ (h := fun hb => by simp [h8]; exact .mk)
 refine xP ?_
 refine xB ?_
 refine xI ?_
 refine xI ?_ (h := fun hb => by simp [eSlot]; exact .mk)
 refine xI ?_
 refine xI ?_ (h := fun hb => by simp [h9]; exact .mk)
 refine xP ?_
 refine xB ?_
 refine xI ?_
 refine xI ?_ (h := fun hb => by simp [eSlot]; exact .mk)
 refine xI ?_ (h := fun hb => by simp [eSlot, h9]; exact .mk)
 refine xI ?_
 refine xI ?_ (h := fun hb => by simp [-List.getElem?_map, map_get hl0, eSlot, h10]; exact .mk)
 refine xP ?_
 refine xB ?_
 iterate 2 refine xI ?_
 refine xP ?_
 refine xB ?_
 refine xF [0] ?_
 refine W_ret (xR (by simp [Tryz.f50]; exact .mk) ?_)
 simp [Tryz.f50, *]

open Go.Awp
theorem ct56 (g : Gl) (s : Stt) (hs : s.Ok) : CtAt Tryz.prog g 56 [eStt s] (.tup [oStt (stepS s).1, vI (stepS s).2]) := by
 refine xA Tryz.func56 fun B S => ?_
 simp only [eStt, List.map, argD_agg, argD_v]
 refine xU ?_
 refine xO3 ?_
 refine xG [1,2] ?_
 refine xOl ?_
 refine xC (ct33 g s hs) ?_ (he := by simp [row_rows, Function.comp_def]; exact .mk) (hi := by simp [oStt]; exact .mk)
 refine xH [1,2,4] ?_
 refine W_seq (xU ?_)
 refine xO2 ?_
 refine xQ [1,2,8] ?_ ?_
 · intro h8
   have hr : stepS s = (zStt, 1) := by unfold stepS; rw [if_neg (by simpa using h8)]
   refine xU ?_
   iterate 2 (refine xOs ?_)
   refine xH [2,3] ?_
   refine W_ret (end_ret (by simp [Tryz.f56]; exact .mk) (by simp; exact .mk) ?_ (by simp [oStt]))
   first | (simp [Tryz.f56, hr, oStt, ownR]; done) | (simp [Tryz.f56, hr, oStt, zStt, ownR]; done)
 intro h8
 have hR : sttS s = true := by simpa using h8
 refine W_skip fun _ => ?_
 refine W_seq (xU ?_)
 refine xO ?_
 refine xOl ?_
 refine xF [1,2,11] ?_
 refine W_block (xU ?_)
 refine xO2 ?_
 refine xQ [1,2,11,12] ?_ ?_
 · intro h12
   have hm3 : s.mode = 3 := by simpa using h12
   have hr : stepS s = upStep s := by unfold stepS; rw [if_pos hR, if_pos hm3]
   refine xU ?_
   refine xOl ?_
   refine xC (ct126 g s hs hR) ?_ (he := by simp [row_rows, Function.comp_def]; exact .mk) (hi := by simp [oStt]; exact .mk)
   refine xO2 ?_
   refine xOs ?_
   refine xH [2,3] ?_
   refine W_ret (end_ret (by simp [Tryz.f56]; exact .mk) (by simp; exact .mk) ?_ (by simp [oStt]))
   first | (simp [Tryz.f56, hr, oStt, ownR]; done) | (simp [Tryz.f56, hr, oStt, zStt, ownR]; done)
 intro h12
 have hn3 : ¬ s.mode = 3 := by simpa using h12
 refine xU ?_
 refine xO2 ?_
 refine xQ [1,2,18] ?_ ?_
 · intro h18
   have hm4 : s.mode = 4 := by simpa using h18
   have hr : stepS s = downStep s := by unfold stepS; rw [if_pos hR, if_neg hn3, if_pos hm4]
   refine xU ?_
   refine xOl ?_
   refine xC (ct127 g s hs hR) ?_ (he := by simp [row_rows, Function.comp_def]; exact .mk) (hi := by simp [oStt]; exact .mk)
   refine xO2 ?_
   refine xOs ?_
   refine xH [2,3] ?_
   refine W_ret (end_ret (by simp [Tryz.f56]; exact .mk) (by simp; exact .mk) ?_ (by simp [oStt]))
   first | (simp [Tryz.f56, hr, oStt, ownR]; done) | (simp [Tryz.f56, hr, oStt, zStt, ownR]; done)
 intro h18
 have hn4 : ¬ s.mode = 4 := by simpa using h18
 have hr : stepS s = (zStt, 12) := by unfold stepS; rw [if_pos hR, if_neg hn3, if_neg hn4]
 refine W_skip ?_
 refine xT ?_
 iterate 2 (refine xOs ?_)
 refine xH [2,3] ?_
 refine W_ret (end_ret (by simp [Tryz.f56]; exact .mk) (by simp; exact .mk) ?_ (by simp [oStt]))
 first | (simp [Tryz.f56, hr, oStt, ownR]; done) | (simp [Tryz.f56, hr, oStt, zStt, ownR]; done)

theorem ct52 (g : Gl) (s : Stt) (hs : s.Ok) : CtAt Tryz.prog g 52 [eStt s] (.tup [oStt (endS s).1, vI ((endS s).2.1 : Nat), vI (endS s).2.2]) := by
 refine xA Tryz.func52 fun B S => ?_
 simp only [eStt, List.map, argD_agg, argD_v]
 have hnot : ¬ (0 < 0 ∧ movingS s = false) := fun q => absurd q.1 (Nat.lt_irrefl 0)
 obtain ⟨f0, hf0⟩ : ∃ f, needE 0 s = f + 1 := ⟨needE 0 s - 1, by have := need_pos (n := 0) (s := s); omega⟩
 refine xU ?_
 refine xO4 ?_
 refine xF [1,2] ?_
 refine W_seq ?_
 have c56 := ct56 g s hs
 obtain ⟨T, hT⟩ : ∃ X, X = (stepS s).1 := ⟨_, rfl⟩
 have hTo : T.Ok := by rw [hT]; exact stepS_Ok hs
 rw [← hT] at c56
 refine xY ?_
 refine xOl ?_
 refine xC (c56) ?_ (he := by simp [row_rows, Function.comp_def]; exact .mk) (hi := by simp [oStt]; exact .mk)
 refine xO4 ?_
 refine xOs ?_
 refine xH [2,5,6] ?_
 refine W_seq (xU ?_)
 refine xO2 ?_
 refine xQ [2,5,6,16] ?_ ?_
 · intro h16
   have he : (stepS s).2 ≠ 0 := by simpa using h16
   have hr : endS s = (zStt, 0, (stepS s).2) := by unfold endS; rw [hf0, endF_err hnot he]
   refine xU ?_
   refine xOs ?_
   refine xO ?_
   refine xOs ?_
   refine xH2 [2,3,4] ?_
   refine W_ret (end_ret (by simp [Tryz.f52]; exact .mk) (by simp; exact .mk) ?_ (by simp [oStt]))
   first | (simp [Tryz.f52, hr, oStt, ownR]; done) | (simp [Tryz.f52, hr, oStt, zStt, ownR]; done)
 intro h16
 have he : (stepS s).2 = 0 := by simpa using h16
 obtain ⟨n1, n2⟩ := end_next hnot he
 have hRs := (step_ok he).1
 have hn1 := need_le (n := 0) hRs
 rw [← hT, Nat.zero_add] at n1 n2
 have hend : endF (needE 1 T) 1 T = endS s := by rw [← n1]; rfl
 refine W_skip ?_
 refine xT ?_
 refine xH [2,5,7] ?_
 refine W_seq (W_block ?_)
 refine W_rounds (fun m σ o => ∃ (n : Nat) (t : Stt), m = needE n t ∧ t.Ok ∧ endF (needE n t) n t = endS s ∧ 0 < n ∧ n + needE n t ≤ needE 0 s ∧ σ = slots [(2, .ptr 1 0 0), (5, .ptr 5 0 0), (7, .d (vI n))] ∧ o = [.var 28 [.d (vI s.sh.pages), .d (vI s.sh.slots), .d (vI s.sh.roots), .d (vI s.sh.room), .d (vI s.mode), .d (vI s.base), .d (rSl s.slots), .d (rR s.roots), .d (rBB s.data)], .var 28 [.d (vI 0), .d (vI 0), .d (vI 0), .d (vI 0), .d (vI 0), .d (vI 0), .d (.v (.slice none 0 0)), .d (.v (.slice none 0 0)), .d (.v (.slice none 0 0))], .row 5 (t.slots.map eSlot), .row 3 (t.roots.map eRoot), .row 1 (t.data.map oB), .var 28 [.d (vI t.sh.pages), .d (vI t.sh.slots), .d (vI t.sh.roots), .d (vI t.sh.room), .d (vI t.mode), .d (vI t.base), .hdr 2 0 t.slots.length, .hdr 3 0 t.roots.length, .hdr 4 0 t.data.length]]) (needE 1 T) .refl ⟨1, T, rfl, hTo, hend, by omega, by omega, rfl, rfl⟩ ?_
 rintro m σ o ⟨n, t, rfl, hto, hinv, hn0, hle, rfl, rfl⟩ _
 refine W_seq (xU ?_)
 refine xO ?_
 refine xOl ?_
 refine xO2 ?_
 refine xI ?_
 refine xI ?_ (h := fun hb => by simp [eSlot]; exact .mk)
 refine xI ?_
 refine xP ?_
 refine xQ [2,5,7,26] ?_ ?_
 · intro h26
   have hnot2 : ¬ (0 < n ∧ movingS t = false) := by simp [movingS]; simp at h26; omega
   refine W_skip fun _ => ?_
   refine W_block (W_seq ?_)
   have c56t := ct56 g t hto
   obtain ⟨U, hU⟩ : ∃ X, X = (stepS t).1 := ⟨_, rfl⟩
   have hUo : U.Ok := by rw [hU]; exact stepS_Ok hto
   rw [← hU] at c56t
   refine xY ?_
   refine xOl ?_
   refine xC (c56t) ?_ (he := by simp [row_rows, Function.comp_def]; exact .mk) (hi := by simp [oStt]; exact .mk)
   refine xO4 ?_
   refine xOs ?_
   refine xH [2,5,7,8,9] ?_
   refine W_seq (xU ?_)
   refine xO2 ?_
   refine xQ [2,5,7,8,9,33] ?_ ?_
   · intro h33
     have he2 : (stepS t).2 ≠ 0 := by simpa using h33
     obtain ⟨f, hf⟩ : ∃ f, needE n t = f + 1 := ⟨needE n t - 1, by have := need_pos (n := n) (s := t); omega⟩
     have hr : endS s = (zStt, n, (stepS t).2) := by rw [← hinv, hf, endF_err hnot2 he2]
     refine xU ?_
     refine xOs ?_
     refine xO2 ?_
     refine xOs ?_
     refine xH2 [2,3,4] ?_
     refine W_ret (end_ret (by simp [Tryz.f52]; exact .mk) (by simp; exact .mk) ?_ (by simp [oStt]))
     first | (simp [Tryz.f52, hr, oStt, ownR]; done) | (simp [Tryz.f52, hr, oStt, zStt, ownR]; done)
   intro h33
   have he2 : (stepS t).2 = 0 := by simpa using h33
   obtain ⟨m1, m2⟩ := end_next hnot2 he2
   rw [← hU] at m1 m2
   refine W_skip ?_
   refine xT ?_
   refine xOl ?_
   refine xOs ?_
   refine xF [2,5,7] ?_
   refine xY ?_
   refine xO3 ?_
   refine xE [2,5,7] ?_
   refine rounds_kill [2,5,7] ?_
   refine rounds_kills [2,5,7] rfl ?_
   refine rounds_swap 2 6 3 (by decide) (by simp) (by decide) rfl rfl ?_
   refine rounds_drop 6 [2,5,7] (by decide) (by rfl) (by rfl) ?_
   refine rounds_next (m' := needE (n + 1) U) (by omega) ⟨n + 1, U, rfl, hUo, by rw [← m1]; exact hinv, by omega, by omega, ?_, rfl⟩
   rw [wrap64 (by omega) (by omega)]; rfl
 intro h26
 have hv : movingS t = false := by simp [movingS]; simp at h26; omega
 obtain ⟨f, hf⟩ : ∃ f, needE n t = f + 1 := ⟨needE n t - 1, by have := need_pos (n := n) (s := t); omega⟩
 have hr : endS s = (t, n, 0) := by rw [← hinv, hf, endF_stop ⟨hn0, hv⟩]
 refine W_exit (xT ?_)
 refine xOl ?_
 refine xO ?_
 refine xOs ?_
 refine xH2 [2,3,4] ?_
 refine W_ret (end_ret (by simp [Tryz.f52]; exact .mk) (by simp; exact .mk) ?_ (by simp [oStt]))
 first | (simp [Tryz.f52, hr, oStt, ownR]; done) | (simp [Tryz.f52, hr, oStt, zStt, ownR]; done)

open Go.Awp
theorem ct59 (g : Gl) (s : Stt) (hp : -2^40 ≤ s.sh.pages ∧ s.sh.pages ≤ 2^40) : CtAt Tryz.prog g 59 [eStt s] (vI (boundS s)) := by
 refine xA Tryz.func59 fun B S => ?_
 simp only [eStt, List.map, argD_agg, argD_v]
 have e1 : IntKind.i64.wrap (9 * s.sh.pages) = 9 * s.sh.pages := wrap64 (by omega) (by omega)
 have e2 : IntKind.i64.wrap (9 * s.sh.pages + 1) = 9 * s.sh.pages + 1 := wrap64 (by omega) (by omega)
 have e3 : IntKind.i64.wrap (15 * s.sh.pages) = 15 * s.sh.pages := wrap64 (by omega) (by omega)
 have e4 : IntKind.i64.wrap (15 * s.sh.pages + 1) = 15 * s.sh.pages + 1 := wrap64 (by omega) (by omega)
 refine xU ?_
 refine xH2 [1] ?_
 refine W_seq (xU ?_)
 refine xH2 [1,4] ?_
 refine W_block (xU ?_)
 refine xO2 ?_
 refine xQ [1,4,5] ?_ ?_
 · intro h5
   refine xU ?_
   iterate 6 refine xO ?_
   refine xF [2] ?_
   refine W_ret (xR (by simp [Tryz.f59]; exact .mk) ?_)
   first | (simp [Tryz.f59, boundS, *]; done) | (simp [Tryz.f59, boundS] at *; grind)
 intro h5
 refine xU ?_
 refine xO2 ?_
 refine xQ [1,12] ?_ ?_
 · intro h12
   refine xU ?_
   iterate 6 refine xO ?_
   refine xF [2] ?_
   refine W_ret (xR (by simp [Tryz.f59]; exact .mk) ?_)
   first | (simp [Tryz.f59, boundS, *]; done) | (simp [Tryz.f59, boundS] at *; grind)
 intro h12
 refine W_skip ?_
 refine xT ?_
 refine xH [2] ?_
 refine W_ret (xR (by simp [Tryz.f59]; exact .mk) ?_)
 first | (simp [Tryz.f59, boundS, *]; done) | (simp [Tryz.f59, boundS] at *; grind)

theorem ct57 (g : Gl) (s : Stt) (hs : s.Ok) (up : Bool) : CtAt Tryz.prog g 57 [eStt s, vT up] (.tup [oStt (startS s up).1, vI (startS s up).2]) := by
 refine xA Tryz.func57 fun B S => ?_
 simp only [eStt, List.map, argD_agg, argD_v]
 refine xU ?_
 refine xO3 ?_
 refine xG [1,2,4] ?_
 refine xOl ?_
 refine xC (ct33 g s hs) ?_ (he := by simp [row_rows, Function.comp_def]; exact .mk) (hi := by simp [oStt]; exact .mk)
 refine xH [1,2,4,6] ?_
 refine W_seq (xU ?_)
 refine xO2 ?_
 refine xQ [1,2,4,14] ?_ ?_
 · intro h14
   have hR : sttS s = false := by simpa using h14
   have hr : startS s up = (zStt, 1) := by unfold startS; rw [if_pos hR]
   refine xU ?_
   iterate 2 (refine xOs ?_)
   refine xH [4,5] ?_
   refine W_ret (end_ret (by simp [Tryz.f57]; exact .mk) (by simp; exact .mk) ?_ (by simp [oStt]))
   first | (simp [Tryz.f57, hr, oStt, ownR, toM]; done) | (simp [Tryz.f57, hr, oStt, zStt, ownR, toM]; done) | (simp [Tryz.f57, hr, oStt, zStt, ownR, turnS]; done)
 intro h14
 have hR : sttS s = true := by simpa using h14
 have hRf : ¬ sttS s = false := by rw [hR]; simp
 have hT3 : turnS s 3 0 = { s with mode := 3 } := by simp [turnS]
 have hT4 : turnS s 4 0 = { s with mode := 4 } := by simp [turnS]
 have c3 := ct52 g (turnS s 3 0) (turn_ok hs)
 have c4 := ct52 g (turnS s 4 0) (turn_ok hs)
 obtain ⟨E3, hE3⟩ : ∃ E, E = endS (turnS s 3 0) := ⟨_, rfl⟩
 obtain ⟨E4, hE4⟩ : ∃ E, E = endS (turnS s 4 0) := ⟨_, rfl⟩
 rw [← hE3, hT3] at c3
 rw [← hE4, hT4] at c4
 refine W_skip ?_
 refine xT ?_
 refine xOl ?_
 refine xC (ct21 g s hs) ?_ (he := by simp [row_rows, Function.comp_def]; exact .mk) (hi := by simp [oStt]; exact .mk)
 refine xO ?_
 refine xOs ?_
 refine xF [1,2,4,7] ?_
 refine W_seq (xU ?_)
 refine xO2 ?_
 refine xI ?_
 refine xI ?_ (h := fun hb => by simp [eSlot]; exact .mk)
 refine xI ?_
 refine xP ?_
 refine xQ [1,2,4,7,23] ?_ ?_
 · intro h23
   obtain ⟨rfl, hm⟩ : up = true ∧ s.mode = 1 := by simpa using h23
   have hn : ¬ s.mode ≠ fromM true := by simp [fromM, hm]
   have hr0 : startS s true = if E3.2.2 ≠ 0 then (zStt, E3.2.2) else (turnS s 3 0, 0) := by unfold startS; rw [if_neg hRf, if_neg hn, hE3]; rfl
   refine xY ?_
   refine xO ?_
   refine xOs ?_
   refine xG [4,7] ?_
   refine xOl ?_
   refine run_call0 rfl rfl rfl rfl (by simp; exact .mk) (by simp [row_rows, Function.comp_def]; exact .mk) (by first | exact c3 | exact c4) (by simp) (by simp [oStt]; exact .mk) ?_
   refine xO5 ?_
   refine xOs ?_
   refine xH2 [4,7,10] ?_
   refine W_seq (xU ?_)
   refine xO2 ?_
   refine xQ [4,7,10,41] ?_ ?_
   · intro h41
     first
     | (have he : E3.2.2 ≠ 0 := by (simpa using h41)
        have hr : startS s true = (zStt, E3.2.2) := by rw [hr0, if_pos he])
     | (have he : E4.2.2 ≠ 0 := by (simpa using h41)
        have hr : startS s false = (zStt, E4.2.2) := by rw [hr0, if_pos he])
     refine xU ?_
     refine xOs ?_
     refine xO ?_
     refine xOs ?_
     refine xH [4,5] ?_
     refine W_ret (end_ret (by simp [Tryz.f57]; exact .mk) (by simp; exact .mk) ?_ (by simp [oStt]))
     first | (simp [Tryz.f57, hr, oStt, ownR, toM]; done) | (simp [Tryz.f57, hr, oStt, zStt, ownR, toM]; done) | (simp [Tryz.f57, hr, oStt, zStt, ownR, turnS]; done)
   intro h41
   first
   | (have he : ¬ E3.2.2 ≠ 0 := by (simpa using h41)
      have hr : startS s true = (turnS s 3 0, 0) := by rw [hr0, if_neg he])
   | (have he : ¬ E4.2.2 ≠ 0 := by (simpa using h41)
      have hr : startS s false = (turnS s 4 0, 0) := by rw [hr0, if_neg he])
   refine W_skip ?_
   refine xT ?_
   refine xOl ?_
   refine xOs ?_
   refine xH [4,5] ?_
   refine W_ret (end_ret (by simp [Tryz.f57]; exact .mk) (by simp; exact .mk) ?_ (by simp [oStt]))
   first | (simp [Tryz.f57, hr, oStt, ownR, toM]; done) | (simp [Tryz.f57, hr, oStt, zStt, ownR, toM]; done) | (simp [Tryz.f57, hr, oStt, zStt, ownR, turnS]; done)
 intro h23
 refine xU ?_
 refine xO3 ?_
 refine xI ?_
 refine xI ?_ (h := fun hb => by simp [eSlot]; exact .mk)
 refine xI ?_
 refine xP ?_
 refine xQ [4,7,31] ?_ ?_
 · intro h31
   obtain ⟨rfl, hm⟩ : up = false ∧ s.mode = 2 := by simpa using h31
   have hn : ¬ s.mode ≠ fromM false := by simp [fromM, hm]
   have hr0 : startS s false = if E4.2.2 ≠ 0 then (zStt, E4.2.2) else (turnS s 4 0, 0) := by unfold startS; rw [if_neg hRf, if_neg hn, hE4]; rfl
   refine xY ?_
   refine xO ?_
   refine xOs ?_
   refine xG [4,7] ?_
   refine xOl ?_
   refine run_call0 rfl rfl rfl rfl (by simp; exact .mk) (by simp [row_rows, Function.comp_def]; exact .mk) (by first | exact c3 | exact c4) (by simp) (by simp [oStt]; exact .mk) ?_
   refine xO5 ?_
   refine xOs ?_
   refine xH2 [4,7,10] ?_
   refine W_seq (xU ?_)
   refine xO2 ?_
   refine xQ [4,7,10,41] ?_ ?_
   · intro h41
     first
     | (have he : E3.2.2 ≠ 0 := by (simpa using h41)
        have hr : startS s true = (zStt, E3.2.2) := by rw [hr0, if_pos he])
     | (have he : E4.2.2 ≠ 0 := by (simpa using h41)
        have hr : startS s false = (zStt, E4.2.2) := by rw [hr0, if_pos he])
     refine xU ?_
     refine xOs ?_
     refine xO ?_
     refine xOs ?_
     refine xH [4,5] ?_
     refine W_ret (end_ret (by simp [Tryz.f57]; exact .mk) (by simp; exact .mk) ?_ (by simp [oStt]))
     first | (simp [Tryz.f57, hr, oStt, ownR, toM]; done) | (simp [Tryz.f57, hr, oStt, zStt, ownR, toM]; done) | (simp [Tryz.f57, hr, oStt, zStt, ownR, turnS]; done)
   intro h41
   first
   | (have he : ¬ E3.2.2 ≠ 0 := by (simpa using h41)
      have hr : startS s true = (turnS s 3 0, 0) := by rw [hr0, if_neg he])
   | (have he : ¬ E4.2.2 ≠ 0 := by (simpa using h41)
      have hr : startS s false = (turnS s 4 0, 0) := by rw [hr0, if_neg he])
   refine W_skip ?_
   refine xT ?_
   refine xOl ?_
   refine xOs ?_
   refine xH [4,5] ?_
   refine W_ret (end_ret (by simp [Tryz.f57]; exact .mk) (by simp; exact .mk) ?_ (by simp [oStt]))
   first | (simp [Tryz.f57, hr, oStt, ownR, toM]; done) | (simp [Tryz.f57, hr, oStt, zStt, ownR, toM]; done) | (simp [Tryz.f57, hr, oStt, zStt, ownR, turnS]; done)
 intro h31
 have hr : startS s up = (zStt, 12) := by unfold startS; rw [if_neg hRf, if_pos (by cases up <;> simp [fromM] at h23 h31 ⊢ <;> omega)]
 refine xU ?_
 iterate 2 (refine xOs ?_)
 refine xH [4,5] ?_
 refine W_ret (end_ret (by simp [Tryz.f57]; exact .mk) (by simp; exact .mk) ?_ (by simp [oStt]))
 first | (simp [Tryz.f57, hr, oStt, ownR, toM]; done) | (simp [Tryz.f57, hr, oStt, zStt, ownR, toM]; done) | (simp [Tryz.f57, hr, oStt, zStt, ownR, turnS]; done)

open Go.Awp
theorem in67 (g : Gl) (os tl : List Awp.Obj) (xs : List (List UInt8)) (ho : objsFix os = true) (ht : objsFix tl = true) (hlo : objsLt (os.length + 1 + tl.length) os = true) (hlt : objsLt (os.length + 1 + tl.length) tl = true) (hl : xs.length ≤ 2^40) : ∀ B S, CallsA Tryz.prog g B S ⟨(os ++ Awp.Obj.row 1 (xs.map oB) :: tl).length, false⟩ 67 [.hdr os.length 0 xs.length] (os ++ .row 1 (xs.map oB) :: tl) (fun x r => x = .dead ∧ r = os ++ .dead :: tl) := by
 refine callsA_at Tryz.func67 rfl (Nat.le_of_ble_eq_true rfl) fun B S => ?_
 refine W_nest os.length (xs := xs.map oB) (by simp) (fun x hx => ?_) fun L0 hL0 hall0 => ?_
 · obtain ⟨b, _, rfl⟩ := List.mem_map.1 hx
   exact ⟨b.map fun b => .int .u8 b.toNat, by simp [ownR]⟩
 rw [show (os ++ Awp.Obj.row 1 (xs.map oB) :: tl).set os.length (.nest L0) = os ++ .nest L0 :: tl from by simp]
 have hL1 : L0.length = xs.length := by simpa using hL0
 have hrow0 : ∀ j, j < xs.length → ∃ l c f, L0[j]? = some (.row l c f) := fun j hj => by
  have hj2 : j < L0.length := by omega
  have := List.all_eq_true.1 hall0 L0[j] (List.getElem_mem hj2)
  rw [List.getElem?_eq_getElem hj2]
  cases hq : L0[j] with
  | row l c f => exact ⟨l, c, f, rfl⟩
  | raw v => rw [hq] at this; cases this
 refine xU ?_
 refine xH [0] ?_
 refine W_seq (xU ?_)
 refine xH [0,3] ?_
 refine W_block (W_rounds (fun m σ o => ∃ (i : Nat) (T : List Awp.Obj) (L : List NE), m = xs.length - i ∧ i ≤ xs.length ∧ ((∃ ds, tl ++ ds = T) ∧ objsFix T = true ∧ L.length = xs.length ∧ (∀ j, j < xs.length → ∃ l c f, L[j]? = some (.row l c f))) ∧ (∀ j, j < i → ∃ l c, L[j]? = some (.row l c true)) ∧ σ = slots [(0, .hdr os.length 0 xs.length), (3, .d (vI i))] ∧ o = os ++ .nest L :: T) xs.length .refl ⟨0, tl, L0, by simp, by simp, ⟨⟨[], by simp⟩, ht, hL1, hrow0⟩, by simp, rfl, rfl⟩ ?_)
 rintro m σ o ⟨i, T, L, rfl, hi, ⟨⟨ds, hTd⟩, hT, hLl, hrow⟩, hfull, rfl, rfl⟩ _
 refine W_seq (xU ?_)
 refine xO4 ?_
 refine xQ [0,3,12] ?_ ?_
 · intro h12
   have hi2 : i < xs.length := by simpa using h12
   refine W_skip fun _ => ?_
   refine W_seq (W_block ?_)
   refine W_seq ?_
   obtain ⟨len, cap, full, hLi⟩ := hrow i (by omega)
   refine W_nopen os.length i (L := L) (len := len) (cap := cap) (full := full) rfl (by simp) hLi (by simp) (by simp [fix_append, ho, hT]) fun zs hz1 hz2 hlc hcm => ?_
   rw [show (os ++ Awp.Obj.nest L :: T).set os.length (.nhole i (os ++ Awp.Obj.nest L :: T).length len L) ++ [.grow cap zs] = os ++ .nhole i (os.length + (T.length + 1)) len L :: (T ++ [.grow cap zs]) from by simp]
   have hcb : (cap : Int) ≤ cap := Int.le_refl _
   refine W_regD (by kernel_rfl) [] 4 [0,1,2,3,4,5,6,7,8,9,10] (by decide +kernel) ?_
   refine xO2 ?_
   refine xO ?_ (h := by simp [hi2]; exact .mk)
   refine xO3 ?_
   refine xO ?_ (h := by simp [hi2]; exact .mk)
   refine xO2 ?_
   refine xO ?_ (h := by simp [optA, *]; exact .mk)
   refine xO ?_
   refine xG [0,3,4] ?_
   refine xH [0,3,4,5] ?_
   refine W_block (W_rounds (fun m σ o => ∃ (k : Nat) (zs : List Int), m = cap - k ∧ k ≤ cap ∧ k ≤ zs.length ∧ zs.length ≤ cap ∧ σ = slots [(0, .hdr os.length 0 xs.length), (3, .d (vI i)), (4, .hdr (os.length + (T.length + 1)) 0 cap), (5, .d (vI k))] ∧ o = os ++ .nhole i (os.length + (T.length + 1)) len L :: (T ++ [.grow cap zs])) cap .refl ⟨0, zs, by simp, by simp, by simp, by cases full <;> simp_all, by simp, by simp⟩ ?_)
   clear hz1 hz2
   rintro m σ o ⟨k, zs, rfl, hk, hkz, hzc, rfl, rfl⟩ _
   refine W_seq (xU ?_)
   refine xO4 ?_
   refine xQ [0,3,4,5,28] ?_ ?_
   · intro h28
     have hk2 : k < cap := by simpa using h28
     refine W_skip fun _ => ?_
     refine W_seq (W_block ?_)
     refine xY ?_
     refine xO4 ?_
     refine xO ?_ (h := by simp [convA]; exact .mk)
     refine xO ?_ (h := by simp [hk2]; exact .mk)
     refine xO ?_ (h := by simp [splice, hk2, hkz, isIntTy]; exact .mk)
     refine xF [0,3,4,5] ?_
     refine xY ?_
     refine xO3 ?_
     refine xE [0,3,4,5] ?_
     refine rounds_kill [0,3,4,5] ?_
     refine rounds_next (m' := cap - (k+1)) (by omega) ⟨k+1, _, rfl, by omega, ?_, ?_, ?_, rfl⟩
     · simp; omega
     · simp; omega
     rw [wrap64 (by have := hcm; simp [maxLen] at this; omega) (by have := hcm; simp [maxLen] at this; omega)]; rfl
   intro h28
   have hkc : k = cap := by simp at h28; omega
   have hzl : zs.length = cap := by omega
   refine W_exit ?_
   rintro -
   refine xY ?_
   refine xO3 ?_
   refine xE [0,3] ?_
   refine rounds_kill [0,3] ?_
   refine rounds_kills [0,3] rfl ?_
   refine rounds_weak (Weak.nclose os.length (i := i) (r' := os.length + (T.length + 1)) (len := len) (c := cap) (L := L) (zs := zs) true (by simp) (by simp) (fun _ => hzl)) ?_
   refine rounds_next (m' := xs.length - (i+1)) (by omega) ⟨i+1, T ++ [.dead], L.set i (.row len cap true), rfl, by omega, ⟨⟨ds ++ [.dead], by rw [← hTd, List.append_assoc]⟩, by simp [fix_append, hT], by simpa using hLl, fun j hj => ?_⟩, fun j hj => ?_, ?_, by simp⟩
   · by_cases e : i = j
     · subst e; exact ⟨len, cap, true, by simp [hLl, hj]⟩
     obtain ⟨a, b, c, h⟩ := hrow j hj
     exact ⟨a, b, c, by rw [List.getElem?_set_ne e]; exact h⟩
   · by_cases e : i = j
     · subst e; exact ⟨len, cap, by simp [hLl, hi2]⟩
     obtain ⟨a, b, h⟩ := hfull j (by omega)
     exact ⟨a, b, by rw [List.getElem?_set_ne e]; exact h⟩
   rw [wrap64 (by omega) (by omega)]; rfl
 intro h12
 have hii : i = xs.length := by simp at h12; omega
 rw [hii] at hfull
 clear hi hii
 refine W_exit ?_
 rintro -
 refine W_seq (xU ?_)
 refine xH [0,6] ?_
 refine W_block (W_rounds (fun m σ o => ∃ (i : Nat) (T : List Awp.Obj) (L : List NE), m = xs.length - i ∧ i ≤ xs.length ∧ ((∃ ds, tl ++ ds = T) ∧ objsFix T = true ∧ L.length = xs.length ∧ (∀ j, j < xs.length → ∃ l c f, L[j]? = some (.row l c f))) ∧ (∀ j, j < xs.length → ∃ l c, L[j]? = some (.row l c true)) ∧ σ = slots [(0, .hdr os.length 0 xs.length), (6, .d (vI i))] ∧ o = os ++ .nest L :: T) xs.length .refl ⟨0, T, L, by simp, by simp, ⟨⟨ds, hTd⟩, hT, hLl, hrow⟩, hfull, rfl, rfl⟩ ?_)
 rintro m σ o ⟨i, T, L, rfl, hi, ⟨⟨ds, hTd⟩, hT, hLl, hrow⟩, hfull, rfl, rfl⟩ _
 refine W_seq (xU ?_)
 refine xO4 ?_
 refine xQ [0,6,40] ?_ ?_
 · intro h40
   have hi2 : i < xs.length := by simpa using h40
   refine W_skip fun _ => ?_
   refine W_seq (W_block ?_)
   refine W_seq ?_
   obtain ⟨len, cap, hLi⟩ := hfull i (by omega)
   refine W_nopen os.length i (L := L) (len := len) (cap := cap) (full := true) rfl (by simp) hLi (by simp) (by simp [fix_append, ho, hT]) fun zs hz1 hz2 hlc hcm => ?_
   rw [show (os ++ Awp.Obj.nest L :: T).set os.length (.nhole i (os ++ Awp.Obj.nest L :: T).length len L) ++ [.grow cap zs] = os ++ .nhole i (os.length + (T.length + 1)) len L :: (T ++ [.grow cap zs]) from by simp]
   have hcb : (cap : Int) ≤ cap := Int.le_refl _
   refine W_regD (by kernel_rfl) [] 4 [0,1,2,3,4,5,6,7,8,9,10] (by decide +kernel) ?_
   refine xO2 ?_
   refine xO ?_ (h := by simp [hi2]; exact .mk)
   refine xO3 ?_
   refine xO ?_ (h := by simp [hi2]; exact .mk)
   refine xO2 ?_
   refine xO ?_ (h := by simp [optA, *]; exact .mk)
   refine xO ?_
   refine xG [0,6,7] ?_
   refine xH [0,6,7,8] ?_
   refine W_block ?_
   have hzl : zs.length = cap := hz1 rfl
   refine W_rounds (fun m σ o => ∃ (k : Nat), m = cap - k ∧ k ≤ cap ∧ σ = slots [(0, .hdr os.length 0 xs.length), (6, .d (vI i)), (7, .hdr (os.length + (T.length + 1)) 0 cap), (8, .d (vI k))] ∧ o = os ++ .nhole i (os.length + (T.length + 1)) len L :: (T ++ [.grow cap zs])) cap .refl ⟨0, by simp, by simp, by simp, by simp⟩ ?_
   rintro m σ o ⟨k, rfl, hk, rfl, rfl⟩ _
   refine W_seq (xU ?_)
   refine xO4 ?_
   refine xQ [0,6,7,8,56] ?_ ?_
   · intro h56
     have hk2 : k < cap := by simpa using h56
     have hk3 : k < zs.length := by omega
     refine W_skip fun _ => ?_
     refine W_seq (W_block ?_)
     refine xU ?_
     refine xO2 ?_
     refine xO ?_ (h := by simp [hk2]; exact .mk)
     refine xO ?_ (h := by simp [hk3]; exact .mk)
     refine xO2 ?_
     refine xO ?_ (h := by simp [convA, isIntTy]; exact .mk)
     refine xO ?_
     refine xQ [0,6,7,8,66] ?_ ?_
     · intro h66
       refine W_weak (s2 := slots []) (objs2 := os ++ .dead :: (T ++ [.grow cap zs])) (Weak.trans (Weak.kills [] rfl) (by have := Weak.objDead (B := B) (S := S) (n := Tryz.f67.ntmps) (fl := ⟨(os ++ Awp.Obj.row 1 (xs.map oB) :: tl).length, false⟩) (s := slots []) (objs := os ++ .nhole i (os.length + (T.length + 1)) len L :: (T ++ [.grow cap zs])) os.length; simpa using this) (fun _ _ _ h1 h2 => by rw [← h1.len]; exact h2)) ?_
       obtain ⟨dd, hdd⟩ : ∃ dd, T ++ [.grow cap zs] = tl ++ dd := ⟨ds ++ [.grow cap zs], by rw [← hTd]; simp⟩
       rw [hdd]
       refine xU ?_
       refine xH [] ?_
       refine W_ret ?_
       exact endAt_tail os tl dd (by simp [Tryz.f67]; exact .mk) rfl rfl (by simp; omega) rfl rfl hlo hlt
     intro h66
     refine W_skip fun _ => ?_
     refine xY ?_
     refine xO3 ?_
     refine xE [0,6,7,8] ?_
     refine rounds_kill [0,6,7,8] ?_
     refine rounds_next (m' := cap - (k+1)) (by omega) ⟨k+1, rfl, by omega, ?_, rfl⟩
     rw [wrap64 (by have := hcm; simp [maxLen] at this; omega) (by have := hcm; simp [maxLen] at this; omega)]; rfl
   intro h56
   refine W_exit ?_
   rintro -
   refine xY ?_
   refine xO3 ?_
   refine xE [0,6] ?_
   refine rounds_kill [0,6] ?_
   refine rounds_kills [0,6] rfl ?_
   refine rounds_weak (Weak.nclose os.length (i := i) (r' := os.length + (T.length + 1)) (len := len) (c := cap) (L := L) (zs := zs) true (by simp) (by simp) (fun _ => hzl)) ?_
   refine rounds_next (m' := xs.length - (i+1)) (by omega) ⟨i+1, T ++ [.dead], L.set i (.row len cap true), rfl, by omega, ⟨⟨ds ++ [.dead], by rw [← hTd, List.append_assoc]⟩, by simp [fix_append, hT], by simpa using hLl, fun j hj => ?_⟩, fun j hj => ?_, ?_, by simp⟩
   · by_cases e : i = j
     · subst e; exact ⟨len, cap, true, by simp [hLl, hj]⟩
     obtain ⟨a, b, c, h⟩ := hrow j hj
     exact ⟨a, b, c, by rw [List.getElem?_set_ne e]; exact h⟩
   · by_cases e : i = j
     · subst e; exact ⟨len, cap, by simp [hLl, hj]⟩
     obtain ⟨a, b, h⟩ := hfull j (by omega)
     exact ⟨a, b, by rw [List.getElem?_set_ne e]; exact h⟩
   rw [wrap64 (by omega) (by omega)]; rfl
 intro h40
 refine W_weak (s2 := slots []) (objs2 := os ++ .dead :: T) (Weak.trans (Weak.kills [] rfl) (by have := Weak.objDead (B := B) (S := S) (n := Tryz.f67.ntmps) (fl := ⟨(os ++ Awp.Obj.row 1 (xs.map oB) :: tl).length, false⟩) (s := slots []) (objs := os ++ .nest L :: T) os.length; simpa using this) (fun _ _ _ h1 h2 => by rw [← h1.len]; exact h2)) ?_
 obtain ⟨dd, hdd⟩ : ∃ dd, T = tl ++ dd := ⟨ds, hTd.symm⟩
 rw [hdd]
 refine W_exit (xT ?_)
 refine xH [] ?_
 refine W_ret ?_
 exact endAt_tail os tl dd (by simp [Tryz.f67]; exact .mk) rfl rfl (by simp; omega) rfl rfl hlo hlt

open Go.Awp
theorem in26 (g : Gl) (os tl : List Awp.Obj) (s : Stt) (hs : s.Ok) (ho : objsFix os = true) (ht : objsFix tl = true) (hlo : objsLt (os.length + 3 + tl.length) os = true) (hlt : objsLt (os.length + 3 + tl.length) tl = true) : ∀ B S, CallsA Tryz.prog g B S ⟨(os ++ Awp.Obj.row 5 (s.slots.map eSlot) :: .row 3 (s.roots.map eRoot) :: .row 1 (s.data.map oB) :: tl).length, false⟩ 26 [.agg [.d (vI s.sh.pages), .d (vI s.sh.slots), .d (vI s.sh.roots), .d (vI s.sh.room), .d (vI s.mode), .d (vI s.base), .hdr os.length 0 s.slots.length, .hdr (os.length + 1) 0 s.roots.length, .hdr (os.length + 2) 0 s.data.length]] (os ++ Awp.Obj.row 5 (s.slots.map eSlot) :: .row 3 (s.roots.map eRoot) :: .row 1 (s.data.map oB) :: tl) (fun x r => x = .tup [] ∧ r = os ++ .dead :: .dead :: .dead :: tl) := by
 refine callsA_at Tryz.func26 rfl (Nat.le_of_ble_eq_true rfl) fun B S => ?_
 have q0 := hs.h1
 have q1 := hs.h2
 refine xU ?_
 refine xH [1] ?_
 refine W_seq (xU ?_)
 refine xH [1,2] ?_
 refine W_block (W_rounds (fun m σ o => ∃ (i : Nat) (L : List Slot), m = s.slots.length - i ∧ i ≤ s.slots.length ∧ L.length = s.slots.length ∧ σ = slots [(1, .ptr (os.length + (tl.length + 3)) 0 0), (2, .d (vI i))] ∧ o = os ++ .row 5 (L.map eSlot) :: .row 3 (s.roots.map eRoot) :: .row 1 (s.data.map oB) :: (tl ++ [.var 28 [.d (vI s.sh.pages), .d (vI s.sh.slots), .d (vI s.sh.roots), .d (vI s.sh.room), .d (vI s.mode), .d (vI s.base), .hdr os.length 0 s.slots.length, .hdr (os.length + 1) 0 s.roots.length, .hdr (os.length + 2) 0 s.data.length]])) s.slots.length .refl ⟨0, s.slots, by simp, by simp, rfl, by simp, by simp⟩ ?_)
 rintro m σ o ⟨i, L, rfl, hi, hL, rfl, rfl⟩ _
 refine W_seq (xU ?_)
 refine xO2 ?_
 refine xOl ?_
 refine xO2 ?_
 refine xQ [1,2,8] ?_ ?_
 · intro h8
   have hi2 : i < s.slots.length := by simpa using h8
   have hi3 : i < L.length := by omega
   refine W_skip fun _ => ?_
   refine W_seq (W_block ?_)
   refine xY ?_
   refine xO ?_
   refine xOl ?_
   refine xO ?_
   refine xOs ?_
   refine xO ?_ (h := by simp [eSlot, hi2]; exact .mk)
   refine xO ?_ (h := by simp [-List.getElem?_map, map_get hi3, eSlot, nrmL, nrm, putC, splice]; exact .mk)
   refine xF [1,2] ?_
   refine xY ?_
   refine xO3 ?_
   refine xE [1,2] ?_
   refine rounds_kill [1,2] ?_
   refine rounds_next (m' := s.slots.length - (i+1)) (by omega) ⟨i+1, L.set i ⟨-7, false, false, 0, 0⟩, rfl, by omega, by simpa using hL, ?_, ?_⟩
   · rw [wrap64 (by omega) (by omega)]; rfl
   rw [List.map_set]; rfl
 intro h8
 refine W_exit ?_
 rintro -
 refine W_seq (xU ?_)
 refine xH [1,3] ?_
 refine W_block (W_rounds (fun m σ o => ∃ (i : Nat) (K : List Root), m = s.roots.length - i ∧ i ≤ s.roots.length ∧ K.length = s.roots.length ∧ σ = slots [(1, .ptr (os.length + (tl.length + 3)) 0 0), (3, .d (vI i))] ∧ o = os ++ .row 5 (L.map eSlot) :: .row 3 (K.map eRoot) :: .row 1 (s.data.map oB) :: (tl ++ [.var 28 [.d (vI s.sh.pages), .d (vI s.sh.slots), .d (vI s.sh.roots), .d (vI s.sh.room), .d (vI s.mode), .d (vI s.base), .hdr os.length 0 s.slots.length, .hdr (os.length + 1) 0 s.roots.length, .hdr (os.length + 2) 0 s.data.length]])) s.roots.length .refl ⟨0, s.roots, by simp, by simp, rfl, rfl, rfl⟩ ?_)
 rintro m σ o ⟨i, K, rfl, hi, hK, rfl, rfl⟩ _
 refine W_seq (xU ?_)
 refine xO2 ?_
 refine xOl ?_
 refine xO2 ?_
 refine xQ [1,3,20] ?_ ?_
 · intro h20
   have hi2 : i < s.roots.length := by simpa using h20
   have hi3 : i < K.length := by omega
   refine W_skip fun _ => ?_
   refine W_seq (W_block ?_)
   refine xY ?_
   refine xO ?_
   refine xOl ?_
   refine xO ?_
   refine xOs ?_
   refine xO ?_ (h := by simp [eSlot, hi2]; exact .mk)
   refine xO ?_ (h := by simp [-List.getElem?_map, map_get hi3, eRoot, nrmL, nrm, putC, splice]; exact .mk)
   refine xF [1,3] ?_
   refine xY ?_
   refine xO3 ?_
   refine xE [1,3] ?_
   refine rounds_kill [1,3] ?_
   refine rounds_next (m' := s.roots.length - (i+1)) (by omega) ⟨i+1, K.set i ⟨⟨#[115,112,111,105,108,116]⟩, 0, 0⟩, rfl, by omega, by simpa using hK, ?_, ?_⟩
   · rw [wrap64 (by omega) (by omega)]; rfl
   rw [List.map_set]; rfl
 intro h20
 refine W_exit ?_
 rintro -
 refine W_weak (s2 := slots [(1, .ptr (os.length + (tl.length + 3)) 0 0)]) (objs2 := os ++ .dead :: .dead :: .row 1 (s.data.map oB) :: (tl ++ [.var 28 [.d (vI s.sh.pages), .d (vI s.sh.slots), .d (vI s.sh.roots), .d (vI s.sh.room), .d (vI s.mode), .d (vI s.base), .hdr os.length 0 s.slots.length, .hdr (os.length + 1) 0 s.roots.length, .hdr (os.length + 2) 0 s.data.length]])) (Weak.trans (Weak.kills [1] rfl) (Weak.trans (Weak.objDead os.length) (by have := Weak.objDead (B := B) (S := S) (n := Tryz.f26.ntmps) (fl := ⟨(os ++ Awp.Obj.row 5 (s.slots.map eSlot) :: .row 3 (s.roots.map eRoot) :: .row 1 (s.data.map oB) :: tl).length, false⟩) (s := slots [(1, .ptr (os.length + (tl.length + 3)) 0 0)]) (objs := (os ++ Awp.Obj.dead :: .row 3 (K.map eRoot) :: .row 1 (s.data.map oB) :: (tl ++ [.var 28 [.d (vI s.sh.pages), .d (vI s.sh.slots), .d (vI s.sh.roots), .d (vI s.sh.room), .d (vI s.mode), .d (vI s.base), .hdr os.length 0 s.slots.length, .hdr (os.length + 1) 0 s.roots.length, .hdr (os.length + 2) 0 s.data.length]]))) (os.length + 1); simpa using this) (fun _ _ _ h1 h2 => by rw [← h1.len]; exact h2)) (fun _ _ _ h1 h2 => by rw [← h1.len]; exact h2)) ?_
 have c67 := in67 g (os ++ [.dead, .dead]) (tl ++ [.var 28 [.d (vI s.sh.pages), .d (vI s.sh.slots), .d (vI s.sh.roots), .d (vI s.sh.room), .d (vI s.mode), .d (vI s.base), .hdr os.length 0 s.slots.length, .hdr (os.length + 1) 0 s.roots.length, .hdr (os.length + 2) 0 s.data.length]]) s.data (by simp [fix_append, ho]) (by simp [fix_append, ht]) (by rw [olt_append]; simp only [Bool.and_eq_true]; exact ⟨olt_mono (by simp <;> omega) hlo, rfl⟩) (by rw [olt_append]; simp only [Bool.and_eq_true]; exact ⟨olt_mono (by simp <;> omega) hlt, by simp <;> omega⟩) hs.h3
 simp only [List.append_assoc, List.cons_append, List.nil_append, List.length_append, List.length_cons, List.length_nil, Nat.zero_add, Nat.reduceAdd] at c67
 refine W_regK rfl [1002] rfl ?_
 refine xO ?_
 refine xOl ?_
 refine run_inlK rfl rfl rfl rfl (by simp; exact .mk) ⟨_, Tryz.func67, rfl, rfl⟩ (fixS_put (by simp) (fixS_put (by simp) (fixS_slots (by simp)))) (by simpa using c67) (by simp) (by decide) ?_
 refine xE [] ?_
 exact endAt_tailN os tl [.var 28 [.d (vI s.sh.pages), .d (vI s.sh.slots), .d (vI s.sh.roots), .d (vI s.sh.room), .d (vI s.mode), .d (vI s.base), .hdr os.length 0 s.slots.length, .hdr (os.length + 1) 0 s.roots.length, .hdr (os.length + 2) 0 s.data.length]] (by simp [Tryz.f26]; exact .mk) rfl (by simp) (by simp; omega) rfl rfl rfl rfl hlo hlt

open Go.Awp
theorem ct80 (g : Gl) (x y : List Slot) (hx : x.length ≤ 2^40) : CtAt Tryz.prog g 80 [rSl x, rSl y] (.v (.bool (sameL sameSlot x y))) := by
 refine xA Tryz.func80 fun B S => ?_
 refine xU ?_
 refine xH [0,1] ?_
 refine W_seq (xU ?_)
 refine xO5 ?_
 refine xQ [0,1,10] ?_ ?_
 · intro h10
   have hr : sameL sameSlot x y = false := sameL_len (by simp at h10; omega)
   refine xU ?_
   refine xH [4] ?_
   refine W_ret (xR (by simp [Tryz.f80]; exact .mk) ?_)
   simp [Tryz.f80, hr]
 intro h10
 have hxy : x.length = y.length := by simp at h10; omega
 refine W_skip fun _ => ?_
 refine W_seq (xU ?_)
 refine xH [0,1,5] ?_
 refine W_block (W_rounds (fun m σ o => ∃ i : Nat, m = x.length - i ∧ i ≤ x.length ∧ (∀ j, j < i → sameSlot (nth x j) (nth y j) = true) ∧ σ = slots [(0, .d (rSl x)), (1, .d (rSl y)), (5, .d (vI i))] ∧ o = []) x.length .refl ⟨0, by simp, by simp, by simp, rfl, rfl⟩ ?_)
 rintro m σ o ⟨i, rfl, hi, hinv, rfl, rfl⟩ _
 refine W_seq (xU ?_)
 refine xO4 ?_
 refine xQ [0,1,5,14] ?_ ?_
 · intro h14
   have h2 : i < x.length := by simpa using h14
   have h3 : i < y.length := by omega
   refine W_skip fun _ => ?_
   refine W_seq (W_block ?_)
   refine W_seq ?_
   refine W_regD (by kernel_rfl) [] 4 [0,1,2,3,4,5,6,7,8] (by decide +kernel) ?_
   refine xO2 ?_
   refine xO ?_ (h := by simp [eSlot, *]; exact .mk)
   refine xOl ?_
   refine xO2 ?_
   refine xO ?_ (h := by simp [eSlot, *]; exact .mk)
   refine xOl ?_
   refine xO ?_
   refine xQ [0,1,5,25] ?_ ?_
   · intro h25
     have hr : sameL sameSlot x y = false := sameL_bad h2 (by simp [sameSlot] at h25 ⊢; grind)
     refine xU ?_
     refine xH [4] ?_
     refine W_ret (xR (by simp [Tryz.f80]; exact .mk) ?_)
     simp [Tryz.f80, hr]
   intro h25
   refine W_skip fun _ => ?_
   refine xY ?_
   refine xO3 ?_
   refine xE [0,1,5] ?_
   refine rounds_kill [0,1,5] ?_
   refine rounds_next (m' := x.length - (i+1)) (by omega) ⟨i+1, rfl, by omega, ?_, ?_, rfl⟩
   · intro j hj
     rcases Nat.lt_succ_iff_lt_or_eq.1 hj with hj | rfl
     · exact hinv j hj
     simp [sameSlot] at h25 ⊢; grind
   rw [wrap64 (by omega) (by omega)]; rfl
 intro h14
 have hr : sameL sameSlot x y = true := sameL_good hxy (fun j hj => hinv j (by simp at h14; omega))
 refine W_exit (xT ?_)
 refine xH [4] ?_
 refine W_ret (xR (by simp [Tryz.f80]; exact .mk) ?_)
 simp [Tryz.f80, hr]

theorem ct25 (g : Gl) (s t : Stt) (hs : s.Ok) : CtAt Tryz.prog g 25 [eStt s, eStt t] (.v (.bool (sameStt s t))) := by
 refine xA Tryz.func25 fun B S => ?_
 simp only [eStt, List.map, argD_agg, argD_v]
 refine xU ?_
 refine xO3 ?_
 refine xG [2,3] ?_
 iterate 6 refine xO ?_
 iterate 5 refine xI ?_
 refine xP ?_
 refine xB ?_
 iterate 5 refine xI ?_
 refine xP ?_
 refine xB ?_
 iterate 4 refine xI ?_
 refine run_call rfl (by simp; exact .mk) rfl rfl (by simp) (by simp; exact .mk) (by simp; exact .mk) (fun hb => ct80 g _ _ hs.h1) (by simp) (by simp; exact .mk) (by simp) ?_
 refine xP ?_
 refine xB ?_
 iterate 4 refine xI ?_
 refine run_call rfl (by simp; exact .mk) rfl rfl (by simp) (by simp; exact .mk) (by simp; exact .mk) (fun hb => ct81 g _ _ hs.h2) (by simp) (by simp; exact .mk) (by simp) ?_
 refine xP ?_
 refine xB ?_
 iterate 4 refine xI ?_
 refine run_call rfl (by simp; exact .mk) rfl rfl (by simp) (by simp; exact .mk) (by simp; exact .mk) (fun hb => ct82 g _ _ hs.h3) (by simp) (by simp; exact .mk) (by simp) ?_
 refine xP ?_
 refine xB ?_
 refine xF [4] ?_
 refine W_ret (xR (by simp [Tryz.f25]; exact .mk) ?_)
 simp [Tryz.f25, sameShape, sameStt, sameB, Bool.and_assoc]

open Go.Awp
theorem ct8 (g : Gl) (s : Stt) (up : Bool) : CtAt Tryz.prog g 8 [eStt s, vT up] (.v (.bool true)) := by
 refine xA Tryz.func8 fun B S => ?_
 simp only [eStt, List.map, argD_agg, argD_v]
 refine xU ?_
 refine xO2 ?_
 refine xG [1,2] ?_
 refine xC (ct50 g) ?_ (he := by simp [row_rows, Function.comp_def]; exact .mk) (hi := by simp [oStt]; exact .mk)
 refine xO ?_
 refine xG [1,2,5] ?_
 refine xOl ?_
 refine xC (ct20 g s) ?_ (he := by simp [row_rows, Function.comp_def]; exact .mk) (hi := by simp [oStt]; exact .mk)
 refine xH [1,2,5,6] ?_
 refine W_seq (xU ?_)
 refine xO3 ?_
 iterate 2 refine xI ?_
 refine xI ?_ (h := fun hb => by simp [eSlot]; exact .mk)
 iterate 4 refine xI ?_
 refine xI ?_ (h := fun hb => by simp [eSlot]; exact .mk)
 refine xI ?_
 iterate 2 refine xP ?_
 refine xQ [1,2,5,33] ?_ ?_
 · intro h33
   refine xU ?_
   refine xH2 [4] ?_
   refine W_ret (xR (by simp [Tryz.f8]; exact .mk) ?_)
   simp [Tryz.f8]
 intro h33
 have hs := fewStt_ok (s := s) (by simp at h33; exact h33.1)
 have c55 := ct55 g s hs
 have c54 := ct54 g s hs up
 have c56 := ct56 g s hs
 have c57 := ct57 g s hs up
 obtain ⟨A, hA⟩ : ∃ A, A = (stepS s).1 := ⟨_, rfl⟩
 obtain ⟨C, hC⟩ : ∃ C, C = (startS s up).1 := ⟨_, rfl⟩
 have hAo : A.Ok := by rw [hA]; exact stepS_Ok hs
 have hCo : C.Ok := by rw [hC]; exact startS_Ok hs
 rw [← hA] at c55 c56
 rw [← hC] at c54 c57
 have cA := ct25 g A A hAo
 rw [sameStt_refl] at cA
 have cC := ct25 g C C hCo
 rw [sameStt_refl] at cC
 have cS := ct25 g s s hs
 rw [sameStt_refl] at cS
 clear hA hC
 refine W_skip ?_
 refine xT ?_
 refine xOl ?_
 refine xC (ct21 g s hs) ?_ (he := by simp [row_rows, Function.comp_def]; exact .mk) (hi := by simp [oStt]; exact .mk)
 refine xO ?_
 refine xOs ?_
 refine xG [1,2,5,7] ?_
 refine xOl ?_
 refine xC (c55) ?_ (he := by simp [row_rows, Function.comp_def]; exact .mk) (hi := by simp [oStt]; exact .mk)
 refine xO4 ?_
 refine xOs ?_
 refine xO ?_
 refine xG [1,2,5,7,8,9] ?_
 refine xOl ?_
 refine xO ?_
 refine xC (c54) ?_ (he := by simp [row_rows, Function.comp_def]; exact .mk) (hi := by simp [oStt]; exact .mk)
 refine xO4 ?_
 refine xOs ?_
 refine xO ?_
 refine xG [1,2,5,7,8,9,10,11] ?_
 refine xOl ?_
 refine xC (c56) ?_ (he := by simp [row_rows, Function.comp_def]; exact .mk) (hi := by simp [oStt]; exact .mk)
 refine xO4 ?_
 refine xOs ?_
 refine xO ?_
 refine xG [1,2,5,7,8,9,10,11,12,13] ?_
 refine xOl ?_
 refine xO ?_
 refine xC (c57) ?_ (he := by simp [row_rows, Function.comp_def]; exact .mk) (hi := by simp [oStt]; exact .mk)
 refine xO4 ?_
 refine xOs ?_
 refine xO ?_
 refine xG [2,5,7,8,9,10,11,12,13,14,15] ?_
 iterate 2 (refine xOl ?_)
 refine xC (cA) ?_ (he := by simp [row_rows, Function.comp_def]; exact .mk) (hi := by simp [oStt]; exact .mk)
 refine xO ?_
 iterate 2 (refine xI ?_ (h := fun hb => by simp [eSlot]; exact .mk))
 refine run_call rfl (by simp; exact .mk) rfl rfl (by simp) (by simp; exact .mk) (by simp [row_rows, Function.comp_def]; exact .mk) (fun hb => cC) (by simp) (by simp [oStt]; exact .mk) (by simp) ?_
 refine xP ?_
 refine xB ?_
 refine xF [2,5,7,8,9,10,11,13,15,16] ?_
 refine W_seq ?_
 have c26A := in26 g [.var 28 [.d (vI s.sh.pages), .d (vI s.sh.slots), .d (vI s.sh.roots), .d (vI s.sh.room), .d (vI s.mode), .d (vI s.base), .d (rSl s.slots), .d (rR s.roots), .d (rBB s.data)], .row 5 (s.slots.map eSlot), .row 3 (s.roots.map eRoot), .row 1 (s.data.map oB), .var 28 [.d (vI s.sh.pages), .d (vI s.sh.slots), .d (vI s.sh.roots), .d (vI s.sh.room), .d (vI s.mode), .d (vI s.base), .hdr 1 0 s.slots.length, .hdr 2 0 s.roots.length, .hdr 3 0 s.data.length]] [.var 28 [.d (vI A.sh.pages), .d (vI A.sh.slots), .d (vI A.sh.roots), .d (vI A.sh.room), .d (vI A.mode), .d (vI A.base), .hdr 5 0 A.slots.length, .hdr 6 0 A.roots.length, .hdr 7 0 A.data.length], .row 5 (C.slots.map eSlot), .row 3 (C.roots.map eRoot), .row 1 (C.data.map oB), .var 28 [.d (vI C.sh.pages), .d (vI C.sh.slots), .d (vI C.sh.roots), .d (vI C.sh.room), .d (vI C.mode), .d (vI C.base), .hdr 9 0 C.slots.length, .hdr 10 0 C.roots.length, .hdr 11 0 C.data.length], .row 5 (A.slots.map eSlot), .row 3 (A.roots.map eRoot), .row 1 (A.data.map oB), .var 28 [.d (vI A.sh.pages), .d (vI A.sh.slots), .d (vI A.sh.roots), .d (vI A.sh.room), .d (vI A.mode), .d (vI A.base), .hdr 13 0 A.slots.length, .hdr 14 0 A.roots.length, .hdr 15 0 A.data.length], .row 5 (C.slots.map eSlot), .row 3 (C.roots.map eRoot), .row 1 (C.data.map oB), .var 28 [.d (vI C.sh.pages), .d (vI C.sh.slots), .d (vI C.sh.roots), .d (vI C.sh.room), .d (vI C.mode), .d (vI C.base), .hdr 17 0 C.slots.length, .hdr 18 0 C.roots.length, .hdr 19 0 C.data.length]] A hAo (by simp) (by simp) (by simp) (by simp)
 simp only [List.cons_append, List.nil_append, List.length_cons, List.length_nil, Nat.zero_add, Nat.reduceAdd] at c26A
 refine W_regK rfl [1001] rfl ?_
 refine xOl ?_
 refine run_inlK rfl rfl rfl rfl (by simp; exact .mk) ⟨_, Tryz.func26, rfl, rfl⟩ (fixS_put (by simp) (fixS_slots (by simp))) (by simpa using c26A) (by simp) (by decide) ?_
 refine xF [2,5,7,9,10,11,13,15,16] ?_
 refine W_seq ?_
 have c26C := in26 g [.var 28 [.d (vI s.sh.pages), .d (vI s.sh.slots), .d (vI s.sh.roots), .d (vI s.sh.room), .d (vI s.mode), .d (vI s.base), .d (rSl s.slots), .d (rR s.roots), .d (rBB s.data)], .row 5 (s.slots.map eSlot), .row 3 (s.roots.map eRoot), .row 1 (s.data.map oB), .var 28 [.d (vI s.sh.pages), .d (vI s.sh.slots), .d (vI s.sh.roots), .d (vI s.sh.room), .d (vI s.mode), .d (vI s.base), .hdr 1 0 s.slots.length, .hdr 2 0 s.roots.length, .hdr 3 0 s.data.length], .dead, .dead, .dead, .var 28 [.d (vI A.sh.pages), .d (vI A.sh.slots), .d (vI A.sh.roots), .d (vI A.sh.room), .d (vI A.mode), .d (vI A.base), .hdr 5 0 A.slots.length, .hdr 6 0 A.roots.length, .hdr 7 0 A.data.length]] [.var 28 [.d (vI C.sh.pages), .d (vI C.sh.slots), .d (vI C.sh.roots), .d (vI C.sh.room), .d (vI C.mode), .d (vI C.base), .hdr 9 0 C.slots.length, .hdr 10 0 C.roots.length, .hdr 11 0 C.data.length], .row 5 (A.slots.map eSlot), .row 3 (A.roots.map eRoot), .row 1 (A.data.map oB), .var 28 [.d (vI A.sh.pages), .d (vI A.sh.slots), .d (vI A.sh.roots), .d (vI A.sh.room), .d (vI A.mode), .d (vI A.base), .hdr 13 0 A.slots.length, .hdr 14 0 A.roots.length, .hdr 15 0 A.data.length], .row 5 (C.slots.map eSlot), .row 3 (C.roots.map eRoot), .row 1 (C.data.map oB), .var 28 [.d (vI C.sh.pages), .d (vI C.sh.slots), .d (vI C.sh.roots), .d (vI C.sh.room), .d (vI C.mode), .d (vI C.base), .hdr 17 0 C.slots.length, .hdr 18 0 C.roots.length, .hdr 19 0 C.data.length]] C hCo (by simp) (by simp) (by simp) (by simp)
 simp only [List.cons_append, List.nil_append, List.length_cons, List.length_nil, Nat.zero_add, Nat.reduceAdd] at c26C
 refine W_regK rfl [1001] rfl ?_
 refine xOl ?_
 refine run_inlK rfl rfl rfl rfl (by simp; exact .mk) ⟨_, Tryz.func26, rfl, rfl⟩ (fixS_put (by simp) (fixS_slots (by simp))) (by simpa using c26C) (by simp) (by decide) ?_
 refine xF [2,5,7,9,11,13,15,16] ?_
 refine W_seq ?_
 refine W_regD (by kernel_rfl) [] 12 [0,1,2,3,4,5,6,7,8,9,10,11,12,13,14,15,16,17,18,19,20,21,22,23,24,25,26,28,27,29,30,31,32,33,34,35,36,37,38] (by decide +kernel) ?_
 refine xO2 ?_
 refine xI ?_
 refine xP ?_
 refine xB ?_
 iterate 3 refine xI ?_
 refine xP ?_
 refine xB ?_
 iterate 3 refine xI ?_
 refine xP ?_
 refine xB ?_
 iterate 2 refine xI ?_
 refine xI ?_ (h := fun hb => by simp [eSlot]; exact .mk)
 iterate 4 refine xI ?_
 refine xI ?_ (h := fun hb => by simp [eSlot]; exact .mk)
 refine xI ?_
 refine xP ?_
 refine xI ?_
 iterate 2 (refine xI ?_ (h := fun hb => by simp [eSlot]; exact .mk))
 refine run_call rfl (by simp; exact .mk) rfl rfl (by simp) (by simp; exact .mk) (by simp [row_rows, Function.comp_def]; exact .mk) (fun hb => ct58 g s (by simp at hb; grind)) (by simp) (by simp [oStt]; exact .mk) (by simp) ?_
 refine run_call rfl (by simp; exact .mk) rfl rfl (by simp) (by simp; exact .mk) (by simp [row_rows, Function.comp_def]; exact .mk) (fun hb => ct59 g s (by simp at hb; grind)) (by simp) (by simp [oStt]; exact .mk) (by simp) ?_
 refine xI ?_
 iterate 2 refine xP ?_
 refine xB ?_
 iterate 2 (refine xI ?_ (h := fun hb => by simp [eSlot]; exact .mk))
 refine run_call rfl (by simp; exact .mk) rfl rfl (by simp) (by simp; exact .mk) (by simp [row_rows, Function.comp_def]; exact .mk) (fun hb => cS) (by simp) (by simp [oStt]; exact .mk) (by simp) ?_
 refine xP ?_
 refine xB ?_
 refine xF [4] ?_
 refine W_ret (xR (by simp [Tryz.f8]; exact .mk) ?_)
 simp [Tryz.f8]

end Go.Proofs
