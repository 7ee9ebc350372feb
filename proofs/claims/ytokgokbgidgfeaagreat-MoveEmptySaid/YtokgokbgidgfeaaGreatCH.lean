/- Contracts of the program's functions, each against a plain function over lists and numbers (it answers what that one answers, for arguments of at most 2^40 elements where a lemma says so), and plain facts about these. -/
import Derived.Test.YtokgokbgidgfeaaGreatCG
import Derived.Test.YtokgokbgidgfeaaGreatCF
import Derived.Test.YtokgokbgidgfeaaGreatCD
import Derived.Test.YtokgokbgidgfeaaGreatCE
set_option linter.all false
set_option maxHeartbeats 4000000
set_option maxRecDepth 4000
namespace Go.Proofs
open Go.Awp
theorem ct55 (g : Gl) (s : Stt) (hs : s.Ok) : CtAt Tryz.prog g 55 [eStt s] (.tup [oStt (stepS s).1, vI (stepS s).2]) := by
  refine ctAt_of_W Tryz.func55 rfl rfl (Nat.le_of_ble_eq_true rfl) fun B S => ?_
  simp only [eStt, List.map, argD_agg, argD_v]
  refine xU ?_
  iterate 3 refine xO ?_
  refine xE [1, 2] ?_
  rintro -
  refine W_seq ?_
  refine xU ?_
  refine run_op rfl rfl rfl (by simp [eSlot]; exact .mk) ?_
  refine run_call0 rfl rfl rfl rfl (by simp; exact .mk) (by simp [row_rows, Function.comp_def]; exact .mk) (ct32 g s hs) (by simp) (by simp [oStt]; exact .mk) ?_
  refine xO ?_
  refine xE [1, 2, 8] ?_
  rintro -
  refine W_cond rfl ?_ ?_
  · intro h8
    have hr : stepS s = (zStt, 1) := by unfold stepS; rw [if_neg (by simpa using h8)]
    refine xU ?_
    iterate 2 (refine run_op rfl rfl rfl (by simp [splice]; exact .mk) ?_)
    refine xO ?_
    refine xE [2, 3] ?_
    rintro -
    refine W_ret ?_
    refine end_ret (by simp [Tryz.f55]; exact .mk) (by simp; exact .mk) ?_ (by simp [oStt])
    first | (simp [nrmR, nrmRs, nrmK, kindsOf, kinds, Tryz.f55, hr, oStt, ownR]; done) | (simp [nrmR, nrmRs, nrmK, kindsOf, kinds, Tryz.f55, hr, oStt, zStt, ownR]; done)
  intro h8
  have hR : sttS s = true := by simpa using h8
  refine W_skip ?_
  refine xT ?_
  refine run_op rfl rfl rfl (by simp [eSlot]; exact .mk) ?_
  refine run_op rfl rfl rfl (by simp [splice]; exact .mk) ?_
  refine xO ?_
  refine run_op rfl rfl rfl (by simp [splice]; exact .mk) ?_
  refine xE [1, 2, 4] ?_
  refine xT ?_
  refine xO ?_
  refine xE [1, 2, 4, 5] ?_
  rintro -
  refine W_seq ?_
  refine xU ?_
  refine xO ?_
  refine run_op rfl rfl rfl (by simp [eSlot]; exact .mk) ?_
  refine xE [2, 4, 5, 13] ?_
  rintro -
  refine W_block ?_
  refine xU ?_
  iterate 2 refine xO ?_
  refine xE [2, 4, 5, 13, 14] ?_
  rintro -
  refine W_cond rfl ?_ ?_
  · intro h14
    have hm3 : s.mode = 3 := by simpa using h14
    have hr : stepS s = upStep s := by unfold stepS; rw [if_pos hR, if_pos hm3]
    refine W_reg rfl ?_
    refine run_op rfl rfl rfl (by simp [eSlot]; exact .mk) ?_
    iterate 2 refine xO ?_
    refine xE [2, 5] ?_
    refine xT ?_
    refine xO ?_
    refine run_call0 rfl rfl rfl rfl (by simp; exact .mk) (by simp [row_rows, Function.comp_def]; exact .mk) (by first | (have := hm3; exact ct124 g s hs hR) | (have := hm4; exact ct125 g s hs hR) | exact ct123 g) (by simp) (by simp [oStt]; exact .mk) ?_
    iterate 2 refine xO ?_
    refine run_op rfl rfl rfl (by simp [splice]; exact .mk) ?_
    refine xO ?_
    refine xE [2, 3] ?_
    rintro -
    refine W_ret ?_
    refine end_ret (by simp [Tryz.f55]; exact .mk) (by simp; exact .mk) ?_ (by simp [oStt])
    first | (simp [nrmR, nrmRs, nrmK, kindsOf, kinds, Tryz.f55, hr, oStt, ownR]; done) | (simp [nrmR, nrmRs, nrmK, kindsOf, kinds, Tryz.f55, hr, oStt, zStt, ownR]; done)
  intro h14
  have hn3 : ¬ s.mode = 3 := by simpa using h14
  refine xU ?_
  iterate 2 refine xO ?_
  refine xE [2, 4, 5, 18] ?_
  rintro -
  refine W_cond rfl ?_ ?_
  · intro h18
    have hm4 : s.mode = 4 := by simpa using h18
    have hr : stepS s = downStep s := by unfold stepS; rw [if_pos hR, if_neg hn3, if_pos hm4]
    refine W_reg rfl ?_
    refine run_op rfl rfl rfl (by simp [eSlot]; exact .mk) ?_
    iterate 2 refine xO ?_
    refine xE [2, 5] ?_
    refine xT ?_
    refine xO ?_
    refine run_call0 rfl rfl rfl rfl (by simp; exact .mk) (by simp [row_rows, Function.comp_def]; exact .mk) (by first | (have := hm3; exact ct124 g s hs hR) | (have := hm4; exact ct125 g s hs hR) | exact ct123 g) (by simp) (by simp [oStt]; exact .mk) ?_
    iterate 2 refine xO ?_
    refine run_op rfl rfl rfl (by simp [splice]; exact .mk) ?_
    refine xO ?_
    refine xE [2, 3] ?_
    rintro -
    refine W_ret ?_
    refine end_ret (by simp [Tryz.f55]; exact .mk) (by simp; exact .mk) ?_ (by simp [oStt])
    first | (simp [nrmR, nrmRs, nrmK, kindsOf, kinds, Tryz.f55, hr, oStt, ownR]; done) | (simp [nrmR, nrmRs, nrmK, kindsOf, kinds, Tryz.f55, hr, oStt, zStt, ownR]; done)
  intro h18
  have hn4 : ¬ s.mode = 4 := by simpa using h18
  have hr : stepS s = (zStt, 12) := by unfold stepS; rw [if_pos hR, if_neg hn3, if_neg hn4]
  refine W_skip ?_
  refine xT ?_
  refine xO ?_
  refine run_call0 rfl rfl rfl rfl (by simp; exact .mk) (by simp [row_rows, Function.comp_def]; exact .mk) (by first | (have := hm3; exact ct124 g s hs hR) | (have := hm4; exact ct125 g s hs hR) | exact ct123 g) (by simp) (by simp [oStt]; exact .mk) ?_
  iterate 2 refine xO ?_
  refine run_op rfl rfl rfl (by simp [splice]; exact .mk) ?_
  refine xO ?_
  refine xE [2, 3] ?_
  rintro -
  refine W_ret ?_
  refine end_ret (by simp [Tryz.f55]; exact .mk) (by simp; exact .mk) ?_ (by simp [oStt])
  first | (simp [nrmR, nrmRs, nrmK, kindsOf, kinds, Tryz.f55, hr, oStt, ownR]; done) | (simp [nrmR, nrmRs, nrmK, kindsOf, kinds, Tryz.f55, hr, oStt, zStt, ownR]; done)

end Go.Proofs

set_option maxHeartbeats 4000000
set_option maxRecDepth 4000
namespace Go.Proofs
open Go.Awp
theorem ct51 (g : Gl) (s : Stt) (hs : s.Ok) : CtAt Tryz.prog g 51 [eStt s] (.tup [oStt (endS s).1, vI ((endS s).2.1 : Nat), vI (endS s).2.2]) := by
  refine ctAt_of_W Tryz.func51 rfl rfl (Nat.le_of_ble_eq_true rfl) fun B S => ?_
  simp only [eStt, List.map, argD_agg, argD_v]
  refine xU ?_
  iterate 4 refine xO ?_
  refine xE [1, 2] ?_
  refine xT ?_
  refine xO ?_
  refine xE [1, 2, 5] ?_
  rintro -
  refine W_block ?_
  refine W_rounds (fun m σ o => ∃ (n : Nat) (t : Stt), m = needE n t ∧ t.Ok ∧ endF (needE n t) n t = endS s ∧ n + needE n t ≤ needE 0 s ∧ σ = slots [(1, .ptr 0 0 0), (2, .ptr 1 0 0), (5, .d (vI n))] ∧ ((n = 0 ∧ t = s ∧ o = [.var 28 [.d (vI s.sh.pages), .d (vI s.sh.slots), .d (vI s.sh.roots), .d (vI s.sh.room), .d (vI s.mode), .d (vI s.base), .d (rSl s.slots), .d (rR s.roots), .d (rBB s.data)], .var 28 [.d (vI 0), .d (vI 0), .d (vI 0), .d (vI 0), .d (vI 0), .d (vI 0), .d (.v (.slice none 0 0)), .d (.v (.slice none 0 0)), .d (.v (.slice none 0 0))]]) ∨ (0 < n ∧ sttS s = true ∧ o = [.var 28 [.d (vI t.sh.pages), .d (vI t.sh.slots), .d (vI t.sh.roots), .d (vI t.sh.room), .d (vI t.mode), .d (vI t.base), .hdr 2 0 t.slots.length, .hdr 3 0 t.roots.length, .hdr 4 0 t.data.length], .var 28 [.d (vI 0), .d (vI 0), .d (vI 0), .d (vI 0), .d (vI 0), .d (vI 0), .d (.v (.slice none 0 0)), .d (.v (.slice none 0 0)), .d (.v (.slice none 0 0))], .row 5 (t.slots.map eSlot), .row 3 (t.roots.map eRoot), .row 1 (t.data.map oB)]))) (needE 0 s) .refl ⟨0, s, rfl, hs, rfl, by omega, rfl, .inl ⟨rfl, rfl, rfl⟩⟩ ?_
  rintro m σ o ⟨n, t, rfl, hto, hinv, hle, rfl, ⟨rfl, rfl, rfl⟩ | ⟨hn0, hRs, rfl⟩⟩ _
  · skip
    skip
    refine W_seq ?_
    refine W_block ?_
    refine W_seq ?_
    refine xU ?_
    iterate 3 refine xO ?_
    refine run_if rfl (by simp; exact .mk) rfl (by simp <;> first | omega | grind) (fun hb => by simp [eSlot]; exact .mk) ?_
    refine run_call rfl (by simp; exact .mk) rfl rfl (by simp) (by simp; exact .mk) (by simp [row_rows, Function.comp_def]; exact .mk) (fun hb => ct119 g t) (by simp) (by simp [oStt]; exact .mk) (by simp) ?_
    refine xI ?_
    refine xP ?_
    refine xE [1, 2, 5, 16] ?_
    rintro -
    refine W_cond rfl ?_ ?_
    · intro h16
      simp at h16
    intro h16
    have hnot : ¬ (0 < 0 ∧ movingS t = false) := fun q => absurd q.1 (Nat.lt_irrefl 0)
    refine W_skip ?_
    rintro -
    refine W_seq ?_
    have c55 := ct55 g t hto
    obtain ⟨T, hT⟩ : ∃ X, X = (stepS t).1 := ⟨_, rfl⟩
    have hTo : T.Ok := by rw [hT]; exact stepS_Ok hto
    rw [← hT] at c55
    refine W_reg rfl ?_
    refine run_op rfl rfl rfl (by simp [eSlot]; exact .mk) ?_
    refine run_call0 rfl rfl rfl rfl (by simp; exact .mk) (by simp [row_rows, Function.comp_def]; exact .mk) (c55) (by simp) (by simp [oStt]; exact .mk) ?_
    iterate 4 refine xO ?_
    refine run_op rfl rfl rfl (by simp [splice]; exact .mk) ?_
    refine xO ?_
    refine xE [1, 2, 5, 6, 7] ?_
    rintro -
    refine W_seq ?_
    refine xU ?_
    iterate 2 refine xO ?_
    refine xE [1, 2, 5, 6, 7, 25] ?_
    rintro -
    refine W_cond rfl ?_ ?_
    · intro h25
      have he : (stepS t).2 ≠ 0 := by simpa using h25
      obtain ⟨f, hf⟩ : ∃ f, needE 0 t = f + 1 := ⟨needE 0 t - 1, by have := need_pos (n := 0) (s := t); omega⟩
      have hr : endS t = (zStt, 0, (stepS t).2) := by rw [← hinv, hf, endF_err hnot he]
      refine xU ?_
      refine run_op rfl rfl rfl (by simp [splice]; exact .mk) ?_
      iterate 2 refine xO ?_
      refine run_op rfl rfl rfl (by simp [splice]; exact .mk) ?_
      iterate 2 refine xO ?_
      refine xE [2, 3, 4] ?_
      rintro -
      refine W_ret ?_
      refine end_ret (by simp [Tryz.f51]; exact .mk) (by simp; exact .mk) ?_ (by simp [oStt])
      first | (simp [nrmR, nrmRs, nrmK, kindsOf, kinds, Tryz.f51, hr, oStt, ownR]; done) | (simp [nrmR, nrmRs, nrmK, kindsOf, kinds, Tryz.f51, hr, oStt, zStt, ownR]; done)
    intro h25
    have he : (stepS t).2 = 0 := by simpa using h25
    obtain ⟨n1, n2⟩ := end_next hnot he
    have hRt := (step_ok he).1
    have hn1 := need_le (n := 0) hRt
    rw [← hT] at n1 n2
    refine W_skip ?_
    rintro -
    refine W_reg rfl ?_
    refine run_op rfl rfl rfl (by simp [eSlot]; exact .mk) ?_
    refine run_op rfl rfl rfl (by simp [splice]; exact .mk) ?_
    refine xE [1, 2, 5] ?_
    rintro -
    refine W_reg rfl ?_
    iterate 3 refine xO ?_
    refine xE [1, 2, 5] ?_
    refine rounds_kill [1, 2, 5] ?_
    refine rounds_drop 5 [1, 2, 5] (by decide) (by rfl) (by rfl) ?_
    refine rounds_next (m' := needE (0 + 1) T) (by omega) ⟨0 + 1, T, rfl, hTo, by rw [← n1]; exact hinv, by omega, ?_, .inr ⟨by omega, hRt, rfl⟩⟩
    rw [wrap64 (by omega) (by omega)]; rfl
  skip
  have hn1 := need_le (n := 0) hRs
  refine W_seq ?_
  refine W_block ?_
  refine W_seq ?_
  refine xU ?_
  iterate 3 refine xO ?_
  refine run_if rfl (by simp; exact .mk) rfl (by simp <;> first | omega | grind) (fun hb => by simp [eSlot]; exact .mk) ?_
  refine run_call rfl (by simp; exact .mk) rfl rfl (by simp) (by simp; exact .mk) (by simp [row_rows, Function.comp_def]; exact .mk) (fun hb => ct119 g t) (by simp) (by simp [oStt]; exact .mk) (by simp) ?_
  refine xI ?_
  refine xP ?_
  refine xE [1, 2, 5, 16] ?_
  rintro -
  refine W_cond rfl ?_ ?_
  · intro h16
    have hv : movingS t = false := by simp at h16; exact h16.2
    obtain ⟨f, hf⟩ : ∃ f, needE n t = f + 1 := ⟨needE n t - 1, by have := need_pos (n := n) (s := t); omega⟩
    have hr : endS s = (t, n, 0) := by rw [← hinv, hf, endF_stop ⟨hn0, hv⟩]
    refine xU ?_
    refine run_op rfl rfl rfl (by simp [eSlot]; exact .mk) ?_
    refine xO ?_
    refine run_op rfl rfl rfl (by simp [splice]; exact .mk) ?_
    iterate 2 refine xO ?_
    refine xE [2, 3, 4] ?_
    rintro -
    refine W_ret ?_
    refine end_ret (by simp [Tryz.f51]; exact .mk) (by simp; exact .mk) ?_ (by simp [oStt])
    first | (simp [nrmR, nrmRs, nrmK, kindsOf, kinds, Tryz.f51, hr, oStt, ownR]; done) | (simp [nrmR, nrmRs, nrmK, kindsOf, kinds, Tryz.f51, hr, oStt, zStt, ownR]; done)
  intro h16
  have hnot : ¬ (0 < n ∧ movingS t = false) := by simp at h16; intro q; have := h16 q.1; rw [q.2] at this; cases this
  refine W_skip ?_
  rintro -
  refine W_seq ?_
  have c55 := ct55 g t hto
  obtain ⟨T, hT⟩ : ∃ X, X = (stepS t).1 := ⟨_, rfl⟩
  have hTo : T.Ok := by rw [hT]; exact stepS_Ok hto
  rw [← hT] at c55
  refine W_reg rfl ?_
  refine run_op rfl rfl rfl (by simp [eSlot]; exact .mk) ?_
  refine run_call0 rfl rfl rfl rfl (by simp; exact .mk) (by simp [row_rows, Function.comp_def]; exact .mk) (c55) (by simp) (by simp [oStt]; exact .mk) ?_
  iterate 4 refine xO ?_
  refine run_op rfl rfl rfl (by simp [splice]; exact .mk) ?_
  refine xO ?_
  refine xE [1, 2, 5, 6, 7] ?_
  rintro -
  refine W_seq ?_
  refine xU ?_
  iterate 2 refine xO ?_
  refine xE [1, 2, 5, 6, 7, 25] ?_
  rintro -
  refine W_cond rfl ?_ ?_
  · intro h25
    have he : (stepS t).2 ≠ 0 := by simpa using h25
    obtain ⟨f, hf⟩ : ∃ f, needE n t = f + 1 := ⟨needE n t - 1, by have := need_pos (n := n) (s := t); omega⟩
    have hr : endS s = (zStt, n, (stepS t).2) := by rw [← hinv, hf, endF_err hnot he]
    refine xU ?_
    refine run_op rfl rfl rfl (by simp [splice]; exact .mk) ?_
    iterate 2 refine xO ?_
    refine run_op rfl rfl rfl (by simp [splice]; exact .mk) ?_
    iterate 2 refine xO ?_
    refine xE [2, 3, 4] ?_
    rintro -
    refine W_ret ?_
    refine end_ret (by simp [Tryz.f51]; exact .mk) (by simp; exact .mk) ?_ (by simp [oStt])
    first | (simp [nrmR, nrmRs, nrmK, kindsOf, kinds, Tryz.f51, hr, oStt, ownR]; done) | (simp [nrmR, nrmRs, nrmK, kindsOf, kinds, Tryz.f51, hr, oStt, zStt, ownR]; done)
  intro h25
  have he : (stepS t).2 = 0 := by simpa using h25
  obtain ⟨n1, n2⟩ := end_next hnot he
  rw [← hT] at n1 n2
  refine W_skip ?_
  rintro -
  refine W_reg rfl ?_
  refine run_op rfl rfl rfl (by simp [eSlot]; exact .mk) ?_
  refine run_op rfl rfl rfl (by simp [splice]; exact .mk) ?_
  refine xE [1, 2, 5] ?_
  rintro -
  refine W_reg rfl ?_
  iterate 3 refine xO ?_
  refine xE [1, 2, 5] ?_
  refine rounds_kill [1, 2, 5] ?_
  refine rounds_kills [1, 2, 5] rfl ?_
  refine rounds_swap 2 5 3 (by decide) (by simp) (by decide) rfl rfl ?_
  refine rounds_drop 5 [1, 2, 5] (by decide) (by rfl) (by rfl) ?_
  refine rounds_next (m' := needE (n + 1) T) (by omega) ⟨n + 1, T, rfl, hTo, by rw [← n1]; exact hinv, by omega, ?_, .inr ⟨by omega, hRs, rfl⟩⟩
  rw [wrap64 (by omega) (by omega)]; rfl

end Go.Proofs

set_option maxHeartbeats 4000000
set_option maxRecDepth 4000
namespace Go.Proofs
open Go.Awp
theorem ct54 (g : Gl) (s : Stt) (hs : s.Ok) (up : Bool) : CtAt Tryz.prog g 54 [eStt s, vT up] (.tup [oStt (startS s up).1, vI (startS s up).2]) := by
  refine ctAt_of_W Tryz.func54 rfl rfl (Nat.le_of_ble_eq_true rfl) fun B S => ?_
  simp only [eStt, List.map, argD_agg, argD_v]
  refine xU ?_
  iterate 3 refine xO ?_
  refine xE [1, 2, 4] ?_
  rintro -
  refine W_seq ?_
  refine xU ?_
  refine run_op rfl rfl rfl (by simp [eSlot]; exact .mk) ?_
  refine run_call0 rfl rfl rfl rfl (by simp; exact .mk) (by simp [row_rows, Function.comp_def]; exact .mk) (ct32 g s hs) (by simp) (by simp [oStt]; exact .mk) ?_
  refine xO ?_
  refine xE [1, 2, 4, 15] ?_
  rintro -
  refine W_cond rfl ?_ ?_
  · intro h15
    have hR : sttS s = false := by simpa using h15
    have hr : startS s up = (zStt, 1) := by unfold startS; rw [if_pos hR]
    refine xU ?_
    iterate 2 (refine run_op rfl rfl rfl (by simp [splice]; exact .mk) ?_)
    refine xO ?_
    refine xE [4, 5] ?_
    rintro -
    refine W_ret ?_
    refine end_ret (by simp [Tryz.f54]; exact .mk) (by simp; exact .mk) ?_ (by simp [oStt])
    first | (simp [nrmR, nrmRs, nrmK, kindsOf, kinds, Tryz.f54, hr, oStt, ownR, toM]; done) | (simp [nrmR, nrmRs, nrmK, kindsOf, kinds, Tryz.f54, hr, oStt, zStt, ownR, toM]; done) | (simp [nrmR, nrmRs, nrmK, kindsOf, kinds, Tryz.f54, hr, oStt, zStt, ownR, turnS]; done)
  intro h15
  have hR : sttS s = true := by simpa using h15
  have hRf : ¬ sttS s = false := by rw [hR]; simp
  have hb := superS_b (sttS_super hR)
  refine W_skip ?_
  refine xT ?_
  iterate 2 refine xO ?_
  refine xE [1, 2, 4, 6, 7] ?_
  rintro -
  refine W_seq ?_
  refine xU ?_
  refine xO ?_
  refine xE [2, 4, 6, 7, 17] ?_
  rintro -
  refine W_cond rfl ?_ ?_
  · intro h17
    obtain rfl : up = true := by simpa using h17
    refine W_reg rfl ?_
    iterate 2 refine xO ?_
    refine xE [2, 4, 6, 7] ?_
    rintro -
    refine W_seq ?_
    refine xU ?_
    refine xO ?_
    refine run_op rfl rfl rfl (by simp [eSlot]; exact .mk) ?_
    iterate 2 refine xO ?_
    refine xE [2, 4, 7, 21] ?_
    rintro -
    refine W_cond rfl ?_ ?_
    · intro h21
      first
      | (have hn : s.mode ≠ fromM true := by (simp [fromM] at h21 ⊢; exact h21)
         have hr : startS s true = (zStt, 12) := by unfold startS; rw [if_neg hRf, if_pos hn])
      | (have hn : s.mode ≠ fromM false := by (simp [fromM] at h21 ⊢; exact h21)
         have hr : startS s false = (zStt, 12) := by unfold startS; rw [if_neg hRf, if_pos hn])
      refine xU ?_
      iterate 2 (refine run_op rfl rfl rfl (by simp [splice]; exact .mk) ?_)
      refine xO ?_
      refine xE [4, 5] ?_
      rintro -
      refine W_ret ?_
      refine end_ret (by simp [Tryz.f54]; exact .mk) (by simp; exact .mk) ?_ (by simp [oStt])
      first | (simp [nrmR, nrmRs, nrmK, kindsOf, kinds, Tryz.f54, hr, oStt, ownR, toM]; done) | (simp [nrmR, nrmRs, nrmK, kindsOf, kinds, Tryz.f54, hr, oStt, zStt, ownR, toM]; done) | (simp [nrmR, nrmRs, nrmK, kindsOf, kinds, Tryz.f54, hr, oStt, zStt, ownR, turnS]; done)
    intro h21
    first
    | (have hn : ¬ s.mode ≠ fromM true := by (simp [fromM] at h21 ⊢; exact h21))
    | (have hn : ¬ s.mode ≠ fromM false := by (simp [fromM] at h21 ⊢; exact h21))
    refine W_skip ?_
    refine xT ?_
    refine run_op rfl rfl rfl (by simp [eSlot]; exact .mk) ?_
    refine run_op rfl rfl rfl (by simp [splice]; exact .mk) ?_
    refine xO ?_
    refine run_call0 rfl rfl rfl rfl (by simp; exact .mk) (by simp [row_rows, Function.comp_def]; exact .mk) (by first | exact ct122 g s hs 3 0 (by omega) | exact ct122 g s hs 4 0 (by omega)) (by simp) (by simp [oStt]; exact .mk) ?_
    iterate 4 refine xO ?_
    refine run_op rfl rfl rfl (by simp [splice]; exact .mk) ?_
    refine xO ?_
    refine xE [4, 8] ?_
    rintro -
    refine W_seq ?_
    refine xU ?_
    refine run_op rfl rfl rfl (by simp [eSlot]; exact .mk) ?_
    refine run_call0 rfl rfl rfl rfl (by simp; exact .mk) (by simp [row_rows, Function.comp_def]; exact .mk) (by first | exact ct51 g (turnS s 3 0) (turn_ok hs) | exact ct51 g (turnS s 4 0) (turn_ok hs)) (by simp) (by simp [oStt]; exact .mk) ?_
    iterate 5 refine xO ?_
    refine run_op rfl rfl rfl (by simp [splice]; exact .mk) ?_
    iterate 2 refine xO ?_
    refine xE [4, 8, 12] ?_
    refine xT ?_
    iterate 2 refine xO ?_
    refine xE [4, 8, 12, 37] ?_
    rintro -
    refine W_cond rfl ?_ ?_
    · intro h37
      first
      | (have he : (endS (turnS s (toM true) 0)).2.2 ≠ 0 := by (simpa [toM] using h37)
         have hr : startS s true = (zStt, (endS (turnS s (toM true) 0)).2.2) := by unfold startS; rw [if_neg hRf, if_neg hn, if_pos he])
      | (have he : (endS (turnS s (toM false) 0)).2.2 ≠ 0 := by (simpa [toM] using h37)
         have hr : startS s false = (zStt, (endS (turnS s (toM false) 0)).2.2) := by unfold startS; rw [if_neg hRf, if_neg hn, if_pos he])
      refine xU ?_
      refine run_op rfl rfl rfl (by simp [splice]; exact .mk) ?_
      refine xO ?_
      refine run_op rfl rfl rfl (by simp [splice]; exact .mk) ?_
      refine xO ?_
      refine xE [4, 5] ?_
      rintro -
      refine W_ret ?_
      refine end_ret (by simp [Tryz.f54]; exact .mk) (by simp; exact .mk) ?_ (by simp [oStt])
      first | (simp [nrmR, nrmRs, nrmK, kindsOf, kinds, Tryz.f54, hr, oStt, ownR, toM]; done) | (simp [nrmR, nrmRs, nrmK, kindsOf, kinds, Tryz.f54, hr, oStt, zStt, ownR, toM]; done) | (simp [nrmR, nrmRs, nrmK, kindsOf, kinds, Tryz.f54, hr, oStt, zStt, ownR, turnS]; done)
    intro h37
    first
    | (have he : ¬ (endS (turnS s (toM true) 0)).2.2 ≠ 0 := by (simpa [toM] using h37)
       have hr : startS s true = (turnS s 3 0, 0) := by unfold startS; rw [if_neg hRf, if_neg hn, if_neg he]; rfl)
    | (have he : ¬ (endS (turnS s (toM false) 0)).2.2 ≠ 0 := by (simpa [toM] using h37)
       have hr : startS s false = (turnS s 4 0, 0) := by unfold startS; rw [if_neg hRf, if_neg hn, if_neg he]; rfl)
    refine W_skip ?_
    refine xT ?_
    refine run_op rfl rfl rfl (by simp [eSlot]; exact .mk) ?_
    refine run_op rfl rfl rfl (by simp [splice]; exact .mk) ?_
    refine xO ?_
    refine xE [4, 5] ?_
    rintro -
    refine W_ret ?_
    refine end_ret (by simp [Tryz.f54]; exact .mk) (by simp; exact .mk) ?_ (by simp [oStt])
    first | (simp [nrmR, nrmRs, nrmK, kindsOf, kinds, Tryz.f54, hr, oStt, ownR, toM]; done) | (simp [nrmR, nrmRs, nrmK, kindsOf, kinds, Tryz.f54, hr, oStt, zStt, ownR, toM]; done) | (simp [nrmR, nrmRs, nrmK, kindsOf, kinds, Tryz.f54, hr, oStt, zStt, ownR, turnS]; done)
  intro h17
  obtain rfl : up = false := by simpa using h17
  refine W_skip ?_
  rintro -
  refine W_seq ?_
  refine xU ?_
  refine xO ?_
  refine run_op rfl rfl rfl (by simp [eSlot]; exact .mk) ?_
  iterate 2 refine xO ?_
  refine xE [2, 4, 7, 21] ?_
  rintro -
  refine W_cond rfl ?_ ?_
  · intro h21
    first
    | (have hn : s.mode ≠ fromM true := by (simp [fromM] at h21 ⊢; exact h21)
       have hr : startS s true = (zStt, 12) := by unfold startS; rw [if_neg hRf, if_pos hn])
    | (have hn : s.mode ≠ fromM false := by (simp [fromM] at h21 ⊢; exact h21)
       have hr : startS s false = (zStt, 12) := by unfold startS; rw [if_neg hRf, if_pos hn])
    refine xU ?_
    iterate 2 (refine run_op rfl rfl rfl (by simp [splice]; exact .mk) ?_)
    refine xO ?_
    refine xE [4, 5] ?_
    rintro -
    refine W_ret ?_
    refine end_ret (by simp [Tryz.f54]; exact .mk) (by simp; exact .mk) ?_ (by simp [oStt])
    first | (simp [nrmR, nrmRs, nrmK, kindsOf, kinds, Tryz.f54, hr, oStt, ownR, toM]; done) | (simp [nrmR, nrmRs, nrmK, kindsOf, kinds, Tryz.f54, hr, oStt, zStt, ownR, toM]; done) | (simp [nrmR, nrmRs, nrmK, kindsOf, kinds, Tryz.f54, hr, oStt, zStt, ownR, turnS]; done)
  intro h21
  first
  | (have hn : ¬ s.mode ≠ fromM true := by (simp [fromM] at h21 ⊢; exact h21))
  | (have hn : ¬ s.mode ≠ fromM false := by (simp [fromM] at h21 ⊢; exact h21))
  refine W_skip ?_
  refine xT ?_
  refine run_op rfl rfl rfl (by simp [eSlot]; exact .mk) ?_
  refine run_op rfl rfl rfl (by simp [splice]; exact .mk) ?_
  refine xO ?_
  refine run_call0 rfl rfl rfl rfl (by simp; exact .mk) (by simp [row_rows, Function.comp_def]; exact .mk) (by first | exact ct122 g s hs 3 0 (by omega) | exact ct122 g s hs 4 0 (by omega)) (by simp) (by simp [oStt]; exact .mk) ?_
  iterate 4 refine xO ?_
  refine run_op rfl rfl rfl (by simp [splice]; exact .mk) ?_
  refine xO ?_
  refine xE [4, 8] ?_
  rintro -
  refine W_seq ?_
  refine xU ?_
  refine run_op rfl rfl rfl (by simp [eSlot]; exact .mk) ?_
  refine run_call0 rfl rfl rfl rfl (by simp; exact .mk) (by simp [row_rows, Function.comp_def]; exact .mk) (by first | exact ct51 g (turnS s 3 0) (turn_ok hs) | exact ct51 g (turnS s 4 0) (turn_ok hs)) (by simp) (by simp [oStt]; exact .mk) ?_
  iterate 5 refine xO ?_
  refine run_op rfl rfl rfl (by simp [splice]; exact .mk) ?_
  iterate 2 refine xO ?_
  refine xE [4, 8, 12] ?_
  refine xT ?_
  iterate 2 refine xO ?_
  refine xE [4, 8, 12, 37] ?_
  rintro -
  refine W_cond rfl ?_ ?_
  · intro h37
    first
    | (have he : (endS (turnS s (toM true) 0)).2.2 ≠ 0 := by (simpa [toM] using h37)
       have hr : startS s true = (zStt, (endS (turnS s (toM true) 0)).2.2) := by unfold startS; rw [if_neg hRf, if_neg hn, if_pos he])
    | (have he : (endS (turnS s (toM false) 0)).2.2 ≠ 0 := by (simpa [toM] using h37)
       have hr : startS s false = (zStt, (endS (turnS s (toM false) 0)).2.2) := by unfold startS; rw [if_neg hRf, if_neg hn, if_pos he])
    refine xU ?_
    refine run_op rfl rfl rfl (by simp [splice]; exact .mk) ?_
    refine xO ?_
    refine run_op rfl rfl rfl (by simp [splice]; exact .mk) ?_
    refine xO ?_
    refine xE [4, 5] ?_
    rintro -
    refine W_ret ?_
    refine end_ret (by simp [Tryz.f54]; exact .mk) (by simp; exact .mk) ?_ (by simp [oStt])
    first | (simp [nrmR, nrmRs, nrmK, kindsOf, kinds, Tryz.f54, hr, oStt, ownR, toM]; done) | (simp [nrmR, nrmRs, nrmK, kindsOf, kinds, Tryz.f54, hr, oStt, zStt, ownR, toM]; done) | (simp [nrmR, nrmRs, nrmK, kindsOf, kinds, Tryz.f54, hr, oStt, zStt, ownR, turnS]; done)
  intro h37
  first
  | (have he : ¬ (endS (turnS s (toM true) 0)).2.2 ≠ 0 := by (simpa [toM] using h37)
     have hr : startS s true = (turnS s 3 0, 0) := by unfold startS; rw [if_neg hRf, if_neg hn, if_neg he]; rfl)
  | (have he : ¬ (endS (turnS s (toM false) 0)).2.2 ≠ 0 := by (simpa [toM] using h37)
     have hr : startS s false = (turnS s 4 0, 0) := by unfold startS; rw [if_neg hRf, if_neg hn, if_neg he]; rfl)
  refine W_skip ?_
  refine xT ?_
  refine run_op rfl rfl rfl (by simp [eSlot]; exact .mk) ?_
  refine run_op rfl rfl rfl (by simp [splice]; exact .mk) ?_
  refine xO ?_
  refine xE [4, 5] ?_
  rintro -
  refine W_ret ?_
  refine end_ret (by simp [Tryz.f54]; exact .mk) (by simp; exact .mk) ?_ (by simp [oStt])
  first | (simp [nrmR, nrmRs, nrmK, kindsOf, kinds, Tryz.f54, hr, oStt, ownR, toM]; done) | (simp [nrmR, nrmRs, nrmK, kindsOf, kinds, Tryz.f54, hr, oStt, zStt, ownR, toM]; done) | (simp [nrmR, nrmRs, nrmK, kindsOf, kinds, Tryz.f54, hr, oStt, zStt, ownR, turnS]; done)

end Go.Proofs

set_option maxHeartbeats 4000000
set_option maxRecDepth 4000
namespace Go.Proofs
open Go.Awp
theorem ct50 (g : Gl) : CtAt Tryz.prog g 50 [] (.v (.bool true)) := by
  refine ctAt_of_W Tryz.func50 rfl rfl (Nat.le_of_ble_eq_true rfl) fun B S => ?_
  obtain ⟨A, B, C, D, E, F, id, h1, h2, h3, h4, h5, h6, h7, h8, h9, h10, h11, h12⟩ := small_facts
  have hA := fewStt_ok h12
  have hB : B.Ok := by have := startS_Ok (up := true) hA; rwa [h2] at this
  have hC : C.Ok := by have := endS_Ok hB; rwa [h3] at this
  have hD : D.Ok := by have := putS_ok (n := 16) hA; rwa [h5] at this
  have hE : E.Ok := by have := startS_Ok (up := true) hD; rwa [h6] at this
  have hF : F.Ok := by have := endS_Ok hE; rwa [h7] at this
  have c1 := ct53 g sh0 1
  have c2 := ct54 g A hA true
  have c3 := ct51 g B hB
  have c4 := ct42 g A hA 16
  have c5 := ct54 g D hD true
  have c6 := ct51 g E hE
  have c7 := ct55 g A hA
  rw [h1] at c1
  rw [h2] at c2
  rw [h3] at c3
  rw [h5] at c4
  rw [h6] at c5
  rw [h7] at c6
  rw [h11] at c7
  obtain ⟨G, hG⟩ : ∃ G, G = (stepS A).1 := ⟨_, rfl⟩
  rw [← hG] at c7
  have hl0 : 0 < F.slots.length := by omega
  refine xU ?_
  refine xO ?_
  refine xE [] ?_
  refine xT ?_
  refine run_op rfl rfl rfl (by simp [splice]; exact .mk) ?_
  refine run_call0 rfl rfl rfl rfl (by simp; exact .mk) (by simp [row_rows, Function.comp_def]; exact .mk) (c1) (by simp) (by simp [oStt]; exact .mk) ?_
  iterate 4 refine xO ?_
  refine run_op rfl rfl rfl (by simp [splice]; exact .mk) ?_
  refine xO ?_
  refine xE [1, 2] ?_
  refine xT ?_
  refine run_op rfl rfl rfl (by simp [eSlot]; exact .mk) ?_
  refine run_call0 rfl rfl rfl rfl (by simp; exact .mk) (by simp [row_rows, Function.comp_def]; exact .mk) (c2) (by simp) (by simp [oStt]; exact .mk) ?_
  iterate 4 refine xO ?_
  refine run_op rfl rfl rfl (by simp [splice]; exact .mk) ?_
  refine xO ?_
  refine xE [1, 2, 3, 4] ?_
  refine xT ?_
  refine run_op rfl rfl rfl (by simp [eSlot]; exact .mk) ?_
  refine run_call0 rfl rfl rfl rfl (by simp; exact .mk) (by simp [row_rows, Function.comp_def]; exact .mk) (c3) (by simp) (by simp [oStt]; exact .mk) ?_
  iterate 5 refine xO ?_
  refine run_op rfl rfl rfl (by simp [splice]; exact .mk) ?_
  iterate 2 refine xO ?_
  refine xE [1, 2, 4, 5, 6, 7] ?_
  refine xT ?_
  refine run_op rfl rfl rfl (by simp [eSlot]; exact .mk) ?_
  refine run_call0 rfl rfl rfl rfl (by simp; exact .mk) (by simp [row_rows, Function.comp_def]; exact .mk) (c4) (by simp) (by simp [oStt]; exact .mk) ?_
  iterate 6 refine xO ?_
  iterate 2 (refine run_op rfl rfl rfl (by simp [splice]; exact .mk) ?_)
  refine xO ?_
  refine xE [1, 2, 4, 5, 6, 7, 8, 10] ?_
  refine xT ?_
  refine run_op rfl rfl rfl (by simp [eSlot]; exact .mk) ?_
  refine run_call0 rfl rfl rfl rfl (by simp; exact .mk) (by simp [row_rows, Function.comp_def]; exact .mk) (c5) (by simp) (by simp [oStt]; exact .mk) ?_
  iterate 4 refine xO ?_
  refine run_op rfl rfl rfl (by simp [splice]; exact .mk) ?_
  refine xO ?_
  refine xE [1, 2, 4, 5, 6, 7, 10, 11, 12] ?_
  refine xT ?_
  refine run_op rfl rfl rfl (by simp [eSlot]; exact .mk) ?_
  refine run_call0 rfl rfl rfl rfl (by simp; exact .mk) (by simp [row_rows, Function.comp_def]; exact .mk) (c6) (by simp) (by simp [oStt]; exact .mk) ?_
  iterate 5 refine xO ?_
  refine run_op rfl rfl rfl (by simp [splice]; exact .mk) ?_
  iterate 2 refine xO ?_
  refine xE [1, 2, 4, 5, 6, 7, 10, 12, 13, 14, 15] ?_
  refine xT ?_
  refine run_op rfl rfl rfl (by simp [eSlot]; exact .mk) ?_
  refine run_call0 rfl rfl rfl rfl (by simp; exact .mk) (by simp [row_rows, Function.comp_def]; exact .mk) (c7) (by simp) (by simp [oStt]; exact .mk) ?_
  iterate 4 refine xO ?_
  refine run_op rfl rfl rfl (by simp [splice]; exact .mk) ?_
  refine xO ?_
  refine xE [2, 4, 5, 6, 7, 10, 12, 13, 14, 15, 17] ?_
  refine xT ?_
  iterate 3 refine xO ?_
  iterate 2 refine xI ?_
  refine xP ?_
  refine xB ?_
  iterate 2 refine xI ?_
  refine xP ?_
  refine xB ?_
  iterate 2 refine xI ?_
  refine xP ?_
  refine xB ?_
  refine xI ?_
  refine run_if rfl (by simp; exact .mk) rfl (by simp <;> first | omega | grind) (fun hb => by simp [eSlot]; exact .mk) ?_
  refine run_if rfl (by simp; exact .mk) rfl (by simp <;> first | omega | grind) (fun hb => by simp [h4]; exact .mk) ?_
  refine xP ?_
  refine xB ?_
  iterate 2 refine xI ?_
  refine xP ?_
  refine xB ?_
  iterate 2 refine xI ?_
  refine xP ?_
  refine xB ?_
  iterate 2 refine xI ?_
  refine xP ?_
  refine xB ?_
  iterate 2 refine xI ?_
  refine xP ?_
  refine xB ?_
  refine xI ?_
  refine run_if rfl (by simp; exact .mk) rfl (by simp <;> first | omega | grind) (fun hb => by simp [eSlot]; exact .mk) ?_
  refine run_if rfl (by simp; exact .mk) rfl (by simp <;> first | omega | grind) (fun hb => by simp [h8]; exact .mk) ?_
  refine xP ?_
  refine xB ?_
  refine xI ?_
  refine run_if rfl (by simp; exact .mk) rfl (by simp <;> first | omega | grind) (fun hb => by simp [eSlot]; exact .mk) ?_
  refine xI ?_
  refine run_if rfl (by simp; exact .mk) rfl (by simp <;> first | omega | grind) (fun hb => by simp [h9]; exact .mk) ?_
  refine xP ?_
  refine xB ?_
  refine xI ?_
  refine run_if rfl (by simp; exact .mk) rfl (by simp <;> first | omega | grind) (fun hb => by simp [eSlot]; exact .mk) ?_
  refine run_if rfl (by simp; exact .mk) rfl (by simp <;> first | omega | grind) (fun hb => by simp [eSlot, h9]; exact .mk) ?_
  refine xI ?_
  refine run_if rfl (by simp; exact .mk) rfl (by simp <;> first | omega | grind) (fun hb => by simp [-List.getElem?_map, map_get hl0, eSlot, h10]; exact .mk) ?_
  refine xP ?_
  refine xB ?_
  iterate 2 refine xI ?_
  refine xP ?_
  refine xB ?_
  refine xE [0] ?_
  rintro -
  refine W_ret ?_
  refine xR (by simp [Tryz.f50]; exact .mk) ?_
  simp [nrmR, nrmRs, nrmK, kindsOf, kinds, Tryz.f50, *]

end Go.Proofs

set_option maxHeartbeats 4000000
set_option maxRecDepth 4000
namespace Go.Proofs
open Go.Awp
theorem ct80 (g : Gl) (x y : List Slot) (hx : x.length ≤ 2^40) : CtAt Tryz.prog g 80 [rSl x, rSl y] (.v (.bool (sameL sameSlot x y))) := by
  refine ctAt_of_W Tryz.func80 rfl rfl (Nat.le_of_ble_eq_true rfl) fun B S => ?_
  refine xU ?_
  refine xO ?_
  refine xE [0, 1] ?_
  rintro -
  refine W_seq ?_
  refine xU ?_
  iterate 5 refine xO ?_
  refine xE [0, 1, 10] ?_
  rintro -
  refine W_cond rfl ?_ ?_
  · intro h10
    have hr : sameL sameSlot x y = false := sameL_len (by simp at h10; omega)
    refine xU ?_
    refine xO ?_
    refine xE [4] ?_
    rintro -
    refine W_ret ?_
    refine xR (by simp [Tryz.f80]; exact .mk) ?_
    simp [nrmR, nrmRs, nrmK, kindsOf, kinds, Tryz.f80, hr]
  intro h10
  have hxy : x.length = y.length := by simp at h10; omega
  refine W_skip ?_
  rintro -
  refine W_seq ?_
  refine xU ?_
  refine xO ?_
  refine xE [0, 1, 5] ?_
  rintro -
  refine W_block ?_
  refine W_rounds (fun m σ o => ∃ i : Nat, m = x.length - i ∧ i ≤ x.length ∧ (∀ j, j < i → sameSlot (nth x j) (nth y j) = true) ∧ σ = slots [(0, .d (rSl x)), (1, .d (rSl y)), (5, .d (vI i))] ∧ o = []) x.length .refl ⟨0, by simp, by simp, by simp, rfl, rfl⟩ ?_
  rintro m σ o ⟨i, rfl, hi, hinv, rfl, rfl⟩ _
  refine W_seq ?_
  refine xU ?_
  iterate 4 refine xO ?_
  refine xE [0, 1, 5, 14] ?_
  rintro -
  refine W_cond rfl ?_ ?_
  · intro h14
    have h2 : i < x.length := by simpa using h14
    have h3 : i < y.length := by omega
    refine W_skip ?_
    rintro -
    refine W_seq ?_
    refine W_block ?_
    refine W_seq ?_
    refine W_regD (by kernel_rfl) [] 4 [0, 1, 2, 3, 4, 5, 6, 7, 8] (by decide +kernel) ?_
    iterate 2 refine xO ?_
    refine run_op rfl rfl rfl (by simp [eSlot, *]; exact .mk) ?_
    refine run_op rfl rfl rfl (by simp [eSlot]; exact .mk) ?_
    iterate 2 refine xO ?_
    refine run_op rfl rfl rfl (by simp [eSlot, *]; exact .mk) ?_
    refine run_op rfl rfl rfl (by simp [eSlot]; exact .mk) ?_
    refine xO ?_
    refine xE [0, 1, 5, 25] ?_
    rintro -
    refine W_cond rfl ?_ ?_
    · intro h25
      have hr : sameL sameSlot x y = false := sameL_bad h2 (by simp [sameSlot] at h25 ⊢; grind)
      refine xU ?_
      refine xO ?_
      refine xE [4] ?_
      rintro -
      refine W_ret ?_
      refine xR (by simp [Tryz.f80]; exact .mk) ?_
      simp [nrmR, nrmRs, nrmK, kindsOf, kinds, Tryz.f80, hr]
    intro h25
    refine W_skip ?_
    rintro -
    refine W_reg rfl ?_
    iterate 3 refine xO ?_
    refine xE [0, 1, 5] ?_
    refine rounds_kill [0, 1, 5] ?_
    refine rounds_next (m' := x.length - (i+1)) (by omega) ⟨i+1, rfl, by omega, ?_, ?_, rfl⟩
    · intro j hj
      rcases Nat.lt_succ_iff_lt_or_eq.1 hj with hj | rfl
      · exact hinv j hj
      simp [sameSlot] at h25 ⊢; grind
    rw [wrap64 (by omega) (by omega)]; rfl
  intro h14
  have hr : sameL sameSlot x y = true := sameL_good hxy (fun j hj => hinv j (by simp at h14; omega))
  refine W_exit ?_
  refine xT ?_
  refine xO ?_
  refine xE [4] ?_
  rintro -
  refine W_ret ?_
  refine xR (by simp [Tryz.f80]; exact .mk) ?_
  simp [nrmR, nrmRs, nrmK, kindsOf, kinds, Tryz.f80, hr]

theorem ct25 (g : Gl) (s t : Stt) (hs : s.Ok) : CtAt Tryz.prog g 25 [eStt s, eStt t] (.v (.bool (sameStt s t))) := by
  refine ctAt_of_W Tryz.func25 rfl rfl (Nat.le_of_ble_eq_true rfl) fun B S => ?_
  simp only [eStt, List.map, argD_agg, argD_v]
  refine xU ?_
  iterate 3 refine xO ?_
  refine xE [2, 3] ?_
  refine xT ?_
  iterate 6 refine xO ?_
  iterate 5 refine xI ?_
  refine xP ?_
  refine xB ?_
  iterate 5 refine xI ?_
  refine xP ?_
  refine xB ?_
  iterate 4 refine xI ?_
  refine run_call rfl (by simp; exact .mk) rfl rfl (by simp) (by simp; exact .mk) (by simp; exact .mk) (fun hb => ct80 g _ _ hs.h1) (by simp) (by simp; exact .mk) (by simp) ?_
  refine xP ?_
  refine xB ?_
  iterate 4 refine xI ?_
  refine run_call rfl (by simp; exact .mk) rfl rfl (by simp) (by simp; exact .mk) (by simp; exact .mk) (fun hb => ct81 g _ _ hs.h2) (by simp) (by simp; exact .mk) (by simp) ?_
  refine xP ?_
  refine xB ?_
  iterate 4 refine xI ?_
  refine run_call rfl (by simp; exact .mk) rfl rfl (by simp) (by simp; exact .mk) (by simp; exact .mk) (fun hb => ct82 g _ _ hs.h3) (by simp) (by simp; exact .mk) (by simp) ?_
  refine xP ?_
  refine xB ?_
  refine xE [4] ?_
  rintro -
  refine W_ret ?_
  refine xR (by simp [Tryz.f25]; exact .mk) ?_
  simp [nrmR, nrmRs, nrmK, kindsOf, kinds, Tryz.f25, sameShape, sameStt, sameB, Bool.and_assoc]

end Go.Proofs

set_option maxHeartbeats 4000000
set_option maxRecDepth 4000
namespace Go.Proofs
open Go.Awp
theorem ct7 (g : Gl) (sh : Shape) (mode : Int) : CtAt Tryz.prog g 7 [eShape sh, vI mode] (.v (.bool true)) := by
  refine ctAt_of_W Tryz.func7 rfl rfl (Nat.le_of_ble_eq_true rfl) fun B S => ?_
  simp only [eShape, List.map, argD_agg, argD_v]
  refine xU ?_
  iterate 2 refine xO ?_
  refine xE [1, 2] ?_
  refine xT ?_
  refine run_call0 rfl rfl rfl rfl (by simp; exact .mk) (by simp [row_rows, Function.comp_def]; exact .mk) (ct50 g) (by simp) (by simp [oStt]; exact .mk) ?_
  refine xO ?_
  refine xE [1, 2, 5] ?_
  rintro -
  refine W_seq ?_
  have c53 := ct53 g sh mode
  obtain ⟨S0, hS0⟩ : ∃ X, X = (newS sh mode).1 := ⟨_, rfl⟩
  rw [← hS0] at c53
  refine W_reg rfl ?_
  refine run_op rfl rfl rfl (by simp [eSlot]; exact .mk) ?_
  refine xO ?_
  refine run_call0 rfl rfl rfl rfl (by simp; exact .mk) (by simp [row_rows, Function.comp_def]; exact .mk) (c53) (by simp) (by simp [oStt]; exact .mk) ?_
  iterate 4 refine xO ?_
  refine run_op rfl rfl rfl (by simp [splice]; exact .mk) ?_
  refine xO ?_
  refine xE [1, 2, 5, 6, 7] ?_
  rintro -
  refine W_seq ?_
  refine xU ?_
  iterate 2 refine xO ?_
  refine xE [1, 2, 5, 6, 23] ?_
  rintro -
  refine W_cond rfl ?_ ?_
  · intro h23
    have he : (newS sh mode).2 ≠ 0 := by simpa using h23
    have hl : S0.slots.length = 0 := by rw [hS0]; exact new_err he
    refine xU ?_
    iterate 2 refine xO ?_
    refine xI ?_
    refine run_if rfl (by simp; exact .mk) rfl (by simp <;> first | omega | grind) (fun hb => by simp [eSlot]; exact .mk) ?_
    iterate 2 refine xI ?_
    refine xP ?_
    refine xB ?_
    refine xE [4] ?_
    rintro -
    refine W_ret ?_
    refine xR (by simp [Tryz.f7]; exact .mk) ?_
    first | (simp [nrmR, nrmRs, nrmK, kindsOf, kinds, Tryz.f7, hl]; done) | (simp [nrmR, nrmRs, nrmK, kindsOf, kinds, Tryz.f7, hn]; done) | (simp [nrmR, nrmRs, nrmK, kindsOf, kinds, Tryz.f7, hn]; omega)
  intro h23
  have he : (newS sh mode).2 = 0 := by simpa using h23
  obtain ⟨hSo, A, E, e1, ⟨n, e2, hn⟩, e3, e4, hAo, hEo⟩ := empty_law he
  rw [← hS0] at hSo e1
  have c54 := ct54 g S0 hSo (decide (mode = 1))
  rw [e1] at c54
  have c51 := ct51 g A hAo
  rw [e2] at c51
  have c53b := ct53 g sh (3 - mode)
  rw [e3] at c53b
  have c25 := ct25 g E E hEo
  have w1 : IntKind.i64.wrap (3 - mode) = 3 - mode := wrap64 (by omega) (by omega)
  have w2 : IntKind.i64.wrap (sh.pages + 1) = sh.pages + 1 := wrap64 (by omega) (by omega)
  rw [sameStt_refl] at c25
  refine W_skip ?_
  refine xT ?_
  refine run_op rfl rfl rfl (by simp [eSlot]; exact .mk) ?_
  iterate 2 refine xO ?_
  refine run_call0 rfl rfl rfl rfl (by simp; exact .mk) (by simp [row_rows, Function.comp_def]; exact .mk) (c54) (by simp) (by simp [oStt]; exact .mk) ?_
  iterate 4 refine xO ?_
  refine run_op rfl rfl rfl (by simp [splice]; exact .mk) ?_
  refine xO ?_
  refine xE [1, 2, 5, 8, 9] ?_
  refine xT ?_
  refine run_op rfl rfl rfl (by simp [eSlot]; exact .mk) ?_
  refine run_call0 rfl rfl rfl rfl (by simp; exact .mk) (by simp [row_rows, Function.comp_def]; exact .mk) (c51) (by simp) (by simp [oStt]; exact .mk) ?_
  iterate 5 refine xO ?_
  refine run_op rfl rfl rfl (by simp [splice]; exact .mk) ?_
  iterate 2 refine xO ?_
  refine xE [1, 2, 5, 9, 10, 11, 12] ?_
  refine xT ?_
  refine run_op rfl rfl rfl (by simp [eSlot]; exact .mk) ?_
  refine xO ?_
  refine run_op rfl rfl rfl (by simp [w1]; exact .mk) ?_
  refine run_call0 rfl rfl rfl rfl (by simp; exact .mk) (by simp [row_rows, Function.comp_def]; exact .mk) (c53b) (by simp) (by simp [oStt]; exact .mk) ?_
  iterate 4 refine xO ?_
  refine run_op rfl rfl rfl (by simp [splice]; exact .mk) ?_
  refine xO ?_
  refine xE [2, 5, 9, 10, 11, 12, 13, 14] ?_
  refine xT ?_
  iterate 2 refine xO ?_
  iterate 2 refine xI ?_
  refine xP ?_
  refine xB ?_
  iterate 2 refine xI ?_
  refine xP ?_
  refine xB ?_
  iterate 2 refine xI ?_
  refine xP ?_
  refine xB ?_
  iterate 2 refine xI ?_
  refine run_if rfl (by simp; exact .mk) rfl (by simp <;> first | omega | grind) (fun hb => by simp [eSlot]; exact .mk) ?_
  refine run_if rfl (by simp; exact .mk) rfl (by simp <;> first | omega | grind) (fun hb => by simp [w2]; exact .mk) ?_
  refine xI ?_
  refine xP ?_
  refine xB ?_
  iterate 2 (refine run_if rfl (by simp; exact .mk) rfl (by simp <;> first | omega | grind) (fun hb => by simp [eSlot]; exact .mk) ?_)
  refine run_call rfl (by simp; exact .mk) rfl rfl (by simp) (by simp; exact .mk) (by simp [row_rows, Function.comp_def]; exact .mk) (fun hb => c25) (by simp) (by simp [oStt]; exact .mk) (by simp) ?_
  refine xP ?_
  refine xB ?_
  refine xE [4] ?_
  rintro -
  refine W_ret ?_
  refine xR (by simp [Tryz.f7]; exact .mk) ?_
  first | (simp [nrmR, nrmRs, nrmK, kindsOf, kinds, Tryz.f7, hl]; done) | (simp [nrmR, nrmRs, nrmK, kindsOf, kinds, Tryz.f7, hn]; done) | (simp [nrmR, nrmRs, nrmK, kindsOf, kinds, Tryz.f7, hn]; omega)

end Go.Proofs
