/- Contracts of the program's functions, each against a plain function over lists and numbers (it answers what that one answers, for arguments of at most 2^40 elements where a lemma says so), and plain facts about these. -/
import Derived.Test.YtokgokbgidgfeaaGreatCG
import Derived.Test.YtokgokbgidgfeaaGreatCH
import Derived.Test.YtokgokbgidgfeaaGreatCE
import Derived.Test.YtokgokbgidgfeaaGreatCC
set_option linter.all false
set_option maxHeartbeats 4000000
set_option maxRecDepth 4000
namespace Go.Proofs
open Go.Awp
theorem ct11 (g : Gl) (s : Stt) (up : Bool) : CtAt Tryz.prog g 11 [eStt s, vT up] (.v (.bool true)) := by
  refine ctAt_of_W Tryz.func11 rfl rfl (Nat.le_of_ble_eq_true rfl) fun B S => ?_
  simp only [eStt, List.map, argD_agg, argD_v]
  refine xU ?_
  iterate 2 refine xO ?_
  refine xE [1, 2] ?_
  refine xT ?_
  refine run_call0 rfl rfl rfl rfl (by simp; exact .mk) (by simp [row_rows, Function.comp_def]; exact .mk) (ct50 g) (by simp) (by simp [oStt, oAbs]; exact .mk) ?_
  refine xO ?_
  refine xE [1, 2, 5] ?_
  refine xT ?_
  refine run_op rfl rfl rfl (by simp [eSlot]; exact .mk) ?_
  refine run_call0 rfl rfl rfl rfl (by simp; exact .mk) (by simp [row_rows, Function.comp_def]; exact .mk) (ct20 g s) (by simp) (by simp [oStt, oAbs]; exact .mk) ?_
  refine xO ?_
  refine xE [1, 2, 5, 6] ?_
  rintro -
  refine W_seq ?_
  refine xU ?_
  iterate 3 refine xO ?_
  iterate 2 refine xI ?_
  refine run_if rfl (by simp; exact .mk) rfl (by simp <;> first | omega | grind) (fun hb => by simp [eSlot]; exact .mk) ?_
  refine xI ?_
  refine xP ?_
  refine xE [1, 2, 5, 23] ?_
  rintro -
  refine W_cond rfl ?_ ?_
  · intro h23
    refine xU ?_
    iterate 2 refine xO ?_
    refine xE [4] ?_
    rintro -
    refine W_ret ?_
    refine xR (by simp [Tryz.f11]; exact .mk) ?_
    first | (simp [nrmR, nrmRs, nrmK, kindsOf, kinds, Tryz.f11, *]; done) | (simp [nrmR, nrmRs, nrmK, kindsOf, kinds, Tryz.f11, hl]; done)
  intro h23
  have hF : fewStt s = true := by simp at h23; grind
  have hs := fewStt_ok hF
  refine W_skip ?_
  rintro -
  refine W_seq ?_
  have c54 := ct54 g s hs up
  obtain ⟨A, hA⟩ : ∃ X, X = (startS s up).1 := ⟨_, rfl⟩
  have hAo : A.Ok := by rw [hA]; exact startS_Ok hs
  rw [← hA] at c54
  refine W_reg rfl ?_
  refine run_op rfl rfl rfl (by simp [eSlot]; exact .mk) ?_
  refine xO ?_
  refine run_call0 rfl rfl rfl rfl (by simp; exact .mk) (by simp [row_rows, Function.comp_def]; exact .mk) (c54) (by simp) (by simp [oStt, oAbs]; exact .mk) ?_
  iterate 4 refine xO ?_
  refine run_op rfl rfl rfl (by simp [splice]; exact .mk) ?_
  refine xO ?_
  refine xE [1, 2, 5, 7, 8] ?_
  rintro -
  refine W_seq ?_
  refine xU ?_
  iterate 2 refine xO ?_
  refine xE [1, 2, 5, 7, 32] ?_
  rintro -
  refine W_cond rfl ?_ ?_
  · intro h32
    have he : (startS s up).2 ≠ 0 := by simpa using h32
    have hl : A.slots.length = 0 := by rw [hA, start_z he]; rfl
    refine xU ?_
    iterate 2 refine xO ?_
    refine xI ?_
    refine run_if rfl (by simp; exact .mk) rfl (by simp <;> first | omega | grind) (fun hb => by simp [eSlot]; exact .mk) ?_
    iterate 2 refine xI ?_
    refine xP ?_
    refine xB ?_
    refine xE [4] ?_
    rintro -
    refine W_ret ?_
    refine xR (by simp [Tryz.f11]; exact .mk) ?_
    first | (simp [nrmR, nrmRs, nrmK, kindsOf, kinds, Tryz.f11, *]; done) | (simp [nrmR, nrmRs, nrmK, kindsOf, kinds, Tryz.f11, hl]; done)
  intro h32
  have he : (startS s up).2 = 0 := by simpa using h32
  obtain ⟨h0, hm, k0, hz⟩ := start_ok he
  obtain ⟨E, n, k1, k2, k3, k4, k5, k6⟩ := end_of he
  rw [k0] at hA
  have hA2 : A = turnS s (toM up) 0 := hA
  rw [← hA2] at k1 k3
  have hb2 := superS_b (sttS_super h0)
  have hAp : A.sh.pages = s.sh.pages := by rw [hA2]; rfl
  have c51 := ct51 g A hAo
  have hEo : E.Ok := by have := endS_Ok hAo; rwa [k1] at this
  rw [k1] at c51
  have c58 := ct58 g A (by omega)
  have c32E := ct32 g E hEo
  rw [k4] at c32E
  have c60E := ct60 g E hEo
  have c60s := ct60 g s hs
  have c61 := ct61 g (ofS E) (ofS s) (ofS_ok hEo)
  rw [kept_of k5] at c60E c61
  rw [sameAbs_refl] at c61
  obtain ⟨Q, hQ⟩ : ∃ Q, Q = ofS s := ⟨_, rfl⟩
  rw [← hQ] at c60E c60s c61
  have hn1 : (1 : Int) ≤ n := by omega
  refine W_skip ?_
  refine xT ?_
  refine run_op rfl rfl rfl (by simp [eSlot]; exact .mk) ?_
  refine run_call0 rfl rfl rfl rfl (by simp; exact .mk) (by simp [row_rows, Function.comp_def]; exact .mk) (c51) (by simp) (by simp [oStt, oAbs]; exact .mk) ?_
  iterate 5 refine xO ?_
  refine run_op rfl rfl rfl (by simp [splice]; exact .mk) ?_
  iterate 2 refine xO ?_
  refine xE [1, 2, 5, 7, 9, 10, 11] ?_
  refine xT ?_
  refine xO ?_
  refine xE [1, 2, 5, 7, 9, 10, 11, 12] ?_
  rintro -
  refine W_seq ?_
  refine xU ?_
  refine xO ?_
  refine xE [2, 5, 7, 9, 10, 11, 12, 46] ?_
  rintro -
  refine W_cond rfl ?_ ?_
  · intro h46
    obtain rfl : up = true := by simpa using h46
    have k7 : E.mode = 2 := k6
    refine W_reg rfl ?_
    refine xO ?_
    refine xE [2, 5, 7, 9, 10, 11, 12] ?_
    rintro -
    refine W_seq ?_
    refine W_regD (by kernel_rfl) [] 12 [0, 1, 2, 3, 4, 5, 6, 7, 8, 9, 10, 11, 12, 13, 14, 15, 16, 17, 18, 19, 20, 21, 22, 23, 24, 25, 26, 28, 27, 29, 30, 31, 32] (by decide +kernel) ?_
    iterate 2 refine xO ?_
    iterate 2 refine xI ?_
    refine xP ?_
    refine xB ?_
    refine xI ?_
    refine run_if rfl (by simp; exact .mk) rfl (by simp <;> first | omega | grind) (fun hb => by simp [hn1]; exact .mk) ?_
    refine run_pick rfl (by simp; exact .mk) rfl rfl (by simp <;> first | assumption | omega | grind) (by simp [hn1]; exact .mk) (by simp [hn1]; exact .mk) (by simp; exact .mk) ?_
    refine xB ?_
    refine xI ?_
    refine run_if rfl (by simp; exact .mk) rfl (by simp <;> first | omega | grind) (fun hb => by simp [eSlot]; exact .mk) ?_
    refine run_call rfl (by simp; exact .mk) rfl rfl (by simp) (by simp; exact .mk) (by simp [row_rows, Function.comp_def]; exact .mk) (fun hb => c58) (by simp) (by simp [oStt, oAbs]; exact .mk) (by simp) ?_
    refine run_if rfl (by simp; exact .mk) rfl (by simp <;> first | omega | grind) (fun hb => by simp [k3]; exact .mk) ?_
    refine run_pick rfl (by simp; exact .mk) rfl rfl (by simp <;> first | assumption | omega | grind) (by simp [k3]; exact .mk) (by simp [k3]; exact .mk) (by simp; exact .mk) ?_
    refine xB ?_
    refine xI ?_
    refine run_if rfl (by simp; exact .mk) rfl (by simp <;> first | omega | grind) (fun hb => by simp [eSlot]; exact .mk) ?_
    refine xI ?_
    refine run_if rfl (by simp; exact .mk) rfl (by simp <;> first | omega | grind) (fun hb => by simp [k7]; exact .mk) ?_
    refine run_pick rfl (by simp; exact .mk) rfl rfl (by simp <;> first | assumption | omega | grind) (by simp [k7]; exact .mk) (by simp [k7]; exact .mk) (by simp; exact .mk) ?_
    refine xB ?_
    refine run_if rfl (by simp; exact .mk) rfl (by simp <;> first | omega | grind) (fun hb => by simp [eSlot]; exact .mk) ?_
    refine run_call rfl (by simp; exact .mk) rfl rfl (by simp) (by simp; exact .mk) (by simp [row_rows, Function.comp_def]; exact .mk) (fun hb => c32E) (by simp) (by simp [oStt, oAbs]; exact .mk) (by simp) ?_
    refine xP ?_
    refine xB ?_
    iterate 2 (refine run_if rfl (by simp; exact .mk) rfl (by simp <;> first | omega | grind) (fun hb => by simp [eSlot]; exact .mk) ?_)
    refine run_call rfl (by simp; exact .mk) rfl rfl (by simp) (by simp; exact .mk) (by simp [row_rows, Function.comp_def]; exact .mk) (fun hb => c60E) (by simp) (by simp [oStt, oAbs]; exact .mk) (by simp) ?_
    refine run_call rfl (by simp; exact .mk) rfl rfl (by simp) (by simp; exact .mk) (by simp [row_rows, Function.comp_def]; exact .mk) (fun hb => c60s) (by simp) (by simp [oStt, oAbs]; exact .mk) (by simp) ?_
    refine run_call rfl (by simp; exact .mk) rfl rfl (by simp) (by simp; exact .mk) (by simp [row_rows, Function.comp_def]; exact .mk) (fun hb => c61) (by simp) (by simp [oStt, oAbs]; exact .mk) (by simp) ?_
    refine xP ?_
    refine xB ?_
    refine xE [4] ?_
    rintro -
    refine W_ret ?_
    refine xR (by simp [Tryz.f11]; exact .mk) ?_
    first | (simp [nrmR, nrmRs, nrmK, kindsOf, kinds, Tryz.f11, *]; done) | (simp [nrmR, nrmRs, nrmK, kindsOf, kinds, Tryz.f11, hl]; done)
  intro h46
  obtain rfl : up = false := by simpa using h46
  have k7 : E.mode = 1 := k6
  refine W_skip ?_
  rintro -
  refine W_seq ?_
  refine W_regD (by kernel_rfl) [] 12 [0, 1, 2, 3, 4, 5, 6, 7, 8, 9, 10, 11, 12, 13, 14, 15, 16, 17, 18, 19, 20, 21, 22, 23, 24, 25, 26, 28, 27, 29, 30, 31, 32] (by decide +kernel) ?_
  iterate 2 refine xO ?_
  iterate 2 refine xI ?_
  refine xP ?_
  refine xB ?_
  refine xI ?_
  refine run_if rfl (by simp; exact .mk) rfl (by simp <;> first | omega | grind) (fun hb => by simp [hn1]; exact .mk) ?_
  refine run_pick rfl (by simp; exact .mk) rfl rfl (by simp <;> first | assumption | omega | grind) (by simp [hn1]; exact .mk) (by simp [hn1]; exact .mk) (by simp; exact .mk) ?_
  refine xB ?_
  refine xI ?_
  refine run_if rfl (by simp; exact .mk) rfl (by simp <;> first | omega | grind) (fun hb => by simp [eSlot]; exact .mk) ?_
  refine run_call rfl (by simp; exact .mk) rfl rfl (by simp) (by simp; exact .mk) (by simp [row_rows, Function.comp_def]; exact .mk) (fun hb => c58) (by simp) (by simp [oStt, oAbs]; exact .mk) (by simp) ?_
  refine run_if rfl (by simp; exact .mk) rfl (by simp <;> first | omega | grind) (fun hb => by simp [k3]; exact .mk) ?_
  refine run_pick rfl (by simp; exact .mk) rfl rfl (by simp <;> first | assumption | omega | grind) (by simp [k3]; exact .mk) (by simp [k3]; exact .mk) (by simp; exact .mk) ?_
  refine xB ?_
  refine xI ?_
  refine run_if rfl (by simp; exact .mk) rfl (by simp <;> first | omega | grind) (fun hb => by simp [eSlot]; exact .mk) ?_
  refine xI ?_
  refine run_if rfl (by simp; exact .mk) rfl (by simp <;> first | omega | grind) (fun hb => by simp [k7]; exact .mk) ?_
  refine run_pick rfl (by simp; exact .mk) rfl rfl (by simp <;> first | assumption | omega | grind) (by simp [k7]; exact .mk) (by simp [k7]; exact .mk) (by simp; exact .mk) ?_
  refine xB ?_
  refine run_if rfl (by simp; exact .mk) rfl (by simp <;> first | omega | grind) (fun hb => by simp [eSlot]; exact .mk) ?_
  refine run_call rfl (by simp; exact .mk) rfl rfl (by simp) (by simp; exact .mk) (by simp [row_rows, Function.comp_def]; exact .mk) (fun hb => c32E) (by simp) (by simp [oStt, oAbs]; exact .mk) (by simp) ?_
  refine xP ?_
  refine xB ?_
  iterate 2 (refine run_if rfl (by simp; exact .mk) rfl (by simp <;> first | omega | grind) (fun hb => by simp [eSlot]; exact .mk) ?_)
  refine run_call rfl (by simp; exact .mk) rfl rfl (by simp) (by simp; exact .mk) (by simp [row_rows, Function.comp_def]; exact .mk) (fun hb => c60E) (by simp) (by simp [oStt, oAbs]; exact .mk) (by simp) ?_
  refine run_call rfl (by simp; exact .mk) rfl rfl (by simp) (by simp; exact .mk) (by simp [row_rows, Function.comp_def]; exact .mk) (fun hb => c60s) (by simp) (by simp [oStt, oAbs]; exact .mk) (by simp) ?_
  refine run_call rfl (by simp; exact .mk) rfl rfl (by simp) (by simp; exact .mk) (by simp [row_rows, Function.comp_def]; exact .mk) (fun hb => c61) (by simp) (by simp [oStt, oAbs]; exact .mk) (by simp) ?_
  refine xP ?_
  refine xB ?_
  refine xE [4] ?_
  rintro -
  refine W_ret ?_
  refine xR (by simp [Tryz.f11]; exact .mk) ?_
  first | (simp [nrmR, nrmRs, nrmK, kindsOf, kinds, Tryz.f11, *]; done) | (simp [nrmR, nrmRs, nrmK, kindsOf, kinds, Tryz.f11, hl]; done)

end Go.Proofs

set_option maxHeartbeats 1000000
namespace Go.Proofs
open Go.Awp
/-- Without objects. -/
def NoLive (s : Stt) : Prop := ∀ i, i < s.slots.length → (nth s.slots i).live = false
theorem live_no {l : List Slot} : ∀ {n : Nat}, liveIx l n = 0 → ∀ i, i < n → (nth l i).live = false
  | 0, _, i, hi => by omega
  | n + 1, h, i, hi => by
    rw [liveIx_s] at h
    by_cases e : i = n
    · subst e
      cases hq : (nth l i).live with
      | false => rfl
      | true => rw [hq] at h; simp at h
    · exact live_no (n := n) (by omega) i (by omega)
theorem no_kept {s t : Stt} (h : Kept s t) (k : NoLive s) : NoLive t := fun i hi => by
  rw [h.len] at hi
  rw [(h.slot i hi).2.1]; exact k i hi
theorem filt_no {f : Nat → Bool} {n : Nat} (h : ∀ i, i < n → f i = false) : (List.range n).filter f = [] :=
  List.filter_eq_nil_iff.2 fun i hi => by rw [h i (List.mem_range.1 hi)]; simp
theorem ones_no {s : Stt} (h : NoLive s) : onesS s.slots = [] := by
  have e : onesR s.slots = [] := by
    unfold onesR oneIx
    rw [filt_no fun i hi => by simp [isOne, h i hi]]; rfl
  have := (stS_perm (lt := ltB) (onesR s.slots)).length_eq
  rw [e] at this
  unfold onesS
  rw [e]
  exact List.length_eq_zero_iff.1 this
theorem twos_no {s : Stt} (h : NoLive s) : twosO s.slots = [] := by
  unfold twosO twoIx
  rw [filt_no fun i hi => by simp [isTwo, h i hi]]; rfl
theorem stepU_no {s : Stt} (h : NoLive s) (hR : sttS s = true) (hm : s.mode = 3) : stepS s = if s.base = s.sh.pages then (turnS s 2 0, 0) else (turnS s 3 1, 0) := by
  unfold stepS
  rw [if_pos hR, if_pos hm]
  unfold upStep
  rw [ones_no h, hm]
  split
  · rfl
  · rw [if_pos (.inl rfl)]
theorem stepD_no {s : Stt} (h : NoLive s) (hR : sttS s = true) (hm : s.mode = 4) : stepS s = if s.base = 0 then (turnS s 1 0, 0) else (turnS s 4 (-1), 0) := by
  unfold stepS
  rw [if_pos hR, if_neg (by omega), if_pos hm]
  unfold downStep
  rw [twos_no h, hm]
  split
  · rfl
  · rw [if_pos (show matesS s.base [] (s.base - 1) = [] from rfl)]
theorem step_no {s : Stt} (h : NoLive s) (hR : sttS s = true) (hm : movingS s = true) : (stepS s).2 = 0 := by
  rcases (show s.mode = 3 ∨ s.mode = 4 by simpa [movingS] using hm) with e | e
  · rw [stepU_no h hR e]; split <;> rfl
  · rw [stepD_no h hR e]; split <;> rfl
theorem end_no : ∀ {f n : Nat} {s : Stt}, NoLive s → sttS s = true → movingS s = true ∨ 0 < n → needE n s ≤ f → (endF f n s).2.2 = 0
  | 0, n, s, _, _, _, hf => by have := need_pos (n := n) (s := s); omega
  | f + 1, n, s, hN, h, hm, hf => by
    by_cases h0 : 0 < n ∧ movingS s = false
    · rw [endF_stop h0]
    · have hmv : movingS s = true := by
        rcases hm with hm | hm
        · exact hm
        · cases hq : movingS s with
          | true => rfl
          | false => exact absurd ⟨hm, hq⟩ h0
      have hs := step_no hN h hmv
      obtain ⟨_, n2⟩ := end_next h0 hs
      rw [endF_step h0 hs]
      obtain ⟨_, _, a, b, _⟩ := step_ok hs
      exact end_no (no_kept b hN) a (.inr (by omega)) (by omega)
theorem start_no {s : Stt} {up : Bool} (hN : NoLive s) (h : sttS s = true) (hm : s.mode = fromM up) : (startS s up).2 = 0 := by
  have := end_no (f := needE 0 (turnS s (toM up) 0)) (n := 0) (s := turnS s (toM up) 0) hN (start_right h) (.inl moving_to) (Nat.le_refl _)
  unfold startS
  rw [if_neg (by rw [h]; simp), if_neg (by simpa using hm), if_neg (by simpa [endS] using this)]
/-- A start that fails where it may be: there are objects. -/
theorem start_live {s : Stt} {up : Bool} (h : sttS s = true) (hm : s.mode = fromM up) (he : (startS s up).2 ≠ 0) : 0 < liveIx s.slots s.slots.length := by
  rcases Nat.eq_zero_or_pos (liveIx s.slots s.slots.length) with e | e
  · exact absurd (start_no (live_no e) h hm) he
  · exact e
theorem base_of {s t : Stt} (hs : sttS s = true) (ht : sttS t = true) (hk : Kept s t) (hm : t.mode = s.mode) (h : s.mode = 1 ∨ s.mode = 2) : t.base = s.base := by
  have a := sttS_super hs
  have b := sttS_super ht
  simp only [superS, Bool.and_eq_true] at a b
  have a := a.2
  have b := b.2
  rw [hm] at b
  rcases h with e | e <;> rw [e] at a b
  · simp at a b; omega
  · simp at a b; rw [hk.sh] at b; omega
theorem slot_clear {x : Slot} (h : slotS1 x = true) (hl : x.live = false) : x = ⟨x.gen, false, false, 0, 0⟩ := by
  unfold slotS1 at h
  split at h
  · cases h
  · skip
    simp only [Bool.and_eq_true, beq_iff_eq] at h
    cases x
    simp only at h hl
    simp [h, hl]
theorem nth_ext {α : Type} [Inhabited α] {l m : List α} (hl : l.length = m.length) (h : ∀ i, i < m.length → nth l i = nth m i) : l = m := by
  refine List.ext_getElem hl fun i h1 h2 => ?_
  have := h i h2
  rwa [nth_eq h1, nth_eq h2] at this
theorem kept_eq {s t : Stt} (hs : sttS s = true) (ht : sttS t = true) (hk : Kept s t) (hN : NoLive s) (hm : t.mode = s.mode) (hb : t.base = s.base) : t = s := by
  have e : t.slots = s.slots := nth_ext hk.len fun i hi => by
    have a := slot_clear (tableS_slot (sttS_rows hs) i hi) (hN i hi)
    have b := slot_clear (tableS_slot (sttS_rows ht) i (by rw [hk.len]; exact hi)) (by rw [(hk.slot i hi).2.1]; exact hN i hi)
    rw [b, (hk.slot i hi).1, ← a]
  cases s; cases t
  have h1 := hk.sh; have h2 := hk.roots; have h3 := hk.data
  simp only at h1 h2 h3 hm hb e
  subst h1 h2 h3 hm hb e
  rfl
/-- Up and down. -/
theorem rounds_law {s E B : Stt} {up : Bool} (h : sttS s = true) (hE : sttS E = true) (hB : sttS B = true) (k1 : Kept s E) (k2 : Kept E B) (hm : s.mode = fromM up) (hmB : B.mode = if (!up) = true then 2 else 1) :
    B.mode = s.mode ∧ B.base = s.base ∧ ofS B = ofS s ∧ (liveIx s.slots s.slots.length = 0 → B = s) := by
  have e : B.mode = s.mode := by rw [hmB, hm]; cases up <;> rfl
  have k := k1.trans k2
  have hb := base_of h hB k e (by rw [hm]; cases up <;> simp [fromM])
  exact ⟨e, hb, kept_of k, fun hl => kept_eq h hB k (live_no hl) e hb⟩
end Go.Proofs

set_option maxHeartbeats 1000000
namespace Go.Proofs
open Go.Awp
/-- Why a start fails. -/
theorem start_why {s : Stt} {up : Bool} (h : sttS s = true) (hup : up = decide (s.mode = 1)) (he : (startS s up).2 ≠ 0) : 2 < s.mode ∨ 0 < liveIx s.slots s.slots.length := by
  by_cases hm : s.mode = fromM up
  · exact .inr (start_live h hm he)
  · left
    have hs := sttS_super h
    simp only [superS, Bool.and_eq_true] at hs
    have hs := hs.2
    by_cases h1 : s.mode = 1
    · exfalso; apply hm; rw [hup, h1]; rfl
    · by_cases h2 : s.mode = 2
      · exfalso; apply hm; rw [hup, h2]; rfl
      · rw [if_neg h1, if_neg h2] at hs
        simp only [decide_eq_true_eq] at hs
        omega
theorem turn_why {s E : Stt} {up : Bool} (h : sttS E = true) (hk : Kept s E) (hm : E.mode = (if up = true then 2 else 1)) (he : (startS E (!up)).2 ≠ 0) : (startS E (!up)).2 = 10 ∧ 0 < liveIx s.slots s.slots.length := by
  have hm2 : E.mode = fromM (!up) := by rw [hm]; cases up <;> rfl
  have := (start_err h he).2
  rw [if_pos hm2] at this
  refine ⟨this, ?_⟩
  rw [← kept_live' hk]
  exact start_live h hm2 he
def goneTo (s : Stt) (mode base : Int) : Stt := { s with mode := mode, base := base }
end Go.Proofs

set_option maxHeartbeats 4000000
set_option maxRecDepth 4000
namespace Go.Proofs
open Go.Awp
theorem ct12 (g : Gl) (s : Stt) : CtAt Tryz.prog g 12 [eStt s] (.v (.bool true)) := by
  refine ctAt_of_W Tryz.func12 rfl rfl (Nat.le_of_ble_eq_true rfl) fun B S => ?_
  simp only [eStt, List.map, argD_agg, argD_v]
  refine xU ?_
  iterate 2 refine xO ?_
  refine xE [1] ?_
  refine xT ?_
  refine run_call0 rfl rfl rfl rfl (by simp; exact .mk) (by simp [row_rows, Function.comp_def]; exact .mk) (ct50 g) (by simp) (by simp [oStt, oAbs]; exact .mk) ?_
  refine xO ?_
  refine xE [1, 3] ?_
  refine xT ?_
  refine run_op rfl rfl rfl (by simp [eSlot]; exact .mk) ?_
  refine run_call0 rfl rfl rfl rfl (by simp; exact .mk) (by simp [row_rows, Function.comp_def]; exact .mk) (ct20 g s) (by simp) (by simp [oStt, oAbs]; exact .mk) ?_
  refine xO ?_
  refine xE [1, 3, 4] ?_
  rintro -
  refine W_seq ?_
  refine xU ?_
  iterate 3 refine xO ?_
  refine run_if rfl (by simp; exact .mk) rfl (by simp <;> first | omega | grind) (fun hb => by simp [eSlot]; exact .mk) ?_
  refine run_call rfl (by simp; exact .mk) rfl rfl (by simp) (by simp; exact .mk) (by simp [row_rows, Function.comp_def]; exact .mk) (fun hb => ct32 g s (fewStt_ok (by first | exact hb | (simp at hb; first | exact hb | exact hb.1)))) (by simp) (by simp [oStt, oAbs]; exact .mk) (by simp) ?_
  refine xI ?_
  refine xP ?_
  refine xB ?_
  iterate 2 refine xI ?_
  refine run_if rfl (by simp; exact .mk) rfl (by simp <;> first | omega | grind) (fun hb => by simp [eSlot]; exact .mk) ?_
  refine xI ?_
  refine xP ?_
  refine xE [1, 3, 31] ?_
  rintro -
  refine W_cond rfl ?_ ?_
  · intro h31
    refine xU ?_
    iterate 2 refine xO ?_
    refine xE [2] ?_
    rintro -
    refine W_ret ?_
    refine xR (by simp [Tryz.f12]; exact .mk) ?_
    first | (simp [nrmR, nrmRs, nrmK, kindsOf, kinds, Tryz.f12, he2.1, he2.2]; done) | (simp [nrmR, nrmRs, nrmK, kindsOf, kinds, Tryz.f12]; omega) | (simp [nrmR, nrmRs, nrmK, kindsOf, kinds, Tryz.f12, *]; done) | (simp [nrmR, nrmRs, nrmK, kindsOf, kinds, Tryz.f12]; intro q; exact hlast (by simpa using q)) | (simp [nrmR, nrmRs, nrmK, kindsOf, kinds, Tryz.f12]; grind)
  intro h31
  have hF : fewStt s = true ∧ sttS s = true := by simp at h31; grind
  have hs := fewStt_ok hF.1
  have hR := hF.2
  obtain ⟨up, hup⟩ : ∃ up, up = (s.mode == 1) := ⟨_, rfl⟩
  have hup2 : up = decide (s.mode = 1) := by rw [hup]; rfl
  have c35s := ct35 g s hs
  refine W_skip ?_
  refine xT ?_
  refine xO ?_
  refine run_op rfl rfl rfl (by simp [eSlot]; exact .mk) ?_
  iterate 2 refine xO ?_
  refine xE [1, 3, 5] ?_
  rintro -
  refine W_seq ?_
  rw [← hup]
  have c54 := ct54 g s hs up
  obtain ⟨A, hA⟩ : ∃ X, X = (startS s up).1 := ⟨_, rfl⟩
  have hAo : A.Ok := by rw [hA]; exact startS_Ok hs
  rw [← hA] at c54
  refine W_reg rfl ?_
  refine run_op rfl rfl rfl (by simp [eSlot]; exact .mk) ?_
  refine xO ?_
  refine run_call0 rfl rfl rfl rfl (by simp; exact .mk) (by simp [row_rows, Function.comp_def]; exact .mk) (c54) (by simp) (by simp [oStt, oAbs]; exact .mk) ?_
  iterate 4 refine xO ?_
  refine run_op rfl rfl rfl (by simp [splice]; exact .mk) ?_
  refine xO ?_
  refine xE [1, 3, 5, 6, 7] ?_
  rintro -
  refine W_seq ?_
  refine xU ?_
  iterate 2 refine xO ?_
  refine xE [1, 3, 5, 6, 43] ?_
  rintro -
  refine W_cond rfl ?_ ?_
  · intro h43
    have he : (startS s up).2 ≠ 0 := by simpa using h43
    have hl : 2 < s.mode ∨ 0 < liveIx s.slots s.slots.length := start_why hR hup2 he
    refine xU ?_
    iterate 2 refine xO ?_
    refine xI ?_
    refine run_if rfl (by simp; exact .mk) rfl (by simp <;> first | omega | grind) (fun hb => by simp [eSlot]; exact .mk) ?_
    iterate 2 refine xI ?_
    refine run_if rfl (by simp; exact .mk) rfl (by simp <;> first | omega | grind) (fun hb => by simp [eSlot]; exact .mk) ?_
    refine run_call rfl (by simp; exact .mk) rfl rfl (by simp) (by simp; exact .mk) (by simp [row_rows, Function.comp_def]; exact .mk) (fun hb => c35s) (by simp) (by simp [oStt, oAbs]; exact .mk) (by simp) ?_
    refine xI ?_
    iterate 2 refine xP ?_
    refine xB ?_
    refine xE [2] ?_
    rintro -
    refine W_ret ?_
    refine xR (by simp [Tryz.f12]; exact .mk) ?_
    first | (simp [nrmR, nrmRs, nrmK, kindsOf, kinds, Tryz.f12, he2.1, he2.2]; done) | (simp [nrmR, nrmRs, nrmK, kindsOf, kinds, Tryz.f12]; omega) | (simp [nrmR, nrmRs, nrmK, kindsOf, kinds, Tryz.f12, *]; done) | (simp [nrmR, nrmRs, nrmK, kindsOf, kinds, Tryz.f12]; intro q; exact hlast (by simpa using q)) | (simp [nrmR, nrmRs, nrmK, kindsOf, kinds, Tryz.f12]; grind)
  intro h43
  have he : (startS s up).2 = 0 := by simpa using h43
  obtain ⟨h0, hm, k0, hz⟩ := start_ok he
  obtain ⟨E, n, k1, k2, k3, hER, hEk, k6⟩ := end_of he
  rw [k0] at hA
  have hA2 : A = turnS s (toM up) 0 := hA
  rw [← hA2] at k1
  have c51 := ct51 g A hAo
  have hEo : E.Ok := by have := endS_Ok hAo; rwa [k1] at this
  rw [k1] at c51
  have c54z := ct54 g E hEo (!up)
  obtain ⟨Z, hZ⟩ : ∃ Z, Z = (startS E (!up)).1 := ⟨_, rfl⟩
  have hZo : Z.Ok := by rw [hZ]; exact startS_Ok hEo
  rw [← hZ] at c54z
  refine W_skip ?_
  refine xT ?_
  refine run_op rfl rfl rfl (by simp [eSlot]; exact .mk) ?_
  refine run_call0 rfl rfl rfl rfl (by simp; exact .mk) (by simp [row_rows, Function.comp_def]; exact .mk) (c51) (by simp) (by simp [oStt, oAbs]; exact .mk) ?_
  iterate 5 refine xO ?_
  refine run_op rfl rfl rfl (by simp [splice]; exact .mk) ?_
  iterate 2 refine xO ?_
  refine xE [1, 3, 5, 8, 10] ?_
  refine xT ?_
  refine run_op rfl rfl rfl (by simp [eSlot]; exact .mk) ?_
  iterate 2 refine xO ?_
  refine run_call0 rfl rfl rfl rfl (by simp; exact .mk) (by simp [row_rows, Function.comp_def]; exact .mk) (c54z) (by simp) (by simp [oStt, oAbs]; exact .mk) ?_
  iterate 4 refine xO ?_
  refine run_op rfl rfl rfl (by simp [splice]; exact .mk) ?_
  refine xO ?_
  refine xE [1, 3, 10, 11, 12] ?_
  rintro -
  refine W_seq ?_
  refine xU ?_
  iterate 3 refine xO ?_
  iterate 2 refine xI ?_
  refine xP ?_
  refine xE [1, 3, 10, 11, 12, 73] ?_
  rintro -
  refine W_cond rfl ?_ ?_
  · intro h73
    have he2 : (startS E (!up)).2 = 10 ∧ 0 < liveIx s.slots s.slots.length := turn_why hER hEk k6 (by simpa using h73)
    refine xU ?_
    iterate 2 refine xO ?_
    iterate 2 refine xI ?_
    refine xP ?_
    refine xB ?_
    iterate 2 refine xI ?_
    refine xP ?_
    refine xB ?_
    refine run_if rfl (by simp; exact .mk) rfl (by simp <;> first | omega | grind) (fun hb => by simp [eSlot]; exact .mk) ?_
    refine run_call rfl (by simp; exact .mk) rfl rfl (by simp) (by simp; exact .mk) (by simp [row_rows, Function.comp_def]; exact .mk) (fun hb => c35s) (by simp) (by simp [oStt, oAbs]; exact .mk) (by simp) ?_
    refine xI ?_
    refine xP ?_
    refine xB ?_
    refine xE [2] ?_
    rintro -
    refine W_ret ?_
    refine xR (by simp [Tryz.f12]; exact .mk) ?_
    first | (simp [nrmR, nrmRs, nrmK, kindsOf, kinds, Tryz.f12, he2.1, he2.2]; done) | (simp [nrmR, nrmRs, nrmK, kindsOf, kinds, Tryz.f12]; omega) | (simp [nrmR, nrmRs, nrmK, kindsOf, kinds, Tryz.f12, *]; done) | (simp [nrmR, nrmRs, nrmK, kindsOf, kinds, Tryz.f12]; intro q; exact hlast (by simpa using q)) | (simp [nrmR, nrmRs, nrmK, kindsOf, kinds, Tryz.f12]; grind)
  intro h73
  have he2 : (startS E (!up)).2 = 0 := by simpa using h73
  obtain ⟨_, _, q0, _⟩ := start_ok he2
  obtain ⟨B, nB, hB, _, _, hBR, hBk, hBm⟩ := end_of he2
  rw [q0] at hZ
  have hZ2 : Z = turnS E (toM (!up)) 0 := hZ
  rw [← hZ2] at hB
  obtain ⟨w1, w2, w3, w4⟩ := rounds_law hR hER hBR hEk hBk hm hBm
  have c51z := ct51 g Z hZo
  have hBo : B.Ok := by have := endS_Ok hZo; rwa [hB] at this
  rw [hB] at c51z
  have c60B := ct60 g B hBo
  rw [w3] at c60B
  have c60s := ct60 g s hs
  obtain ⟨Q, hQ⟩ : ∃ Q, Q = ofS s := ⟨_, rfl⟩
  have c61 := ct61 g Q Q (by rw [hQ]; exact ofS_ok hs)
  rw [sameAbs_refl] at c61
  rw [← hQ] at c60B c60s
  have c34B := ct34 g B s hBo
  have hlast : decide (0 < (liveIx s.slots s.slots.length : Int)) = false → sameStt B s = true := fun h => by rw [w4 (by simpa using h)]; exact sameStt_refl s
  refine W_skip ?_
  refine xT ?_
  refine run_op rfl rfl rfl (by simp [eSlot]; exact .mk) ?_
  refine run_call0 rfl rfl rfl rfl (by simp; exact .mk) (by simp [row_rows, Function.comp_def]; exact .mk) (c51z) (by simp) (by simp [oStt, oAbs]; exact .mk) ?_
  iterate 5 refine xO ?_
  refine run_op rfl rfl rfl (by simp [splice]; exact .mk) ?_
  iterate 2 refine xO ?_
  refine xE [1, 3, 13, 15] ?_
  rintro -
  refine W_seq ?_
  refine W_regD (by kernel_rfl) [] 14 [0, 1, 2, 3, 4, 5, 6, 7, 8, 9, 10, 11, 12, 13, 14, 15, 16, 17, 18, 19, 20, 22, 21, 23, 24, 25, 26, 27, 28, 29, 30, 31, 32, 33, 34, 35, 36] (by decide +kernel) ?_
  iterate 2 refine xO ?_
  iterate 2 refine xI ?_
  refine xP ?_
  refine xB ?_
  refine xI ?_
  refine run_if rfl (by simp; exact .mk) rfl (by simp <;> first | omega | grind) (fun hb => by simp [eSlot]; exact .mk) ?_
  refine xI ?_
  refine run_if rfl (by simp; exact .mk) rfl (by simp <;> first | omega | grind) (fun hb => by simp [eSlot]; exact .mk) ?_
  refine run_if rfl (by simp; exact .mk) rfl (by simp <;> first | omega | grind) (fun hb => by simp [w1]; exact .mk) ?_
  refine xP ?_
  refine xB ?_
  refine xI ?_
  refine run_if rfl (by simp; exact .mk) rfl (by simp <;> first | omega | grind) (fun hb => by simp [eSlot]; exact .mk) ?_
  refine xI ?_
  refine run_if rfl (by simp; exact .mk) rfl (by simp <;> first | omega | grind) (fun hb => by simp [eSlot]; exact .mk) ?_
  refine run_if rfl (by simp; exact .mk) rfl (by simp <;> first | omega | grind) (fun hb => by simp [w2]; exact .mk) ?_
  refine xP ?_
  refine xB ?_
  iterate 2 (refine run_if rfl (by simp; exact .mk) rfl (by simp <;> first | omega | grind) (fun hb => by simp [eSlot]; exact .mk) ?_)
  refine run_call rfl (by simp; exact .mk) rfl rfl (by simp) (by simp; exact .mk) (by simp [row_rows, Function.comp_def]; exact .mk) (fun hb => c60B) (by simp) (by simp [oStt, oAbs]; exact .mk) (by simp) ?_
  refine run_call rfl (by simp; exact .mk) rfl rfl (by simp) (by simp; exact .mk) (by simp [row_rows, Function.comp_def]; exact .mk) (fun hb => c60s) (by simp) (by simp [oStt, oAbs]; exact .mk) (by simp) ?_
  refine run_call rfl (by simp; exact .mk) rfl rfl (by simp) (by simp; exact .mk) (by simp [row_rows, Function.comp_def]; exact .mk) (fun hb => c61) (by simp) (by simp [oStt, oAbs]; exact .mk) (by simp) ?_
  refine xP ?_
  refine xB ?_
  refine run_if rfl (by simp; exact .mk) rfl (by simp <;> first | omega | grind) (fun hb => by simp [eSlot]; exact .mk) ?_
  refine run_call rfl (by simp; exact .mk) rfl rfl (by simp) (by simp; exact .mk) (by simp [row_rows, Function.comp_def]; exact .mk) (fun hb => c35s) (by simp) (by simp [oStt, oAbs]; exact .mk) (by simp) ?_
  iterate 2 refine xI ?_
  iterate 2 (refine run_if rfl (by simp; exact .mk) rfl (by simp <;> first | omega | grind) (fun hb => by simp [eSlot]; exact .mk) ?_)
  refine run_call rfl (by simp; exact .mk) rfl rfl (by simp) (by simp; exact .mk) (by simp [row_rows, Function.comp_def]; exact .mk) (fun hb => c34B) (by simp) (by simp [oStt, oAbs]; exact .mk) (by simp) ?_
  iterate 2 refine xP ?_
  refine xB ?_
  refine xE [2] ?_
  rintro -
  refine W_ret ?_
  refine xR (by simp [Tryz.f12]; exact .mk) ?_
  first | (simp [nrmR, nrmRs, nrmK, kindsOf, kinds, Tryz.f12, he2.1, he2.2]; done) | (simp [nrmR, nrmRs, nrmK, kindsOf, kinds, Tryz.f12]; omega) | (simp [nrmR, nrmRs, nrmK, kindsOf, kinds, Tryz.f12, *]; done) | (simp [nrmR, nrmRs, nrmK, kindsOf, kinds, Tryz.f12]; intro q; exact hlast (by simpa using q)) | (simp [nrmR, nrmRs, nrmK, kindsOf, kinds, Tryz.f12]; grind)

end Go.Proofs
