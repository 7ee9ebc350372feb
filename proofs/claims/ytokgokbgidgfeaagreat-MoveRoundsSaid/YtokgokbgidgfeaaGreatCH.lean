/- Contracts of the program's functions, each against a plain function over lists and numbers (it answers what that one answers, for arguments of at most 2^40 elements where a lemma says so), and plain facts about these. -/
import Derived.Test.YtokgokbgidgfeaaGreatCG
import Derived.Test.YtokgokbgidgfeaaGreatCF
import Derived.Test.YtokgokbgidgfeaaGreatCD
import Derived.Test.YtokgokbgidgfeaaGreatCE
import Derived.Test.YtokgokbgidgfeaaGreatCC
set_option linter.all false
set_option maxHeartbeats 4000000
set_option maxRecDepth 4000
namespace Go.Proofs
open Go.Awp
theorem ct125 (g : Gl) (s : Stt) (hs : s.Ok) (hR : sttS s = true) : CtAt Tryz.prog g 125 [eStt s] (.tup [oStt (downStep s).1, vI (downStep s).2]) := by
  refine ctAt_of_W Tryz.func125 rfl rfl (Nat.le_of_ble_eq_true rfl) fun B S => ?_
  simp only [eStt, List.map, argD_agg, argD_v]
  have q0 := hs.h1
  have hb := superS_b (sttS_super hR)
  have e1 : IntKind.i64.wrap (s.base - 1) = s.base - 1 := wrap64 (by omega) (by omega)
  have c22 := ct22 g s hs
  obtain ⟨l, hL⟩ : ∃ l, l = twosO s.slots := ⟨_, rfl⟩
  obtain ⟨I, hI⟩ : ∃ I, I = twosI s.slots := ⟨_, rfl⟩
  rw [← hL, ← hI] at c22
  obtain ⟨hll, hIl, hlaid, hlb⟩ := down_facts hs hR
  rw [← hL] at hll hIl hlaid hlb
  rw [← hI] at hIl
  obtain ⟨ms, hM⟩ : ∃ ms, ms = matesS s.base l (s.base - 1) := ⟨_, rfl⟩
  obtain ⟨M, hMM⟩ : ∃ M : List Int, M = ms.map fun (k : Nat) => (k : Int) := ⟨_, rfl⟩
  have hMl : ms.length = M.length := by rw [hMM, List.length_map]
  have hml : ms.length ≤ l.length := by rw [hM, matesS]; exact Nat.le_trans (List.length_filter_le _ _) (by simp)
  have c165 := ct165 g s.base (s.base - 1) l hll (fun i hi => (hlb i hi).2) hlaid (by omega)
  rw [← hM, ← hMM] at c165
  have hmm : ∀ i, i < ms.length → nth ms i < l.length := fun i hi => by
    have := nth_mem hi
    rw [hM] at this
    simp only [matesS, List.mem_filter, List.mem_range] at this
    rw [hM]; exact this.1
  have hrow : (ms.map fun (k : Nat) => vI k) = M.map vI := by rw [hMM, List.map_map]; rfl
  have c168 : ∀ i : Nat, CtAt Tryz.prog g 168 [rI M, vI i] (.v (.bool (ms.contains i))) := fun i => by
    have := ct168 g M i (by omega)
    rw [hMM, castN_contains] at this
    rw [hMM]; exact this
  refine xU ?_
  iterate 3 refine xO ?_
  refine xE [1, 2] ?_
  refine xT ?_
  refine xO ?_
  refine run_op rfl rfl rfl (by simp [eSlot]; exact .mk) ?_
  refine xO ?_
  refine run_op rfl rfl rfl (by simp [splice]; exact .mk) ?_
  refine xE [1, 2, 4] ?_
  rintro -
  refine W_seq ?_
  refine xU ?_
  refine xO ?_
  refine run_op rfl rfl rfl (by simp [eSlot]; exact .mk) ?_
  refine xO ?_
  refine xE [1, 2, 4, 21] ?_
  rintro -
  refine W_cond rfl ?_ ?_
  · intro h21
    have hq : s.base = 0 := by simpa using h21
    have hr : downStep s = (turnS s 1 0, 0) := by unfold downStep; rw [if_pos hq]
    refine xU ?_
    refine run_op rfl rfl rfl (by simp [eSlot]; exact .mk) ?_
    refine run_call0 rfl rfl rfl rfl (by simp; exact .mk) (by simp [row_rows, Function.comp_def]; exact .mk) (ct122 g s hs 1 0 (by omega)) (by simp) (by simp [oStt]; exact .mk) ?_
    iterate 2 refine xO ?_
    refine run_op rfl rfl rfl (by simp [splice]; exact .mk) ?_
    refine xO ?_
    refine xE [2, 3] ?_
    rintro -
    refine W_ret ?_
    refine end_ret (by simp [Tryz.f125]; exact .mk) (by simp; exact .mk) ?_ (by simp [oStt])
    first | (simp [nrmR, nrmRs, nrmK, kindsOf, kinds, Tryz.f125, hr, oStt, ownR]; done) | (simp [nrmR, nrmRs, nrmK, kindsOf, kinds, Tryz.f125, hr, oStt, zStt, ownR, turnS]; done)
  intro h21
  have hq : s.base ≠ 0 := by simpa using h21
  refine W_skip ?_
  refine xT ?_
  refine run_op rfl rfl rfl (by simp [eSlot]; exact .mk) ?_
  refine run_call0 rfl rfl rfl rfl (by simp; exact .mk) (by simp [row_rows, Function.comp_def]; exact .mk) (c22) (by simp) (by simp [oStt]; exact .mk) ?_
  iterate 4 refine xO ?_
  refine run_op rfl rfl rfl (by simp [splice]; exact .mk) ?_
  refine xO ?_
  refine xE [1, 2, 4, 5, 6] ?_
  refine xT ?_
  refine xO ?_
  iterate 2 (refine run_op rfl rfl rfl (by simp [eSlot]; exact .mk) ?_)
  refine xO ?_
  refine run_op rfl rfl rfl (by simp [eSlot]; exact .mk) ?_
  refine run_op rfl rfl rfl (by simp [e1]; exact .mk) ?_
  refine run_call0 rfl rfl rfl rfl (by simp; exact .mk) (by simp [row_rows, Function.comp_def]; exact .mk) (c165) (by simp) (by simp [oStt]; exact .mk) ?_
  refine xO ?_
  refine xE [1, 2, 4, 5, 6, 7] ?_
  rintro -
  refine W_seq ?_
  refine xU ?_
  iterate 3 refine xO ?_
  refine xE [1, 2, 4, 5, 6, 7, 40] ?_
  rintro -
  refine W_cond rfl ?_ ?_
  · intro h40
    have hc : ms = [] := List.length_eq_zero_iff.1 (by rw [hMl]; simp at h40; simp [h40])
    have hr : downStep s = (turnS s s.mode (-1), 0) := by unfold downStep; rw [← hL, ← hM, if_neg hq, if_pos hc]
    refine xU ?_
    refine run_op rfl rfl rfl (by simp [eSlot]; exact .mk) ?_
    refine xO ?_
    refine run_op rfl rfl rfl (by simp [eSlot]; exact .mk) ?_
    refine run_call0 rfl rfl rfl rfl (by simp; exact .mk) (by simp [row_rows, Function.comp_def]; exact .mk) (ct122 g s hs s.mode (-1) (by omega)) (by simp) (by simp [oStt]; exact .mk) ?_
    iterate 2 refine xO ?_
    refine run_op rfl rfl rfl (by simp [splice]; exact .mk) ?_
    refine xO ?_
    refine xE [2, 3] ?_
    rintro -
    refine W_ret ?_
    refine end_ret (by simp [Tryz.f125]; exact .mk) (by simp; exact .mk) ?_ (by simp [oStt])
    first | (simp [nrmR, nrmRs, nrmK, kindsOf, kinds, Tryz.f125, hr, oStt, ownR]; done) | (simp [nrmR, nrmRs, nrmK, kindsOf, kinds, Tryz.f125, hr, oStt, zStt, ownR, turnS]; done)
  intro h40
  have hne : ms ≠ [] := fun e => by rw [e] at hMl; simp at h40; simp [List.length_eq_zero_iff] at hMl; exact absurd hMl.symm (by simpa using h40)
  obtain ⟨j, hj⟩ : ∃ j, j = leastS l ms := ⟨_, rfl⟩
  have hm0 : 0 < ms.length := List.length_pos_iff.2 hne
  have hjl : j < l.length := by have := leastS_in (l := l) hne hmm (i := ms.length) hm0; rwa [List.take_length, ← hj] at this
  have hjI : j < I.length := by omega
  have c166 := fun o0 o1 o2 o4 => in166 g o0 o1 o2 o4 l ms hll (by omega) hne hmm (fun k hk => ⟨by have := hlb k hk; omega, by have := hlb k hk; omega⟩)
  simp only [hrow, ← hj, hMl] at c166
  have hr0 : downStep s = (match roomS s false (nth l j).2 with | some a => moveS s (nth I j) false a | none => match placeS (s.base - 1) (restS l ms) (nth l j).2 with | some a => moveS s (nth I j) true a | none => (zStt, 10)) := by unfold downStep; rw [← hL, ← hI, ← hM, if_neg hq, if_neg hne, ← hj]; rfl
  refine W_skip ?_
  refine xT ?_
  iterate 2 refine xO ?_
  refine run_inl0 rfl rfl rfl rfl (by simp; exact .mk) ⟨_, Tryz.func166, rfl, rfl⟩ (c166 _ _ _ _) (.inl (by simp)) ?_
  refine xO ?_
  refine xE [2, 4, 5, 6, 7, 8] ?_
  refine xT ?_
  refine run_op rfl rfl rfl (by simp [eSlot]; exact .mk) ?_
  refine xO ?_
  refine run_op rfl rfl rfl (by simp [eSlot, hjl]; exact .mk) ?_
  refine xO ?_
  refine run_op rfl rfl rfl (by simp [-List.getElem?_map, map_get hjl, eObj]; exact .mk) ?_
  refine xO ?_
  refine xE [2, 4, 5, 6, 7, 8, 9] ?_
  rintro -
  refine W_seq ?_
  refine xU ?_
  refine run_op rfl rfl rfl (by simp [eSlot]; exact .mk) ?_
  refine xO ?_
  refine run_call0 rfl rfl rfl rfl (by simp; exact .mk) (by simp [row_rows, Function.comp_def]; exact .mk) (ct38 g s hs false (nth l j).2) (by simp) (by simp [oStt]; exact .mk) ?_
  iterate 5 refine xO ?_
  refine xE [2, 4, 5, 6, 7, 8, 9, 10, 11] ?_
  refine xT ?_
  refine xO ?_
  refine xE [2, 4, 5, 6, 7, 8, 9, 10, 61] ?_
  rintro -
  refine W_cond rfl ?_ ?_
  · intro h61
    obtain ⟨a, ha⟩ : ∃ a, roomS s false (nth l j).2 = some a := Option.isSome_iff_exists.1 (by simpa using h61)
    rw [ha] at hr0 ⊢
    have hr : downStep s = moveS s (nth I j) false a := hr0
    refine W_seq ?_
    refine W_regD (by kernel_rfl) [] 4 [0, 1, 2, 3, 4, 5, 6, 7, 8, 9, 10] (by decide +kernel) ?_
    refine run_op rfl rfl rfl (by simp [eSlot]; exact .mk) ?_
    iterate 2 refine xO ?_
    refine run_op rfl rfl rfl (by simp [eSlot, hjI]; exact .mk) ?_
    refine run_op rfl rfl rfl (by simp [-List.getElem?_map, map_get hjI]; exact .mk) ?_
    refine xO ?_
    refine run_call0 rfl rfl rfl rfl (by simp; exact .mk) (by simp [row_rows, Function.comp_def]; exact .mk) (ct45 g s hs (nth I j) false a) (by simp) (by simp [oStt]; exact .mk) ?_
    iterate 2 refine xO ?_
    refine run_op rfl rfl rfl (by simp [splice]; exact .mk) ?_
    refine xO ?_
    refine xE [2, 3] ?_
    rintro -
    refine W_ret ?_
    refine end_ret (by simp [Tryz.f125]; exact .mk) (by simp; exact .mk) ?_ (by simp [oStt])
    first | (simp [nrmR, nrmRs, nrmK, kindsOf, kinds, Tryz.f125, hr, oStt, ownR]; done) | (simp [nrmR, nrmRs, nrmK, kindsOf, kinds, Tryz.f125, hr, oStt, zStt, ownR, turnS]; done)
  intro h61
  have ha : roomS s false (nth l j).2 = none := by simpa using h61
  rw [ha] at hr0
  refine W_skip ?_
  refine xT ?_
  refine xO ?_
  refine xE [2, 4, 5, 6, 7, 8, 9, 12] ?_
  rintro -
  refine W_seq ?_
  refine xU ?_
  refine run_op rfl rfl rfl (by simp [eSlot]; exact .mk) ?_
  iterate 2 refine xO ?_
  refine xE [2, 4, 6, 7, 8, 9, 12, 71, 72, 73] ?_
  rintro -
  refine W_block ?_
  obtain ⟨R, hRR⟩ : ∃ R : Nat → List (Int × Int), R = fun i => ((List.range i).filter fun i => !ms.contains i).map (nth l) := ⟨_, rfl⟩
  have hR0 : R 0 = [] := by rw [hRR]; rfl
  have hRl : R l.length = restS l ms := by rw [hRR]; rfl
  have hRn : ∀ i, (R i).length ≤ i := fun i => by rw [hRR]; simp only [List.length_map]; exact Nat.le_trans (List.length_filter_le _ _) (by simp)
  have hR1 : ∀ i, R (i + 1) = R i ++ (if ms.contains i = true then [] else [nth l i]) := fun i => by
    rw [hRR]; simp only [List.range_succ, List.filter_append, List.map_append]; congr 1
    cases hq : ms.contains i <;> simp only [List.filter_cons, List.filter_nil, hq] <;> rfl
  refine W_rounds (fun m σ o => ∃ i : Nat, m = l.length - i ∧ i ≤ l.length ∧ σ = slots [(2, .ptr 1 0 0), (4, .ptr 2 0 0), (6, .hdr 4 0 I.length), (7, .hdr 6 0 M.length), (8, .d (vI j)), (9, .d (vI (nth l j).2)), (12, .hdr 7 0 (R i).length), (71, .hdr 3 0 l.length), (72, .d (vI l.length)), (73, .d (vI i))] ∧ o = [.var 144 [.d (vI s.sh.pages), .d (vI s.sh.slots), .d (vI s.sh.roots), .d (vI s.sh.room), .d (vI s.mode), .d (vI s.base), .d (rSl s.slots), .d (rR s.roots), .d (rBB s.data)], .var 28 [.d (vI 0), .d (vI 0), .d (vI 0), .d (vI 0), .d (vI 0), .d (vI 0), .d (.v (.slice none 0 0)), .d (.v (.slice none 0 0)), .d (.v (.slice none 0 0))], .var 28 [.d (vI s.sh.pages), .d (vI s.sh.slots), .d (vI s.sh.roots), .d (vI s.sh.room), .d (vI s.mode), .d (vI s.base), .d (rSl s.slots), .d (rR s.roots), .d (rBB s.data)], .row 2 (l.map eObj), .row 1 (I.map vI), .var 32 [.hdr 3 0 l.length], .row 1 (M.map vI), .row 2 ((R i).map eObj)]) l.length
    (Weak.trans (Weak.nilRow 12 2 rfl) (Weak.kills [2, 4, 6, 7, 8, 9, 12, 71, 72, 73] rfl) (fun _ _ _ h1 h2 => by rw [← h1.len]; exact h2)) ⟨0, by simp, by simp, by simp [hR0], by simp [hR0]⟩ ?_
  rintro m σ o ⟨i, rfl, hi, rfl, rfl⟩ _
  refine xU ?_
  refine xO ?_
  refine xE [2, 4, 6, 7, 8, 9, 12, 71, 72, 73, 74] ?_
  rintro -
  refine W_seq ?_
  refine W_cond rfl ?_ ?_
  · intro h74
    have hi2 : i < l.length := by simpa using h74
    have hRi := hR1 i
    have e4 : ((R i).length + 1) * 16 ≤ 140737488355328 := by have := hRn i; omega
    have e5 : (R i).length ≤ 140737488355327 := by have := hRn i; omega
    refine W_skip ?_
    rintro -
    refine W_seq ?_
    refine W_block ?_
    refine xU ?_
    refine xO ?_
    refine run_op rfl rfl rfl (by simp [eSlot, hi2]; exact .mk) ?_
    refine run_op rfl rfl rfl (by simp [-List.getElem?_map, map_get hi2, eObj]; exact .mk) ?_
    iterate 2 refine xO ?_
    refine run_op rfl rfl rfl (by simp [splice]; exact .mk) ?_
    refine xE [2, 4, 6, 7, 8, 9, 12, 13, 14, 71, 72, 73] ?_
    refine xT ?_
    iterate 2 refine xO ?_
    refine run_call0 rfl rfl rfl rfl (by simp; exact .mk) (by simp [row_rows, Function.comp_def]; exact .mk) (c168 i) (by simp) (by simp [oStt]; exact .mk) ?_
    refine xO ?_
    refine xE [2, 4, 6, 7, 8, 9, 12, 14, 71, 72, 73, 81] ?_
    rintro -
    refine W_cond rfl ?_ ?_
    · intro h81
      have hc : ms.contains i = false := by simpa using h81
      rw [if_neg (by rw [hc]; simp)] at hRi
      refine W_reg rfl ?_
      refine xO ?_
      refine run_op rfl rfl rfl (by simp [eSlot]; exact .mk) ?_
      refine xO ?_
      refine run_op rfl rfl rfl (by simp [rows, e4, e5]; exact .mk) ?_
      refine xO ?_
      refine xE [2, 4, 6, 7, 8, 9, 12, 71, 72, 73] ?_
      rintro -
      refine W_reg rfl ?_
      iterate 2 refine xO ?_
      refine xE [2, 4, 6, 7, 8, 9, 12, 71, 72, 73] ?_
      refine rounds_kill [2, 4, 6, 7, 8, 9, 12, 71, 72, 73] ?_
      first
      | (refine rounds_drop 8 [2, 4, 6, 7, 8, 9, 12, 71, 72, 73] (by decide) (by rfl) (by rfl) ?_
         refine rounds_next (m' := l.length - (i+1)) (by omega) ⟨i+1, rfl, by omega, ?_, ?_⟩
         · rw [wrap64 (by omega) (by omega), hRi]; rfl
         rw [hRi]; rfl)
      | (refine rounds_kills [2, 4, 6, 7, 8, 9, 12, 71, 72, 73] rfl ?_
         refine rounds_swap 7 10 1 (by decide) (by simp) (by decide) rfl rfl ?_
         refine rounds_drop 8 [2, 4, 6, 7, 8, 9, 12, 71, 72, 73] (by decide) (by rfl) (by rfl) ?_
         refine rounds_next (m' := l.length - (i+1)) (by omega) ⟨i+1, rfl, by omega, ?_, ?_⟩
         · rw [wrap64 (by omega) (by omega), hRi]; simp; try rfl
         rw [hRi]; simp [eObj]; try rfl)
    intro h81
    have hc : ms.contains i = true := by simpa using h81
    rw [if_pos hc, List.append_nil] at hRi
    refine W_skip ?_
    rintro -
    refine W_reg rfl ?_
    iterate 2 refine xO ?_
    refine xE [2, 4, 6, 7, 8, 9, 12, 71, 72, 73] ?_
    refine rounds_kill [2, 4, 6, 7, 8, 9, 12, 71, 72, 73] ?_
    first
    | (refine rounds_drop 8 [2, 4, 6, 7, 8, 9, 12, 71, 72, 73] (by decide) (by rfl) (by rfl) ?_
       refine rounds_next (m' := l.length - (i+1)) (by omega) ⟨i+1, rfl, by omega, ?_, ?_⟩
       · rw [wrap64 (by omega) (by omega), hRi]; rfl
       rw [hRi]; rfl)
    | (refine rounds_kills [2, 4, 6, 7, 8, 9, 12, 71, 72, 73] rfl ?_
       refine rounds_swap 7 10 1 (by decide) (by simp) (by decide) rfl rfl ?_
       refine rounds_drop 8 [2, 4, 6, 7, 8, 9, 12, 71, 72, 73] (by decide) (by rfl) (by rfl) ?_
       refine rounds_next (m' := l.length - (i+1)) (by omega) ⟨i+1, rfl, by omega, ?_, ?_⟩
       · rw [wrap64 (by omega) (by omega), hRi]; simp; try rfl
       rw [hRi]; simp [eObj]; try rfl)
  intro h74
  obtain rfl : i = l.length := by simp at h74; omega
  rw [hRl]
  obtain ⟨V, hV⟩ : ∃ V, V = restS l ms := ⟨_, rfl⟩
  have hVn := hRn l.length
  rw [hRl] at hVn
  have hVb : ∀ k, k < V.length → (nth V k).1 ≤ 2^40 := by rw [hV]; exact rest_b (fun k hk => (hlb k hk).2)
  rw [← hV] at hr0 hVn ⊢
  have c152 := ct152 g (s.base - 1) V (by omega) hVb (nth l j).2
  refine W_exit ?_
  rintro -
  refine W_seq ?_
  refine xU ?_
  refine xO ?_
  refine run_op rfl rfl rfl (by simp [eSlot]; exact .mk) ?_
  refine run_op rfl rfl rfl (by simp [e1]; exact .mk) ?_
  iterate 2 refine xO ?_
  refine run_call0 rfl rfl rfl rfl (by simp; exact .mk) (by simp [row_rows, Function.comp_def]; exact .mk) (c152) (by simp) (by simp [oStt]; exact .mk) ?_
  iterate 5 refine xO ?_
  refine xE [2, 4, 6, 8, 15, 16] ?_
  refine xT ?_
  refine xO ?_
  refine xE [2, 4, 6, 8, 15, 96] ?_
  rintro -
  refine W_cond rfl ?_ ?_
  · intro h96
    obtain ⟨a, ha2⟩ : ∃ a, placeS (s.base - 1) V (nth l j).2 = some a := Option.isSome_iff_exists.1 (by simpa using h96)
    rw [ha2] at hr0 ⊢
    have hr : downStep s = moveS s (nth I j) true a := hr0
    refine W_seq ?_
    refine W_regD (by kernel_rfl) [] 4 [0, 1, 2, 3, 4, 5, 6, 7, 8, 9, 10] (by decide +kernel) ?_
    refine run_op rfl rfl rfl (by simp [eSlot]; exact .mk) ?_
    iterate 2 refine xO ?_
    refine run_op rfl rfl rfl (by simp [eSlot, hjI]; exact .mk) ?_
    refine run_op rfl rfl rfl (by simp [-List.getElem?_map, map_get hjI]; exact .mk) ?_
    refine xO ?_
    refine run_call0 rfl rfl rfl rfl (by simp; exact .mk) (by simp [row_rows, Function.comp_def]; exact .mk) (ct45 g s hs (nth I j) true a) (by simp) (by simp [oStt]; exact .mk) ?_
    iterate 2 refine xO ?_
    refine run_op rfl rfl rfl (by simp [splice]; exact .mk) ?_
    refine xO ?_
    refine xE [2, 3] ?_
    rintro -
    refine W_ret ?_
    refine end_ret (by simp [Tryz.f125]; exact .mk) (by simp; exact .mk) ?_ (by simp [oStt])
    first | (simp [nrmR, nrmRs, nrmK, kindsOf, kinds, Tryz.f125, hr, oStt, ownR]; done) | (simp [nrmR, nrmRs, nrmK, kindsOf, kinds, Tryz.f125, hr, oStt, zStt, ownR, turnS]; done)
  intro h96
  have ha2 : placeS (s.base - 1) V (nth l j).2 = none := by simpa using h96
  rw [ha2] at hr0
  have hr : downStep s = (zStt, 10) := hr0
  refine W_skip ?_
  refine xT ?_
  iterate 2 (refine run_op rfl rfl rfl (by simp [splice]; exact .mk) ?_)
  refine xO ?_
  refine xE [2, 3] ?_
  rintro -
  refine W_ret ?_
  refine end_ret (by simp [Tryz.f125]; exact .mk) (by simp; exact .mk) ?_ (by simp [oStt])
  first | (simp [nrmR, nrmRs, nrmK, kindsOf, kinds, Tryz.f125, hr, oStt, ownR]; done) | (simp [nrmR, nrmRs, nrmK, kindsOf, kinds, Tryz.f125, hr, oStt, zStt, ownR, turnS]; done)

end Go.Proofs

set_option maxHeartbeats 4000000
set_option maxRecDepth 4000
namespace Go.Proofs
open Go.Awp
theorem ct124 (g : Gl) (s : Stt) (hs : s.Ok) (hR : sttS s = true) : CtAt Tryz.prog g 124 [eStt s] (.tup [oStt (upStep s).1, vI (upStep s).2]) := by
  refine ctAt_of_W Tryz.func124 rfl rfl (Nat.le_of_ble_eq_true rfl) fun B S => ?_
  simp only [eStt, List.map, argD_agg, argD_v]
  have q0 := hs.h1
  have hb := superS_b (sttS_super hR)
  have e1 : IntKind.i64.wrap (s.base + 1) = s.base + 1 := wrap64 (by omega) (by omega)
  have e2 : IntKind.i64.wrap ((s.base + 1) * 32) = (s.base + 1) * 32 := wrap64 (by omega) (by omega)
  refine xU ?_
  iterate 3 refine xO ?_
  refine xE [1, 2] ?_
  refine xT ?_
  refine xO ?_
  refine run_op rfl rfl rfl (by simp [eSlot]; exact .mk) ?_
  refine xO ?_
  refine run_op rfl rfl rfl (by simp [splice]; exact .mk) ?_
  refine xE [1, 2, 4] ?_
  refine xT ?_
  refine xO ?_
  refine run_op rfl rfl rfl (by simp [eSlot]; exact .mk) ?_
  refine run_op rfl rfl rfl (by simp [e1]; exact .mk) ?_
  refine run_op rfl rfl rfl (by simp [e1, e2]; exact .mk) ?_
  refine xO ?_
  refine xE [1, 2, 4, 5] ?_
  refine xT ?_
  refine run_op rfl rfl rfl (by simp [eSlot]; exact .mk) ?_
  refine run_call0 rfl rfl rfl rfl (by simp; exact .mk) (by simp [row_rows, Function.comp_def]; exact .mk) (ct28 g s hs) (by simp) (by simp [oStt]; exact .mk) ?_
  refine xO ?_
  refine xE [1, 2, 4, 5, 6] ?_
  rintro -
  refine W_seq ?_
  refine W_block ?_
  refine xU ?_
  refine xO ?_
  refine run_op rfl rfl rfl (by simp [eSlot]; exact .mk) ?_
  iterate 2 refine xO ?_
  refine run_op rfl rfl rfl (by simp [eSlot]; exact .mk) ?_
  iterate 2 refine xO ?_
  refine xE [1, 2, 4, 5, 6, 20] ?_
  rintro -
  refine W_cond rfl ?_ ?_
  · intro h20
    have hq : s.base = s.sh.pages := by simpa using h20
    have hr : upStep s = (turnS s 2 0, 0) := by unfold upStep; rw [if_pos hq]
    refine xU ?_
    refine run_op rfl rfl rfl (by simp [eSlot]; exact .mk) ?_
    refine run_call0 rfl rfl rfl rfl (by simp; exact .mk) (by simp [row_rows, Function.comp_def]; exact .mk) (ct122 g s hs 2 0 (by omega)) (by simp) (by simp [oStt]; exact .mk) ?_
    iterate 2 refine xO ?_
    refine run_op rfl rfl rfl (by simp [splice]; exact .mk) ?_
    refine xO ?_
    refine xE [2, 3] ?_
    rintro -
    refine W_ret ?_
    refine end_ret (by simp [Tryz.f124]; exact .mk) (by simp; exact .mk) ?_ (by simp [oStt])
    first | (simp [nrmR, nrmRs, nrmK, kindsOf, kinds, Tryz.f124, hr, oStt, ownR]; done) | (simp [nrmR, nrmRs, nrmK, kindsOf, kinds, Tryz.f124, hr, oStt, zStt, ownR, turnS]; done)
  intro h20
  have hq : s.base ≠ s.sh.pages := by simpa using h20
  refine xU ?_
  iterate 4 refine xO ?_
  refine xI ?_
  refine run_if rfl (by simp; exact .mk) rfl (by simp <;> first | omega | grind) (fun hb => by simp at hb; have hl0 := List.length_pos_iff.2 hb; simp [hl0]; exact .mk) ?_
  refine xI ?_
  refine run_if rfl (by simp; exact .mk) rfl (by simp <;> first | omega | grind) (fun hb => by simp at hb; have hl0 := List.length_pos_iff.2 hb; simp [-List.getElem?_map, map_get hl0, eBlk]; exact .mk) ?_
  iterate 2 refine xI ?_
  refine xP ?_
  refine xB ?_
  refine xE [1, 2, 4, 5, 6, 31] ?_
  rintro -
  refine W_cond rfl ?_ ?_
  · intro h31
    have hc : onesS s.slots = [] ∨ (s.base + 1) * 32 ≤ (nth (onesS s.slots) 0).at_ := by simp at h31; exact h31
    have hr : upStep s = (turnS s s.mode 1, 0) := by unfold upStep; rw [if_neg hq, if_pos hc]
    refine xU ?_
    refine run_op rfl rfl rfl (by simp [eSlot]; exact .mk) ?_
    refine xO ?_
    refine run_op rfl rfl rfl (by simp [eSlot]; exact .mk) ?_
    refine run_call0 rfl rfl rfl rfl (by simp; exact .mk) (by simp [row_rows, Function.comp_def]; exact .mk) (ct122 g s hs s.mode 1 (by omega)) (by simp) (by simp [oStt]; exact .mk) ?_
    iterate 2 refine xO ?_
    refine run_op rfl rfl rfl (by simp [splice]; exact .mk) ?_
    refine xO ?_
    refine xE [2, 3] ?_
    rintro -
    refine W_ret ?_
    refine end_ret (by simp [Tryz.f124]; exact .mk) (by simp; exact .mk) ?_ (by simp [oStt])
    first | (simp [nrmR, nrmRs, nrmK, kindsOf, kinds, Tryz.f124, hr, oStt, ownR]; done) | (simp [nrmR, nrmRs, nrmK, kindsOf, kinds, Tryz.f124, hr, oStt, zStt, ownR, turnS]; done)
  intro h31
  have hc : ¬ (onesS s.slots = [] ∨ (s.base + 1) * 32 ≤ (nth (onesS s.slots) 0).at_) := by simp at h31 ⊢; exact h31
  have hne : onesS s.slots ≠ [] := fun e => hc (.inl e)
  obtain ⟨k, hk, hk1, hk2⟩ := ones_head hne
  have hsl : (nth (onesS s.slots) 0).slot = (k : Int) := by rw [hk2]; rfl
  have hl0 := List.length_pos_iff.2 hne
  have hr0 : upStep s = (match roomS s true (nth s.slots k).len with | some a => moveS s k true a | none => match behindS s ((s.base + 1) * 32) (nth (onesS s.slots) 0).len with | some a => moveS s k false a | none => (zStt, 10)) := by unfold upStep lenAt; rw [if_neg hq, if_neg hc, hsl]; rfl
  refine W_skip ?_
  refine xT ?_
  refine xO ?_
  refine run_op rfl rfl rfl (by simp [eSlot, hl0]; exact .mk) ?_
  refine xO ?_
  refine run_op rfl rfl rfl (by simp [-List.getElem?_map, map_get hl0, eBlk, hsl]; exact .mk) ?_
  refine xO ?_
  refine xE [1, 2, 4, 5, 6, 7] ?_
  rintro -
  refine W_seq ?_
  refine W_seq ?_
  refine W_regD (by kernel_rfl) [] 4 [0, 1, 2, 3, 4, 5, 6, 7, 8, 9, 10, 11, 12] (by decide +kernel) ?_
  refine run_op rfl rfl rfl (by simp [eSlot]; exact .mk) ?_
  refine xO ?_
  refine run_op rfl rfl rfl (by simp [eSlot]; exact .mk) ?_
  refine xO ?_
  refine run_op rfl rfl rfl (by simp [eSlot, hk]; exact .mk) ?_
  refine xO ?_
  refine run_op rfl rfl rfl (by simp [eSlot]; exact .mk) ?_
  refine run_call0 rfl rfl rfl rfl (by simp; exact .mk) (by simp [row_rows, Function.comp_def]; exact .mk) (ct38 g s hs true (nth s.slots k).len) (by simp) (by simp [oStt]; exact .mk) ?_
  iterate 5 refine xO ?_
  refine xE [1, 2, 4, 5, 6, 7, 8, 9] ?_
  refine xT ?_
  refine xO ?_
  refine xE [1, 2, 4, 5, 6, 7, 8, 64] ?_
  rintro -
  refine W_cond rfl ?_ ?_
  · intro h64
    obtain ⟨a, ha⟩ : ∃ a, roomS s true (nth s.slots k).len = some a := Option.isSome_iff_exists.1 (by simpa using h64)
    rw [ha] at hr0 ⊢
    have hr : upStep s = moveS s k true a := hr0
    refine xU ?_
    refine run_op rfl rfl rfl (by simp [eSlot]; exact .mk) ?_
    iterate 2 refine xO ?_
    refine run_call0 rfl rfl rfl rfl (by simp; exact .mk) (by simp [row_rows, Function.comp_def]; exact .mk) (ct45 g s hs k true a) (by simp) (by simp [oStt]; exact .mk) ?_
    iterate 2 refine xO ?_
    refine run_op rfl rfl rfl (by simp [splice]; exact .mk) ?_
    refine xO ?_
    refine xE [2, 3] ?_
    rintro -
    refine W_ret ?_
    refine end_ret (by simp [Tryz.f124]; exact .mk) (by simp; exact .mk) ?_ (by simp [oStt])
    first | (simp [nrmR, nrmRs, nrmK, kindsOf, kinds, Tryz.f124, hr, oStt, ownR]; done) | (simp [nrmR, nrmRs, nrmK, kindsOf, kinds, Tryz.f124, hr, oStt, zStt, ownR, turnS]; done)
  intro h64
  have ha : roomS s true (nth s.slots k).len = none := by simpa using h64
  rw [ha] at hr0
  refine W_skip ?_
  rintro -
  refine W_seq ?_
  refine W_seq ?_
  refine W_regD (by kernel_rfl) [] 4 [0, 1, 2, 3, 4, 5, 6, 7, 8, 9, 10, 11] (by decide +kernel) ?_
  refine run_op rfl rfl rfl (by simp [eSlot]; exact .mk) ?_
  iterate 2 refine xO ?_
  refine run_op rfl rfl rfl (by simp [eSlot, hl0]; exact .mk) ?_
  refine xO ?_
  refine run_op rfl rfl rfl (by simp [-List.getElem?_map, map_get hl0, eBlk]; exact .mk) ?_
  refine run_call0 rfl rfl rfl rfl (by simp; exact .mk) (by simp [row_rows, Function.comp_def]; exact .mk) (ct164 g s hs hR ((s.base + 1) * 32) (nth (onesS s.slots) 0).len (by omega)) (by simp) (by simp [oStt]; exact .mk) ?_
  iterate 5 refine xO ?_
  refine xE [2, 4, 7, 10, 11] ?_
  refine xT ?_
  refine xO ?_
  refine xE [2, 4, 7, 10, 81] ?_
  rintro -
  refine W_cond rfl ?_ ?_
  · intro h81
    obtain ⟨a, ha2⟩ : ∃ a, behindS s ((s.base + 1) * 32) (nth (onesS s.slots) 0).len = some a := Option.isSome_iff_exists.1 (by simpa using h81)
    rw [ha2] at hr0 ⊢
    have hr : upStep s = moveS s k false a := hr0
    refine xU ?_
    refine run_op rfl rfl rfl (by simp [eSlot]; exact .mk) ?_
    iterate 2 refine xO ?_
    refine run_call0 rfl rfl rfl rfl (by simp; exact .mk) (by simp [row_rows, Function.comp_def]; exact .mk) (ct45 g s hs k false a) (by simp) (by simp [oStt]; exact .mk) ?_
    iterate 2 refine xO ?_
    refine run_op rfl rfl rfl (by simp [splice]; exact .mk) ?_
    refine xO ?_
    refine xE [2, 3] ?_
    rintro -
    refine W_ret ?_
    refine end_ret (by simp [Tryz.f124]; exact .mk) (by simp; exact .mk) ?_ (by simp [oStt])
    first | (simp [nrmR, nrmRs, nrmK, kindsOf, kinds, Tryz.f124, hr, oStt, ownR]; done) | (simp [nrmR, nrmRs, nrmK, kindsOf, kinds, Tryz.f124, hr, oStt, zStt, ownR, turnS]; done)
  intro h81
  have ha2 : behindS s ((s.base + 1) * 32) (nth (onesS s.slots) 0).len = none := by simpa using h81
  rw [ha2] at hr0
  have hr : upStep s = (zStt, 10) := hr0
  refine W_skip ?_
  refine xT ?_
  iterate 2 (refine run_op rfl rfl rfl (by simp [splice]; exact .mk) ?_)
  refine xO ?_
  refine xE [2, 3] ?_
  rintro -
  refine W_ret ?_
  refine end_ret (by simp [Tryz.f124]; exact .mk) (by simp; exact .mk) ?_ (by simp [oStt])
  first | (simp [nrmR, nrmRs, nrmK, kindsOf, kinds, Tryz.f124, hr, oStt, ownR]; done) | (simp [nrmR, nrmRs, nrmK, kindsOf, kinds, Tryz.f124, hr, oStt, zStt, ownR, turnS]; done)

end Go.Proofs

set_option maxHeartbeats 4000000
set_option maxRecDepth 4000
namespace Go.Proofs
open Go.Awp
theorem ct123 (g : Gl) : CtAt Tryz.prog g 123 [] (.tup [oStt zStt, vI 12]) := by
  refine ctAt_of_W Tryz.func123 rfl rfl (Nat.le_of_ble_eq_true rfl) fun B S => ?_
  refine xU ?_
  iterate 2 refine xO ?_
  refine xE [0] ?_
  refine xT ?_
  iterate 2 (refine run_op rfl rfl rfl (by simp [splice]; exact .mk) ?_)
  refine xO ?_
  refine xE [0, 1] ?_
  rintro -
  refine W_ret ?_
  refine end_ret (by simp [Tryz.f123]; exact .mk) (by simp; exact .mk) ?_ (by simp [oStt])
  simp [nrmR, nrmRs, nrmK, kindsOf, kinds, Tryz.f123, oStt, zStt, ownR]

theorem ct58 (g : Gl) (s : Stt) (hp : -2^40 ≤ s.sh.pages ∧ s.sh.pages ≤ 2^40) : CtAt Tryz.prog g 58 [eStt s] (vI (boundS s)) := by
  refine ctAt_of_W Tryz.func58 rfl rfl (Nat.le_of_ble_eq_true rfl) fun B S => ?_
  simp only [eStt, List.map, argD_agg, argD_v]
  have e1 : IntKind.i64.wrap (9 * s.sh.pages) = 9 * s.sh.pages := wrap64 (by omega) (by omega)
  have e2 : IntKind.i64.wrap (9 * s.sh.pages + 1) = 9 * s.sh.pages + 1 := wrap64 (by omega) (by omega)
  have e3 : IntKind.i64.wrap (15 * s.sh.pages) = 15 * s.sh.pages := wrap64 (by omega) (by omega)
  have e4 : IntKind.i64.wrap (15 * s.sh.pages + 1) = 15 * s.sh.pages + 1 := wrap64 (by omega) (by omega)
  refine xU ?_
  iterate 2 refine xO ?_
  refine xE [1] ?_
  rintro -
  refine W_seq ?_
  refine xU ?_
  iterate 2 refine xO ?_
  refine xE [1, 4] ?_
  rintro -
  refine W_block ?_
  refine xU ?_
  iterate 2 refine xO ?_
  refine xE [1, 4, 5] ?_
  rintro -
  refine W_cond rfl ?_ ?_
  · intro h5
    have hm3 : s.mode = 3 := by simpa using h5
    have hr : boundS s = 9 * s.sh.pages + 1 := by unfold boundS; rw [if_pos hm3]
    refine xU ?_
    iterate 3 refine xO ?_
    refine run_op rfl rfl rfl (by simp [e1]; exact .mk) ?_
    refine run_op rfl rfl rfl (by simp [e1, e2]; exact .mk) ?_
    refine xO ?_
    refine xE [2] ?_
    rintro -
    refine W_ret ?_
    refine xR (by simp [Tryz.f58]; exact .mk) ?_
    simp [nrmR, nrmRs, nrmK, kindsOf, kinds, Tryz.f58, hr]
  intro h5
  have hn3 : ¬ s.mode = 3 := by simpa using h5
  refine xU ?_
  iterate 2 refine xO ?_
  refine xE [1, 12] ?_
  rintro -
  refine W_cond rfl ?_ ?_
  · intro h12
    have hm4 : s.mode = 4 := by simpa using h12
    have hr : boundS s = 15 * s.sh.pages + 1 := by unfold boundS; rw [if_neg hn3, if_pos hm4]
    refine xU ?_
    iterate 3 refine xO ?_
    refine run_op rfl rfl rfl (by simp [e3]; exact .mk) ?_
    refine run_op rfl rfl rfl (by simp [e3, e4]; exact .mk) ?_
    refine xO ?_
    refine xE [2] ?_
    rintro -
    refine W_ret ?_
    refine xR (by simp [Tryz.f58]; exact .mk) ?_
    simp [nrmR, nrmRs, nrmK, kindsOf, kinds, Tryz.f58, hr]
  intro h12
  have hn4 : ¬ s.mode = 4 := by simpa using h12
  have hr : boundS s = 0 := by unfold boundS; rw [if_neg hn3, if_neg hn4]
  refine W_skip ?_
  refine xT ?_
  refine xO ?_
  refine xE [2] ?_
  rintro -
  refine W_ret ?_
  refine xR (by simp [Tryz.f58]; exact .mk) ?_
  simp [nrmR, nrmRs, nrmK, kindsOf, kinds, Tryz.f58, hr]

theorem ct119 (g : Gl) (s : Stt) : CtAt Tryz.prog g 119 [eStt s] (.v (.bool (movingS s))) := by
  refine ctAt_of_W Tryz.func119 rfl rfl (Nat.le_of_ble_eq_true rfl) fun B S => ?_
  simp only [eStt, List.map, argD_agg, argD_v]
  refine xU ?_
  iterate 2 refine xO ?_
  refine xE [1] ?_
  refine xT ?_
  iterate 4 refine xO ?_
  iterate 3 refine xI ?_
  refine xP ?_
  refine xB ?_
  refine xE [2] ?_
  rintro -
  refine W_ret ?_
  refine xR (by simp [Tryz.f119]; exact .mk) ?_
  first | (simp [nrmR, nrmRs, nrmK, kindsOf, kinds, Tryz.f119, movingS]; done) | (simp [nrmR, nrmRs, nrmK, kindsOf, kinds, Tryz.f119, movingS] at *; grind)

end Go.Proofs

set_option maxHeartbeats 4000000
set_option maxRecDepth 4000
namespace Go.Proofs
open Go.Awp
theorem ct55 (g : Gl) (s : Stt) (hs : s.Ok) : CtAt Tryz.prog g 55 [eStt s] (.tup [oStt (stepS s).1, vI (stepS s).2]) := by
  refine ctAt_of_W Tryz.func55 rfl rfl (Nat.le_of_ble_eq_true rfl) fun B S => ?_
  simp only [eStt, List.map, argD_agg, argD_v]
  refine xU ?_
  iterate 3 refine xO ?_
  refine xE [1, 2] ?_
  rintro -
  refine W_seq ?_
  refine xU ?_
  refine run_op rfl rfl rfl (by simp [eSlot]; exact .mk) ?_
  refine run_call0 rfl rfl rfl rfl (by simp; exact .mk) (by simp [row_rows, Function.comp_def]; exact .mk) (ct32 g s hs) (by simp) (by simp [oStt]; exact .mk) ?_
  refine xO ?_
  refine xE [1, 2, 8] ?_
  rintro -
  refine W_cond rfl ?_ ?_
  · intro h8
    have hr : stepS s = (zStt, 1) := by unfold stepS; rw [if_neg (by simpa using h8)]
    refine xU ?_
    iterate 2 (refine run_op rfl rfl rfl (by simp [splice]; exact .mk) ?_)
    refine xO ?_
    refine xE [2, 3] ?_
    rintro -
    refine W_ret ?_
    refine end_ret (by simp [Tryz.f55]; exact .mk) (by simp; exact .mk) ?_ (by simp [oStt])
    first | (simp [nrmR, nrmRs, nrmK, kindsOf, kinds, Tryz.f55, hr, oStt, ownR]; done) | (simp [nrmR, nrmRs, nrmK, kindsOf, kinds, Tryz.f55, hr, oStt, zStt, ownR]; done)
  intro h8
  have hR : sttS s = true := by simpa using h8
  refine W_skip ?_
  refine xT ?_
  refine run_op rfl rfl rfl (by simp [eSlot]; exact .mk) ?_
  refine run_op rfl rfl rfl (by simp [splice]; exact .mk) ?_
  refine xO ?_
  refine run_op rfl rfl rfl (by simp [splice]; exact .mk) ?_
  refine xE [1, 2, 4] ?_
  refine xT ?_
  refine xO ?_
  refine xE [1, 2, 4, 5] ?_
  rintro -
  refine W_seq ?_
  refine xU ?_
  refine xO ?_
  refine run_op rfl rfl rfl (by simp [eSlot]; exact .mk) ?_
  refine xE [2, 4, 5, 13] ?_
  rintro -
  refine W_block ?_
  refine xU ?_
  iterate 2 refine xO ?_
  refine xE [2, 4, 5, 13, 14] ?_
  rintro -
  refine W_cond rfl ?_ ?_
  · intro h14
    have hm3 : s.mode = 3 := by simpa using h14
    have hr : stepS s = upStep s := by unfold stepS; rw [if_pos hR, if_pos hm3]
    refine W_reg rfl ?_
    refine run_op rfl rfl rfl (by simp [eSlot]; exact .mk) ?_
    iterate 2 refine xO ?_
    refine xE [2, 5] ?_
    refine xT ?_
    refine xO ?_
    refine run_call0 rfl rfl rfl rfl (by simp; exact .mk) (by simp [row_rows, Function.comp_def]; exact .mk) (by first | (have := hm3; exact ct124 g s hs hR) | (have := hm4; exact ct125 g s hs hR) | exact ct123 g) (by simp) (by simp [oStt]; exact .mk) ?_
    iterate 2 refine xO ?_
    refine run_op rfl rfl rfl (by simp [splice]; exact .mk) ?_
    refine xO ?_
    refine xE [2, 3] ?_
    rintro -
    refine W_ret ?_
    refine end_ret (by simp [Tryz.f55]; exact .mk) (by simp; exact .mk) ?_ (by simp [oStt])
    first | (simp [nrmR, nrmRs, nrmK, kindsOf, kinds, Tryz.f55, hr, oStt, ownR]; done) | (simp [nrmR, nrmRs, nrmK, kindsOf, kinds, Tryz.f55, hr, oStt, zStt, ownR]; done)
  intro h14
  have hn3 : ¬ s.mode = 3 := by simpa using h14
  refine xU ?_
  iterate 2 refine xO ?_
  refine xE [2, 4, 5, 18] ?_
  rintro -
  refine W_cond rfl ?_ ?_
  · intro h18
    have hm4 : s.mode = 4 := by simpa using h18
    have hr : stepS s = downStep s := by unfold stepS; rw [if_pos hR, if_neg hn3, if_pos hm4]
    refine W_reg rfl ?_
    refine run_op rfl rfl rfl (by simp [eSlot]; exact .mk) ?_
    iterate 2 refine xO ?_
    refine xE [2, 5] ?_
    refine xT ?_
    refine xO ?_
    refine run_call0 rfl rfl rfl rfl (by simp; exact .mk) (by simp [row_rows, Function.comp_def]; exact .mk) (by first | (have := hm3; exact ct124 g s hs hR) | (have := hm4; exact ct125 g s hs hR) | exact ct123 g) (by simp) (by simp [oStt]; exact .mk) ?_
    iterate 2 refine xO ?_
    refine run_op rfl rfl rfl (by simp [splice]; exact .mk) ?_
    refine xO ?_
    refine xE [2, 3] ?_
    rintro -
    refine W_ret ?_
    refine end_ret (by simp [Tryz.f55]; exact .mk) (by simp; exact .mk) ?_ (by simp [oStt])
    first | (simp [nrmR, nrmRs, nrmK, kindsOf, kinds, Tryz.f55, hr, oStt, ownR]; done) | (simp [nrmR, nrmRs, nrmK, kindsOf, kinds, Tryz.f55, hr, oStt, zStt, ownR]; done)
  intro h18
  have hn4 : ¬ s.mode = 4 := by simpa using h18
  have hr : stepS s = (zStt, 12) := by unfold stepS; rw [if_pos hR, if_neg hn3, if_neg hn4]
  refine W_skip ?_
  refine xT ?_
  refine xO ?_
  refine run_call0 rfl rfl rfl rfl (by simp; exact .mk) (by simp [row_rows, Function.comp_def]; exact .mk) (by first | (have := hm3; exact ct124 g s hs hR) | (have := hm4; exact ct125 g s hs hR) | exact ct123 g) (by simp) (by simp [oStt]; exact .mk) ?_
  iterate 2 refine xO ?_
  refine run_op rfl rfl rfl (by simp [splice]; exact .mk) ?_
  refine xO ?_
  refine xE [2, 3] ?_
  rintro -
  refine W_ret ?_
  refine end_ret (by simp [Tryz.f55]; exact .mk) (by simp; exact .mk) ?_ (by simp [oStt])
  first | (simp [nrmR, nrmRs, nrmK, kindsOf, kinds, Tryz.f55, hr, oStt, ownR]; done) | (simp [nrmR, nrmRs, nrmK, kindsOf, kinds, Tryz.f55, hr, oStt, zStt, ownR]; done)

end Go.Proofs

set_option maxHeartbeats 4000000
set_option maxRecDepth 4000
namespace Go.Proofs
open Go.Awp
theorem ct51 (g : Gl) (s : Stt) (hs : s.Ok) : CtAt Tryz.prog g 51 [eStt s] (.tup [oStt (endS s).1, vI ((endS s).2.1 : Nat), vI (endS s).2.2]) := by
  refine ctAt_of_W Tryz.func51 rfl rfl (Nat.le_of_ble_eq_true rfl) fun B S => ?_
  simp only [eStt, List.map, argD_agg, argD_v]
  refine xU ?_
  iterate 4 refine xO ?_
  refine xE [1, 2] ?_
  refine xT ?_
  refine xO ?_
  refine xE [1, 2, 5] ?_
  rintro -
  refine W_block ?_
  refine W_rounds (fun m σ o => ∃ (n : Nat) (t : Stt), m = needE n t ∧ t.Ok ∧ endF (needE n t) n t = endS s ∧ n + needE n t ≤ needE 0 s ∧ σ = slots [(1, .ptr 0 0 0), (2, .ptr 1 0 0), (5, .d (vI n))] ∧ ((n = 0 ∧ t = s ∧ o = [.var 28 [.d (vI s.sh.pages), .d (vI s.sh.slots), .d (vI s.sh.roots), .d (vI s.sh.room), .d (vI s.mode), .d (vI s.base), .d (rSl s.slots), .d (rR s.roots), .d (rBB s.data)], .var 28 [.d (vI 0), .d (vI 0), .d (vI 0), .d (vI 0), .d (vI 0), .d (vI 0), .d (.v (.slice none 0 0)), .d (.v (.slice none 0 0)), .d (.v (.slice none 0 0))]]) ∨ (0 < n ∧ sttS s = true ∧ o = [.var 28 [.d (vI t.sh.pages), .d (vI t.sh.slots), .d (vI t.sh.roots), .d (vI t.sh.room), .d (vI t.mode), .d (vI t.base), .hdr 2 0 t.slots.length, .hdr 3 0 t.roots.length, .hdr 4 0 t.data.length], .var 28 [.d (vI 0), .d (vI 0), .d (vI 0), .d (vI 0), .d (vI 0), .d (vI 0), .d (.v (.slice none 0 0)), .d (.v (.slice none 0 0)), .d (.v (.slice none 0 0))], .row 5 (t.slots.map eSlot), .row 3 (t.roots.map eRoot), .row 1 (t.data.map oB)]))) (needE 0 s) .refl ⟨0, s, rfl, hs, rfl, by omega, rfl, .inl ⟨rfl, rfl, rfl⟩⟩ ?_
  rintro m σ o ⟨n, t, rfl, hto, hinv, hle, rfl, ⟨rfl, rfl, rfl⟩ | ⟨hn0, hRs, rfl⟩⟩ _
  · skip
    skip
    refine W_seq ?_
    refine W_block ?_
    refine W_seq ?_
    refine xU ?_
    iterate 3 refine xO ?_
    refine run_if rfl (by simp; exact .mk) rfl (by simp <;> first | omega | grind) (fun hb => by simp [eSlot]; exact .mk) ?_
    refine run_call rfl (by simp; exact .mk) rfl rfl (by simp) (by simp; exact .mk) (by simp [row_rows, Function.comp_def]; exact .mk) (fun hb => ct119 g t) (by simp) (by simp [oStt]; exact .mk) (by simp) ?_
    refine xI ?_
    refine xP ?_
    refine xE [1, 2, 5, 16] ?_
    rintro -
    refine W_cond rfl ?_ ?_
    · intro h16
      simp at h16
    intro h16
    have hnot : ¬ (0 < 0 ∧ movingS t = false) := fun q => absurd q.1 (Nat.lt_irrefl 0)
    refine W_skip ?_
    rintro -
    refine W_seq ?_
    have c55 := ct55 g t hto
    obtain ⟨T, hT⟩ : ∃ X, X = (stepS t).1 := ⟨_, rfl⟩
    have hTo : T.Ok := by rw [hT]; exact stepS_Ok hto
    rw [← hT] at c55
    refine W_reg rfl ?_
    refine run_op rfl rfl rfl (by simp [eSlot]; exact .mk) ?_
    refine run_call0 rfl rfl rfl rfl (by simp; exact .mk) (by simp [row_rows, Function.comp_def]; exact .mk) (c55) (by simp) (by simp [oStt]; exact .mk) ?_
    iterate 4 refine xO ?_
    refine run_op rfl rfl rfl (by simp [splice]; exact .mk) ?_
    refine xO ?_
    refine xE [1, 2, 5, 6, 7] ?_
    rintro -
    refine W_seq ?_
    refine xU ?_
    iterate 2 refine xO ?_
    refine xE [1, 2, 5, 6, 7, 25] ?_
    rintro -
    refine W_cond rfl ?_ ?_
    · intro h25
      have he : (stepS t).2 ≠ 0 := by simpa using h25
      obtain ⟨f, hf⟩ : ∃ f, needE 0 t = f + 1 := ⟨needE 0 t - 1, by have := need_pos (n := 0) (s := t); omega⟩
      have hr : endS t = (zStt, 0, (stepS t).2) := by rw [← hinv, hf, endF_err hnot he]
      refine xU ?_
      refine run_op rfl rfl rfl (by simp [splice]; exact .mk) ?_
      iterate 2 refine xO ?_
      refine run_op rfl rfl rfl (by simp [splice]; exact .mk) ?_
      iterate 2 refine xO ?_
      refine xE [2, 3, 4] ?_
      rintro -
      refine W_ret ?_
      refine end_ret (by simp [Tryz.f51]; exact .mk) (by simp; exact .mk) ?_ (by simp [oStt])
      first | (simp [nrmR, nrmRs, nrmK, kindsOf, kinds, Tryz.f51, hr, oStt, ownR]; done) | (simp [nrmR, nrmRs, nrmK, kindsOf, kinds, Tryz.f51, hr, oStt, zStt, ownR]; done)
    intro h25
    have he : (stepS t).2 = 0 := by simpa using h25
    obtain ⟨n1, n2⟩ := end_next hnot he
    have hRt := (step_ok he).1
    have hn1 := need_le (n := 0) hRt
    rw [← hT] at n1 n2
    refine W_skip ?_
    rintro -
    refine W_reg rfl ?_
    refine run_op rfl rfl rfl (by simp [eSlot]; exact .mk) ?_
    refine run_op rfl rfl rfl (by simp [splice]; exact .mk) ?_
    refine xE [1, 2, 5] ?_
    rintro -
    refine W_reg rfl ?_
    iterate 3 refine xO ?_
    refine xE [1, 2, 5] ?_
    refine rounds_kill [1, 2, 5] ?_
    refine rounds_drop 5 [1, 2, 5] (by decide) (by rfl) (by rfl) ?_
    refine rounds_next (m' := needE (0 + 1) T) (by omega) ⟨0 + 1, T, rfl, hTo, by rw [← n1]; exact hinv, by omega, ?_, .inr ⟨by omega, hRt, rfl⟩⟩
    rw [wrap64 (by omega) (by omega)]; rfl
  skip
  have hn1 := need_le (n := 0) hRs
  refine W_seq ?_
  refine W_block ?_
  refine W_seq ?_
  refine xU ?_
  iterate 3 refine xO ?_
  refine run_if rfl (by simp; exact .mk) rfl (by simp <;> first | omega | grind) (fun hb => by simp [eSlot]; exact .mk) ?_
  refine run_call rfl (by simp; exact .mk) rfl rfl (by simp) (by simp; exact .mk) (by simp [row_rows, Function.comp_def]; exact .mk) (fun hb => ct119 g t) (by simp) (by simp [oStt]; exact .mk) (by simp) ?_
  refine xI ?_
  refine xP ?_
  refine xE [1, 2, 5, 16] ?_
  rintro -
  refine W_cond rfl ?_ ?_
  · intro h16
    have hv : movingS t = false := by simp at h16; exact h16.2
    obtain ⟨f, hf⟩ : ∃ f, needE n t = f + 1 := ⟨needE n t - 1, by have := need_pos (n := n) (s := t); omega⟩
    have hr : endS s = (t, n, 0) := by rw [← hinv, hf, endF_stop ⟨hn0, hv⟩]
    refine xU ?_
    refine run_op rfl rfl rfl (by simp [eSlot]; exact .mk) ?_
    refine xO ?_
    refine run_op rfl rfl rfl (by simp [splice]; exact .mk) ?_
    iterate 2 refine xO ?_
    refine xE [2, 3, 4] ?_
    rintro -
    refine W_ret ?_
    refine end_ret (by simp [Tryz.f51]; exact .mk) (by simp; exact .mk) ?_ (by simp [oStt])
    first | (simp [nrmR, nrmRs, nrmK, kindsOf, kinds, Tryz.f51, hr, oStt, ownR]; done) | (simp [nrmR, nrmRs, nrmK, kindsOf, kinds, Tryz.f51, hr, oStt, zStt, ownR]; done)
  intro h16
  have hnot : ¬ (0 < n ∧ movingS t = false) := by simp at h16; intro q; have := h16 q.1; rw [q.2] at this; cases this
  refine W_skip ?_
  rintro -
  refine W_seq ?_
  have c55 := ct55 g t hto
  obtain ⟨T, hT⟩ : ∃ X, X = (stepS t).1 := ⟨_, rfl⟩
  have hTo : T.Ok := by rw [hT]; exact stepS_Ok hto
  rw [← hT] at c55
  refine W_reg rfl ?_
  refine run_op rfl rfl rfl (by simp [eSlot]; exact .mk) ?_
  refine run_call0 rfl rfl rfl rfl (by simp; exact .mk) (by simp [row_rows, Function.comp_def]; exact .mk) (c55) (by simp) (by simp [oStt]; exact .mk) ?_
  iterate 4 refine xO ?_
  refine run_op rfl rfl rfl (by simp [splice]; exact .mk) ?_
  refine xO ?_
  refine xE [1, 2, 5, 6, 7] ?_
  rintro -
  refine W_seq ?_
  refine xU ?_
  iterate 2 refine xO ?_
  refine xE [1, 2, 5, 6, 7, 25] ?_
  rintro -
  refine W_cond rfl ?_ ?_
  · intro h25
    have he : (stepS t).2 ≠ 0 := by simpa using h25
    obtain ⟨f, hf⟩ : ∃ f, needE n t = f + 1 := ⟨needE n t - 1, by have := need_pos (n := n) (s := t); omega⟩
    have hr : endS s = (zStt, n, (stepS t).2) := by rw [← hinv, hf, endF_err hnot he]
    refine xU ?_
    refine run_op rfl rfl rfl (by simp [splice]; exact .mk) ?_
    iterate 2 refine xO ?_
    refine run_op rfl rfl rfl (by simp [splice]; exact .mk) ?_
    iterate 2 refine xO ?_
    refine xE [2, 3, 4] ?_
    rintro -
    refine W_ret ?_
    refine end_ret (by simp [Tryz.f51]; exact .mk) (by simp; exact .mk) ?_ (by simp [oStt])
    first | (simp [nrmR, nrmRs, nrmK, kindsOf, kinds, Tryz.f51, hr, oStt, ownR]; done) | (simp [nrmR, nrmRs, nrmK, kindsOf, kinds, Tryz.f51, hr, oStt, zStt, ownR]; done)
  intro h25
  have he : (stepS t).2 = 0 := by simpa using h25
  obtain ⟨n1, n2⟩ := end_next hnot he
  rw [← hT] at n1 n2
  refine W_skip ?_
  rintro -
  refine W_reg rfl ?_
  refine run_op rfl rfl rfl (by simp [eSlot]; exact .mk) ?_
  refine run_op rfl rfl rfl (by simp [splice]; exact .mk) ?_
  refine xE [1, 2, 5] ?_
  rintro -
  refine W_reg rfl ?_
  iterate 3 refine xO ?_
  refine xE [1, 2, 5] ?_
  refine rounds_kill [1, 2, 5] ?_
  refine rounds_kills [1, 2, 5] rfl ?_
  refine rounds_swap 2 5 3 (by decide) (by simp) (by decide) rfl rfl ?_
  refine rounds_drop 5 [1, 2, 5] (by decide) (by rfl) (by rfl) ?_
  refine rounds_next (m' := needE (n + 1) T) (by omega) ⟨n + 1, T, rfl, hTo, by rw [← n1]; exact hinv, by omega, ?_, .inr ⟨by omega, hRs, rfl⟩⟩
  rw [wrap64 (by omega) (by omega)]; rfl

end Go.Proofs

set_option maxHeartbeats 4000000
set_option maxRecDepth 4000
namespace Go.Proofs
open Go.Awp
theorem ct54 (g : Gl) (s : Stt) (hs : s.Ok) (up : Bool) : CtAt Tryz.prog g 54 [eStt s, vT up] (.tup [oStt (startS s up).1, vI (startS s up).2]) := by
  refine ctAt_of_W Tryz.func54 rfl rfl (Nat.le_of_ble_eq_true rfl) fun B S => ?_
  simp only [eStt, List.map, argD_agg, argD_v]
  refine xU ?_
  iterate 3 refine xO ?_
  refine xE [1, 2, 4] ?_
  rintro -
  refine W_seq ?_
  refine xU ?_
  refine run_op rfl rfl rfl (by simp [eSlot]; exact .mk) ?_
  refine run_call0 rfl rfl rfl rfl (by simp; exact .mk) (by simp [row_rows, Function.comp_def]; exact .mk) (ct32 g s hs) (by simp) (by simp [oStt]; exact .mk) ?_
  refine xO ?_
  refine xE [1, 2, 4, 15] ?_
  rintro -
  refine W_cond rfl ?_ ?_
  · intro h15
    have hR : sttS s = false := by simpa using h15
    have hr : startS s up = (zStt, 1) := by unfold startS; rw [if_pos hR]
    refine xU ?_
    iterate 2 (refine run_op rfl rfl rfl (by simp [splice]; exact .mk) ?_)
    refine xO ?_
    refine xE [4, 5] ?_
    rintro -
    refine W_ret ?_
    refine end_ret (by simp [Tryz.f54]; exact .mk) (by simp; exact .mk) ?_ (by simp [oStt])
    first | (simp [nrmR, nrmRs, nrmK, kindsOf, kinds, Tryz.f54, hr, oStt, ownR, toM]; done) | (simp [nrmR, nrmRs, nrmK, kindsOf, kinds, Tryz.f54, hr, oStt, zStt, ownR, toM]; done) | (simp [nrmR, nrmRs, nrmK, kindsOf, kinds, Tryz.f54, hr, oStt, zStt, ownR, turnS]; done)
  intro h15
  have hR : sttS s = true := by simpa using h15
  have hRf : ¬ sttS s = false := by rw [hR]; simp
  have hb := superS_b (sttS_super hR)
  refine W_skip ?_
  refine xT ?_
  iterate 2 refine xO ?_
  refine xE [1, 2, 4, 6, 7] ?_
  rintro -
  refine W_seq ?_
  refine xU ?_
  refine xO ?_
  refine xE [2, 4, 6, 7, 17] ?_
  rintro -
  refine W_cond rfl ?_ ?_
  · intro h17
    obtain rfl : up = true := by simpa using h17
    refine W_reg rfl ?_
    iterate 2 refine xO ?_
    refine xE [2, 4, 6, 7] ?_
    rintro -
    refine W_seq ?_
    refine xU ?_
    refine xO ?_
    refine run_op rfl rfl rfl (by simp [eSlot]; exact .mk) ?_
    iterate 2 refine xO ?_
    refine xE [2, 4, 7, 21] ?_
    rintro -
    refine W_cond rfl ?_ ?_
    · intro h21
      first
      | (have hn : s.mode ≠ fromM true := by (simp [fromM] at h21 ⊢; exact h21)
         have hr : startS s true = (zStt, 12) := by unfold startS; rw [if_neg hRf, if_pos hn])
      | (have hn : s.mode ≠ fromM false := by (simp [fromM] at h21 ⊢; exact h21)
         have hr : startS s false = (zStt, 12) := by unfold startS; rw [if_neg hRf, if_pos hn])
      refine xU ?_
      iterate 2 (refine run_op rfl rfl rfl (by simp [splice]; exact .mk) ?_)
      refine xO ?_
      refine xE [4, 5] ?_
      rintro -
      refine W_ret ?_
      refine end_ret (by simp [Tryz.f54]; exact .mk) (by simp; exact .mk) ?_ (by simp [oStt])
      first | (simp [nrmR, nrmRs, nrmK, kindsOf, kinds, Tryz.f54, hr, oStt, ownR, toM]; done) | (simp [nrmR, nrmRs, nrmK, kindsOf, kinds, Tryz.f54, hr, oStt, zStt, ownR, toM]; done) | (simp [nrmR, nrmRs, nrmK, kindsOf, kinds, Tryz.f54, hr, oStt, zStt, ownR, turnS]; done)
    intro h21
    first
    | (have hn : ¬ s.mode ≠ fromM true := by (simp [fromM] at h21 ⊢; exact h21))
    | (have hn : ¬ s.mode ≠ fromM false := by (simp [fromM] at h21 ⊢; exact h21))
    refine W_skip ?_
    refine xT ?_
    refine run_op rfl rfl rfl (by simp [eSlot]; exact .mk) ?_
    refine run_op rfl rfl rfl (by simp [splice]; exact .mk) ?_
    refine xO ?_
    refine run_call0 rfl rfl rfl rfl (by simp; exact .mk) (by simp [row_rows, Function.comp_def]; exact .mk) (by first | exact ct122 g s hs 3 0 (by omega) | exact ct122 g s hs 4 0 (by omega)) (by simp) (by simp [oStt]; exact .mk) ?_
    iterate 4 refine xO ?_
    refine run_op rfl rfl rfl (by simp [splice]; exact .mk) ?_
    refine xO ?_
    refine xE [4, 8] ?_
    rintro -
    refine W_seq ?_
    refine xU ?_
    refine run_op rfl rfl rfl (by simp [eSlot]; exact .mk) ?_
    refine run_call0 rfl rfl rfl rfl (by simp; exact .mk) (by simp [row_rows, Function.comp_def]; exact .mk) (by first | exact ct51 g (turnS s 3 0) (turn_ok hs) | exact ct51 g (turnS s 4 0) (turn_ok hs)) (by simp) (by simp [oStt]; exact .mk) ?_
    iterate 5 refine xO ?_
    refine run_op rfl rfl rfl (by simp [splice]; exact .mk) ?_
    iterate 2 refine xO ?_
    refine xE [4, 8, 12] ?_
    refine xT ?_
    iterate 2 refine xO ?_
    refine xE [4, 8, 12, 37] ?_
    rintro -
    refine W_cond rfl ?_ ?_
    · intro h37
      first
      | (have he : (endS (turnS s (toM true) 0)).2.2 ≠ 0 := by (simpa [toM] using h37)
         have hr : startS s true = (zStt, (endS (turnS s (toM true) 0)).2.2) := by unfold startS; rw [if_neg hRf, if_neg hn, if_pos he])
      | (have he : (endS (turnS s (toM false) 0)).2.2 ≠ 0 := by (simpa [toM] using h37)
         have hr : startS s false = (zStt, (endS (turnS s (toM false) 0)).2.2) := by unfold startS; rw [if_neg hRf, if_neg hn, if_pos he])
      refine xU ?_
      refine run_op rfl rfl rfl (by simp [splice]; exact .mk) ?_
      refine xO ?_
      refine run_op rfl rfl rfl (by simp [splice]; exact .mk) ?_
      refine xO ?_
      refine xE [4, 5] ?_
      rintro -
      refine W_ret ?_
      refine end_ret (by simp [Tryz.f54]; exact .mk) (by simp; exact .mk) ?_ (by simp [oStt])
      first | (simp [nrmR, nrmRs, nrmK, kindsOf, kinds, Tryz.f54, hr, oStt, ownR, toM]; done) | (simp [nrmR, nrmRs, nrmK, kindsOf, kinds, Tryz.f54, hr, oStt, zStt, ownR, toM]; done) | (simp [nrmR, nrmRs, nrmK, kindsOf, kinds, Tryz.f54, hr, oStt, zStt, ownR, turnS]; done)
    intro h37
    first
    | (have he : ¬ (endS (turnS s (toM true) 0)).2.2 ≠ 0 := by (simpa [toM] using h37)
       have hr : startS s true = (turnS s 3 0, 0) := by unfold startS; rw [if_neg hRf, if_neg hn, if_neg he]; rfl)
    | (have he : ¬ (endS (turnS s (toM false) 0)).2.2 ≠ 0 := by (simpa [toM] using h37)
       have hr : startS s false = (turnS s 4 0, 0) := by unfold startS; rw [if_neg hRf, if_neg hn, if_neg he]; rfl)
    refine W_skip ?_
    refine xT ?_
    refine run_op rfl rfl rfl (by simp [eSlot]; exact .mk) ?_
    refine run_op rfl rfl rfl (by simp [splice]; exact .mk) ?_
    refine xO ?_
    refine xE [4, 5] ?_
    rintro -
    refine W_ret ?_
    refine end_ret (by simp [Tryz.f54]; exact .mk) (by simp; exact .mk) ?_ (by simp [oStt])
    first | (simp [nrmR, nrmRs, nrmK, kindsOf, kinds, Tryz.f54, hr, oStt, ownR, toM]; done) | (simp [nrmR, nrmRs, nrmK, kindsOf, kinds, Tryz.f54, hr, oStt, zStt, ownR, toM]; done) | (simp [nrmR, nrmRs, nrmK, kindsOf, kinds, Tryz.f54, hr, oStt, zStt, ownR, turnS]; done)
  intro h17
  obtain rfl : up = false := by simpa using h17
  refine W_skip ?_
  rintro -
  refine W_seq ?_
  refine xU ?_
  refine xO ?_
  refine run_op rfl rfl rfl (by simp [eSlot]; exact .mk) ?_
  iterate 2 refine xO ?_
  refine xE [2, 4, 7, 21] ?_
  rintro -
  refine W_cond rfl ?_ ?_
  · intro h21
    first
    | (have hn : s.mode ≠ fromM true := by (simp [fromM] at h21 ⊢; exact h21)
       have hr : startS s true = (zStt, 12) := by unfold startS; rw [if_neg hRf, if_pos hn])
    | (have hn : s.mode ≠ fromM false := by (simp [fromM] at h21 ⊢; exact h21)
       have hr : startS s false = (zStt, 12) := by unfold startS; rw [if_neg hRf, if_pos hn])
    refine xU ?_
    iterate 2 (refine run_op rfl rfl rfl (by simp [splice]; exact .mk) ?_)
    refine xO ?_
    refine xE [4, 5] ?_
    rintro -
    refine W_ret ?_
    refine end_ret (by simp [Tryz.f54]; exact .mk) (by simp; exact .mk) ?_ (by simp [oStt])
    first | (simp [nrmR, nrmRs, nrmK, kindsOf, kinds, Tryz.f54, hr, oStt, ownR, toM]; done) | (simp [nrmR, nrmRs, nrmK, kindsOf, kinds, Tryz.f54, hr, oStt, zStt, ownR, toM]; done) | (simp [nrmR, nrmRs, nrmK, kindsOf, kinds, Tryz.f54, hr, oStt, zStt, ownR, turnS]; done)
  intro h21
  first
  | (have hn : ¬ s.mode ≠ fromM true := by (simp [fromM] at h21 ⊢; exact h21))
  | (have hn : ¬ s.mode ≠ fromM false := by (simp [fromM] at h21 ⊢; exact h21))
  refine W_skip ?_
  refine xT ?_
  refine run_op rfl rfl rfl (by simp [eSlot]; exact .mk) ?_
  refine run_op rfl rfl rfl (by simp [splice]; exact .mk) ?_
  refine xO ?_
  refine run_call0 rfl rfl rfl rfl (by simp; exact .mk) (by simp [row_rows, Function.comp_def]; exact .mk) (by first | exact ct122 g s hs 3 0 (by omega) | exact ct122 g s hs 4 0 (by omega)) (by simp) (by simp [oStt]; exact .mk) ?_
  iterate 4 refine xO ?_
  refine run_op rfl rfl rfl (by simp [splice]; exact .mk) ?_
  refine xO ?_
  refine xE [4, 8] ?_
  rintro -
  refine W_seq ?_
  refine xU ?_
  refine run_op rfl rfl rfl (by simp [eSlot]; exact .mk) ?_
  refine run_call0 rfl rfl rfl rfl (by simp; exact .mk) (by simp [row_rows, Function.comp_def]; exact .mk) (by first | exact ct51 g (turnS s 3 0) (turn_ok hs) | exact ct51 g (turnS s 4 0) (turn_ok hs)) (by simp) (by simp [oStt]; exact .mk) ?_
  iterate 5 refine xO ?_
  refine run_op rfl rfl rfl (by simp [splice]; exact .mk) ?_
  iterate 2 refine xO ?_
  refine xE [4, 8, 12] ?_
  refine xT ?_
  iterate 2 refine xO ?_
  refine xE [4, 8, 12, 37] ?_
  rintro -
  refine W_cond rfl ?_ ?_
  · intro h37
    first
    | (have he : (endS (turnS s (toM true) 0)).2.2 ≠ 0 := by (simpa [toM] using h37)
       have hr : startS s true = (zStt, (endS (turnS s (toM true) 0)).2.2) := by unfold startS; rw [if_neg hRf, if_neg hn, if_pos he])
    | (have he : (endS (turnS s (toM false) 0)).2.2 ≠ 0 := by (simpa [toM] using h37)
       have hr : startS s false = (zStt, (endS (turnS s (toM false) 0)).2.2) := by unfold startS; rw [if_neg hRf, if_neg hn, if_pos he])
    refine xU ?_
    refine run_op rfl rfl rfl (by simp [splice]; exact .mk) ?_
    refine xO ?_
    refine run_op rfl rfl rfl (by simp [splice]; exact .mk) ?_
    refine xO ?_
    refine xE [4, 5] ?_
    rintro -
    refine W_ret ?_
    refine end_ret (by simp [Tryz.f54]; exact .mk) (by simp; exact .mk) ?_ (by simp [oStt])
    first | (simp [nrmR, nrmRs, nrmK, kindsOf, kinds, Tryz.f54, hr, oStt, ownR, toM]; done) | (simp [nrmR, nrmRs, nrmK, kindsOf, kinds, Tryz.f54, hr, oStt, zStt, ownR, toM]; done) | (simp [nrmR, nrmRs, nrmK, kindsOf, kinds, Tryz.f54, hr, oStt, zStt, ownR, turnS]; done)
  intro h37
  first
  | (have he : ¬ (endS (turnS s (toM true) 0)).2.2 ≠ 0 := by (simpa [toM] using h37)
     have hr : startS s true = (turnS s 3 0, 0) := by unfold startS; rw [if_neg hRf, if_neg hn, if_neg he]; rfl)
  | (have he : ¬ (endS (turnS s (toM false) 0)).2.2 ≠ 0 := by (simpa [toM] using h37)
     have hr : startS s false = (turnS s 4 0, 0) := by unfold startS; rw [if_neg hRf, if_neg hn, if_neg he]; rfl)
  refine W_skip ?_
  refine xT ?_
  refine run_op rfl rfl rfl (by simp [eSlot]; exact .mk) ?_
  refine run_op rfl rfl rfl (by simp [splice]; exact .mk) ?_
  refine xO ?_
  refine xE [4, 5] ?_
  rintro -
  refine W_ret ?_
  refine end_ret (by simp [Tryz.f54]; exact .mk) (by simp; exact .mk) ?_ (by simp [oStt])
  first | (simp [nrmR, nrmRs, nrmK, kindsOf, kinds, Tryz.f54, hr, oStt, ownR, toM]; done) | (simp [nrmR, nrmRs, nrmK, kindsOf, kinds, Tryz.f54, hr, oStt, zStt, ownR, toM]; done) | (simp [nrmR, nrmRs, nrmK, kindsOf, kinds, Tryz.f54, hr, oStt, zStt, ownR, turnS]; done)

end Go.Proofs

set_option maxHeartbeats 4000000
set_option maxRecDepth 4000
namespace Go.Proofs
open Go.Awp
theorem ct50 (g : Gl) : CtAt Tryz.prog g 50 [] (.v (.bool true)) := by
  refine ctAt_of_W Tryz.func50 rfl rfl (Nat.le_of_ble_eq_true rfl) fun B S => ?_
  obtain ⟨A, B, C, D, E, F, id, h1, h2, h3, h4, h5, h6, h7, h8, h9, h10, h11, h12⟩ := small_facts
  have hA := fewStt_ok h12
  have hB : B.Ok := by have := startS_Ok (up := true) hA; rwa [h2] at this
  have hC : C.Ok := by have := endS_Ok hB; rwa [h3] at this
  have hD : D.Ok := by have := putS_ok (n := 16) hA; rwa [h5] at this
  have hE : E.Ok := by have := startS_Ok (up := true) hD; rwa [h6] at this
  have hF : F.Ok := by have := endS_Ok hE; rwa [h7] at this
  have c1 := ct53 g sh0 1
  have c2 := ct54 g A hA true
  have c3 := ct51 g B hB
  have c4 := ct42 g A hA 16
  have c5 := ct54 g D hD true
  have c6 := ct51 g E hE
  have c7 := ct55 g A hA
  rw [h1] at c1
  rw [h2] at c2
  rw [h3] at c3
  rw [h5] at c4
  rw [h6] at c5
  rw [h7] at c6
  rw [h11] at c7
  obtain ⟨G, hG⟩ : ∃ G, G = (stepS A).1 := ⟨_, rfl⟩
  rw [← hG] at c7
  have hl0 : 0 < F.slots.length := by omega
  refine xU ?_
  refine xO ?_
  refine xE [] ?_
  refine xT ?_
  refine run_op rfl rfl rfl (by simp [splice]; exact .mk) ?_
  refine run_call0 rfl rfl rfl rfl (by simp; exact .mk) (by simp [row_rows, Function.comp_def]; exact .mk) (c1) (by simp) (by simp [oStt]; exact .mk) ?_
  iterate 4 refine xO ?_
  refine run_op rfl rfl rfl (by simp [splice]; exact .mk) ?_
  refine xO ?_
  refine xE [1, 2] ?_
  refine xT ?_
  refine run_op rfl rfl rfl (by simp [eSlot]; exact .mk) ?_
  refine run_call0 rfl rfl rfl rfl (by simp; exact .mk) (by simp [row_rows, Function.comp_def]; exact .mk) (c2) (by simp) (by simp [oStt]; exact .mk) ?_
  iterate 4 refine xO ?_
  refine run_op rfl rfl rfl (by simp [splice]; exact .mk) ?_
  refine xO ?_
  refine xE [1, 2, 3, 4] ?_
  refine xT ?_
  refine run_op rfl rfl rfl (by simp [eSlot]; exact .mk) ?_
  refine run_call0 rfl rfl rfl rfl (by simp; exact .mk) (by simp [row_rows, Function.comp_def]; exact .mk) (c3) (by simp) (by simp [oStt]; exact .mk) ?_
  iterate 5 refine xO ?_
  refine run_op rfl rfl rfl (by simp [splice]; exact .mk) ?_
  iterate 2 refine xO ?_
  refine xE [1, 2, 4, 5, 6, 7] ?_
  refine xT ?_
  refine run_op rfl rfl rfl (by simp [eSlot]; exact .mk) ?_
  refine run_call0 rfl rfl rfl rfl (by simp; exact .mk) (by simp [row_rows, Function.comp_def]; exact .mk) (c4) (by simp) (by simp [oStt]; exact .mk) ?_
  iterate 6 refine xO ?_
  iterate 2 (refine run_op rfl rfl rfl (by simp [splice]; exact .mk) ?_)
  refine xO ?_
  refine xE [1, 2, 4, 5, 6, 7, 8, 10] ?_
  refine xT ?_
  refine run_op rfl rfl rfl (by simp [eSlot]; exact .mk) ?_
  refine run_call0 rfl rfl rfl rfl (by simp; exact .mk) (by simp [row_rows, Function.comp_def]; exact .mk) (c5) (by simp) (by simp [oStt]; exact .mk) ?_
  iterate 4 refine xO ?_
  refine run_op rfl rfl rfl (by simp [splice]; exact .mk) ?_
  refine xO ?_
  refine xE [1, 2, 4, 5, 6, 7, 10, 11, 12] ?_
  refine xT ?_
  refine run_op rfl rfl rfl (by simp [eSlot]; exact .mk) ?_
  refine run_call0 rfl rfl rfl rfl (by simp; exact .mk) (by simp [row_rows, Function.comp_def]; exact .mk) (c6) (by simp) (by simp [oStt]; exact .mk) ?_
  iterate 5 refine xO ?_
  refine run_op rfl rfl rfl (by simp [splice]; exact .mk) ?_
  iterate 2 refine xO ?_
  refine xE [1, 2, 4, 5, 6, 7, 10, 12, 13, 14, 15] ?_
  refine xT ?_
  refine run_op rfl rfl rfl (by simp [eSlot]; exact .mk) ?_
  refine run_call0 rfl rfl rfl rfl (by simp; exact .mk) (by simp [row_rows, Function.comp_def]; exact .mk) (c7) (by simp) (by simp [oStt]; exact .mk) ?_
  iterate 4 refine xO ?_
  refine run_op rfl rfl rfl (by simp [splice]; exact .mk) ?_
  refine xO ?_
  refine xE [2, 4, 5, 6, 7, 10, 12, 13, 14, 15, 17] ?_
  refine xT ?_
  iterate 3 refine xO ?_
  iterate 2 refine xI ?_
  refine xP ?_
  refine xB ?_
  iterate 2 refine xI ?_
  refine xP ?_
  refine xB ?_
  iterate 2 refine xI ?_
  refine xP ?_
  refine xB ?_
  refine xI ?_
  refine run_if rfl (by simp; exact .mk) rfl (by simp <;> first | omega | grind) (fun hb => by simp [eSlot]; exact .mk) ?_
  refine run_if rfl (by simp; exact .mk) rfl (by simp <;> first | omega | grind) (fun hb => by simp [h4]; exact .mk) ?_
  refine xP ?_
  refine xB ?_
  iterate 2 refine xI ?_
  refine xP ?_
  refine xB ?_
  iterate 2 refine xI ?_
  refine xP ?_
  refine xB ?_
  iterate 2 refine xI ?_
  refine xP ?_
  refine xB ?_
  iterate 2 refine xI ?_
  refine xP ?_
  refine xB ?_
  refine xI ?_
  refine run_if rfl (by simp; exact .mk) rfl (by simp <;> first | omega | grind) (fun hb => by simp [eSlot]; exact .mk) ?_
  refine run_if rfl (by simp; exact .mk) rfl (by simp <;> first | omega | grind) (fun hb => by simp [h8]; exact .mk) ?_
  refine xP ?_
  refine xB ?_
  refine xI ?_
  refine run_if rfl (by simp; exact .mk) rfl (by simp <;> first | omega | grind) (fun hb => by simp [eSlot]; exact .mk) ?_
  refine xI ?_
  refine run_if rfl (by simp; exact .mk) rfl (by simp <;> first | omega | grind) (fun hb => by simp [h9]; exact .mk) ?_
  refine xP ?_
  refine xB ?_
  refine xI ?_
  refine run_if rfl (by simp; exact .mk) rfl (by simp <;> first | omega | grind) (fun hb => by simp [eSlot]; exact .mk) ?_
  refine run_if rfl (by simp; exact .mk) rfl (by simp <;> first | omega | grind) (fun hb => by simp [eSlot, h9]; exact .mk) ?_
  refine xI ?_
  refine run_if rfl (by simp; exact .mk) rfl (by simp <;> first | omega | grind) (fun hb => by simp [-List.getElem?_map, map_get hl0, eSlot, h10]; exact .mk) ?_
  refine xP ?_
  refine xB ?_
  iterate 2 refine xI ?_
  refine xP ?_
  refine xB ?_
  refine xE [0] ?_
  rintro -
  refine W_ret ?_
  refine xR (by simp [Tryz.f50]; exact .mk) ?_
  simp [nrmR, nrmRs, nrmK, kindsOf, kinds, Tryz.f50, *]

end Go.Proofs

set_option maxHeartbeats 4000000
set_option maxRecDepth 4000
namespace Go.Proofs
open Go.Awp
theorem ct60 (g : Gl) (s : Stt) (hs : s.Ok) : CtAt Tryz.prog g 60 [eStt s] (oAbs (ofS s)) := by
  refine ctAt_of_W Tryz.func60 rfl rfl (Nat.le_of_ble_eq_true rfl) fun B S => ?_
  simp only [eStt, List.map, argD_agg, argD_v]
  have q1 := hs.h1
  refine xU ?_
  iterate 2 refine xO ?_
  refine xE [1, 2] ?_
  refine xT ?_
  refine xO ?_
  refine run_op rfl rfl rfl (by simp [eSlot, eRoot]; exact .mk) ?_
  refine run_call0 rfl rfl rfl rfl (by simp; exact .mk) (by simp [row_rows, Function.comp_def]; exact .mk) (ct77 g _ hs.h2) (by simp) (by simp [oAbs]; exact .mk) ?_
  refine run_op rfl rfl rfl (by simp [splice]; exact .mk) ?_
  refine xO ?_
  refine run_op rfl rfl rfl (by simp [splice]; exact .mk) ?_
  refine xE [1, 2, 3] ?_
  rintro -
  refine W_seq ?_
  refine xU ?_
  refine xO ?_
  refine run_op rfl rfl rfl (by simp [eSlot, eRoot]; exact .mk) ?_
  iterate 2 refine xO ?_
  refine xE [1, 2, 3, 12, 13, 14] ?_
  rintro -
  refine W_block ?_
  refine W_rounds (fun m σ o => ∃ i : Nat, m = s.slots.length - i ∧ i ≤ s.slots.length ∧ σ = slots [(1, .ptr 0 0 0), (2, .ptr 1 0 0), (3, .ptr 3 0 0), (12, .d (rSl s.slots)), (13, .d (vI s.slots.length)), (14, .d (vI i))] ∧ o = [.var 28 [.d (vI s.sh.pages), .d (vI s.sh.slots), .d (vI s.sh.roots), .d (vI s.sh.room), .d (vI s.mode), .d (vI s.base), .d (rSl s.slots), .d (rR s.roots), .d (rBB s.data)], .var 67 [.d (.v (.slice none 0 0)), .d (.v (.slice none 0 0)), .d (.v (.slice none 0 0))], .row 3 (s.roots.map eRoot), .var 67 [.hdr 4 0 i, .hdr 5 0 i, .hdr 2 0 s.roots.length], .row 1 ((ofG s i).map vI), .row 1 ((ofD s i).map oB)]) s.slots.length
    (Weak.trans (Weak.nilCell 3 0 1 rfl rfl) (Weak.nilCell 3 1 1 rfl rfl) (fun _ _ _ h1 h2 => by rw [← h1.len]; exact h2)) ⟨0, by simp, by simp, by simp, by simp [ofG, ofD]⟩ ?_
  rintro m σ o ⟨i, rfl, hi, rfl, rfl⟩ _
  refine xU ?_
  refine xO ?_
  refine xE [1, 2, 3, 12, 13, 14, 15] ?_
  rintro -
  refine W_seq ?_
  refine W_cond rfl ?_ ?_
  · intro h15
    have hi2 : i < s.slots.length := by simpa using h15
    have e4 : (i + 1) * 16 ≤ 140737488355328 := by omega
    have e5 : i ≤ 140737488355327 := by omega
    have e6 : (i + 1) * 8 ≤ 140737488355328 := by omega
    have e7 : (i + 1) * 24 ≤ 140737488355328 := by omega
    refine W_skip ?_
    rintro -
    refine W_seq ?_
    refine W_block ?_
    refine xU ?_
    refine xO ?_
    refine run_op rfl rfl rfl (by simp [eSlot, eRoot, hi2]; exact .mk) ?_
    refine run_op rfl rfl rfl (by simp [-List.getElem?_map, map_get hi2, eSlot]; exact .mk) ?_
    iterate 2 refine xO ?_
    refine run_op rfl rfl rfl (by simp [splice]; exact .mk) ?_
    refine xE [1, 2, 3, 4, 5, 12, 13, 14] ?_
    refine xT ?_
    refine xO ?_
    refine xE [1, 2, 3, 4, 5, 6, 12, 13, 14] ?_
    rintro -
    refine W_seq ?_
    refine xU ?_
    refine xO ?_
    refine run_op rfl rfl rfl (by simp [eSlot, eRoot]; exact .mk) ?_
    refine xO ?_
    iterate 2 refine xI ?_
    refine run_if rfl (by simp; exact .mk) rfl (by simp <;> first | omega | grind) (fun hb => by simp [eSlot, eRoot]; exact .mk) ?_
    iterate 2 refine xI ?_
    refine xP ?_
    refine xE [1, 2, 3, 4, 5, 6, 12, 13, 14, 27] ?_
    rintro -
    refine W_cond rfl ?_ ?_
    · intro h27
      have hc : (nth s.slots i).live = true ∧ i < s.data.length := by simpa using h27
      have hx : ofB s i = nth s.data i := by unfold ofB; rw [if_pos (by simpa using hc)]
      have hd := hc.2
      refine W_reg rfl ?_
      refine xO ?_
      refine run_op rfl rfl rfl (by simp [eSlot, eRoot]; exact .mk) ?_
      refine xO ?_
      refine run_op rfl rfl rfl (by simp [eSlot, eRoot, hd]; exact .mk) ?_
      refine run_op rfl rfl rfl (by simp [-List.getElem?_map, map_get hd]; exact .mk) ?_
      refine run_call0 rfl rfl rfl rfl (by simp; exact .mk) (by simp [row_rows, Function.comp_def]; exact .mk) (ct79 g _ (hs.h4 i hd)) (by simp) (by simp [oAbs]; exact .mk) ?_
      refine xO ?_
      refine xE [1, 2, 3, 5, 6, 12, 13, 14] ?_
      rintro -
      refine W_regDT (hard := []) [1, 3, 4, 5, 7, 9] (keepOk_lt (by decide)) (by kernel_rfl) 4 [[0, 2, 6, 8, 1, 3, 4, 5, 7, 11, 9, 10, 12, 13, 14], [0, 2, 6, 8, 1, 3, 4, 5, 9, 7, 10, 11, 12, 13, 14], [0, 2, 6, 8, 1, 3, 4, 7, 5, 11, 9, 10, 12, 13, 14], [0, 2, 6, 8, 1, 3, 4, 7, 9, 5, 10, 11, 12, 13, 14], [0, 2, 6, 8, 1, 3, 4, 9, 5, 7, 10, 11, 12, 13, 14], [0, 2, 6, 8, 1, 3, 4, 9, 7, 5, 10, 11, 12, 13, 14], [0, 2, 6, 8, 1, 3, 7, 4, 5, 11, 9, 10, 12, 13, 14], [0, 2, 6, 8, 1, 3, 7, 4, 9, 5, 10, 11, 12, 13, 14], [0, 2, 6, 8, 1, 3, 7, 9, 4, 5, 10, 11, 12, 13, 14], [0, 2, 6, 8, 1, 3, 9, 4, 5, 7, 10, 11, 12, 13, 14], [0, 2, 6, 8, 1, 3, 9, 4, 7, 5, 10, 11, 12, 13, 14], [0, 2, 6, 8, 1, 3, 9, 7, 4, 5, 10, 11, 12, 13, 14], [0, 2, 6, 8, 1, 7, 9, 3, 4, 5, 10, 11, 12, 13, 14], [0, 2, 6, 8, 1, 9, 3, 4, 5, 7, 10, 11, 12, 13, 14], [0, 2, 6, 8, 1, 9, 3, 4, 7, 5, 10, 11, 12, 13, 14], [0, 2, 6, 8, 1, 9, 3, 7, 4, 5, 10, 11, 12, 13, 14], [0, 2, 6, 8, 3, 4, 1, 5, 7, 11, 9, 10, 12, 13, 14], [0, 2, 6, 8, 3, 4, 1, 5, 9, 7, 10, 11, 12, 13, 14], [0, 2, 6, 8, 3, 4, 1, 7, 5, 11, 9, 10, 12, 13, 14], [0, 2, 6, 8, 3, 4, 1, 7, 9, 5, 10, 11, 12, 13, 14], [0, 2, 6, 8, 3, 4, 1, 9, 5, 7, 10, 11, 12, 13, 14], [0, 2, 6, 8, 3, 4, 1, 9, 7, 5, 10, 11, 12, 13, 14], [0, 2, 6, 8, 3, 4, 7, 9, 1, 5, 10, 11, 12, 13, 14], [0, 2, 6, 8, 3, 4, 9, 1, 5, 7, 10, 11, 12, 13, 14], [0, 2, 6, 8, 3, 4, 9, 1, 7, 5, 10, 11, 12, 13, 14], [0, 2, 6, 8, 3, 7, 4, 1, 5, 11, 9, 10, 12, 13, 14], [0, 2, 6, 8, 3, 7, 4, 1, 9, 5, 10, 11, 12, 13, 14], [0, 2, 6, 8, 3, 7, 4, 9, 1, 5, 10, 11, 12, 13, 14], [0, 2, 6, 8, 3, 7, 9, 1, 4, 5, 10, 11, 12, 13, 14], [0, 2, 6, 8, 3, 7, 9, 4, 1, 5, 10, 11, 12, 13, 14], [0, 2, 6, 8, 3, 9, 1, 4, 5, 7, 10, 11, 12, 13, 14], [0, 2, 6, 8, 3, 9, 1, 4, 7, 5, 10, 11, 12, 13, 14], [0, 2, 6, 8, 3, 9, 1, 7, 4, 5, 10, 11, 12, 13, 14], [0, 2, 6, 8, 3, 9, 4, 1, 5, 7, 10, 11, 12, 13, 14], [0, 2, 6, 8, 3, 9, 4, 1, 7, 5, 10, 11, 12, 13, 14], [0, 2, 6, 8, 3, 9, 7, 4, 1, 5, 10, 11, 12, 13, 14], [0, 2, 6, 8, 7, 9, 1, 3, 4, 5, 10, 11, 12, 13, 14], [0, 2, 6, 8, 7, 9, 3, 4, 1, 5, 10, 11, 12, 13, 14], [0, 2, 6, 8, 9, 1, 3, 4, 5, 7, 10, 11, 12, 13, 14], [0, 2, 6, 8, 9, 1, 3, 4, 7, 5, 10, 11, 12, 13, 14], [0, 2, 6, 8, 9, 1, 3, 7, 4, 5, 10, 11, 12, 13, 14], [0, 2, 6, 8, 9, 3, 4, 1, 5, 7, 10, 11, 12, 13, 14], [0, 2, 6, 8, 9, 3, 4, 1, 7, 5, 10, 11, 12, 13, 14], [0, 2, 6, 8, 9, 3, 7, 4, 1, 5, 10, 11, 12, 13, 14]] (by decide +kernel) ⟨?_, ?_, ?_, ?_, ?_, ?_, ?_, ?_, ?_, ?_, ?_, ?_, ?_, ?_, ?_, ?_, ?_, ?_, ?_, ?_, ?_, ?_, ?_, ?_, ?_, ?_, ?_, ?_, ?_, ?_, ?_, ?_, ?_, ?_, ?_, ?_, ?_, ?_, ?_, ?_, ?_, ?_, ?_, ?_, trivial⟩
      all_goals
        iterate 15 (first | refine xO ?_ | refine run_op rfl rfl rfl (by simp [eSlot, eRoot]; exact .mk) ?_ | refine run_op rfl rfl rfl (by simp [rows, e4, e5, e6, e7]; exact .mk) ?_ | refine run_op rfl rfl rfl (by simp [rows, e4, e5, e6, e7, D.noOwn]; exact .mk) ?_ | refine run_op rfl rfl rfl (by simp [splice]; exact .mk) ?_)
        refine xE [1, 2, 3, 12, 13, 14] ?_
        rintro -
        refine W_reg rfl ?_
        iterate 2 refine xO ?_
        refine xE [1, 2, 3, 12, 13, 14] ?_
        first | (refine rounds_kills [1, 2, 3, 12, 13, 14] rfl ?_; refine rounds_swap 4 9 1 (by decide) (by simp) (by decide) rfl rfl ?_; refine rounds_swap 5 11 1 (by decide) (by simp) (by decide) rfl rfl ?_; refine rounds_drop 6 [1, 2, 3, 12, 13, 14] (by decide) (by rfl) (by rfl) ?_; exact rounds_next (m' := s.slots.length - (i+1)) (by omega) ⟨i+1, rfl, by omega, by rw [wrap64 (by omega) (by omega)]; rfl, by rw [ofD_s, ofG_s, hx]; first | (rw [List.map_append, List.map_append]; rfl) | (simp only [List.map_append]; rfl) | (simp [swapB]; try rfl)⟩) | (refine rounds_kills [1, 2, 3, 12, 13, 14] rfl ?_; refine rounds_swap 4 10 1 (by decide) (by simp) (by decide) rfl rfl ?_; refine rounds_swap 5 11 1 (by decide) (by simp) (by decide) rfl rfl ?_; refine rounds_drop 6 [1, 2, 3, 12, 13, 14] (by decide) (by rfl) (by rfl) ?_; exact rounds_next (m' := s.slots.length - (i+1)) (by omega) ⟨i+1, rfl, by omega, by rw [wrap64 (by omega) (by omega)]; rfl, by rw [ofD_s, ofG_s, hx]; first | (rw [List.map_append, List.map_append]; rfl) | (simp only [List.map_append]; rfl) | (simp [swapB]; try rfl)⟩)
    intro h27
    have hc : ¬ ((nth s.slots i).live && decide (i < s.data.length)) = true := by simpa using h27
    have hx : ofB s i = [] := by unfold ofB; rw [if_neg hc]
    refine W_weak (Weak.nilRow 6 1 rfl) ?_
    refine W_skip ?_
    rintro -
    refine W_regDT (hard := []) [1, 3, 4, 5, 7, 9] (keepOk_lt (by decide)) (by kernel_rfl) 4 [[0, 2, 6, 8, 1, 3, 4, 5, 7, 11, 9, 10, 12, 13, 14], [0, 2, 6, 8, 1, 3, 4, 5, 9, 7, 10, 11, 12, 13, 14], [0, 2, 6, 8, 1, 3, 4, 7, 5, 11, 9, 10, 12, 13, 14], [0, 2, 6, 8, 1, 3, 4, 7, 9, 5, 10, 11, 12, 13, 14], [0, 2, 6, 8, 1, 3, 4, 9, 5, 7, 10, 11, 12, 13, 14], [0, 2, 6, 8, 1, 3, 4, 9, 7, 5, 10, 11, 12, 13, 14], [0, 2, 6, 8, 1, 3, 7, 4, 5, 11, 9, 10, 12, 13, 14], [0, 2, 6, 8, 1, 3, 7, 4, 9, 5, 10, 11, 12, 13, 14], [0, 2, 6, 8, 1, 3, 7, 9, 4, 5, 10, 11, 12, 13, 14], [0, 2, 6, 8, 1, 3, 9, 4, 5, 7, 10, 11, 12, 13, 14], [0, 2, 6, 8, 1, 3, 9, 4, 7, 5, 10, 11, 12, 13, 14], [0, 2, 6, 8, 1, 3, 9, 7, 4, 5, 10, 11, 12, 13, 14], [0, 2, 6, 8, 1, 7, 9, 3, 4, 5, 10, 11, 12, 13, 14], [0, 2, 6, 8, 1, 9, 3, 4, 5, 7, 10, 11, 12, 13, 14], [0, 2, 6, 8, 1, 9, 3, 4, 7, 5, 10, 11, 12, 13, 14], [0, 2, 6, 8, 1, 9, 3, 7, 4, 5, 10, 11, 12, 13, 14], [0, 2, 6, 8, 3, 4, 1, 5, 7, 11, 9, 10, 12, 13, 14], [0, 2, 6, 8, 3, 4, 1, 5, 9, 7, 10, 11, 12, 13, 14], [0, 2, 6, 8, 3, 4, 1, 7, 5, 11, 9, 10, 12, 13, 14], [0, 2, 6, 8, 3, 4, 1, 7, 9, 5, 10, 11, 12, 13, 14], [0, 2, 6, 8, 3, 4, 1, 9, 5, 7, 10, 11, 12, 13, 14], [0, 2, 6, 8, 3, 4, 1, 9, 7, 5, 10, 11, 12, 13, 14], [0, 2, 6, 8, 3, 4, 7, 9, 1, 5, 10, 11, 12, 13, 14], [0, 2, 6, 8, 3, 4, 9, 1, 5, 7, 10, 11, 12, 13, 14], [0, 2, 6, 8, 3, 4, 9, 1, 7, 5, 10, 11, 12, 13, 14], [0, 2, 6, 8, 3, 7, 4, 1, 5, 11, 9, 10, 12, 13, 14], [0, 2, 6, 8, 3, 7, 4, 1, 9, 5, 10, 11, 12, 13, 14], [0, 2, 6, 8, 3, 7, 4, 9, 1, 5, 10, 11, 12, 13, 14], [0, 2, 6, 8, 3, 7, 9, 1, 4, 5, 10, 11, 12, 13, 14], [0, 2, 6, 8, 3, 7, 9, 4, 1, 5, 10, 11, 12, 13, 14], [0, 2, 6, 8, 3, 9, 1, 4, 5, 7, 10, 11, 12, 13, 14], [0, 2, 6, 8, 3, 9, 1, 4, 7, 5, 10, 11, 12, 13, 14], [0, 2, 6, 8, 3, 9, 1, 7, 4, 5, 10, 11, 12, 13, 14], [0, 2, 6, 8, 3, 9, 4, 1, 5, 7, 10, 11, 12, 13, 14], [0, 2, 6, 8, 3, 9, 4, 1, 7, 5, 10, 11, 12, 13, 14], [0, 2, 6, 8, 3, 9, 7, 4, 1, 5, 10, 11, 12, 13, 14], [0, 2, 6, 8, 7, 9, 1, 3, 4, 5, 10, 11, 12, 13, 14], [0, 2, 6, 8, 7, 9, 3, 4, 1, 5, 10, 11, 12, 13, 14], [0, 2, 6, 8, 9, 1, 3, 4, 5, 7, 10, 11, 12, 13, 14], [0, 2, 6, 8, 9, 1, 3, 4, 7, 5, 10, 11, 12, 13, 14], [0, 2, 6, 8, 9, 1, 3, 7, 4, 5, 10, 11, 12, 13, 14], [0, 2, 6, 8, 9, 3, 4, 1, 5, 7, 10, 11, 12, 13, 14], [0, 2, 6, 8, 9, 3, 4, 1, 7, 5, 10, 11, 12, 13, 14], [0, 2, 6, 8, 9, 3, 7, 4, 1, 5, 10, 11, 12, 13, 14]] (by decide +kernel) ⟨?_, ?_, ?_, ?_, ?_, ?_, ?_, ?_, ?_, ?_, ?_, ?_, ?_, ?_, ?_, ?_, ?_, ?_, ?_, ?_, ?_, ?_, ?_, ?_, ?_, ?_, ?_, ?_, ?_, ?_, ?_, ?_, ?_, ?_, ?_, ?_, ?_, ?_, ?_, ?_, ?_, ?_, ?_, ?_, trivial⟩
    all_goals
      iterate 15 (first | refine xO ?_ | refine run_op rfl rfl rfl (by simp [eSlot, eRoot]; exact .mk) ?_ | refine run_op rfl rfl rfl (by simp [rows, e4, e5, e6, e7]; exact .mk) ?_ | refine run_op rfl rfl rfl (by simp [rows, e4, e5, e6, e7, D.noOwn]; exact .mk) ?_ | refine run_op rfl rfl rfl (by simp [splice]; exact .mk) ?_)
      refine xE [1, 2, 3, 12, 13, 14] ?_
      rintro -
      refine W_reg rfl ?_
      iterate 2 refine xO ?_
      refine xE [1, 2, 3, 12, 13, 14] ?_
      first | (refine rounds_kills [1, 2, 3, 12, 13, 14] rfl ?_; refine rounds_swap 4 9 1 (by decide) (by simp) (by decide) rfl rfl ?_; refine rounds_swap 5 11 1 (by decide) (by simp) (by decide) rfl rfl ?_; refine rounds_drop 6 [1, 2, 3, 12, 13, 14] (by decide) (by rfl) (by rfl) ?_; exact rounds_next (m' := s.slots.length - (i+1)) (by omega) ⟨i+1, rfl, by omega, by rw [wrap64 (by omega) (by omega)]; rfl, by rw [ofD_s, ofG_s, hx]; first | (rw [List.map_append, List.map_append]; rfl) | (simp only [List.map_append]; rfl) | (simp [swapB]; try rfl)⟩) | (refine rounds_kills [1, 2, 3, 12, 13, 14] rfl ?_; refine rounds_swap 4 10 1 (by decide) (by simp) (by decide) rfl rfl ?_; refine rounds_swap 5 11 1 (by decide) (by simp) (by decide) rfl rfl ?_; refine rounds_drop 6 [1, 2, 3, 12, 13, 14] (by decide) (by rfl) (by rfl) ?_; exact rounds_next (m' := s.slots.length - (i+1)) (by omega) ⟨i+1, rfl, by omega, by rw [wrap64 (by omega) (by omega)]; rfl, by rw [ofD_s, ofG_s, hx]; first | (rw [List.map_append, List.map_append]; rfl) | (simp only [List.map_append]; rfl) | (simp [swapB]; try rfl)⟩)
  intro h15
  obtain rfl : i = s.slots.length := by simp at h15; omega
  refine W_exit ?_
  refine xT ?_
  refine run_op rfl rfl rfl (by simp [eSlot, eRoot]; exact .mk) ?_
  refine run_op rfl rfl rfl (by simp [splice]; exact .mk) ?_
  refine xE [2] ?_
  rintro -
  refine W_ret ?_
  refine end_ret (by simp [Tryz.f60]; exact .mk) (by simp; exact .mk) ?_ (by simp [oAbs])
  simp [nrmR, nrmRs, nrmK, kindsOf, kinds, Tryz.f60, oAbs, ofS, ownR]

end Go.Proofs

set_option maxHeartbeats 4000000
set_option maxRecDepth 4000
namespace Go.Proofs
open Go.Awp
theorem ct10 (g : Gl) (s : Stt) (n : Int) : CtAt Tryz.prog g 10 [eStt s, vI n] (.v (.bool true)) := by
  refine ctAt_of_W Tryz.func10 rfl rfl (Nat.le_of_ble_eq_true rfl) fun B S => ?_
  simp only [eStt, List.map, argD_agg, argD_v]
  refine xU ?_
  iterate 2 refine xO ?_
  refine xE [1, 2] ?_
  refine xT ?_
  refine run_call0 rfl rfl rfl rfl (by simp; exact .mk) (by simp [row_rows, Function.comp_def]; exact .mk) (ct50 g) (by simp) (by simp [oStt, oAbs]; exact .mk) ?_
  refine xO ?_
  refine xE [1, 2, 5] ?_
  refine xT ?_
  refine run_op rfl rfl rfl (by simp [eSlot]; exact .mk) ?_
  refine run_call0 rfl rfl rfl rfl (by simp; exact .mk) (by simp [row_rows, Function.comp_def]; exact .mk) (ct20 g s) (by simp) (by simp [oStt, oAbs]; exact .mk) ?_
  refine xO ?_
  refine xE [1, 2, 5, 6] ?_
  rintro -
  refine W_seq ?_
  refine xU ?_
  iterate 3 refine xO ?_
  refine run_if rfl (by simp; exact .mk) rfl (by simp <;> first | omega | grind) (fun hb => by simp [eSlot]; exact .mk) ?_
  refine run_call rfl (by simp; exact .mk) rfl rfl (by simp) (by simp; exact .mk) (by simp [row_rows, Function.comp_def]; exact .mk) (fun hb => ct32 g s (fewStt_ok (by first | exact hb | (simp at hb; first | exact hb | exact hb.1)))) (by simp) (by simp [oStt, oAbs]; exact .mk) (by simp) ?_
  refine xI ?_
  refine xP ?_
  refine xB ?_
  iterate 2 refine xI ?_
  refine run_if rfl (by simp; exact .mk) rfl (by simp <;> first | omega | grind) (fun hb => by simp [eSlot]; exact .mk) ?_
  refine xI ?_
  refine xP ?_
  refine xE [1, 2, 5, 26] ?_
  rintro -
  refine W_cond rfl ?_ ?_
  · intro h26
    refine xU ?_
    iterate 2 refine xO ?_
    refine xE [4] ?_
    rintro -
    refine W_ret ?_
    refine xR (by simp [Tryz.f10]; exact .mk) ?_
    first | (simp [nrmR, nrmRs, nrmK, kindsOf, kinds, Tryz.f10]; done) | (rcases h10 with hx | ⟨hx, hx2 | hx2⟩ <;> first | (simp [nrmR, nrmRs, nrmK, kindsOf, kinds, Tryz.f10, hl, hx]; done) | (simp [nrmR, nrmRs, nrmK, kindsOf, kinds, Tryz.f10, hl, hx, hx2]; done))
  intro h26
  have hF : fewStt s = true ∧ sttS s = true := by simp at h26; grind
  have hs := fewStt_ok hF.1
  have hR := hF.2
  have c60s := ct60 g s hs
  obtain ⟨Q, hQ⟩ : ∃ Q, Q = ofS s := ⟨_, rfl⟩
  have c61 := ct61 g Q Q (by rw [hQ]; exact ofS_ok hs)
  rw [sameAbs_refl] at c61
  rw [← hQ] at c60s
  refine W_skip ?_
  refine xT ?_
  refine run_op rfl rfl rfl (by simp [eSlot]; exact .mk) ?_
  refine run_call0 rfl rfl rfl rfl (by simp; exact .mk) (by simp [row_rows, Function.comp_def]; exact .mk) (c60s) (by simp) (by simp [oStt, oAbs]; exact .mk) ?_
  refine xO ?_
  refine run_op rfl rfl rfl (by simp [splice]; exact .mk) ?_
  refine xE [1, 2, 5, 7] ?_
  rintro -
  refine W_seq ?_
  refine xU ?_
  refine xO ?_
  refine xE [1, 2, 5, 7, 8] ?_
  rintro -
  refine W_block ?_
  refine W_rounds (fun m σ o => ∃ (i : Nat) (t : Stt), m = 20 - i ∧ i ≤ 20 ∧ t.Ok ∧ sttS t = true ∧ ofS t = Q ∧ σ = slots [(1, .d (vI n)), (2, .ptr 0 0 0), (5, .d (.v (.bool true))), (7, .ptr 4 0 0), (8, .d (vI i))] ∧ ((t = s ∧ o = [.var 28 [.d (vI s.sh.pages), .d (vI s.sh.slots), .d (vI s.sh.roots), .d (vI s.sh.room), .d (vI s.mode), .d (vI s.base), .d (rSl s.slots), .d (rR s.roots), .d (rBB s.data)], .row 1 (Q.gens.map vI), .row 1 (Q.data.map oB), .row 3 (Q.roots.map eRoot), .var 67 [.hdr 1 0 Q.gens.length, .hdr 2 0 Q.data.length, .hdr 3 0 Q.roots.length]]) ∨ o = [.var 28 [.d (vI t.sh.pages), .d (vI t.sh.slots), .d (vI t.sh.roots), .d (vI t.sh.room), .d (vI t.mode), .d (vI t.base), .hdr 5 0 t.slots.length, .hdr 6 0 t.roots.length, .hdr 7 0 t.data.length], .row 1 (Q.gens.map vI), .row 1 (Q.data.map oB), .row 3 (Q.roots.map eRoot), .var 67 [.hdr 1 0 Q.gens.length, .hdr 2 0 Q.data.length, .hdr 3 0 Q.roots.length], .row 5 (t.slots.map eSlot), .row 3 (t.roots.map eRoot), .row 1 (t.data.map oB)])) 20 .refl ⟨0, s, rfl, by omega, hs, hR, hQ.symm, rfl, .inl ⟨rfl, rfl⟩⟩ ?_
  rintro m σ o ⟨i, t, rfl, hi, hto, htR, hof, rfl, ⟨rfl, rfl⟩ | rfl⟩ _
  · skip
    skip
    refine W_seq ?_
    refine xU ?_
    iterate 4 refine xO ?_
    iterate 2 refine xI ?_
    refine xP ?_
    refine xE [1, 2, 5, 7, 8, 36] ?_
    rintro -
    refine W_cond rfl ?_ ?_
    · intro h36
      have hi2 : i < 20 := by simp at h36; omega
      refine W_skip ?_
      rintro -
      refine W_seq ?_
      refine W_block ?_
      refine W_seq ?_
      have c55 := ct55 g t hto
      obtain ⟨T, hT⟩ : ∃ X, X = (stepS t).1 := ⟨_, rfl⟩
      have hTo : T.Ok := by rw [hT]; exact stepS_Ok hto
      rw [← hT] at c55
      refine W_reg rfl ?_
      refine run_op rfl rfl rfl (by simp [eSlot]; exact .mk) ?_
      refine run_call0 rfl rfl rfl rfl (by simp; exact .mk) (by simp [row_rows, Function.comp_def]; exact .mk) (c55) (by simp) (by simp [oStt, oAbs]; exact .mk) ?_
      iterate 4 refine xO ?_
      refine run_op rfl rfl rfl (by simp [splice]; exact .mk) ?_
      refine xO ?_
      refine xE [1, 2, 5, 7, 8, 9, 10] ?_
      rintro -
      refine W_seq ?_
      refine xU ?_
      iterate 2 refine xO ?_
      refine xE [1, 2, 5, 7, 8, 9, 10, 45] ?_
      rintro -
      refine W_cond rfl ?_ ?_
      · intro h45
        have he : (stepS t).2 ≠ 0 := by simpa using h45
        have hE : (stepS t).1 = zStt ∧ ((stepS t).2 = 10 ∨ ((stepS t).2 = 12 ∧ (t.mode = 1 ∨ t.mode = 2))) := (step_law htR).resolve_left fun q => he q.1
        have hl : T.slots.length = 0 := by rw [hT, hE.1]; rfl
        have h10 := hE.2
        refine xU ?_
        iterate 2 refine xO ?_
        refine xI ?_
        refine run_if rfl (by simp; exact .mk) rfl (by simp <;> first | omega | grind) (fun hb => by simp [eSlot]; exact .mk) ?_
        iterate 2 refine xI ?_
        refine xP ?_
        refine xB ?_
        iterate 7 refine xI ?_
        refine run_if rfl (by simp; exact .mk) rfl (by simp <;> first | omega | grind) (fun hb => by simp [eSlot]; exact .mk) ?_
        iterate 3 refine xI ?_
        refine run_if rfl (by simp; exact .mk) rfl (by simp <;> first | omega | grind) (fun hb => by simp [eSlot]; exact .mk) ?_
        refine xI ?_
        iterate 4 refine xP ?_
        refine xB ?_
        refine xE [4] ?_
        rintro -
        refine W_ret ?_
        refine xR (by simp [Tryz.f10]; exact .mk) ?_
        first | (simp [nrmR, nrmRs, nrmK, kindsOf, kinds, Tryz.f10]; done) | (rcases h10 with hx | ⟨hx, hx2 | hx2⟩ <;> first | (simp [nrmR, nrmRs, nrmK, kindsOf, kinds, Tryz.f10, hl, hx]; done) | (simp [nrmR, nrmRs, nrmK, kindsOf, kinds, Tryz.f10, hl, hx, hx2]; done))
      intro h45
      have he : (stepS t).2 = 0 := by simpa using h45
      obtain ⟨m1, _⟩ := (step_ok he).2
      obtain ⟨_, g1, g2, g3, g4⟩ := (step_law htR).resolve_right fun q => by rcases q.2 with q | q <;> omega
      rw [← hT] at g1 g2 g3 g4
      have hofT : ofS T = Q := by rw [kept_of g2]; exact hof
      have c32T := ct32 g T hTo
      rw [g1] at c32T
      have c60T := ct60 g T hTo
      rw [hofT] at c60T
      have c35T := ct35 g T hTo
      rw [kept_live' g2] at c35T
      have c35t := ct35 g t hto
      refine W_skip ?_
      rintro -
      refine W_seq ?_
      refine W_seq ?_
      rcases (show t.mode = 3 ∨ t.mode = 4 by simpa [movingS] using m1) with hm3 | hm4
      · skip
        have hg : ¬ T.base < t.base := by have := g3 hm3; omega
        refine W_regD (by kernel_rfl) [] 24 [0, 1, 2, 3, 4, 6, 5, 7, 8, 9, 10, 11, 12, 13, 14, 15, 16, 17, 18, 19, 20, 21, 22, 23, 24, 25, 26, 27, 28, 29, 30, 31, 32, 33, 34, 35, 37, 36, 38, 39, 40] (by decide +kernel) ?_
        refine run_op rfl rfl rfl (by simp [eSlot]; exact .mk) ?_
        refine run_call0 rfl rfl rfl rfl (by simp; exact .mk) (by simp [row_rows, Function.comp_def]; exact .mk) (c32T) (by simp) (by simp [oStt, oAbs]; exact .mk) ?_
        iterate 2 refine xO ?_
        iterate 2 (refine run_if rfl (by simp; exact .mk) rfl (by simp <;> first | omega | grind) (fun hb => by simp [eSlot]; exact .mk) ?_)
        refine run_call rfl (by simp; exact .mk) rfl rfl (by simp) (by simp; exact .mk) (by simp [row_rows, Function.comp_def]; exact .mk) (fun hb => c60T) (by simp) (by simp [oStt, oAbs]; exact .mk) (by simp) ?_
        refine run_call rfl (by simp; exact .mk) rfl rfl (by simp) (by simp; exact .mk) (by simp [row_rows, Function.comp_def]; exact .mk) (fun hb => c61) (by simp) (by simp [oStt, oAbs]; exact .mk) (by simp) ?_
        refine xI ?_
        refine xP ?_
        refine xB ?_
        refine xI ?_
        refine run_if rfl (by simp; exact .mk) rfl (by simp <;> first | omega | grind) (fun hb => by simp [eSlot]; exact .mk) ?_
        iterate 2 (refine run_if rfl (by simp; exact .mk) rfl (by simp <;> first | omega | grind) (fun hb => by simp [hm3]; exact .mk) ?_)
        refine xI ?_
        refine run_if rfl (by simp; exact .mk) rfl (by simp <;> first | omega | grind) (fun hb => by simp [eSlot]; exact .mk) ?_
        refine xI ?_
        refine run_if rfl (by simp; exact .mk) rfl (by simp <;> first | omega | grind) (fun hb => by simp [eSlot]; exact .mk) ?_
        refine run_if rfl (by simp; exact .mk) rfl (by simp <;> first | omega | grind) (fun hb => by simp [hg]; exact .mk) ?_
        refine run_pick rfl (by simp; exact .mk) rfl rfl (by simp <;> first | assumption | omega | grind) (by simp [hg]; exact .mk) (by simp [hg]; exact .mk) (by simp; exact .mk) ?_
        refine xP ?_
        refine xB ?_
        refine xI ?_
        refine run_if rfl (by simp; exact .mk) rfl (by simp <;> first | omega | grind) (fun hb => by simp [eSlot]; exact .mk) ?_
        iterate 2 (refine run_if rfl (by simp; exact .mk) rfl (by simp <;> first | omega | grind) (fun hb => by simp [hm3]; exact .mk) ?_)
        refine xI ?_
        refine run_if rfl (by simp; exact .mk) rfl (by simp <;> first | omega | grind) (fun hb => by simp [eSlot]; exact .mk) ?_
        refine xI ?_
        refine run_if rfl (by simp; exact .mk) rfl (by simp <;> first | omega | grind) (fun hb => by simp [eSlot]; exact .mk) ?_
        refine run_if rfl (by simp; exact .mk) rfl (by simp <;> first | omega | grind) (fun hb => by simp [hg]; exact .mk) ?_
        refine run_pick rfl (by simp; exact .mk) rfl rfl (by simp <;> first | assumption | omega | grind) (by simp [hg]; exact .mk) (by simp [hg]; exact .mk) (by simp; exact .mk) ?_
        refine xP ?_
        refine xB ?_
        iterate 2 (refine run_if rfl (by simp; exact .mk) rfl (by simp <;> first | omega | grind) (fun hb => by simp [eSlot]; exact .mk) ?_)
        refine run_call rfl (by simp; exact .mk) rfl rfl (by simp) (by simp; exact .mk) (by simp [row_rows, Function.comp_def]; exact .mk) (fun hb => c35T) (by simp) (by simp [oStt, oAbs]; exact .mk) (by simp) ?_
        refine run_call rfl (by simp; exact .mk) rfl rfl (by simp) (by simp; exact .mk) (by simp [row_rows, Function.comp_def]; exact .mk) (fun hb => c35t) (by simp) (by simp [oStt, oAbs]; exact .mk) (by simp) ?_
        refine xI ?_
        refine xP ?_
        refine xE [1, 2, 5, 7, 8, 9, 111] ?_
        rintro -
        refine W_cond rfl ?_ ?_
        · intro h111
          simp at h111
        intro h111
        refine W_skip ?_
        rintro -
        refine W_reg rfl ?_
        refine run_op rfl rfl rfl (by simp [eSlot]; exact .mk) ?_
        refine run_op rfl rfl rfl (by simp [splice]; exact .mk) ?_
        refine xE [1, 2, 5, 7, 8] ?_
        rintro -
        refine W_reg rfl ?_
        iterate 3 refine xO ?_
        refine xE [1, 2, 5, 7, 8] ?_
        refine rounds_kill [1, 2, 5, 7, 8] ?_
        first
        | (refine rounds_drop 8 [1, 2, 5, 7, 8] (by decide) (by rfl) (by rfl) ?_
           refine rounds_next (m' := 20 - (i+1)) (by omega) ⟨i+1, T, rfl, by omega, hTo, g1, hofT, ?_, .inr rfl⟩
           rw [wrap64 (by omega) (by omega)]; rfl)
        | (refine rounds_kills [1, 2, 5, 7, 8] rfl ?_
           refine rounds_swap 5 8 3 (by decide) (by simp) (by decide) rfl rfl ?_
           refine rounds_drop 8 [1, 2, 5, 7, 8] (by decide) (by rfl) (by rfl) ?_
           refine rounds_next (m' := 20 - (i+1)) (by omega) ⟨i+1, T, rfl, by omega, hTo, g1, hofT, ?_, .inr rfl⟩
           rw [wrap64 (by omega) (by omega)]; rfl)
      skip
      have hg : ¬ t.base < T.base := by have := g4 hm4; omega
      refine W_regD (by kernel_rfl) [] 24 [0, 1, 2, 3, 4, 6, 5, 7, 8, 9, 10, 11, 12, 13, 14, 15, 16, 17, 18, 19, 20, 21, 22, 23, 24, 25, 26, 27, 28, 29, 30, 31, 32, 33, 34, 35, 37, 36, 38, 39, 40] (by decide +kernel) ?_
      refine run_op rfl rfl rfl (by simp [eSlot]; exact .mk) ?_
      refine run_call0 rfl rfl rfl rfl (by simp; exact .mk) (by simp [row_rows, Function.comp_def]; exact .mk) (c32T) (by simp) (by simp [oStt, oAbs]; exact .mk) ?_
      iterate 2 refine xO ?_
      iterate 2 (refine run_if rfl (by simp; exact .mk) rfl (by simp <;> first | omega | grind) (fun hb => by simp [eSlot]; exact .mk) ?_)
      refine run_call rfl (by simp; exact .mk) rfl rfl (by simp) (by simp; exact .mk) (by simp [row_rows, Function.comp_def]; exact .mk) (fun hb => c60T) (by simp) (by simp [oStt, oAbs]; exact .mk) (by simp) ?_
      refine run_call rfl (by simp; exact .mk) rfl rfl (by simp) (by simp; exact .mk) (by simp [row_rows, Function.comp_def]; exact .mk) (fun hb => c61) (by simp) (by simp [oStt, oAbs]; exact .mk) (by simp) ?_
      refine xI ?_
      refine xP ?_
      refine xB ?_
      refine xI ?_
      refine run_if rfl (by simp; exact .mk) rfl (by simp <;> first | omega | grind) (fun hb => by simp [eSlot]; exact .mk) ?_
      iterate 2 (refine run_if rfl (by simp; exact .mk) rfl (by simp <;> first | omega | grind) (fun hb => by simp [hm4]; exact .mk) ?_)
      refine xI ?_
      refine run_if rfl (by simp; exact .mk) rfl (by simp <;> first | omega | grind) (fun hb => by simp [eSlot]; exact .mk) ?_
      refine xI ?_
      refine run_if rfl (by simp; exact .mk) rfl (by simp <;> first | omega | grind) (fun hb => by simp [eSlot]; exact .mk) ?_
      refine run_if rfl (by simp; exact .mk) rfl (by simp <;> first | omega | grind) (fun hb => by simp [hg]; exact .mk) ?_
      refine run_pick rfl (by simp; exact .mk) rfl rfl (by simp <;> first | assumption | omega | grind) (by simp [hg]; exact .mk) (by simp [hg]; exact .mk) (by simp; exact .mk) ?_
      refine xP ?_
      refine xB ?_
      refine xI ?_
      refine run_if rfl (by simp; exact .mk) rfl (by simp <;> first | omega | grind) (fun hb => by simp [eSlot]; exact .mk) ?_
      iterate 2 (refine run_if rfl (by simp; exact .mk) rfl (by simp <;> first | omega | grind) (fun hb => by simp [hm4]; exact .mk) ?_)
      refine xI ?_
      refine run_if rfl (by simp; exact .mk) rfl (by simp <;> first | omega | grind) (fun hb => by simp [eSlot]; exact .mk) ?_
      refine xI ?_
      refine run_if rfl (by simp; exact .mk) rfl (by simp <;> first | omega | grind) (fun hb => by simp [eSlot]; exact .mk) ?_
      refine run_if rfl (by simp; exact .mk) rfl (by simp <;> first | omega | grind) (fun hb => by simp [hg]; exact .mk) ?_
      refine run_pick rfl (by simp; exact .mk) rfl rfl (by simp <;> first | assumption | omega | grind) (by simp [hg]; exact .mk) (by simp [hg]; exact .mk) (by simp; exact .mk) ?_
      refine xP ?_
      refine xB ?_
      iterate 2 (refine run_if rfl (by simp; exact .mk) rfl (by simp <;> first | omega | grind) (fun hb => by simp [eSlot]; exact .mk) ?_)
      refine run_call rfl (by simp; exact .mk) rfl rfl (by simp) (by simp; exact .mk) (by simp [row_rows, Function.comp_def]; exact .mk) (fun hb => c35T) (by simp) (by simp [oStt, oAbs]; exact .mk) (by simp) ?_
      refine run_call rfl (by simp; exact .mk) rfl rfl (by simp) (by simp; exact .mk) (by simp [row_rows, Function.comp_def]; exact .mk) (fun hb => c35t) (by simp) (by simp [oStt, oAbs]; exact .mk) (by simp) ?_
      refine xI ?_
      refine xP ?_
      refine xE [1, 2, 5, 7, 8, 9, 111] ?_
      rintro -
      refine W_cond rfl ?_ ?_
      · intro h111
        simp at h111
      intro h111
      refine W_skip ?_
      rintro -
      refine W_reg rfl ?_
      refine run_op rfl rfl rfl (by simp [eSlot]; exact .mk) ?_
      refine run_op rfl rfl rfl (by simp [splice]; exact .mk) ?_
      refine xE [1, 2, 5, 7, 8] ?_
      rintro -
      refine W_reg rfl ?_
      iterate 3 refine xO ?_
      refine xE [1, 2, 5, 7, 8] ?_
      refine rounds_kill [1, 2, 5, 7, 8] ?_
      first
      | (refine rounds_drop 8 [1, 2, 5, 7, 8] (by decide) (by rfl) (by rfl) ?_
         refine rounds_next (m' := 20 - (i+1)) (by omega) ⟨i+1, T, rfl, by omega, hTo, g1, hofT, ?_, .inr rfl⟩
         rw [wrap64 (by omega) (by omega)]; rfl)
      | (refine rounds_kills [1, 2, 5, 7, 8] rfl ?_
         refine rounds_swap 5 8 3 (by decide) (by simp) (by decide) rfl rfl ?_
         refine rounds_drop 8 [1, 2, 5, 7, 8] (by decide) (by rfl) (by rfl) ?_
         refine rounds_next (m' := 20 - (i+1)) (by omega) ⟨i+1, T, rfl, by omega, hTo, g1, hofT, ?_, .inr rfl⟩
         rw [wrap64 (by omega) (by omega)]; rfl)
    intro h36
    refine W_exit ?_
    refine xT ?_
    iterate 2 refine xO ?_
    refine xE [4] ?_
    rintro -
    refine W_ret ?_
    refine xR (by simp [Tryz.f10]; exact .mk) ?_
    first | (simp [nrmR, nrmRs, nrmK, kindsOf, kinds, Tryz.f10]; done) | (rcases h10 with hx | ⟨hx, hx2 | hx2⟩ <;> first | (simp [nrmR, nrmRs, nrmK, kindsOf, kinds, Tryz.f10, hl, hx]; done) | (simp [nrmR, nrmRs, nrmK, kindsOf, kinds, Tryz.f10, hl, hx, hx2]; done))
  skip
  skip
  refine W_seq ?_
  refine xU ?_
  iterate 4 refine xO ?_
  iterate 2 refine xI ?_
  refine xP ?_
  refine xE [1, 2, 5, 7, 8, 36] ?_
  rintro -
  refine W_cond rfl ?_ ?_
  · intro h36
    have hi2 : i < 20 := by simp at h36; omega
    refine W_skip ?_
    rintro -
    refine W_seq ?_
    refine W_block ?_
    refine W_seq ?_
    have c55 := ct55 g t hto
    obtain ⟨T, hT⟩ : ∃ X, X = (stepS t).1 := ⟨_, rfl⟩
    have hTo : T.Ok := by rw [hT]; exact stepS_Ok hto
    rw [← hT] at c55
    refine W_reg rfl ?_
    refine run_op rfl rfl rfl (by simp [eSlot]; exact .mk) ?_
    refine run_call0 rfl rfl rfl rfl (by simp; exact .mk) (by simp [row_rows, Function.comp_def]; exact .mk) (c55) (by simp) (by simp [oStt, oAbs]; exact .mk) ?_
    iterate 4 refine xO ?_
    refine run_op rfl rfl rfl (by simp [splice]; exact .mk) ?_
    refine xO ?_
    refine xE [1, 2, 5, 7, 8, 9, 10] ?_
    rintro -
    refine W_seq ?_
    refine xU ?_
    iterate 2 refine xO ?_
    refine xE [1, 2, 5, 7, 8, 9, 10, 45] ?_
    rintro -
    refine W_cond rfl ?_ ?_
    · intro h45
      have he : (stepS t).2 ≠ 0 := by simpa using h45
      have hE : (stepS t).1 = zStt ∧ ((stepS t).2 = 10 ∨ ((stepS t).2 = 12 ∧ (t.mode = 1 ∨ t.mode = 2))) := (step_law htR).resolve_left fun q => he q.1
      have hl : T.slots.length = 0 := by rw [hT, hE.1]; rfl
      have h10 := hE.2
      refine xU ?_
      iterate 2 refine xO ?_
      refine xI ?_
      refine run_if rfl (by simp; exact .mk) rfl (by simp <;> first | omega | grind) (fun hb => by simp [eSlot]; exact .mk) ?_
      iterate 2 refine xI ?_
      refine xP ?_
      refine xB ?_
      iterate 7 refine xI ?_
      refine run_if rfl (by simp; exact .mk) rfl (by simp <;> first | omega | grind) (fun hb => by simp [eSlot]; exact .mk) ?_
      iterate 3 refine xI ?_
      refine run_if rfl (by simp; exact .mk) rfl (by simp <;> first | omega | grind) (fun hb => by simp [eSlot]; exact .mk) ?_
      refine xI ?_
      iterate 4 refine xP ?_
      refine xB ?_
      refine xE [4] ?_
      rintro -
      refine W_ret ?_
      refine xR (by simp [Tryz.f10]; exact .mk) ?_
      first | (simp [nrmR, nrmRs, nrmK, kindsOf, kinds, Tryz.f10]; done) | (rcases h10 with hx | ⟨hx, hx2 | hx2⟩ <;> first | (simp [nrmR, nrmRs, nrmK, kindsOf, kinds, Tryz.f10, hl, hx]; done) | (simp [nrmR, nrmRs, nrmK, kindsOf, kinds, Tryz.f10, hl, hx, hx2]; done))
    intro h45
    have he : (stepS t).2 = 0 := by simpa using h45
    obtain ⟨m1, _⟩ := (step_ok he).2
    obtain ⟨_, g1, g2, g3, g4⟩ := (step_law htR).resolve_right fun q => by rcases q.2 with q | q <;> omega
    rw [← hT] at g1 g2 g3 g4
    have hofT : ofS T = Q := by rw [kept_of g2]; exact hof
    have c32T := ct32 g T hTo
    rw [g1] at c32T
    have c60T := ct60 g T hTo
    rw [hofT] at c60T
    have c35T := ct35 g T hTo
    rw [kept_live' g2] at c35T
    have c35t := ct35 g t hto
    refine W_skip ?_
    rintro -
    refine W_seq ?_
    refine W_seq ?_
    rcases (show t.mode = 3 ∨ t.mode = 4 by simpa [movingS] using m1) with hm3 | hm4
    · skip
      have hg : ¬ T.base < t.base := by have := g3 hm3; omega
      refine W_regD (by kernel_rfl) [] 24 [0, 1, 2, 3, 4, 6, 5, 7, 8, 9, 10, 11, 12, 13, 14, 15, 16, 17, 18, 19, 20, 21, 22, 23, 24, 25, 26, 27, 28, 29, 30, 31, 32, 33, 34, 35, 37, 36, 38, 39, 40] (by decide +kernel) ?_
      refine run_op rfl rfl rfl (by simp [eSlot]; exact .mk) ?_
      refine run_call0 rfl rfl rfl rfl (by simp; exact .mk) (by simp [row_rows, Function.comp_def]; exact .mk) (c32T) (by simp) (by simp [oStt, oAbs]; exact .mk) ?_
      iterate 2 refine xO ?_
      iterate 2 (refine run_if rfl (by simp; exact .mk) rfl (by simp <;> first | omega | grind) (fun hb => by simp [eSlot]; exact .mk) ?_)
      refine run_call rfl (by simp; exact .mk) rfl rfl (by simp) (by simp; exact .mk) (by simp [row_rows, Function.comp_def]; exact .mk) (fun hb => c60T) (by simp) (by simp [oStt, oAbs]; exact .mk) (by simp) ?_
      refine run_call rfl (by simp; exact .mk) rfl rfl (by simp) (by simp; exact .mk) (by simp [row_rows, Function.comp_def]; exact .mk) (fun hb => c61) (by simp) (by simp [oStt, oAbs]; exact .mk) (by simp) ?_
      refine xI ?_
      refine xP ?_
      refine xB ?_
      refine xI ?_
      refine run_if rfl (by simp; exact .mk) rfl (by simp <;> first | omega | grind) (fun hb => by simp [eSlot]; exact .mk) ?_
      iterate 2 (refine run_if rfl (by simp; exact .mk) rfl (by simp <;> first | omega | grind) (fun hb => by simp [hm3]; exact .mk) ?_)
      refine xI ?_
      refine run_if rfl (by simp; exact .mk) rfl (by simp <;> first | omega | grind) (fun hb => by simp [eSlot]; exact .mk) ?_
      refine xI ?_
      refine run_if rfl (by simp; exact .mk) rfl (by simp <;> first | omega | grind) (fun hb => by simp [eSlot]; exact .mk) ?_
      refine run_if rfl (by simp; exact .mk) rfl (by simp <;> first | omega | grind) (fun hb => by simp [hg]; exact .mk) ?_
      refine run_pick rfl (by simp; exact .mk) rfl rfl (by simp <;> first | assumption | omega | grind) (by simp [hg]; exact .mk) (by simp [hg]; exact .mk) (by simp; exact .mk) ?_
      refine xP ?_
      refine xB ?_
      refine xI ?_
      refine run_if rfl (by simp; exact .mk) rfl (by simp <;> first | omega | grind) (fun hb => by simp [eSlot]; exact .mk) ?_
      iterate 2 (refine run_if rfl (by simp; exact .mk) rfl (by simp <;> first | omega | grind) (fun hb => by simp [hm3]; exact .mk) ?_)
      refine xI ?_
      refine run_if rfl (by simp; exact .mk) rfl (by simp <;> first | omega | grind) (fun hb => by simp [eSlot]; exact .mk) ?_
      refine xI ?_
      refine run_if rfl (by simp; exact .mk) rfl (by simp <;> first | omega | grind) (fun hb => by simp [eSlot]; exact .mk) ?_
      refine run_if rfl (by simp; exact .mk) rfl (by simp <;> first | omega | grind) (fun hb => by simp [hg]; exact .mk) ?_
      refine run_pick rfl (by simp; exact .mk) rfl rfl (by simp <;> first | assumption | omega | grind) (by simp [hg]; exact .mk) (by simp [hg]; exact .mk) (by simp; exact .mk) ?_
      refine xP ?_
      refine xB ?_
      iterate 2 (refine run_if rfl (by simp; exact .mk) rfl (by simp <;> first | omega | grind) (fun hb => by simp [eSlot]; exact .mk) ?_)
      refine run_call rfl (by simp; exact .mk) rfl rfl (by simp) (by simp; exact .mk) (by simp [row_rows, Function.comp_def]; exact .mk) (fun hb => c35T) (by simp) (by simp [oStt, oAbs]; exact .mk) (by simp) ?_
      refine run_call rfl (by simp; exact .mk) rfl rfl (by simp) (by simp; exact .mk) (by simp [row_rows, Function.comp_def]; exact .mk) (fun hb => c35t) (by simp) (by simp [oStt, oAbs]; exact .mk) (by simp) ?_
      refine xI ?_
      refine xP ?_
      refine xE [1, 2, 5, 7, 8, 9, 111] ?_
      rintro -
      refine W_cond rfl ?_ ?_
      · intro h111
        simp at h111
      intro h111
      refine W_skip ?_
      rintro -
      refine W_reg rfl ?_
      refine run_op rfl rfl rfl (by simp [eSlot]; exact .mk) ?_
      refine run_op rfl rfl rfl (by simp [splice]; exact .mk) ?_
      refine xE [1, 2, 5, 7, 8] ?_
      rintro -
      refine W_reg rfl ?_
      iterate 3 refine xO ?_
      refine xE [1, 2, 5, 7, 8] ?_
      refine rounds_kill [1, 2, 5, 7, 8] ?_
      first
      | (refine rounds_drop 8 [1, 2, 5, 7, 8] (by decide) (by rfl) (by rfl) ?_
         refine rounds_next (m' := 20 - (i+1)) (by omega) ⟨i+1, T, rfl, by omega, hTo, g1, hofT, ?_, .inr rfl⟩
         rw [wrap64 (by omega) (by omega)]; rfl)
      | (refine rounds_kills [1, 2, 5, 7, 8] rfl ?_
         refine rounds_swap 5 8 3 (by decide) (by simp) (by decide) rfl rfl ?_
         refine rounds_drop 8 [1, 2, 5, 7, 8] (by decide) (by rfl) (by rfl) ?_
         refine rounds_next (m' := 20 - (i+1)) (by omega) ⟨i+1, T, rfl, by omega, hTo, g1, hofT, ?_, .inr rfl⟩
         rw [wrap64 (by omega) (by omega)]; rfl)
    skip
    have hg : ¬ t.base < T.base := by have := g4 hm4; omega
    refine W_regD (by kernel_rfl) [] 24 [0, 1, 2, 3, 4, 6, 5, 7, 8, 9, 10, 11, 12, 13, 14, 15, 16, 17, 18, 19, 20, 21, 22, 23, 24, 25, 26, 27, 28, 29, 30, 31, 32, 33, 34, 35, 37, 36, 38, 39, 40] (by decide +kernel) ?_
    refine run_op rfl rfl rfl (by simp [eSlot]; exact .mk) ?_
    refine run_call0 rfl rfl rfl rfl (by simp; exact .mk) (by simp [row_rows, Function.comp_def]; exact .mk) (c32T) (by simp) (by simp [oStt, oAbs]; exact .mk) ?_
    iterate 2 refine xO ?_
    iterate 2 (refine run_if rfl (by simp; exact .mk) rfl (by simp <;> first | omega | grind) (fun hb => by simp [eSlot]; exact .mk) ?_)
    refine run_call rfl (by simp; exact .mk) rfl rfl (by simp) (by simp; exact .mk) (by simp [row_rows, Function.comp_def]; exact .mk) (fun hb => c60T) (by simp) (by simp [oStt, oAbs]; exact .mk) (by simp) ?_
    refine run_call rfl (by simp; exact .mk) rfl rfl (by simp) (by simp; exact .mk) (by simp [row_rows, Function.comp_def]; exact .mk) (fun hb => c61) (by simp) (by simp [oStt, oAbs]; exact .mk) (by simp) ?_
    refine xI ?_
    refine xP ?_
    refine xB ?_
    refine xI ?_
    refine run_if rfl (by simp; exact .mk) rfl (by simp <;> first | omega | grind) (fun hb => by simp [eSlot]; exact .mk) ?_
    iterate 2 (refine run_if rfl (by simp; exact .mk) rfl (by simp <;> first | omega | grind) (fun hb => by simp [hm4]; exact .mk) ?_)
    refine xI ?_
    refine run_if rfl (by simp; exact .mk) rfl (by simp <;> first | omega | grind) (fun hb => by simp [eSlot]; exact .mk) ?_
    refine xI ?_
    refine run_if rfl (by simp; exact .mk) rfl (by simp <;> first | omega | grind) (fun hb => by simp [eSlot]; exact .mk) ?_
    refine run_if rfl (by simp; exact .mk) rfl (by simp <;> first | omega | grind) (fun hb => by simp [hg]; exact .mk) ?_
    refine run_pick rfl (by simp; exact .mk) rfl rfl (by simp <;> first | assumption | omega | grind) (by simp [hg]; exact .mk) (by simp [hg]; exact .mk) (by simp; exact .mk) ?_
    refine xP ?_
    refine xB ?_
    refine xI ?_
    refine run_if rfl (by simp; exact .mk) rfl (by simp <;> first | omega | grind) (fun hb => by simp [eSlot]; exact .mk) ?_
    iterate 2 (refine run_if rfl (by simp; exact .mk) rfl (by simp <;> first | omega | grind) (fun hb => by simp [hm4]; exact .mk) ?_)
    refine xI ?_
    refine run_if rfl (by simp; exact .mk) rfl (by simp <;> first | omega | grind) (fun hb => by simp [eSlot]; exact .mk) ?_
    refine xI ?_
    refine run_if rfl (by simp; exact .mk) rfl (by simp <;> first | omega | grind) (fun hb => by simp [eSlot]; exact .mk) ?_
    refine run_if rfl (by simp; exact .mk) rfl (by simp <;> first | omega | grind) (fun hb => by simp [hg]; exact .mk) ?_
    refine run_pick rfl (by simp; exact .mk) rfl rfl (by simp <;> first | assumption | omega | grind) (by simp [hg]; exact .mk) (by simp [hg]; exact .mk) (by simp; exact .mk) ?_
    refine xP ?_
    refine xB ?_
    iterate 2 (refine run_if rfl (by simp; exact .mk) rfl (by simp <;> first | omega | grind) (fun hb => by simp [eSlot]; exact .mk) ?_)
    refine run_call rfl (by simp; exact .mk) rfl rfl (by simp) (by simp; exact .mk) (by simp [row_rows, Function.comp_def]; exact .mk) (fun hb => c35T) (by simp) (by simp [oStt, oAbs]; exact .mk) (by simp) ?_
    refine run_call rfl (by simp; exact .mk) rfl rfl (by simp) (by simp; exact .mk) (by simp [row_rows, Function.comp_def]; exact .mk) (fun hb => c35t) (by simp) (by simp [oStt, oAbs]; exact .mk) (by simp) ?_
    refine xI ?_
    refine xP ?_
    refine xE [1, 2, 5, 7, 8, 9, 111] ?_
    rintro -
    refine W_cond rfl ?_ ?_
    · intro h111
      simp at h111
    intro h111
    refine W_skip ?_
    rintro -
    refine W_reg rfl ?_
    refine run_op rfl rfl rfl (by simp [eSlot]; exact .mk) ?_
    refine run_op rfl rfl rfl (by simp [splice]; exact .mk) ?_
    refine xE [1, 2, 5, 7, 8] ?_
    rintro -
    refine W_reg rfl ?_
    iterate 3 refine xO ?_
    refine xE [1, 2, 5, 7, 8] ?_
    refine rounds_kill [1, 2, 5, 7, 8] ?_
    first
    | (refine rounds_drop 8 [1, 2, 5, 7, 8] (by decide) (by rfl) (by rfl) ?_
       refine rounds_next (m' := 20 - (i+1)) (by omega) ⟨i+1, T, rfl, by omega, hTo, g1, hofT, ?_, .inr rfl⟩
       rw [wrap64 (by omega) (by omega)]; rfl)
    | (refine rounds_kills [1, 2, 5, 7, 8] rfl ?_
       refine rounds_swap 5 8 3 (by decide) (by simp) (by decide) rfl rfl ?_
       refine rounds_drop 8 [1, 2, 5, 7, 8] (by decide) (by rfl) (by rfl) ?_
       refine rounds_next (m' := 20 - (i+1)) (by omega) ⟨i+1, T, rfl, by omega, hTo, g1, hofT, ?_, .inr rfl⟩
       rw [wrap64 (by omega) (by omega)]; rfl)
  intro h36
  refine W_exit ?_
  refine xT ?_
  iterate 2 refine xO ?_
  refine xE [4] ?_
  rintro -
  refine W_ret ?_
  refine xR (by simp [Tryz.f10]; exact .mk) ?_
  first | (simp [nrmR, nrmRs, nrmK, kindsOf, kinds, Tryz.f10]; done) | (rcases h10 with hx | ⟨hx, hx2 | hx2⟩ <;> first | (simp [nrmR, nrmRs, nrmK, kindsOf, kinds, Tryz.f10, hl, hx]; done) | (simp [nrmR, nrmRs, nrmK, kindsOf, kinds, Tryz.f10, hl, hx, hx2]; done))

end Go.Proofs
