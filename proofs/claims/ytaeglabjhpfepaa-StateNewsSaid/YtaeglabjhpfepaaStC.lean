/- Contracts of state.Right, state.New and of the laws' small case, and plain facts about these; at most 2^40 elements. -/
import Derived.Test.YtaeglabjhpfepaaStA
import Derived.Test.YtaeglabjhpfepaaStB
import Derived.Test.YtaeglabjhpfepaaBase
set_option linter.all false
set_option linter.unusedSimpArgs false
namespace Go.Proofs
open Go.Awp
theorem tableS_slot {l : List Slot} (h : tableS l = true) : ∀ i, i < l.length → slotS1 (nth l i) = true := by
  simp only [tableS, Bool.and_eq_true, List.all_eq_true, List.mem_range] at h
  exact h.1
theorem tableS_len {l : List Slot} (h : tableS l = true) : l.length ≤ 32 := by
  simp only [tableS, Bool.and_eq_true, tnewOk, decide_eq_true_eq] at h
  omega
theorem slotS1_live {s : Slot} (h : slotS1 s = true) (hl : s.live = true) : 0 ≤ s.at_ ∧ s.at_ ≤ 2048 ∧ 1 ≤ s.len ∧ s.len ≤ 2048 := by
  unfold slotS1 at h
  split at h
  · cases h
  · rw [if_neg (by simp [hl])] at h
    simpa using h
theorem twoIx_mem {l : List Slot} {n j : Nat} (h : j ∈ twoIx l n) : j < n ∧ isTwo (nth l j) = true := by
  simp only [twoIx, List.mem_filter, List.mem_range] at h
  exact h
theorem oneIx_mem {l : List Slot} {n j : Nat} (h : j ∈ oneIx l n) : j < n ∧ isOne (nth l j) = true := by
  simp only [oneIx, List.mem_filter, List.mem_range] at h
  exact h
theorem nth_map {α β : Type} [Inhabited α] [Inhabited β] {f : α → β} {l : List α} {i : Nat} (h : i < l.length) : nth (l.map f) i = f (nth l i) := by
  rw [nth_eq (by simpa using h), List.getElem_map, nth_eq h]
theorem nth_mem {α : Type} [Inhabited α] {l : List α} {i : Nat} (h : i < l.length) : nth l i ∈ l := by
  rw [nth_eq h]; exact List.getElem_mem h
theorem twosO_le {l : List Slot} (h : tableS l = true) : ∀ i, i < (twosO l).length → (nth (twosO l) i).1 ≤ 2^40 := by
  intro i hi
  have hi2 : i < (twoIx l l.length).length := by simpa [twosO] using hi
  rw [twosO, nth_map hi2]
  obtain ⟨h1, h2⟩ := twoIx_mem (nth_mem hi2)
  have h3 := slotS1_live (tableS_slot h _ h1) (by simp [isTwo] at h2; exact h2.1)
  simp only [objAt]; omega
theorem twosO_len {l : List Slot} : (twosO l).length ≤ l.length := by simpa [twosO] using twoIx_len
def spanOf (b : Blk) : Int × Int := (b.at_, b.len)
def spansS (l : List Slot) : List (Int × Int) := (onesS l).map spanOf
def modeOk (s : Stt) : Bool := if s.mode = 1 then decide ((twosO s.slots).length = 0) else if s.mode = 2 then decide ((spansS s.slots).length = 0) else true
/-- Which states are right. -/
def sttS (s : Stt) : Bool := superS s.sh s.mode s.base && (rowsS s && ((laidS s.base (twosO s.slots)).isSome && (gapsS (s.base * 32) (s.sh.pages * 32) (spansS s.slots) && modeOk s)))
theorem take_succ {α : Type} [Inhabited α] {l : List α} {i : Nat} (h : i < l.length) : l.take (i + 1) = l.take i ++ [nth l i] := by
  rw [List.take_succ_eq_append_getElem h, nth_eq h]
theorem superS_b {sh : Shape} {mode base : Int} (h : superS sh mode base = true) : 0 ≤ base ∧ base ≤ sh.pages ∧ 1 ≤ sh.pages ∧ sh.pages ≤ 64 := by
  simp only [superS, shapeS, sizedSh, Bool.and_eq_true, decide_eq_true_eq] at h
  omega
theorem rowsS_t {s : Stt} (h : rowsS s = true) : tableS s.slots = true := by
  simp only [rowsS, Bool.and_eq_true] at h; exact h.2.1
end Go.Proofs

set_option linter.unusedSimpArgs false
set_option linter.unusedVariables false
set_option maxHeartbeats 4000000
set_option maxRecDepth 4000
namespace Go.Proofs
open Go.Awp
theorem ct61 (g : Gl) (pages : Int) (l : List (Int × Int)) (hl : l.length ≤ 2^40) (ho : ∀ i, i < l.length → (nth l i).1 ≤ 2^40) : CtAt Try.prog g 61 [vI pages, rO l] (.tup [oI (match laidS pages l with | some y => y.1 | none => []), vT (laidS pages l).isSome]) := by
  refine ctAt_of_W Try.func61 rfl rfl (Nat.le_of_ble_eq_true rfl) fun B S => ?_
  have hc := in97 g pages l hl ho
  refine W_seq ?_
  refine W_reg rfl ?_
  iterate 2 (refine run_op rfl rfl rfl (by simp; exact .mk) ?_)
  refine run_end [0, 1] (by simp) (by simp; exact .mk) ?_
  rintro -
  refine W_seq ?_
  cases hr : laidS pages l
  · skip
    simp only [hr] at hc
    refine W_reg rfl ?_
    iterate 2 (refine run_op rfl rfl rfl (by simp; exact .mk) ?_)
    refine run_inl0 rfl rfl rfl rfl (by simp [calleeA]; exact .mk) ⟨_, Try.func97, rfl, rfl⟩ hc (.inl (by simp)) ?_
    iterate 5 (refine run_op rfl rfl rfl (by simp; exact .mk) ?_)
    refine run_end [6, 7] (by simp) (by simp; exact .mk) ?_
    rintro -
    refine W_seq ?_
    refine W_seq ?_
    refine W_reg rfl ?_
    refine run_op rfl rfl rfl (by simp; exact .mk) ?_
    refine run_op rfl rfl rfl (by simp [unA]; exact .mk) ?_
    refine run_end [6, 15] (by simp) (by simp; exact .mk) ?_
    rintro -
    refine W_cond rfl ?_ ?_
    · intro h15
      refine W_seq ?_
      refine W_reg rfl ?_
      iterate 2 (refine run_op rfl rfl rfl (by simp; exact .mk) ?_)
      refine run_end [4, 5] (by simp) (by simp; exact .mk) ?_
      rintro -
      refine W_ret ?_
      refine end_ret (by simp [Try.f61]; exact .mk) (by simp [cl, cls]; exact .mk) ?_ (by simp [D.noSn])
      simp [nrmR, nrmRs, nrmK, kindsOf, kinds, Try.f61, ownR]; try rfl
    · intro h15
      simp at h15
  · skip
    rename_i y
    simp only [hr] at hc
    have hy : y.1.length = pages.toNat := by
      simp only [laidS] at hr
      split at hr
      · cases hr; exact stI_len.1
      · cases hr
    rw [← hy] at hc
    refine W_reg rfl ?_
    iterate 2 (refine run_op rfl rfl rfl (by simp; exact .mk) ?_)
    refine run_inl0 rfl rfl rfl rfl (by simp [calleeA]; exact .mk) ⟨_, Try.func97, rfl, rfl⟩ hc (.inl (by simp)) ?_
    iterate 5 (refine run_op rfl rfl rfl (by simp; exact .mk) ?_)
    refine run_end [6, 7] (by simp) (by simp; exact .mk) ?_
    rintro -
    refine W_seq ?_
    refine W_seq ?_
    refine W_reg rfl ?_
    refine run_op rfl rfl rfl (by simp; exact .mk) ?_
    refine run_op rfl rfl rfl (by simp [unA]; exact .mk) ?_
    refine run_end [6, 15] (by simp) (by simp; exact .mk) ?_
    rintro -
    refine W_cond rfl ?_ ?_
    · intro h15
      simp at h15
    · intro h15
      refine W_skip ?_
      rintro -
      refine W_seq ?_
      refine W_reg rfl ?_
      iterate 6 (refine run_op rfl rfl rfl (by simp; exact .mk) ?_)
      refine run_end [4, 5] (by simp) (by simp; exact .mk) ?_
      rintro -
      refine W_ret ?_
      refine end_ret (by simp [Try.f61]; exact .mk) (by simp [cl, cls]; exact .mk) ?_ (by simp [D.noSn])
      simp [nrmR, nrmRs, nrmK, kindsOf, kinds, Try.f61, ownR]; try rfl

theorem ct29 (g : Gl) (s : Stt) (hs : s.Ok) : CtAt Try.prog g 29 [eStt s] (.v (.bool (sttS s))) := by
  refine ctAt_of_W Try.func29 rfl rfl (Nat.le_of_ble_eq_true rfl) fun B S => ?_
  simp only [eStt, List.map, argD_agg]
  have q0 := hs.h1
  refine W_seq ?_
  refine W_reg rfl ?_
  refine run_op rfl rfl rfl (by simp [boxA, AV.cells, AV.isCell, boxA, AV.cells, AV.isCell]; exact .mk) ?_
  refine run_op rfl rfl rfl (by simp [boxA, AV.cells, AV.isCell]; exact .mk) ?_
  refine run_end [1] (by simp) (by simp; exact .mk) ?_
  rintro -
  refine W_seq ?_
  refine W_seq ?_
  refine W_reg rfl ?_
  refine run_op rfl rfl rfl (by simp [boxA, AV.cells, AV.isCell]; exact .mk) ?_
  refine run_op rfl rfl rfl (by simp [boxA, AV.cells, AV.isCell, eBlk]; exact .mk) ?_
  refine run_op rfl rfl rfl (by simp [boxA, AV.cells, AV.isCell]; exact .mk) ?_
  refine run_op rfl rfl rfl (by simp [boxA, AV.cells, AV.isCell, eBlk]; exact .mk) ?_
  refine run_op rfl rfl rfl (by simp [boxA, AV.cells, AV.isCell]; exact .mk) ?_
  refine run_op rfl rfl rfl (by simp [boxA, AV.cells, AV.isCell, eBlk]; exact .mk) ?_
  refine run_call0 rfl rfl rfl rfl (by simp [boxA, AV.cells, AV.isCell, calleeA]; exact .mk) (by simp [boxA, AV.cells, AV.isCell, kindsOf, kinds, expAs, expA, show D.roed ∘ eObj = eObj from funext roed_eObj]; exact .mk) (ct59 g s.sh s.mode s.base) (by simp [boxA, AV.cells, AV.isCell, D.noRo]) (by simp [boxA, AV.cells, AV.isCell, impA, impAs]; exact .mk) ?_
  refine run_op rfl rfl rfl (by simp [boxA, AV.cells, AV.isCell, unA]; exact .mk) ?_
  refine run_op rfl rfl rfl (by simp [boxA, AV.cells, AV.isCell]; exact .mk) ?_
  refine run_if rfl (by simp [boxA, AV.cells, AV.isCell]; exact .mk) rfl (by simp <;> first | omega | grind) (fun hb => by simp [boxA, AV.cells, AV.isCell, eBlk]; exact .mk) ?_
  refine run_call rfl (by simp [boxA, AV.cells, AV.isCell]; exact .mk) rfl rfl (by simp) (by simp [boxA, AV.cells, AV.isCell, calleeA]; exact .mk) (by simp [boxA, AV.cells, AV.isCell, kindsOf, kinds, expAs, expA, show D.roed ∘ eObj = eObj from funext roed_eObj]; exact .mk) (fun hb => ct60 g s hs) (by simp [boxA, AV.cells, AV.isCell, D.noRo]) (by simp [boxA, AV.cells, AV.isCell, impA, impAs]; exact .mk) (by simp) ?_
  refine run_if rfl (by simp [boxA, AV.cells, AV.isCell]; exact .mk) rfl (by simp <;> first | omega | grind) (fun hb => by simp [boxA, AV.cells, AV.isCell, unA]; exact .mk) ?_
  refine run_pick rfl (by simp [boxA, AV.cells, AV.isCell]; exact .mk) rfl rfl (by simp) (by simp [boxA, AV.cells, AV.isCell]; exact .mk) (by simp [boxA, AV.cells, AV.isCell]; exact .mk) (by simp; exact .mk) ?_
  refine run_end [1, 22] (by simp <;> first | omega | grind) (by simp; exact .mk) ?_
  rintro -
  refine W_cond rfl ?_ ?_
  · intro h22
    have hr : sttS s = false := by simp [sttS] at *; grind
    refine W_seq ?_
    refine W_reg rfl ?_
    refine run_op rfl rfl rfl (by simp [boxA, AV.cells, AV.isCell]; exact .mk) ?_
    refine run_end [2] (by simp) (by simp; exact .mk) ?_
    rintro -
    refine W_ret ?_
    refine end_ret (by simp [boxA, AV.cells, AV.isCell, Try.f29]; exact .mk) (by simp [boxA, AV.cells, AV.isCell, cl, cls]; exact .mk) ?_ (by simp [boxA, AV.cells, AV.isCell, D.noSn])
    first | (simp [nrmR, nrmRs, nrmK, kindsOf, kinds, Try.f29, hr]; done) | (simp [nrmR, nrmRs, nrmK, kindsOf, kinds, Try.f29, hr0]; done) | (simp [nrmR, nrmRs, nrmK, kindsOf, kinds, Try.f29, hr0]; generalize twosO s.slots = V; cases V <;> simp <;> omega) | (simp [nrmR, nrmRs, nrmK, kindsOf, kinds, Try.f29, hr0]; clear hU hm hm2; cases U <;> simp <;> omega)
  · intro h22
    have hsu : superS s.sh s.mode s.base = true ∧ rowsS s = true := by simp at h22; exact h22
    have hb := superS_b hsu.1
    have hT := rowsS_t hsu.2
    have hl32 := tableS_len hT
    have hol := onesS_len (l := s.slots)
    have hr0 : sttS s = ((laidS s.base (twosO s.slots)).isSome && (gapsS (s.base * 32) (s.sh.pages * 32) (spansS s.slots) && modeOk s)) := by simp [sttS, hsu]
    refine W_skip ?_
    rintro -
    refine W_seq ?_
    refine W_reg rfl ?_
    refine run_op rfl rfl rfl (by simp [boxA, AV.cells, AV.isCell]; exact .mk) ?_
    refine run_end [1, 3] (by simp) (by simp; exact .mk) ?_
    rintro -
    refine W_seq ?_
    refine W_seq ?_
    refine W_reg rfl ?_
    refine run_op rfl rfl rfl (by simp [boxA, AV.cells, AV.isCell, eBlk]; exact .mk) ?_
    refine run_call0 rfl rfl rfl rfl (by simp [boxA, AV.cells, AV.isCell, calleeA]; exact .mk) (by simp [boxA, AV.cells, AV.isCell, kindsOf, kinds, expAs, expA, show D.roed ∘ eObj = eObj from funext roed_eObj]; exact .mk) (ct30 g s hs) (by simp [boxA, AV.cells, AV.isCell, D.noRo]) (by simp [boxA, AV.cells, AV.isCell, impA, impAs]; exact .mk) ?_
    iterate 2 (refine run_op rfl rfl rfl (by simp [boxA, AV.cells, AV.isCell]; exact .mk) ?_)
    refine run_end [1, 3, 24, 25, 26] (by simp) (by simp; exact .mk) ?_
    rintro -
    refine W_block ?_
    refine W_rounds (fun m σ o => ∃ i : Nat, m = (onesS s.slots).length - i ∧ i ≤ (onesS s.slots).length ∧ σ = slots [(1, .ptr 0 0 0), (3, .hdr 2 0 i), (24, .hdr 1 0 (onesS s.slots).length), (25, .d (vI (onesS s.slots).length)), (26, .d (vI i))] ∧ o = [.var 56 [.d (vI s.sh.pages), .d (vI s.sh.slots), .d (vI s.sh.roots), .d (vI s.sh.room), .d (vI s.mode), .d (vI s.base), .d (rSl s.slots), .d (rR s.roots), .d (rBB s.data)], .row 3 ((onesS s.slots).map eBlk), .row 2 (((onesS s.slots).take i).map fun b => eObj (spanOf b))]) (onesS s.slots).length
      (Weak.trans (Weak.nilRow 3 2 rfl) (Weak.kills [1, 3, 24, 25, 26] rfl) (fun _ _ _ h1 h2 => by rw [← h1.len]; exact h2)) ⟨0, by simp, by simp, by simp, by simp⟩ ?_
    rintro m σ o ⟨i, rfl, hi, rfl, rfl⟩ _
    refine W_seq ?_
    refine W_reg rfl ?_
    refine run_op rfl rfl rfl (by simp [boxA, AV.cells, AV.isCell, eqA, eqFs, isStructTy, eqlNeq, strOp, isBoolTy, isPtrTy, isFnTy]; exact .mk) ?_
    refine run_end [1, 3, 24, 25, 26, 27] (by simp) (by simp; exact .mk) ?_
    rintro -
    refine W_seq ?_
    refine W_cond rfl ?_ ?_
    · intro h27
      have hi2 : i < (onesS s.slots).length := by simpa using h27
      have e1 : (i + 1) * 16 ≤ 140737488355328 := by omega
      have e2 : i ≤ 140737488355327 := by omega
      have htk : ((onesS s.slots).take i).length = i := by simp; omega
      refine W_skip ?_
      rintro -
      refine W_seq ?_
      refine W_block ?_
      refine W_seq ?_
      refine W_reg rfl ?_
      refine run_op rfl rfl rfl (by simp [boxA, AV.cells, AV.isCell, eBlk, hi2]; exact .mk) ?_
      refine run_op rfl rfl rfl (by simp [-List.getElem?_map, map_get hi2, eBlk]; exact .mk) ?_
      refine run_op rfl rfl rfl (by simp [boxA, AV.cells, AV.isCell, allocA, Value.oneCell']; exact .mk) ?_
      refine run_op rfl rfl rfl (by simp [boxA, AV.cells, AV.isCell, storeA, AV.cells, AV.isCell, splice]; exact .mk) ?_
      refine run_end [1, 3, 5, 24, 25, 26] (by simp) (by simp; exact .mk) ?_
      rintro -
      refine W_reg rfl ?_
      iterate 2 (refine run_op rfl rfl rfl (by simp [boxA, AV.cells, AV.isCell]; exact .mk) ?_)
      refine run_op rfl rfl rfl (by simp [boxA, AV.cells, AV.isCell, eBlk]; exact .mk) ?_
      refine run_op rfl rfl rfl (by simp [boxA, AV.cells, AV.isCell]; exact .mk) ?_
      refine run_op rfl rfl rfl (by simp [boxA, AV.cells, AV.isCell, eBlk]; exact .mk) ?_
      refine run_op rfl rfl rfl (by simp [boxA, AV.cells, AV.isCell, buildA, fillA, placesOf, splice, Value.oneCell', AV.cells, AV.isCell]; exact .mk) ?_
      refine run_op rfl rfl rfl (by simp [boxA, AV.cells, AV.isCell, buildSliceA, inOrder, cls, cl, elemsD, kinds, nrmKs, Value.oneCell']; exact .mk) ?_
      refine run_op rfl rfl rfl (by simp [boxA, AV.cells, AV.isCell, appendA, srcA, dstA, isNilA, rows, e1, e2, htk, Nat.min_eq_left hi]; exact .mk) ?_
      refine run_op rfl rfl rfl (by simp [boxA, AV.cells, AV.isCell]; exact .mk) ?_
      refine run_end [1, 3, 24, 25, 26] (by simp) (by simp; exact .mk) ?_
      rintro -
      refine W_reg rfl ?_
      refine run_op rfl rfl rfl (by simp [boxA, AV.cells, AV.isCell, eqA, eqFs, isStructTy, eqlNeq, strOp, isBoolTy, isPtrTy, isFnTy]; exact .mk) ?_
      refine run_op rfl rfl rfl (by simp [boxA, AV.cells, AV.isCell]; exact .mk) ?_
      refine run_end [1, 3, 24, 25, 26] (by simp) (by simp; exact .mk) ?_
      refine rounds_kill [1, 3, 24, 25, 26] ?_
      refine rounds_kills [1, 3, 24, 25, 26] rfl ?_
      refine rounds_swap 2 5 1 (by decide) (by simp) (by decide) rfl rfl ?_
      refine rounds_drop 3 [1, 3, 24, 25, 26] (by decide) (by rfl) (by rfl) ?_
      refine rounds_next (m' := (onesS s.slots).length - (i+1)) (by omega) ⟨i+1, rfl, by omega, ?_, ?_⟩
      · rw [wrap64 (by omega) (by omega)]; simp; try rfl
      · rw [take_succ hi2]; simp [eObj, spanOf, eBlk]; try rfl
    · intro h27
      obtain rfl : i = (onesS s.slots).length := by simp at h27; omega
      obtain ⟨U, hU⟩ : ∃ U, U = spansS s.slots := ⟨_, rfl⟩
      have hm : List.take (onesS s.slots).length (List.map (fun b => eObj (spanOf b)) (onesS s.slots)) = U.map eObj := by rw [hU, spansS, ← List.map_take, List.take_length, List.map_map]; rfl
      have hm2 : (onesS s.slots).length = U.length := by rw [hU, spansS, List.length_map]
      rw [hm, hm2]
      have e4 : IntKind.i64.wrap (s.base * 32) = s.base * 32 := wrap64 (by omega) (by omega)
      have e5 : IntKind.i64.wrap (s.sh.pages * 32) = s.sh.pages * 32 := wrap64 (by omega) (by omega)
      have htl := twosO_len (l := s.slots)
      rw [← hU] at hr0
      refine W_exit ?_
      rintro -
      refine W_seq ?_
      refine W_reg rfl ?_
      refine run_op rfl rfl rfl (by simp [boxA, AV.cells, AV.isCell, eBlk]; exact .mk) ?_
      refine run_call0 rfl rfl rfl rfl (by simp [boxA, AV.cells, AV.isCell, calleeA]; exact .mk) (by simp [boxA, AV.cells, AV.isCell, kindsOf, kinds, expAs, expA, show D.roed ∘ eObj = eObj from funext roed_eObj]; exact .mk) (ct31 g s hs) (by simp [boxA, AV.cells, AV.isCell, D.noRo]) (by simp [boxA, AV.cells, AV.isCell, impA, impAs]; exact .mk) ?_
      iterate 5 (refine run_op rfl rfl rfl (by simp [boxA, AV.cells, AV.isCell]; exact .mk) ?_)
      refine run_end [1, 3, 6] (by simp) (by simp; exact .mk) ?_
      rintro -
      refine W_seq ?_
      refine W_reg rfl ?_
      refine run_op rfl rfl rfl (by simp [boxA, AV.cells, AV.isCell]; exact .mk) ?_
      refine run_op rfl rfl rfl (by simp [boxA, AV.cells, AV.isCell, eBlk]; exact .mk) ?_
      refine run_op rfl rfl rfl (by simp [boxA, AV.cells, AV.isCell]; exact .mk) ?_
      refine run_call0 rfl rfl rfl rfl (by simp [boxA, AV.cells, AV.isCell, calleeA]; exact .mk) (by simp [boxA, AV.cells, AV.isCell, kindsOf, kinds, expAs, expA, show D.roed ∘ eObj = eObj from funext roed_eObj]; exact .mk) (ct61 g s.base (twosO s.slots) (by omega) (twosO_le hT)) (by simp [boxA, AV.cells, AV.isCell, D.noRo]) (by simp [boxA, AV.cells, AV.isCell, impA, impAs]; exact .mk) ?_
      iterate 5 (refine run_op rfl rfl rfl (by simp [boxA, AV.cells, AV.isCell]; exact .mk) ?_)
      refine run_end [1, 3, 6, 9] (by simp) (by simp; exact .mk) ?_
      rintro -
      refine W_seq ?_
      refine W_block ?_
      refine W_seq ?_
      refine W_seq ?_
      refine W_reg rfl ?_
      refine run_op rfl rfl rfl (by simp [boxA, AV.cells, AV.isCell]; exact .mk) ?_
      refine run_op rfl rfl rfl (by simp [boxA, AV.cells, AV.isCell, unA]; exact .mk) ?_
      refine run_op rfl rfl rfl (by simp [boxA, AV.cells, AV.isCell]; exact .mk) ?_
      refine run_end [1, 3, 6, 51] (by simp) (by simp; exact .mk) ?_
      rintro -
      refine W_cond rfl ?_ ?_
      · intro h51
        have hr : sttS s = false := by rw [hr0]; first | (simp at h51'; simp [h51']; done) | (simp at h51; simp [h51]; done)
        refine W_skip ?_
        rintro -
        refine W_cond rfl ?_ ?_
        · intro h51'
          have hr : sttS s = false := by rw [hr0]; first | (simp at h51'; simp [h51']; done) | (simp at h51; simp [h51]; done)
          refine W_seq ?_
          refine W_reg rfl ?_
          refine run_op rfl rfl rfl (by simp [boxA, AV.cells, AV.isCell]; exact .mk) ?_
          refine run_end [2] (by simp) (by simp; exact .mk) ?_
          rintro -
          refine W_ret ?_
          refine end_ret (by simp [boxA, AV.cells, AV.isCell, Try.f29]; exact .mk) (by simp [boxA, AV.cells, AV.isCell, cl, cls]; exact .mk) ?_ (by simp [boxA, AV.cells, AV.isCell, D.noSn])
          first | (simp [nrmR, nrmRs, nrmK, kindsOf, kinds, Try.f29, hr]; done) | (simp [nrmR, nrmRs, nrmK, kindsOf, kinds, Try.f29, hr0]; done) | (simp [nrmR, nrmRs, nrmK, kindsOf, kinds, Try.f29, hr0]; generalize twosO s.slots = V; cases V <;> simp <;> omega) | (simp [nrmR, nrmRs, nrmK, kindsOf, kinds, Try.f29, hr0]; clear hU hm hm2; cases U <;> simp <;> omega)
        · intro hq
          cases h51.symm.trans hq
      · intro h51
        refine W_reg rfl ?_
        refine run_op rfl rfl rfl (by simp [boxA, AV.cells, AV.isCell]; exact .mk) ?_
        refine run_op rfl rfl rfl (by simp [boxA, AV.cells, AV.isCell, eBlk]; exact .mk) ?_
        refine run_op rfl rfl rfl (by simp [boxA, AV.cells, AV.isCell, eqA, eqFs, isStructTy, eqlNeq, strOp, isBoolTy, isPtrTy, isFnTy, e4]; exact .mk) ?_
        iterate 2 (refine run_op rfl rfl rfl (by simp [boxA, AV.cells, AV.isCell]; exact .mk) ?_)
        refine run_op rfl rfl rfl (by simp [boxA, AV.cells, AV.isCell, eBlk]; exact .mk) ?_
        refine run_op rfl rfl rfl (by simp [boxA, AV.cells, AV.isCell, eqA, eqFs, isStructTy, eqlNeq, strOp, isBoolTy, isPtrTy, isFnTy, e5]; exact .mk) ?_
        refine run_op rfl rfl rfl (by simp [boxA, AV.cells, AV.isCell]; exact .mk) ?_
        refine run_call0 rfl rfl rfl rfl (by simp [boxA, AV.cells, AV.isCell, calleeA]; exact .mk) (by simp [boxA, AV.cells, AV.isCell, kindsOf, kinds, expAs, expA, show D.roed ∘ eObj = eObj from funext roed_eObj]; exact .mk) (ct62 g (s.base * 32) (s.sh.pages * 32) U (by omega)) (by simp [boxA, AV.cells, AV.isCell, D.noRo]) (by simp [boxA, AV.cells, AV.isCell, impA, impAs]; exact .mk) ?_
        refine run_op rfl rfl rfl (by simp [boxA, AV.cells, AV.isCell, unA]; exact .mk) ?_
        refine run_op rfl rfl rfl (by simp [boxA, AV.cells, AV.isCell]; exact .mk) ?_
        refine run_end [1, 3, 6, 51] (by simp) (by simp; exact .mk) ?_
        rintro -
        refine W_cond rfl ?_ ?_
        · intro h51'
          have hr : sttS s = false := by rw [hr0]; first | (simp at h51'; simp [h51']; done) | (simp at h51; simp [h51]; done)
          refine W_seq ?_
          refine W_reg rfl ?_
          refine run_op rfl rfl rfl (by simp [boxA, AV.cells, AV.isCell]; exact .mk) ?_
          refine run_end [2] (by simp) (by simp; exact .mk) ?_
          rintro -
          refine W_ret ?_
          refine end_ret (by simp [boxA, AV.cells, AV.isCell, Try.f29]; exact .mk) (by simp [boxA, AV.cells, AV.isCell, cl, cls]; exact .mk) ?_ (by simp [boxA, AV.cells, AV.isCell, D.noSn])
          first | (simp [nrmR, nrmRs, nrmK, kindsOf, kinds, Try.f29, hr]; done) | (simp [nrmR, nrmRs, nrmK, kindsOf, kinds, Try.f29, hr0]; done) | (simp [nrmR, nrmRs, nrmK, kindsOf, kinds, Try.f29, hr0]; generalize twosO s.slots = V; cases V <;> simp <;> omega) | (simp [nrmR, nrmRs, nrmK, kindsOf, kinds, Try.f29, hr0]; clear hU hm hm2; cases U <;> simp <;> omega)
        · intro h51'
          have hl : (laidS s.base (twosO s.slots)).isSome = true := by simpa using h51
          have hg : gapsS (s.base * 32) (s.sh.pages * 32) U = true := by simpa using h51'
          rw [hl, hg, Bool.true_and, Bool.true_and, modeOk, ← hU] at hr0
          refine W_seq ?_
          refine W_reg rfl ?_
          refine run_op rfl rfl rfl (by simp [boxA, AV.cells, AV.isCell]; exact .mk) ?_
          refine run_op rfl rfl rfl (by simp [boxA, AV.cells, AV.isCell, eBlk]; exact .mk) ?_
          refine run_op rfl rfl rfl (by simp [boxA, AV.cells, AV.isCell, eqA, eqFs, isStructTy, eqlNeq, strOp, isBoolTy, isPtrTy, isFnTy]; exact .mk) ?_
          refine run_op rfl rfl rfl (by simp [boxA, AV.cells, AV.isCell]; exact .mk) ?_
          refine run_end [1, 3, 6, 64] (by simp) (by simp; exact .mk) ?_
          rintro -
          refine W_cond rfl ?_ ?_
          · intro h64
            rw [if_pos (by simpa using h64)] at hr0
            refine W_seq ?_
            refine W_reg rfl ?_
            iterate 2 (refine run_op rfl rfl rfl (by simp [boxA, AV.cells, AV.isCell]; exact .mk) ?_)
            refine run_op rfl rfl rfl (by simp [boxA, AV.cells, AV.isCell, eqA, eqFs, isStructTy, eqlNeq, strOp, isBoolTy, isPtrTy, isFnTy]; exact .mk) ?_
            refine run_op rfl rfl rfl (by simp [boxA, AV.cells, AV.isCell]; exact .mk) ?_
            refine run_end [2] (by simp) (by simp; exact .mk) ?_
            rintro -
            refine W_ret ?_
            refine end_ret (by simp [boxA, AV.cells, AV.isCell, Try.f29]; exact .mk) (by simp [boxA, AV.cells, AV.isCell, cl, cls]; exact .mk) ?_ (by simp [boxA, AV.cells, AV.isCell, D.noSn])
            first | (simp [nrmR, nrmRs, nrmK, kindsOf, kinds, Try.f29, hr]; done) | (simp [nrmR, nrmRs, nrmK, kindsOf, kinds, Try.f29, hr0]; done) | (simp [nrmR, nrmRs, nrmK, kindsOf, kinds, Try.f29, hr0]; generalize twosO s.slots = V; cases V <;> simp <;> omega) | (simp [nrmR, nrmRs, nrmK, kindsOf, kinds, Try.f29, hr0]; clear hU hm hm2; cases U <;> simp <;> omega)
          · intro h64
            rw [if_neg (by simpa using h64)] at hr0
            refine W_seq ?_
            refine W_reg rfl ?_
            refine run_op rfl rfl rfl (by simp [boxA, AV.cells, AV.isCell]; exact .mk) ?_
            refine run_op rfl rfl rfl (by simp [boxA, AV.cells, AV.isCell, eBlk]; exact .mk) ?_
            refine run_op rfl rfl rfl (by simp [boxA, AV.cells, AV.isCell, eqA, eqFs, isStructTy, eqlNeq, strOp, isBoolTy, isPtrTy, isFnTy]; exact .mk) ?_
            refine run_op rfl rfl rfl (by simp [boxA, AV.cells, AV.isCell]; exact .mk) ?_
            refine run_end [3, 71] (by simp) (by simp; exact .mk) ?_
            rintro -
            refine W_cond rfl ?_ ?_
            · intro h71
              rw [if_pos (by simpa using h71)] at hr0
              refine W_seq ?_
              refine W_reg rfl ?_
              iterate 2 (refine run_op rfl rfl rfl (by simp [boxA, AV.cells, AV.isCell]; exact .mk) ?_)
              refine run_op rfl rfl rfl (by simp [boxA, AV.cells, AV.isCell, eqA, eqFs, isStructTy, eqlNeq, strOp, isBoolTy, isPtrTy, isFnTy]; exact .mk) ?_
              refine run_op rfl rfl rfl (by simp [boxA, AV.cells, AV.isCell]; exact .mk) ?_
              refine run_end [2] (by simp) (by simp; exact .mk) ?_
              rintro -
              refine W_ret ?_
              refine end_ret (by simp [boxA, AV.cells, AV.isCell, Try.f29]; exact .mk) (by simp [boxA, AV.cells, AV.isCell, cl, cls]; exact .mk) ?_ (by simp [boxA, AV.cells, AV.isCell, D.noSn])
              first | (simp [nrmR, nrmRs, nrmK, kindsOf, kinds, Try.f29, hr]; done) | (simp [nrmR, nrmRs, nrmK, kindsOf, kinds, Try.f29, hr0]; done) | (simp [nrmR, nrmRs, nrmK, kindsOf, kinds, Try.f29, hr0]; generalize twosO s.slots = V; cases V <;> simp <;> omega) | (simp [nrmR, nrmRs, nrmK, kindsOf, kinds, Try.f29, hr0]; clear hU hm hm2; cases U <;> simp <;> omega)
            · intro h71
              rw [if_neg (by simpa using h71)] at hr0
              refine W_skip ?_
              rintro -
              refine W_seq ?_
              refine W_reg rfl ?_
              refine run_op rfl rfl rfl (by simp [boxA, AV.cells, AV.isCell]; exact .mk) ?_
              refine run_end [2] (by simp) (by simp; exact .mk) ?_
              rintro -
              refine W_ret ?_
              refine end_ret (by simp [boxA, AV.cells, AV.isCell, Try.f29]; exact .mk) (by simp [boxA, AV.cells, AV.isCell, cl, cls]; exact .mk) ?_ (by simp [boxA, AV.cells, AV.isCell, D.noSn])
              first | (simp [nrmR, nrmRs, nrmK, kindsOf, kinds, Try.f29, hr]; done) | (simp [nrmR, nrmRs, nrmK, kindsOf, kinds, Try.f29, hr0]; done) | (simp [nrmR, nrmRs, nrmK, kindsOf, kinds, Try.f29, hr0]; generalize twosO s.slots = V; cases V <;> simp <;> omega) | (simp [nrmR, nrmRs, nrmK, kindsOf, kinds, Try.f29, hr0]; clear hU hm hm2; cases U <;> simp <;> omega)

end Go.Proofs

set_option linter.unusedSimpArgs false
namespace Go.Proofs
open Go.Awp
def oStt (s : Stt) : D := .agg [vI s.sh.pages, vI s.sh.slots, vI s.sh.roots, vI s.sh.room, vI s.mode, vI s.base, oSl s.slots, oR s.roots, oBB s.data]
@[simp] theorem noSn_oStt (s : Stt) : (oStt s).noSn = true := by simp [oStt]
@[simp] theorem noRo_oStt (s : Stt) : (oStt s).noRo = true := by simp [oStt]
def zStt : Stt := ⟨⟨0, 0, 0, 0⟩, 0, 0, [], [], []⟩
def baseOf (sh : Shape) (mode : Int) : Int := if mode = 2 then sh.pages else 0
def firstStt (sh : Shape) (mode : Int) : Stt := ⟨sh, mode, baseOf sh mode, List.replicate sh.slots.toNat zSlot, List.replicate sh.roots.toNat zRoot, List.replicate sh.slots.toNat []⟩
def newS (sh : Shape) (mode : Int) : Stt × Int := if superS sh mode (baseOf sh mode) && decide (mode ≤ 2) then (firstStt sh mode, 0) else (zStt, 1)
def fewStt (s : Stt) : Bool := (List.range (min s.data.length 100)).all (fun i => decide (((nth s.data i).length : Int) ≤ 4096)) && ((List.range (min s.roots.length 100)).all (fun i => decide (((nth s.roots i).name.size : Int) ≤ 1024))
  && (decide ((s.slots.length : Int) ≤ 60) && (decide ((s.roots.length : Int) ≤ 60) && decide ((s.data.length : Int) ≤ 60))))
theorem fewStt_len {s : Stt} (h : fewStt s = true) : s.slots.length ≤ 60 ∧ s.roots.length ≤ 60 ∧ s.data.length ≤ 60 := by
  simp [fewStt] at h; omega
theorem fewStt_ok {s : Stt} (h : fewStt s = true) : s.Ok := by
  simp [fewStt] at h
  obtain ⟨h1, h2, h3, h4, h5⟩ := h
  refine ⟨by omega, by omega, by omega, fun i hi => ?_, fun i hi => ?_⟩
  · have := h1 i (by omega); omega
  · have := h2 i (by omega); omega
def sh4 : Shape := ⟨4, 4, 2, 30⟩
theorem new4 : newS sh4 2 = (firstStt sh4 2, 0) := by kernel_rfl
theorem new4up : newS sh4 3 = (zStt, 1) := by kernel_rfl
theorem right4 : sttS (firstStt sh4 2) = true := by kernel_rfl
theorem superS_sh {sh : Shape} {mode base : Int} (h : superS sh mode base = true) : (2 ≤ sh.slots ∧ sh.slots ≤ 32 ∧ sh.slots.tmod 2 = 0) ∧ 2 ≤ sh.roots ∧ sh.roots ≤ 8 ∧ sh.roots.tmod 2 = 0 := by
  simp only [superS, shapeS, sizedSh, Bool.and_eq_true, decide_eq_true_eq] at h
  omega
theorem superS_tnew {sh : Shape} {mode base : Int} (h : superS sh mode base = true) : tnewOk sh.slots = true := by
  simp only [tnewOk, decide_eq_true_eq]; exact (superS_sh h).1
theorem superS_rnew {sh : Shape} {mode base : Int} (h : superS sh mode base = true) : newOk sh.roots = true := by
  have := (superS_sh h).2
  simp [newOk]; omega
theorem firstOk {sh : Shape} {mode base : Int} (h : superS sh mode base = true) : (firstStt sh mode).Ok := by
  have := superS_sh h
  refine ⟨by simp [firstStt]; omega, by simp [firstStt]; omega, by simp [firstStt]; omega, fun i hi => ?_, fun i hi => ?_⟩
  · simp only [firstStt, List.length_replicate] at hi ⊢
    rw [nth_eq (by simpa using hi), List.getElem_replicate]; simp
  · simp only [firstStt, List.length_replicate] at hi ⊢
    rw [nth_eq (by simpa using hi), List.getElem_replicate]; simp [zRoot, ByteArray.size]
end Go.Proofs

set_option linter.unusedSimpArgs false
set_option linter.unusedVariables false
set_option maxHeartbeats 4000000
set_option maxRecDepth 4000
namespace Go.Proofs
open Go.Awp
theorem ct35 (g : Gl) (sh : Shape) (mode : Int) : CtAt Try.prog g 35 [eShape sh, vI mode] (.tup [oStt (newS sh mode).1, vI (newS sh mode).2]) := by
  refine ctAt_of_W Try.func35 rfl rfl (Nat.le_of_ble_eq_true rfl) fun B S => ?_
  simp only [eShape, List.map, argD_agg, argD_v]
  refine W_seq ?_
  refine W_reg rfl ?_
  refine run_op rfl rfl rfl (by simp [boxA, AV.cells, AV.isCell, boxA, AV.cells, AV.isCell]; exact .mk) ?_
  refine run_op rfl rfl rfl (by simp [boxA, AV.cells, AV.isCell, allocA, Value.oneCell']; exact .mk) ?_
  refine run_op rfl rfl rfl (by simp [boxA, AV.cells, AV.isCell]; exact .mk) ?_
  refine run_end [1, 2, 4] (by simp) (by simp; exact .mk) ?_
  rintro -
  refine W_seq ?_
  refine W_reg rfl ?_
  refine run_op rfl rfl rfl (by simp [boxA, AV.cells, AV.isCell]; exact .mk) ?_
  refine run_end [1, 2, 4, 6] (by simp) (by simp; exact .mk) ?_
  rintro -
  refine W_seq ?_
  refine W_seq ?_
  refine W_reg rfl ?_
  refine run_op rfl rfl rfl (by simp [boxA, AV.cells, AV.isCell]; exact .mk) ?_
  refine run_op rfl rfl rfl (by simp [boxA, AV.cells, AV.isCell, eqA, eqFs, isStructTy, eqlNeq, strOp, isBoolTy, isPtrTy, isFnTy]; exact .mk) ?_
  refine run_end [1, 2, 4, 6, 12] (by simp) (by simp; exact .mk) ?_
  rintro -
  refine W_cond rfl ?_ ?_
  · intro h12
    have hm : mode = 2 := by simpa using h12
    have hb : baseOf sh mode = sh.pages := by rw [baseOf, if_pos hm]
    refine W_reg rfl ?_
    iterate 3 (refine run_op rfl rfl rfl (by simp [boxA, AV.cells, AV.isCell]; exact .mk) ?_)
    refine run_end [1, 2, 4, 6] (by simp) (by simp; exact .mk) ?_
    rintro -
    refine W_seq ?_
    refine W_seq ?_
    refine W_reg rfl ?_
    iterate 3 (refine run_op rfl rfl rfl (by simp [boxA, AV.cells, AV.isCell]; exact .mk) ?_)
    refine run_call0 rfl rfl rfl rfl (by simp [boxA, AV.cells, AV.isCell, calleeA]; exact .mk) (by simp [boxA, AV.cells, AV.isCell, kindsOf, kinds, expAs, expA]; exact .mk) (by first | exact ct59 g sh mode sh.pages | exact ct59 g sh mode 0) (by simp [boxA, AV.cells, AV.isCell, D.noRo]) (by simp [boxA, AV.cells, AV.isCell, impA, impAs]; exact .mk) ?_
    refine run_op rfl rfl rfl (by simp [boxA, AV.cells, AV.isCell, unA]; exact .mk) ?_
    refine run_op rfl rfl rfl (by simp [boxA, AV.cells, AV.isCell]; exact .mk) ?_
    refine run_if rfl (by simp [boxA, AV.cells, AV.isCell]; exact .mk) rfl (by simp <;> first | omega | grind) (fun hb => by simp [boxA, AV.cells, AV.isCell]; exact .mk) ?_
    refine run_if rfl (by simp [boxA, AV.cells, AV.isCell]; exact .mk) rfl (by simp <;> first | omega | grind) (fun hb => by simp [boxA, AV.cells, AV.isCell, eqA, eqFs, isStructTy, eqlNeq, strOp, isBoolTy, isPtrTy, isFnTy]; exact .mk) ?_
    refine run_pick rfl (by simp [boxA, AV.cells, AV.isCell]; exact .mk) rfl rfl (by simp) (by simp [boxA, AV.cells, AV.isCell]; exact .mk) (by simp [boxA, AV.cells, AV.isCell]; exact .mk) (by simp; exact .mk) ?_
    refine run_end [1, 2, 4, 6, 23] (by simp <;> first | omega | grind) (by simp; exact .mk) ?_
    rintro -
    refine W_cond rfl ?_ ?_
    · intro h23
      have hr : newS sh mode = (zStt, 1) := by unfold newS; rw [hb, if_neg]; simp at h23 ⊢; grind
      refine W_seq ?_
      refine W_reg rfl ?_
      refine run_op rfl rfl rfl (by simp [boxA, AV.cells, AV.isCell, buildA, fillA, placesOf, splice, Value.oneCell', AV.cells, AV.isCell]; exact .mk) ?_
      refine run_op rfl rfl rfl (by simp [boxA, AV.cells, AV.isCell, storeA, AV.cells, AV.isCell, splice]; exact .mk) ?_
      refine run_op rfl rfl rfl (by simp [boxA, AV.cells, AV.isCell]; exact .mk) ?_
      refine run_end [4, 5] (by simp) (by simp; exact .mk) ?_
      rintro -
      refine W_ret ?_
      refine end_ret (by simp [boxA, AV.cells, AV.isCell, Try.f35]; exact .mk) (by simp [boxA, AV.cells, AV.isCell, cl, cls]; exact .mk) ?_ (by simp [boxA, AV.cells, AV.isCell, D.noSn, oStt])
      simp [nrmR, nrmRs, nrmK, kindsOf, kinds, Try.f35, hr, oStt, zStt, firstStt, hb, ownR]
    · intro h23
      have hs : superS sh mode (baseOf sh mode) = true ∧ mode ≤ 2 := by rw [hb]; simp at h23; exact h23
      have hr : newS sh mode = (firstStt sh mode, 0) := by unfold newS; rw [if_pos]; simp [hs]
      have c67 := ct67 g sh.slots
      have c68 := ct68 g sh.roots
      simp only [superS_tnew hs.1, superS_rnew hs.1, if_true] at c67 c68
      have hsh := superS_sh hs.1
      have e0 : 0 ≤ sh.slots := by omega
      have e1 : 24 * sh.slots ≤ 140737488355328 := by omega
      have e2 : sh.slots ≤ 140737488355328 := by omega
      refine W_skip ?_
      rintro -
      refine W_seq ?_
      refine W_reg rfl ?_
      iterate 2 (refine run_op rfl rfl rfl (by simp [boxA, AV.cells, AV.isCell]; exact .mk) ?_)
      refine run_call0 rfl rfl rfl rfl (by simp [boxA, AV.cells, AV.isCell, calleeA]; exact .mk) (by simp [boxA, AV.cells, AV.isCell, kindsOf, kinds, expAs, expA]; exact .mk) (c67) (by simp [boxA, AV.cells, AV.isCell, D.noRo]) (by simp [boxA, AV.cells, AV.isCell, impA, impAs]; exact .mk) ?_
      iterate 5 (refine run_op rfl rfl rfl (by simp [boxA, AV.cells, AV.isCell]; exact .mk) ?_)
      refine run_end [1, 2, 4, 6, 7] (by simp) (by simp; exact .mk) ?_
      rintro -
      refine W_seq ?_
      refine W_reg rfl ?_
      iterate 2 (refine run_op rfl rfl rfl (by simp [boxA, AV.cells, AV.isCell]; exact .mk) ?_)
      refine run_call0 rfl rfl rfl rfl (by simp [boxA, AV.cells, AV.isCell, calleeA]; exact .mk) (by simp [boxA, AV.cells, AV.isCell, kindsOf, kinds, expAs, expA]; exact .mk) (c68) (by simp [boxA, AV.cells, AV.isCell, D.noRo]) (by simp [boxA, AV.cells, AV.isCell, impA, impAs]; exact .mk) ?_
      iterate 5 (refine run_op rfl rfl rfl (by simp [boxA, AV.cells, AV.isCell]; exact .mk) ?_)
      refine run_end [1, 2, 4, 6, 7, 9] (by simp) (by simp; exact .mk) ?_
      rintro -
      refine W_seq ?_
      refine W_regD (by kernel_rfl) [] 4 [0, 1, 2, 3, 4, 5, 6, 7, 8, 9, 10] (by decide +kernel) ?_
      iterate 7 (refine run_op rfl rfl rfl (by simp [boxA, AV.cells, AV.isCell]; exact .mk) ?_)
      refine run_op rfl rfl rfl (by simp [boxA, AV.cells, AV.isCell, makeSliceA, elemD, maxLen, kinds, kDs, kD, Value.oneCell', makeSliceA, elemD, maxLen, kinds, kDs, kD, Value.oneCell', e0, e1, e2]; exact .mk) ?_
      refine run_op rfl rfl rfl (by simp [boxA, AV.cells, AV.isCell, buildA, fillA, placesOf, splice, Value.oneCell', AV.cells, AV.isCell]; exact .mk) ?_
      refine run_op rfl rfl rfl (by simp [boxA, AV.cells, AV.isCell, storeA, AV.cells, AV.isCell, splice]; exact .mk) ?_
      refine run_op rfl rfl rfl (by simp [boxA, AV.cells, AV.isCell]; exact .mk) ?_
      refine run_end [4, 5] (by simp) (by simp; exact .mk) ?_
      rintro -
      refine W_ret ?_
      refine end_ret (by simp [boxA, AV.cells, AV.isCell, Try.f35]; exact .mk) (by simp [boxA, AV.cells, AV.isCell, cl, cls]; exact .mk) ?_ (by simp [boxA, AV.cells, AV.isCell, D.noSn, oStt])
      simp [nrmR, nrmRs, nrmK, kindsOf, kinds, Try.f35, hr, oStt, zStt, firstStt, hb, ownR]
  · intro h12
    have hm : mode ≠ 2 := by simpa using h12
    have hb : baseOf sh mode = 0 := by rw [baseOf, if_neg hm]
    refine W_skip ?_
    rintro -
    refine W_seq ?_
    refine W_seq ?_
    refine W_reg rfl ?_
    iterate 3 (refine run_op rfl rfl rfl (by simp [boxA, AV.cells, AV.isCell]; exact .mk) ?_)
    refine run_call0 rfl rfl rfl rfl (by simp [boxA, AV.cells, AV.isCell, calleeA]; exact .mk) (by simp [boxA, AV.cells, AV.isCell, kindsOf, kinds, expAs, expA]; exact .mk) (by first | exact ct59 g sh mode sh.pages | exact ct59 g sh mode 0) (by simp [boxA, AV.cells, AV.isCell, D.noRo]) (by simp [boxA, AV.cells, AV.isCell, impA, impAs]; exact .mk) ?_
    refine run_op rfl rfl rfl (by simp [boxA, AV.cells, AV.isCell, unA]; exact .mk) ?_
    refine run_op rfl rfl rfl (by simp [boxA, AV.cells, AV.isCell]; exact .mk) ?_
    refine run_if rfl (by simp [boxA, AV.cells, AV.isCell]; exact .mk) rfl (by simp <;> first | omega | grind) (fun hb => by simp [boxA, AV.cells, AV.isCell]; exact .mk) ?_
    refine run_if rfl (by simp [boxA, AV.cells, AV.isCell]; exact .mk) rfl (by simp <;> first | omega | grind) (fun hb => by simp [boxA, AV.cells, AV.isCell, eqA, eqFs, isStructTy, eqlNeq, strOp, isBoolTy, isPtrTy, isFnTy]; exact .mk) ?_
    refine run_pick rfl (by simp [boxA, AV.cells, AV.isCell]; exact .mk) rfl rfl (by simp) (by simp [boxA, AV.cells, AV.isCell]; exact .mk) (by simp [boxA, AV.cells, AV.isCell]; exact .mk) (by simp; exact .mk) ?_
    refine run_end [1, 2, 4, 6, 23] (by simp <;> first | omega | grind) (by simp; exact .mk) ?_
    rintro -
    refine W_cond rfl ?_ ?_
    · intro h23
      have hr : newS sh mode = (zStt, 1) := by unfold newS; rw [hb, if_neg]; simp at h23 ⊢; grind
      refine W_seq ?_
      refine W_reg rfl ?_
      refine run_op rfl rfl rfl (by simp [boxA, AV.cells, AV.isCell, buildA, fillA, placesOf, splice, Value.oneCell', AV.cells, AV.isCell]; exact .mk) ?_
      refine run_op rfl rfl rfl (by simp [boxA, AV.cells, AV.isCell, storeA, AV.cells, AV.isCell, splice]; exact .mk) ?_
      refine run_op rfl rfl rfl (by simp [boxA, AV.cells, AV.isCell]; exact .mk) ?_
      refine run_end [4, 5] (by simp) (by simp; exact .mk) ?_
      rintro -
      refine W_ret ?_
      refine end_ret (by simp [boxA, AV.cells, AV.isCell, Try.f35]; exact .mk) (by simp [boxA, AV.cells, AV.isCell, cl, cls]; exact .mk) ?_ (by simp [boxA, AV.cells, AV.isCell, D.noSn, oStt])
      simp [nrmR, nrmRs, nrmK, kindsOf, kinds, Try.f35, hr, oStt, zStt, firstStt, hb, ownR]
    · intro h23
      have hs : superS sh mode (baseOf sh mode) = true ∧ mode ≤ 2 := by rw [hb]; simp at h23; exact h23
      have hr : newS sh mode = (firstStt sh mode, 0) := by unfold newS; rw [if_pos]; simp [hs]
      have c67 := ct67 g sh.slots
      have c68 := ct68 g sh.roots
      simp only [superS_tnew hs.1, superS_rnew hs.1, if_true] at c67 c68
      have hsh := superS_sh hs.1
      have e0 : 0 ≤ sh.slots := by omega
      have e1 : 24 * sh.slots ≤ 140737488355328 := by omega
      have e2 : sh.slots ≤ 140737488355328 := by omega
      refine W_skip ?_
      rintro -
      refine W_seq ?_
      refine W_reg rfl ?_
      iterate 2 (refine run_op rfl rfl rfl (by simp [boxA, AV.cells, AV.isCell]; exact .mk) ?_)
      refine run_call0 rfl rfl rfl rfl (by simp [boxA, AV.cells, AV.isCell, calleeA]; exact .mk) (by simp [boxA, AV.cells, AV.isCell, kindsOf, kinds, expAs, expA]; exact .mk) (c67) (by simp [boxA, AV.cells, AV.isCell, D.noRo]) (by simp [boxA, AV.cells, AV.isCell, impA, impAs]; exact .mk) ?_
      iterate 5 (refine run_op rfl rfl rfl (by simp [boxA, AV.cells, AV.isCell]; exact .mk) ?_)
      refine run_end [1, 2, 4, 6, 7] (by simp) (by simp; exact .mk) ?_
      rintro -
      refine W_seq ?_
      refine W_reg rfl ?_
      iterate 2 (refine run_op rfl rfl rfl (by simp [boxA, AV.cells, AV.isCell]; exact .mk) ?_)
      refine run_call0 rfl rfl rfl rfl (by simp [boxA, AV.cells, AV.isCell, calleeA]; exact .mk) (by simp [boxA, AV.cells, AV.isCell, kindsOf, kinds, expAs, expA]; exact .mk) (c68) (by simp [boxA, AV.cells, AV.isCell, D.noRo]) (by simp [boxA, AV.cells, AV.isCell, impA, impAs]; exact .mk) ?_
      iterate 5 (refine run_op rfl rfl rfl (by simp [boxA, AV.cells, AV.isCell]; exact .mk) ?_)
      refine run_end [1, 2, 4, 6, 7, 9] (by simp) (by simp; exact .mk) ?_
      rintro -
      refine W_seq ?_
      refine W_regD (by kernel_rfl) [] 4 [0, 1, 2, 3, 4, 5, 6, 7, 8, 9, 10] (by decide +kernel) ?_
      iterate 7 (refine run_op rfl rfl rfl (by simp [boxA, AV.cells, AV.isCell]; exact .mk) ?_)
      refine run_op rfl rfl rfl (by simp [boxA, AV.cells, AV.isCell, makeSliceA, elemD, maxLen, kinds, kDs, kD, Value.oneCell', makeSliceA, elemD, maxLen, kinds, kDs, kD, Value.oneCell', e0, e1, e2]; exact .mk) ?_
      refine run_op rfl rfl rfl (by simp [boxA, AV.cells, AV.isCell, buildA, fillA, placesOf, splice, Value.oneCell', AV.cells, AV.isCell]; exact .mk) ?_
      refine run_op rfl rfl rfl (by simp [boxA, AV.cells, AV.isCell, storeA, AV.cells, AV.isCell, splice]; exact .mk) ?_
      refine run_op rfl rfl rfl (by simp [boxA, AV.cells, AV.isCell]; exact .mk) ?_
      refine run_end [4, 5] (by simp) (by simp; exact .mk) ?_
      rintro -
      refine W_ret ?_
      refine end_ret (by simp [boxA, AV.cells, AV.isCell, Try.f35]; exact .mk) (by simp [boxA, AV.cells, AV.isCell, cl, cls]; exact .mk) ?_ (by simp [boxA, AV.cells, AV.isCell, D.noSn, oStt])
      simp [nrmR, nrmRs, nrmK, kindsOf, kinds, Try.f35, hr, oStt, zStt, firstStt, hb, ownR]

theorem ct28 (g : Gl) (s : Stt) : CtAt Try.prog g 28 [eStt s] (.v (.bool (fewStt s))) := by
  refine ctAt_of_W Try.func28 rfl rfl (Nat.le_of_ble_eq_true rfl) fun B S => ?_
  simp only [eStt, List.map, argD_agg]
  refine W_seq ?_
  refine W_reg rfl ?_
  refine run_op rfl rfl rfl (by simp [boxA, AV.cells, AV.isCell, boxA, AV.cells, AV.isCell]; exact .mk) ?_
  refine run_op rfl rfl rfl (by simp [boxA, AV.cells, AV.isCell]; exact .mk) ?_
  refine run_end [1] (by simp) (by simp; exact .mk) ?_
  rintro -
  refine W_seq ?_
  refine W_seq ?_
  refine W_reg rfl ?_
  refine run_op rfl rfl rfl (by simp [boxA, AV.cells, AV.isCell]; exact .mk) ?_
  refine run_end [1, 3] (by simp) (by simp; exact .mk) ?_
  rintro -
  refine W_block ?_
  refine W_rounds (fun m σ r => ∃ i : Nat, m = 100 - i ∧ i ≤ min s.data.length 100 ∧ (∀ j, j < i → decide (((nth s.data j).length : Int) ≤ 4096) = true) ∧ σ = slots [(1, .ptr 0 0 0), (3, .d (vI i))] ∧ r = [.var 56 [.d (vI s.sh.pages), .d (vI s.sh.slots), .d (vI s.sh.roots), .d (vI s.sh.room), .d (vI s.mode), .d (vI s.base), .d (rSl s.slots), .d (rR s.roots), .d (rBB s.data)]]) 100 .refl ⟨0, by simp, by simp, by simp, rfl, rfl⟩ ?_
  rintro m σ r ⟨i, rfl, hi, hinv, rfl, rfl⟩ _
  refine W_seq ?_
  refine W_seq ?_
  refine W_reg rfl ?_
  iterate 2 (refine run_op rfl rfl rfl (by simp [boxA, AV.cells, AV.isCell]; exact .mk) ?_)
  refine run_op rfl rfl rfl (by simp [boxA, AV.cells, AV.isCell, eRoot]; exact .mk) ?_
  refine run_op rfl rfl rfl (by simp [boxA, AV.cells, AV.isCell]; exact .mk) ?_
  refine run_op rfl rfl rfl (by simp [boxA, AV.cells, AV.isCell, eqA, eqFs, isStructTy, eqlNeq, strOp, isBoolTy, isPtrTy, isFnTy]; exact .mk) ?_
  refine run_op rfl rfl rfl (by simp [boxA, AV.cells, AV.isCell]; exact .mk) ?_
  refine run_if rfl (by simp [boxA, AV.cells, AV.isCell]; exact .mk) rfl (by simp <;> first | omega | grind) (fun hb => by simp [boxA, AV.cells, AV.isCell]; exact .mk) ?_
  refine run_if rfl (by simp [boxA, AV.cells, AV.isCell]; exact .mk) rfl (by simp <;> first | omega | grind) (fun hb => by simp [boxA, AV.cells, AV.isCell, eqA, eqFs, isStructTy, eqlNeq, strOp, isBoolTy, isPtrTy, isFnTy]; exact .mk) ?_
  refine run_pick rfl (by simp [boxA, AV.cells, AV.isCell]; exact .mk) rfl rfl (by simp) (by simp [boxA, AV.cells, AV.isCell]; exact .mk) (by simp [boxA, AV.cells, AV.isCell]; exact .mk) (by simp; exact .mk) ?_
  refine run_end [1, 3, 13] (by simp <;> first | omega | grind) (by simp; exact .mk) ?_
  rintro -
  refine W_cond rfl ?_ ?_
  · intro h13
    have h1 : i < s.data.length ∧ i < 100 := by simp at h13; omega
    have h2 := h1.1
    refine W_skip ?_
    rintro -
    refine W_seq ?_
    refine W_block ?_
    refine W_seq ?_
    refine W_reg rfl ?_
    refine run_op rfl rfl rfl (by simp [boxA, AV.cells, AV.isCell]; exact .mk) ?_
    refine run_op rfl rfl rfl (by simp [boxA, AV.cells, AV.isCell, eRoot]; exact .mk) ?_
    refine run_op rfl rfl rfl (by simp [boxA, AV.cells, AV.isCell]; exact .mk) ?_
    refine run_op rfl rfl rfl (by simp [boxA, AV.cells, AV.isCell, eRoot, h2]; exact .mk) ?_
    refine run_op rfl rfl rfl (by simp [boxA, AV.cells, AV.isCell, eRoot]; exact .mk) ?_
    refine run_op rfl rfl rfl (by simp [boxA, AV.cells, AV.isCell]; exact .mk) ?_
    refine run_op rfl rfl rfl (by simp [boxA, AV.cells, AV.isCell, eqA, eqFs, isStructTy, eqlNeq, strOp, isBoolTy, isPtrTy, isFnTy]; exact .mk) ?_
    refine run_end [1, 3, 22] (by simp) (by simp; exact .mk) ?_
    rintro -
    refine W_cond rfl ?_ ?_
    · intro h22
      have hr : fewStt s = false := by
        have : (List.range (min s.data.length 100)).all (fun i => decide (((nth s.data i).length : Int) ≤ 4096)) = false := all_bad (i := i) (by omega) (by simpa using h22)
        simp [fewStt, this]
      refine W_seq ?_
      refine W_reg rfl ?_
      refine run_op rfl rfl rfl (by simp [boxA, AV.cells, AV.isCell]; exact .mk) ?_
      refine run_end [2] (by simp) (by simp; exact .mk) ?_
      rintro -
      refine W_ret ?_
      refine end_ret (by simp [boxA, AV.cells, AV.isCell, Try.f28]; exact .mk) (by simp [boxA, AV.cells, AV.isCell, cl, cls]; exact .mk) ?_ (by simp [boxA, AV.cells, AV.isCell, D.noSn])
      simp [nrmR, nrmRs, nrmK, kindsOf, kinds, Try.f28, hr] <;> try (simp [Bool.and_assoc])
    · intro h22
      refine W_skip ?_
      rintro -
      refine W_reg rfl ?_
      refine run_op rfl rfl rfl (by simp [boxA, AV.cells, AV.isCell]; exact .mk) ?_
      refine run_op rfl rfl rfl (by simp [boxA, AV.cells, AV.isCell, eqA, eqFs, isStructTy, eqlNeq, strOp, isBoolTy, isPtrTy, isFnTy]; exact .mk) ?_
      refine run_op rfl rfl rfl (by simp [boxA, AV.cells, AV.isCell]; exact .mk) ?_
      refine run_end [1, 3] (by simp) (by simp; exact .mk) ?_
      refine rounds_kill [1, 3] ?_
      refine rounds_next (m' := 100 - (i+1)) (by omega) ⟨i+1, rfl, by omega, ?_, ?_, rfl⟩
      · intro j hj
        rcases Nat.lt_succ_iff_lt_or_eq.1 hj with hj | rfl
        · exact hinv j hj
        · simpa using h22
      · rw [wrap64 (by omega) (by omega)]; rfl
  · intro h13
    have q1 : (List.range (min s.data.length 100)).all (fun i => decide (((nth s.data i).length : Int) ≤ 4096)) = true := all_good (fun j hj => hinv j (by simp at h13; omega))
    refine W_exit ?_
    rintro -
    refine W_seq ?_
    refine W_seq ?_
    refine W_reg rfl ?_
    refine run_op rfl rfl rfl (by simp [boxA, AV.cells, AV.isCell]; exact .mk) ?_
    refine run_end [1, 4] (by simp) (by simp; exact .mk) ?_
    rintro -
    refine W_block ?_
    refine W_rounds (fun m σ r => ∃ i : Nat, m = 100 - i ∧ i ≤ min s.roots.length 100 ∧ (∀ j, j < i → decide (((nth s.roots j).name.size : Int) ≤ 1024) = true) ∧ σ = slots [(1, .ptr 0 0 0), (4, .d (vI i))] ∧ r = [.var 56 [.d (vI s.sh.pages), .d (vI s.sh.slots), .d (vI s.sh.roots), .d (vI s.sh.room), .d (vI s.mode), .d (vI s.base), .d (rSl s.slots), .d (rR s.roots), .d (rBB s.data)]]) 100 .refl ⟨0, by simp, by simp, by simp, rfl, rfl⟩ ?_
    rintro m σ r ⟨i, rfl, hi, hinv, rfl, rfl⟩ _
    refine W_seq ?_
    refine W_seq ?_
    refine W_reg rfl ?_
    iterate 2 (refine run_op rfl rfl rfl (by simp [boxA, AV.cells, AV.isCell]; exact .mk) ?_)
    refine run_op rfl rfl rfl (by simp [boxA, AV.cells, AV.isCell, eRoot]; exact .mk) ?_
    refine run_op rfl rfl rfl (by simp [boxA, AV.cells, AV.isCell]; exact .mk) ?_
    refine run_op rfl rfl rfl (by simp [boxA, AV.cells, AV.isCell, eqA, eqFs, isStructTy, eqlNeq, strOp, isBoolTy, isPtrTy, isFnTy]; exact .mk) ?_
    refine run_op rfl rfl rfl (by simp [boxA, AV.cells, AV.isCell]; exact .mk) ?_
    refine run_if rfl (by simp [boxA, AV.cells, AV.isCell]; exact .mk) rfl (by simp <;> first | omega | grind) (fun hb => by simp [boxA, AV.cells, AV.isCell]; exact .mk) ?_
    refine run_if rfl (by simp [boxA, AV.cells, AV.isCell]; exact .mk) rfl (by simp <;> first | omega | grind) (fun hb => by simp [boxA, AV.cells, AV.isCell, eqA, eqFs, isStructTy, eqlNeq, strOp, isBoolTy, isPtrTy, isFnTy]; exact .mk) ?_
    refine run_pick rfl (by simp [boxA, AV.cells, AV.isCell]; exact .mk) rfl rfl (by simp) (by simp [boxA, AV.cells, AV.isCell]; exact .mk) (by simp [boxA, AV.cells, AV.isCell]; exact .mk) (by simp; exact .mk) ?_
    refine run_end [1, 4, 31] (by simp <;> first | omega | grind) (by simp; exact .mk) ?_
    rintro -
    refine W_cond rfl ?_ ?_
    · intro h31
      have h1 : i < s.roots.length ∧ i < 100 := by simp at h31; omega
      have h2 := h1.1
      refine W_skip ?_
      rintro -
      refine W_seq ?_
      refine W_block ?_
      refine W_seq ?_
      refine W_reg rfl ?_
      refine run_op rfl rfl rfl (by simp [boxA, AV.cells, AV.isCell]; exact .mk) ?_
      refine run_op rfl rfl rfl (by simp [boxA, AV.cells, AV.isCell, eRoot]; exact .mk) ?_
      refine run_op rfl rfl rfl (by simp [boxA, AV.cells, AV.isCell]; exact .mk) ?_
      refine run_op rfl rfl rfl (by simp [boxA, AV.cells, AV.isCell, eRoot, h2]; exact .mk) ?_
      refine run_op rfl rfl rfl (by simp [boxA, AV.cells, AV.isCell]; exact .mk) ?_
      refine run_op rfl rfl rfl (by simp [boxA, AV.cells, AV.isCell, eRoot]; exact .mk) ?_
      refine run_op rfl rfl rfl (by simp [boxA, AV.cells, AV.isCell]; exact .mk) ?_
      refine run_op rfl rfl rfl (by simp [boxA, AV.cells, AV.isCell, eqA, eqFs, isStructTy, eqlNeq, strOp, isBoolTy, isPtrTy, isFnTy]; exact .mk) ?_
      refine run_end [1, 4, 41] (by simp) (by simp; exact .mk) ?_
      rintro -
      refine W_cond rfl ?_ ?_
      · intro h41
        have hr : fewStt s = false := by
          have : (List.range (min s.roots.length 100)).all (fun i => decide (((nth s.roots i).name.size : Int) ≤ 1024)) = false := all_bad (i := i) (by omega) (by simpa using h41)
          simp [fewStt, this]
        refine W_seq ?_
        refine W_reg rfl ?_
        refine run_op rfl rfl rfl (by simp [boxA, AV.cells, AV.isCell]; exact .mk) ?_
        refine run_end [2] (by simp) (by simp; exact .mk) ?_
        rintro -
        refine W_ret ?_
        refine end_ret (by simp [boxA, AV.cells, AV.isCell, Try.f28]; exact .mk) (by simp [boxA, AV.cells, AV.isCell, cl, cls]; exact .mk) ?_ (by simp [boxA, AV.cells, AV.isCell, D.noSn])
        simp [nrmR, nrmRs, nrmK, kindsOf, kinds, Try.f28, hr] <;> try (simp [Bool.and_assoc])
      · intro h41
        refine W_skip ?_
        rintro -
        refine W_reg rfl ?_
        refine run_op rfl rfl rfl (by simp [boxA, AV.cells, AV.isCell]; exact .mk) ?_
        refine run_op rfl rfl rfl (by simp [boxA, AV.cells, AV.isCell, eqA, eqFs, isStructTy, eqlNeq, strOp, isBoolTy, isPtrTy, isFnTy]; exact .mk) ?_
        refine run_op rfl rfl rfl (by simp [boxA, AV.cells, AV.isCell]; exact .mk) ?_
        refine run_end [1, 4] (by simp) (by simp; exact .mk) ?_
        refine rounds_kill [1, 4] ?_
        refine rounds_next (m' := 100 - (i+1)) (by omega) ⟨i+1, rfl, by omega, ?_, ?_, rfl⟩
        · intro j hj
          rcases Nat.lt_succ_iff_lt_or_eq.1 hj with hj | rfl
          · exact hinv j hj
          · simpa using h41
        · rw [wrap64 (by omega) (by omega)]; rfl
    · intro h31
      have q2 : (List.range (min s.roots.length 100)).all (fun i => decide (((nth s.roots i).name.size : Int) ≤ 1024)) = true := all_good (fun j hj => hinv j (by simp at h31; omega))
      have hr : fewStt s = (decide ((s.slots.length : Int) ≤ 60) && (decide ((s.roots.length : Int) ≤ 60) && decide ((s.data.length : Int) ≤ 60))) := by rw [fewStt, q1, q2]; rfl
      refine W_exit ?_
      rintro -
      refine W_seq ?_
      refine W_reg rfl ?_
      refine run_op rfl rfl rfl (by simp [boxA, AV.cells, AV.isCell]; exact .mk) ?_
      refine run_op rfl rfl rfl (by simp [boxA, AV.cells, AV.isCell, eRoot]; exact .mk) ?_
      refine run_op rfl rfl rfl (by simp [boxA, AV.cells, AV.isCell]; exact .mk) ?_
      refine run_op rfl rfl rfl (by simp [boxA, AV.cells, AV.isCell, eqA, eqFs, isStructTy, eqlNeq, strOp, isBoolTy, isPtrTy, isFnTy]; exact .mk) ?_
      refine run_op rfl rfl rfl (by simp [boxA, AV.cells, AV.isCell]; exact .mk) ?_
      refine run_if rfl (by simp [boxA, AV.cells, AV.isCell]; exact .mk) rfl (by simp <;> first | omega | grind) (fun hb => by simp [boxA, AV.cells, AV.isCell]; exact .mk) ?_
      refine run_if rfl (by simp [boxA, AV.cells, AV.isCell]; exact .mk) rfl (by simp <;> first | omega | grind) (fun hb => by simp [boxA, AV.cells, AV.isCell, eRoot]; exact .mk) ?_
      refine run_if rfl (by simp [boxA, AV.cells, AV.isCell]; exact .mk) rfl (by simp <;> first | omega | grind) (fun hb => by simp [boxA, AV.cells, AV.isCell]; exact .mk) ?_
      refine run_if rfl (by simp [boxA, AV.cells, AV.isCell]; exact .mk) rfl (by simp <;> first | omega | grind) (fun hb => by simp [boxA, AV.cells, AV.isCell, eqA, eqFs, isStructTy, eqlNeq, strOp, isBoolTy, isPtrTy, isFnTy]; exact .mk) ?_
      refine run_pick rfl (by simp [boxA, AV.cells, AV.isCell]; exact .mk) rfl rfl (by simp) (by simp [boxA, AV.cells, AV.isCell]; exact .mk) (by simp [boxA, AV.cells, AV.isCell]; exact .mk) (by simp; exact .mk) ?_
      refine run_op1 rfl rfl rfl (by simp <;> first | omega | grind) (by simp [boxA, AV.cells, AV.isCell]; exact .mk) ?_
      refine run_if rfl (by simp [boxA, AV.cells, AV.isCell]; exact .mk) rfl (by simp <;> first | omega | grind) (fun hb => by simp [boxA, AV.cells, AV.isCell]; exact .mk) ?_
      refine run_if rfl (by simp [boxA, AV.cells, AV.isCell]; exact .mk) rfl (by simp <;> first | omega | grind) (fun hb => by simp [boxA, AV.cells, AV.isCell, eRoot]; exact .mk) ?_
      refine run_if rfl (by simp [boxA, AV.cells, AV.isCell]; exact .mk) rfl (by simp <;> first | omega | grind) (fun hb => by simp [boxA, AV.cells, AV.isCell]; exact .mk) ?_
      refine run_if rfl (by simp [boxA, AV.cells, AV.isCell]; exact .mk) rfl (by simp <;> first | omega | grind) (fun hb => by simp [boxA, AV.cells, AV.isCell, eqA, eqFs, isStructTy, eqlNeq, strOp, isBoolTy, isPtrTy, isFnTy]; exact .mk) ?_
      refine run_pick rfl (by simp [boxA, AV.cells, AV.isCell]; exact .mk) rfl rfl (by simp) (by simp [boxA, AV.cells, AV.isCell]; exact .mk) (by simp [boxA, AV.cells, AV.isCell]; exact .mk) (by simp; exact .mk) ?_
      refine run_op1 rfl rfl rfl (by simp <;> first | omega | grind) (by simp [boxA, AV.cells, AV.isCell]; exact .mk) ?_
      refine run_end [2] (by simp <;> first | omega | grind) (by simp; exact .mk) ?_
      rintro -
      refine W_ret ?_
      refine end_ret (by simp [boxA, AV.cells, AV.isCell, Try.f28]; exact .mk) (by simp [boxA, AV.cells, AV.isCell, cl, cls]; exact .mk) ?_ (by simp [boxA, AV.cells, AV.isCell, D.noSn])
      simp [nrmR, nrmRs, nrmK, kindsOf, kinds, Try.f28, hr] <;> try (simp [Bool.and_assoc])

theorem ct34 (g : Gl) (s : Stt) (hs : s.Ok) : CtAt Try.prog g 34 [eStt s] (vI (liveIx s.slots s.slots.length)) := by
  refine ctAt_of_W Try.func34 rfl rfl (Nat.le_of_ble_eq_true rfl) fun B S => ?_
  simp only [eStt, List.map, argD_agg]
  have q0 := hs.h1
  refine W_seq ?_
  refine W_reg rfl ?_
  refine run_op rfl rfl rfl (by simp [boxA, AV.cells, AV.isCell, boxA, AV.cells, AV.isCell]; exact .mk) ?_
  refine run_op rfl rfl rfl (by simp [boxA, AV.cells, AV.isCell]; exact .mk) ?_
  refine run_end [1] (by simp) (by simp; exact .mk) ?_
  rintro -
  refine W_seq ?_
  refine W_reg rfl ?_
  refine run_op rfl rfl rfl (by simp [boxA, AV.cells, AV.isCell]; exact .mk) ?_
  refine run_end [1, 3] (by simp) (by simp; exact .mk) ?_
  rintro -
  refine W_seq ?_
  refine W_seq ?_
  refine W_reg rfl ?_
  refine run_op rfl rfl rfl (by simp [boxA, AV.cells, AV.isCell]; exact .mk) ?_
  refine run_end [1, 3, 4] (by simp) (by simp; exact .mk) ?_
  rintro -
  refine W_block ?_
  refine W_rounds (fun m σ o => ∃ i : Nat, m = s.slots.length - i ∧ i ≤ s.slots.length ∧ σ = slots [(1, .ptr 0 0 0), (3, .d (vI (liveIx s.slots i))), (4, .d (vI i))] ∧ o = [.var 56 [.d (vI s.sh.pages), .d (vI s.sh.slots), .d (vI s.sh.roots), .d (vI s.sh.room), .d (vI s.mode), .d (vI s.base), .d (rSl s.slots), .d (rR s.roots), .d (rBB s.data)]]) s.slots.length .refl ⟨0, by simp, by simp, by simp [liveIx], rfl⟩ ?_
  rintro m σ o ⟨i, rfl, hi, rfl, rfl⟩ _
  have hle := liveIx_le (l := s.slots) (i := i)
  refine W_seq ?_
  refine W_seq ?_
  refine W_reg rfl ?_
  iterate 2 (refine run_op rfl rfl rfl (by simp [boxA, AV.cells, AV.isCell]; exact .mk) ?_)
  refine run_op rfl rfl rfl (by simp [boxA, AV.cells, AV.isCell, eSlot]; exact .mk) ?_
  refine run_op rfl rfl rfl (by simp [boxA, AV.cells, AV.isCell]; exact .mk) ?_
  refine run_op rfl rfl rfl (by simp [boxA, AV.cells, AV.isCell, eqA, eqFs, isStructTy, eqlNeq, strOp, isBoolTy, isPtrTy, isFnTy]; exact .mk) ?_
  refine run_end [1, 3, 4, 9] (by simp) (by simp; exact .mk) ?_
  rintro -
  refine W_cond rfl ?_ ?_
  · intro h9
    have hi2 : i < s.slots.length := by simpa using h9
    have e1 : IntKind.i64.wrap (((liveIx s.slots i : Nat) : Int) + 1) = ((liveIx s.slots i : Nat) : Int) + 1 := wrap64 (by omega) (by omega)
    refine W_skip ?_
    rintro -
    refine W_seq ?_
    refine W_block ?_
    refine W_seq ?_
    refine W_reg rfl ?_
    refine run_op rfl rfl rfl (by simp [boxA, AV.cells, AV.isCell]; exact .mk) ?_
    refine run_op rfl rfl rfl (by simp [boxA, AV.cells, AV.isCell, eSlot]; exact .mk) ?_
    refine run_op rfl rfl rfl (by simp [boxA, AV.cells, AV.isCell]; exact .mk) ?_
    refine run_op rfl rfl rfl (by simp [boxA, AV.cells, AV.isCell, eSlot, hi2]; exact .mk) ?_
    refine run_op rfl rfl rfl (by simp [boxA, AV.cells, AV.isCell]; exact .mk) ?_
    refine run_op rfl rfl rfl (by simp [boxA, AV.cells, AV.isCell, eSlot]; exact .mk) ?_
    refine run_end [1, 3, 4, 17] (by simp) (by simp; exact .mk) ?_
    rintro -
    refine W_cond rfl ?_ ?_
    · intro h17
      refine W_reg rfl ?_
      refine run_op rfl rfl rfl (by simp [boxA, AV.cells, AV.isCell]; exact .mk) ?_
      refine run_op rfl rfl rfl (by simp [boxA, AV.cells, AV.isCell, eqA, eqFs, isStructTy, eqlNeq, strOp, isBoolTy, isPtrTy, isFnTy, e1]; exact .mk) ?_
      refine run_op rfl rfl rfl (by simp [boxA, AV.cells, AV.isCell]; exact .mk) ?_
      refine run_end [1, 3, 4] (by simp) (by simp; exact .mk) ?_
      rintro -
      refine W_reg rfl ?_
      refine run_op rfl rfl rfl (by simp [boxA, AV.cells, AV.isCell]; exact .mk) ?_
      refine run_op rfl rfl rfl (by simp [boxA, AV.cells, AV.isCell, eqA, eqFs, isStructTy, eqlNeq, strOp, isBoolTy, isPtrTy, isFnTy]; exact .mk) ?_
      refine run_op rfl rfl rfl (by simp [boxA, AV.cells, AV.isCell]; exact .mk) ?_
      refine run_end [1, 3, 4] (by simp) (by simp; exact .mk) ?_
      refine rounds_kill [1, 3, 4] ?_
      refine rounds_next (m' := s.slots.length - (i+1)) (by omega) ⟨i+1, rfl, by omega, ?_, rfl⟩
      rw [wrap64 (by omega) (by omega), liveIx_s, h17]; rfl
    · intro h17
      refine W_skip ?_
      rintro -
      refine W_reg rfl ?_
      refine run_op rfl rfl rfl (by simp [boxA, AV.cells, AV.isCell]; exact .mk) ?_
      refine run_op rfl rfl rfl (by simp [boxA, AV.cells, AV.isCell, eqA, eqFs, isStructTy, eqlNeq, strOp, isBoolTy, isPtrTy, isFnTy]; exact .mk) ?_
      refine run_op rfl rfl rfl (by simp [boxA, AV.cells, AV.isCell]; exact .mk) ?_
      refine run_end [1, 3, 4] (by simp) (by simp; exact .mk) ?_
      refine rounds_kill [1, 3, 4] ?_
      refine rounds_next (m' := s.slots.length - (i+1)) (by omega) ⟨i+1, rfl, by omega, ?_, rfl⟩
      rw [wrap64 (by omega) (by omega), liveIx_s, h17]; rfl
  · intro h9
    obtain rfl : i = s.slots.length := by simp at h9; omega
    refine W_exit ?_
    rintro -
    refine W_seq ?_
    refine W_reg rfl ?_
    iterate 2 (refine run_op rfl rfl rfl (by simp [boxA, AV.cells, AV.isCell]; exact .mk) ?_)
    refine run_end [2] (by simp) (by simp; exact .mk) ?_
    rintro -
    refine W_ret ?_
    refine end_ret (by simp [boxA, AV.cells, AV.isCell, Try.f34]; exact .mk) (by simp [boxA, AV.cells, AV.isCell, cl, cls]; exact .mk) ?_ (by simp [boxA, AV.cells, AV.isCell, D.noSn])
    simp [nrmR, nrmRs, nrmK, kindsOf, kinds, Try.f34]

theorem ct27 (g : Gl) : CtAt Try.prog g 27 [] (.v (.bool true)) := by
  refine ctAt_of_W Try.func27 rfl rfl (Nat.le_of_ble_eq_true rfl) fun B S => ?_
  have c1 := ct35 g sh4 2
  have c2 := ct35 g sh4 3
  have c3 := ct29 g (firstStt sh4 2) (firstOk (sh := sh4) (mode := 2) (base := 4) (by kernel_rfl))
  rw [new4] at c1
  rw [new4up] at c2
  rw [right4] at c3
  refine W_seq ?_
  refine W_reg rfl ?_
  refine run_op rfl rfl rfl (by simp [boxA, AV.cells, AV.isCell]; exact .mk) ?_
  refine run_end [] (by simp) (by simp; exact .mk) ?_
  rintro -
  refine W_seq ?_
  refine W_reg rfl ?_
  refine run_op rfl rfl rfl (by simp [boxA, AV.cells, AV.isCell, buildA, fillA, placesOf, splice, Value.oneCell', AV.cells, AV.isCell]; exact .mk) ?_
  refine run_call0 rfl rfl rfl rfl (by simp [boxA, AV.cells, AV.isCell, calleeA]; exact .mk) (by simp [boxA, AV.cells, AV.isCell, kindsOf, kinds, expAs, expA]; exact .mk) (c1) (by simp [boxA, AV.cells, AV.isCell, D.noRo]) (by simp [boxA, AV.cells, AV.isCell, impA, impAs, oStt, zStt, firstStt, sh4, baseOf]; exact .mk) ?_
  iterate 3 (refine run_op rfl rfl rfl (by simp [boxA, AV.cells, AV.isCell]; exact .mk) ?_)
  refine run_op rfl rfl rfl (by simp [boxA, AV.cells, AV.isCell, allocA, Value.oneCell']; exact .mk) ?_
  refine run_op rfl rfl rfl (by simp [boxA, AV.cells, AV.isCell, storeA, AV.cells, AV.isCell, splice]; exact .mk) ?_
  refine run_op rfl rfl rfl (by simp [boxA, AV.cells, AV.isCell]; exact .mk) ?_
  refine run_end [1, 2] (by simp) (by simp; exact .mk) ?_
  rintro -
  refine W_seq ?_
  refine W_reg rfl ?_
  refine run_op rfl rfl rfl (by simp [boxA, AV.cells, AV.isCell, buildA, fillA, placesOf, splice, Value.oneCell', AV.cells, AV.isCell]; exact .mk) ?_
  refine run_call0 rfl rfl rfl rfl (by simp [boxA, AV.cells, AV.isCell, calleeA]; exact .mk) (by simp [boxA, AV.cells, AV.isCell, kindsOf, kinds, expAs, expA]; exact .mk) (c2) (by simp [boxA, AV.cells, AV.isCell, D.noRo]) (by simp [boxA, AV.cells, AV.isCell, impA, impAs, oStt, zStt, firstStt, sh4, baseOf]; exact .mk) ?_
  iterate 3 (refine run_op rfl rfl rfl (by simp [boxA, AV.cells, AV.isCell]; exact .mk) ?_)
  refine run_op rfl rfl rfl (by simp [boxA, AV.cells, AV.isCell, allocA, Value.oneCell']; exact .mk) ?_
  refine run_op rfl rfl rfl (by simp [boxA, AV.cells, AV.isCell, storeA, AV.cells, AV.isCell, splice]; exact .mk) ?_
  refine run_op rfl rfl rfl (by simp [boxA, AV.cells, AV.isCell]; exact .mk) ?_
  refine run_end [1, 2, 4] (by simp) (by simp; exact .mk) ?_
  rintro -
  refine W_seq ?_
  refine W_reg rfl ?_
  refine run_op rfl rfl rfl (by simp [boxA, AV.cells, AV.isCell]; exact .mk) ?_
  refine run_op rfl rfl rfl (by simp [boxA, AV.cells, AV.isCell, eqA, eqFs, isStructTy, eqlNeq, strOp, isBoolTy, isPtrTy, isFnTy]; exact .mk) ?_
  refine run_op rfl rfl rfl (by simp [boxA, AV.cells, AV.isCell]; exact .mk) ?_
  refine run_if rfl (by simp [boxA, AV.cells, AV.isCell]; exact .mk) rfl (by simp <;> first | omega | grind) (fun hb => by simp [boxA, AV.cells, AV.isCell]; exact .mk) ?_
  refine run_if rfl (by simp [boxA, AV.cells, AV.isCell]; exact .mk) rfl (by simp <;> first | omega | grind) (fun hb => by simp [boxA, AV.cells, AV.isCell]; exact .mk) ?_
  refine run_if rfl (by simp [boxA, AV.cells, AV.isCell]; exact .mk) rfl (by simp <;> first | omega | grind) (fun hb => by simp [boxA, AV.cells, AV.isCell, eqA, eqFs, isStructTy, eqlNeq, strOp, isBoolTy, isPtrTy, isFnTy]; exact .mk) ?_
  refine run_pick rfl (by simp [boxA, AV.cells, AV.isCell]; exact .mk) rfl rfl (by simp) (by simp [boxA, AV.cells, AV.isCell]; exact .mk) (by simp [boxA, AV.cells, AV.isCell]; exact .mk) (by simp; exact .mk) ?_
  refine run_op1 rfl rfl rfl (by simp <;> first | omega | grind) (by simp [boxA, AV.cells, AV.isCell]; exact .mk) ?_
  refine run_if rfl (by simp [boxA, AV.cells, AV.isCell]; exact .mk) rfl (by simp <;> first | omega | grind) (fun hb => by simp [boxA, AV.cells, AV.isCell]; exact .mk) ?_
  refine run_if rfl (by simp [boxA, AV.cells, AV.isCell]; exact .mk) rfl (by simp <;> first | omega | grind) (fun hb => by simp [boxA, AV.cells, AV.isCell]; exact .mk) ?_
  refine run_if rfl (by simp [boxA, AV.cells, AV.isCell]; exact .mk) rfl (by simp <;> first | omega | grind) (fun hb => by simp [boxA, AV.cells, AV.isCell]; exact .mk) ?_
  refine run_if rfl (by simp [boxA, AV.cells, AV.isCell]; exact .mk) rfl (by simp <;> first | omega | grind) (fun hb => by simp [boxA, AV.cells, AV.isCell, eqA, eqFs, isStructTy, eqlNeq, strOp, isBoolTy, isPtrTy, isFnTy]; exact .mk) ?_
  refine run_pick rfl (by simp [boxA, AV.cells, AV.isCell]; exact .mk) rfl rfl (by simp) (by simp [boxA, AV.cells, AV.isCell]; exact .mk) (by simp [boxA, AV.cells, AV.isCell]; exact .mk) (by simp; exact .mk) ?_
  refine run_op1 rfl rfl rfl (by simp <;> first | omega | grind) (by simp [boxA, AV.cells, AV.isCell]; exact .mk) ?_
  refine run_if rfl (by simp [boxA, AV.cells, AV.isCell]; exact .mk) rfl (by simp <;> first | omega | grind) (fun hb => by simp [boxA, AV.cells, AV.isCell]; exact .mk) ?_
  refine run_if rfl (by simp [boxA, AV.cells, AV.isCell]; exact .mk) rfl (by simp <;> first | omega | grind) (fun hb => by simp [boxA, AV.cells, AV.isCell]; exact .mk) ?_
  refine run_if rfl (by simp [boxA, AV.cells, AV.isCell]; exact .mk) rfl (by simp <;> first | omega | grind) (fun hb => by simp [boxA, AV.cells, AV.isCell]; exact .mk) ?_
  refine run_if rfl (by simp [boxA, AV.cells, AV.isCell]; exact .mk) rfl (by simp <;> first | omega | grind) (fun hb => by simp [boxA, AV.cells, AV.isCell, eqA, eqFs, isStructTy, eqlNeq, strOp, isBoolTy, isPtrTy, isFnTy]; exact .mk) ?_
  refine run_pick rfl (by simp [boxA, AV.cells, AV.isCell]; exact .mk) rfl rfl (by simp) (by simp [boxA, AV.cells, AV.isCell]; exact .mk) (by simp [boxA, AV.cells, AV.isCell]; exact .mk) (by simp; exact .mk) ?_
  refine run_op1 rfl rfl rfl (by simp <;> first | omega | grind) (by simp [boxA, AV.cells, AV.isCell]; exact .mk) ?_
  refine run_if rfl (by simp [boxA, AV.cells, AV.isCell]; exact .mk) rfl (by simp <;> first | omega | grind) (fun hb => by simp [boxA, AV.cells, AV.isCell]; exact .mk) ?_
  refine run_if rfl (by simp [boxA, AV.cells, AV.isCell]; exact .mk) rfl (by simp <;> first | omega | grind) (fun hb => by simp [boxA, AV.cells, AV.isCell]; exact .mk) ?_
  refine run_if rfl (by simp [boxA, AV.cells, AV.isCell]; exact .mk) rfl (by simp <;> first | omega | grind) (fun hb => by simp [boxA, AV.cells, AV.isCell]; exact .mk) ?_
  refine run_if rfl (by simp [boxA, AV.cells, AV.isCell]; exact .mk) rfl (by simp <;> first | omega | grind) (fun hb => by simp [boxA, AV.cells, AV.isCell, eqA, eqFs, isStructTy, eqlNeq, strOp, isBoolTy, isPtrTy, isFnTy]; exact .mk) ?_
  refine run_pick rfl (by simp [boxA, AV.cells, AV.isCell]; exact .mk) rfl rfl (by simp) (by simp [boxA, AV.cells, AV.isCell]; exact .mk) (by simp [boxA, AV.cells, AV.isCell]; exact .mk) (by simp; exact .mk) ?_
  refine run_op1 rfl rfl rfl (by simp <;> first | omega | grind) (by simp [boxA, AV.cells, AV.isCell]; exact .mk) ?_
  refine run_if rfl (by simp [boxA, AV.cells, AV.isCell]; exact .mk) rfl (by simp <;> first | omega | grind) (fun hb => by simp [boxA, AV.cells, AV.isCell]; exact .mk) ?_
  refine run_if rfl (by simp [boxA, AV.cells, AV.isCell]; exact .mk) rfl (by simp <;> first | omega | grind) (fun hb => by simp [boxA, AV.cells, AV.isCell, eqA, eqFs, isStructTy, eqlNeq, strOp, isBoolTy, isPtrTy, isFnTy]; exact .mk) ?_
  refine run_pick rfl (by simp [boxA, AV.cells, AV.isCell]; exact .mk) rfl rfl (by simp) (by simp [boxA, AV.cells, AV.isCell]; exact .mk) (by simp [boxA, AV.cells, AV.isCell]; exact .mk) (by simp; exact .mk) ?_
  refine run_op1 rfl rfl rfl (by simp <;> first | omega | grind) (by simp [boxA, AV.cells, AV.isCell]; exact .mk) ?_
  refine run_if rfl (by simp [boxA, AV.cells, AV.isCell]; exact .mk) rfl (by simp <;> first | omega | grind) (fun hb => by simp [boxA, AV.cells, AV.isCell]; exact .mk) ?_
  refine run_call rfl (by simp [boxA, AV.cells, AV.isCell]; exact .mk) rfl rfl (by simp) (by simp [boxA, AV.cells, AV.isCell, calleeA]; exact .mk) (by simp [boxA, AV.cells, AV.isCell, kindsOf, kinds, expAs, expA]; exact .mk) (fun hb => c3) (by simp [boxA, AV.cells, AV.isCell, D.noRo]) (by simp [boxA, AV.cells, AV.isCell, impA, impAs, oStt, zStt, firstStt, sh4, baseOf]; exact .mk) (by simp) ?_
  refine run_pick rfl (by simp [boxA, AV.cells, AV.isCell]; exact .mk) rfl rfl (by simp) (by simp [boxA, AV.cells, AV.isCell]; exact .mk) (by simp [boxA, AV.cells, AV.isCell]; exact .mk) (by simp; exact .mk) ?_
  refine run_op1 rfl rfl rfl (by simp <;> first | omega | grind) (by simp [boxA, AV.cells, AV.isCell]; exact .mk) ?_
  refine run_end [0] (by simp <;> first | omega | grind) (by simp; exact .mk) ?_
  rintro -
  refine W_ret ?_
  refine end_ret (by simp [boxA, AV.cells, AV.isCell, Try.f27]; exact .mk) (by simp [boxA, AV.cells, AV.isCell, cl, cls]; exact .mk) ?_ (by simp [boxA, AV.cells, AV.isCell, D.noSn])
  simp [nrmR, nrmRs, nrmK, kindsOf, kinds, Try.f27]

end Go.Proofs

set_option linter.unusedSimpArgs false
namespace Go.Proofs
open Go.Awp
theorem sttS_rows {s : Stt} (h : sttS s = true) : tableS s.slots = true := by
  simp only [sttS, Bool.and_eq_true] at h; exact rowsS_t h.2.1
theorem sttS_gaps {s : Stt} (h : sttS s = true) : gapsS (s.base * 32) (s.sh.pages * 32) (spansS s.slots) = true := by
  simp only [sttS, Bool.and_eq_true] at h; exact h.2.2.2.1
theorem sttS_super {s : Stt} (h : sttS s = true) : superS s.sh s.mode s.base = true := by
  simp only [sttS, Bool.and_eq_true] at h; exact h.1
theorem count_split {l : List Slot} : ∀ {i : Nat}, (oneIx l i).length + (twoIx l i).length = liveIx l i
  | 0 => by simp [oneIx, twoIx, liveIx]
  | i + 1 => by
    have := count_split (l := l) (i := i)
    simp only [oneIx, twoIx, liveIx, List.range_succ, List.filter_append, List.length_append, List.filter_cons, List.filter_nil] at this ⊢
    simp only [isOne, isTwo] at this ⊢
    by_cases h1 : (nth l i).live = true <;> by_cases h2 : (nth l i).two = true <;> simp [h1, h2] <;> omega
theorem live_split {l : List Slot} : (onesS l).length + (twosO l).length = liveIx l l.length := by
  rw [onesS, nodup_of_stS, onesR, List.length_map, twosO, List.length_map, count_split]
theorem onesS_mem {l : List Slot} {b : Blk} (h : b ∈ onesS l) : ∃ k : Nat, k < l.length ∧ isOne (nth l k) = true ∧ b = blkAt l k := by
  have h1 : b ∈ onesR l := (stS_perm (onesR l)).mem_iff.1 h
  simp only [onesR, List.mem_map] at h1
  obtain ⟨k, hk, rfl⟩ := h1
  exact ⟨k, (oneIx_mem hk).1, (oneIx_mem hk).2, rfl⟩
theorem gapsOk_step {to : Int} : ∀ {l : List (Int × Int)} {a : Int} {i : Nat}, gapsOk to a l = true → i + 1 < l.length → (nth l i).1 + (nth l i).2 ≤ (nth l (i + 1)).1
  | [], _, _, _, h => by simp at h
  | p :: l, a, i, h, hi => by
    simp only [gapsOk, Bool.and_eq_true] at h
    cases i with
    | zero =>
      cases l with
      | nil => simp at hi
      | cons q l =>
        have h2 := h.2
        simp only [gapsOk, Bool.and_eq_true, gapBad, Bool.not_eq_true', decide_eq_false_iff_not] at h2
        show p.1 + p.2 ≤ q.1
        omega
    | succ i => exact gapsOk_step (l := l) h.2 (by simpa using hi)
/-- What stands in the row of blocks of a right state. -/
theorem ones_spec {s : Stt} (h : sttS s = true) {i : Nat} (hi : i < (onesS s.slots).length) : ∃ k : Nat, k < s.slots.length ∧ (nth (onesS s.slots) i).slot = k ∧ (nth (onesS s.slots) i).at_ = (nth s.slots k).at_ ∧
    (nth (onesS s.slots) i).len = (needS (nth s.slots k).len).1 ∧ (needS (nth s.slots k).len).2 = 0 ∧ (nth s.slots k).two = false ∧ (nth s.slots k).live = true := by
  obtain ⟨k, h1, h2, h3⟩ := onesS_mem (nth_mem hi)
  have h4 := slotS1_live (tableS_slot (sttS_rows h) k h1) (by simp [isOne] at h2; exact h2.1)
  refine ⟨k, h1, by rw [h3]; rfl, by rw [h3]; rfl, by rw [h3]; rfl, ?_, by simp [isOne] at h2; exact h2.2, by simp [isOne] at h2; exact h2.1⟩
  unfold needS; rw [if_neg (by omega)]
theorem needS_le {n : Int} : 0 ≤ (needS n).1 ∧ (needS n).1 ≤ 4096 := by
  unfold needS
  split
  · omega
  · simp only [upS]
    rename_i h
    have h1 : 0 ≤ (n + 8 - 1).tdiv 8 ∧ (n + 8 - 1).tdiv 8 ≤ 300 := by rw [Int.tdiv_eq_ediv_of_nonneg (by omega)]; omega
    rw [Int.tdiv_eq_ediv_of_nonneg (by omega)]; omega
theorem ones_b {s : Stt} (h : sttS s = true) {i : Nat} (hi : i < (onesS s.slots).length) : 0 ≤ (nth (onesS s.slots) i).at_ ∧ (nth (onesS s.slots) i).at_ ≤ 2048 ∧ 0 ≤ (nth (onesS s.slots) i).len ∧ (nth (onesS s.slots) i).len ≤ 4096 := by
  obtain ⟨k, h1, h2, h3, h4, _, _, h5⟩ := ones_spec h hi
  have h6 := slotS1_live (tableS_slot (sttS_rows h) k h1) h5
  have h7 := needS_le (n := (nth s.slots k).len)
  rw [h3, h4]; omega
theorem ones_step {s : Stt} (h : sttS s = true) {i : Nat} (hi : i < (onesS s.slots).length) (h0 : 0 < i) : (nth (onesS s.slots) (i - 1)).at_ + (nth (onesS s.slots) (i - 1)).len ≤ (nth (onesS s.slots) i).at_ := by
  have hg := sttS_gaps h
  simp only [gapsS, Bool.and_eq_true] at hg
  obtain ⟨j, rfl⟩ : ∃ j, i = j + 1 := ⟨i - 1, by omega⟩
  have := gapsOk_step (i := j) hg.2 (by simpa [spansS] using hi)
  rw [spansS, nth_map (by omega), nth_map (by simpa using hi)] at this
  simpa [spanOf] using this
theorem twoIx_sorted {l : List Slot} {n : Nat} : (twoIx l n).Pairwise (· < ·) := List.pairwise_lt_range.filter _
theorem twosI_len {l : List Slot} : (twosI l).length = (twosO l).length := by simp [twosI, twosO]
theorem twos_spec {s : Stt} {i : Nat} (hi : i < (twosO s.slots).length) : ∃ k : Nat, k < s.slots.length ∧ nth (twosI s.slots) i = k ∧ (nth (twosO s.slots) i).1 = (nth s.slots k).at_ ∧ (nth (twosO s.slots) i).2 = (nth s.slots k).len ∧ (nth s.slots k).two = true := by
  have hi2 : i < (twoIx s.slots s.slots.length).length := by simpa [twosO] using hi
  have h1 := twoIx_mem (nth_mem hi2)
  refine ⟨nth (twoIx s.slots s.slots.length) i, h1.1, by rw [twosI, nth_map hi2], by rw [twosO, nth_map hi2]; rfl, by rw [twosO, nth_map hi2]; rfl, by have := h1.2; simp [isTwo] at this; exact this.2⟩
theorem twos_step {s : Stt} {i : Nat} (hi : i < (twosO s.slots).length) (h0 : 0 < i) : nth (twosI s.slots) (i - 1) < nth (twosI s.slots) i := by
  have hi2 : i < (twoIx s.slots s.slots.length).length := by simpa [twosO] using hi
  rw [twosI, nth_map (by omega), nth_map hi2]
  have := (List.pairwise_iff_getElem.1 (twoIx_sorted (l := s.slots) (n := s.slots.length))) (i - 1) i (by omega) hi2 (by omega)
  rw [nth_eq (by omega), nth_eq hi2]; omega
end Go.Proofs
