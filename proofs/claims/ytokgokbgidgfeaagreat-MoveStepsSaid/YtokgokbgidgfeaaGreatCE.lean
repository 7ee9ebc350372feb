/- Contracts of the program's functions and plain facts, for arguments as each lemma says. -/
import Derived.Test.YtokgokbgidgfeaaGreatCD
import Derived.Test.YtokgokbgidgfeaaGreatAwpD
set_option linter.all false
set_option maxHeartbeats 4000000
namespace Go.Proofs
open Go.Awp
/- The document's answers, in plain Lean: layouts. -/
theorem stI_take {pages : Int} {l : List (Int × Int)} {n : Nat} : ∀ {i : Nat}, i ≤ n → stI pages (l.take n) i = stI pages l i
 | 0, _ => rfl
 | i + 1, h => by simp only [stI]; rw [stI_take (i := i) (by omega), nth_take (by omega)]
theorem okI_take {pages : Int} {l : List (Int × Int)} {n i : Nat} (h : i < n) : okI pages (l.take n) i = okI pages l i := by
 simp only [okI]; rw [stI_take (by omega), nth_take h]
theorem laid_take {pages : Int} {l : List (Int × Int)} {i : Nat} (h0 : 0 ≤ pages ∧ pages ≤ 64) (hi : i ≤ l.length) (h : ∀ j, j < i → okI pages l j = true) : laidS pages (l.take i) = some (stI pages l i) := by
 have hl : (l.take i).length = i := by simp; omega
 unfold laidS
 rw [hl, stI_take (Nat.le_refl _), if_pos]
 simp only [Bool.and_eq_true, decide_eq_true_eq, List.all_eq_true, List.mem_range]
 exact ⟨h0, fun j hj => by rw [okI_take hj]; exact h j hj⟩
theorem mul_words {c w : Int} : (c + 1) * w = c * w + w := by rw [Int.add_mul, Int.one_mul]
theorem cell_bit {pages : Int} {l : List (Int × Int)} {ks ms} (L : LaidP pages l ks ms) (hs : ∀ j, j < l.length → (spotS pages (nth l j)).2 = true) {a : Int} {p c k : Nat} (hk : nth ks p = c) (hc : c < 6) (hp : p < 64) (ha : a = 32 * (p : Int) + 4 + k * nth wordsL c) (hq : 4 + ((k : Int) + 1) * nth wordsL c ≤ 32) :
    (nth ms p).testBit k = true ↔ ∃ j, j < l.length ∧ (nth l j).1 = a := by
 have hw := wordsL_k hc
 obtain ⟨w, hwe⟩ : ∃ w, w = nth wordsL c := ⟨_, rfl⟩
 rw [← hwe] at hw ha hq
 have x0 : 0 ≤ (k : Int) * w := Int.mul_nonneg (by omega) (by omega)
 have x1 := mul_words (c := (k : Int)) (w := w)
 constructor
 · intro h
   obtain ⟨j, hj, j1, j2, j3⟩ := L.bit p k hp h
   obtain ⟨c', hc', e1, e2, _, _⟩ := (spot_words (hs j hj)).sm j1
   have q := (L.sm j hj j1).1
   have e3 : (spotI pages l j).page.toNat = p := by omega
   rw [e3, hk] at q
   have e4 : c' = c := by have : (spotI pages l j).cls = c' := e1; omega
   subst e4
   refine ⟨j, hj, ?_⟩
   rw [e2, ha, hwe]
   rw [show (spotS pages (nth l j)).1.page = (p : Int) from j2, show (spotS pages (nth l j)).1.cell = (k : Int) from j3]
 · rintro ⟨j, hj, he⟩
   have W := spot_words (hs j hj)
   have g := W.good
   cases hsm : (spotS pages (nth l j)).1.small with
   | true =>
    obtain ⟨c', hc', e1, e2, _, e3⟩ := W.sm hsm
    obtain ⟨q1, q2⟩ := L.sm j hj hsm
    obtain ⟨_, _, _, g4, _⟩ := g.s1 hsm
    have hw' := wordsL_k hc'
    have y0 : 0 ≤ (spotS pages (nth l j)).1.cell * nth wordsL c' := Int.mul_nonneg g4 (by omega)
    rw [mul_words] at e3
    have hpg : (spotS pages (nth l j)).1.page = p := by omega
    have hpt : (spotI pages l j).page.toNat = p := by show (spotS pages (nth l j)).1.page.toNat = p; omega
    rw [hpt] at q1 q2
    have e4 : c' = c := by have : (spotI pages l j).cls = c' := e1; omega
    subst e4
    have e5 : (spotS pages (nth l j)).1.cell * w = (k : Int) * w := by rw [← hwe] at e2; omega
    have e6 := Int.eq_of_mul_eq_mul_right (by omega) e5
    have e7 : (spotI pages l j).cell.toNat = k := by show (spotS pages (nth l j)).1.cell.toNat = k; omega
    rwa [e7] at q2
   | false =>
    have e2 := (W.lg hsm).1
    rw [he, ha] at e2
    omega
theorem spot_cell {pages : Int} {o : Int × Int} (h : (spotS pages o).2 = true) (hsm : (spotS pages o).1.small = true) : ∃ p c k : Nat, (spotS pages o).1.page = p ∧ (spotS pages o).1.cls = c ∧ (spotS pages o).1.cell = k ∧ c < 6 ∧ (p : Int) < pages ∧ k < 64 ∧ o.1 = 32 * (p : Int) + 4 + k * nth wordsL c ∧ 4 + ((k : Int) + 1) * nth wordsL c ≤ 32 := by
 have W := spot_words h
 have g := W.good
 obtain ⟨c, hc, e1, e2, _, e3⟩ := W.sm hsm
 obtain ⟨s1, _, _, s4, s5⟩ := g.s1 hsm
 have g0 := g.p0
 have g1 := g.p1
 have e4 : ((spotS pages o).1.page.toNat : Int) = (spotS pages o).1.page := by omega
 have e5 : ((spotS pages o).1.cell.toNat : Int) = (spotS pages o).1.cell := by omega
 refine ⟨(spotS pages o).1.page.toNat, c, (spotS pages o).1.cell.toNat, by omega, e1, by omega, hc, by omega, by omega, by rw [e4, e5]; exact e2, by rw [e5]; exact e3⟩
section
variable {pages : Int} {l : List (Int × Int)} {i : Nat}
theorem okI_eq (hs : (spotS pages (nth l i)).2 = true) : layO pages (stI pages l i) (nth l i) = layS (stI pages l i).1 (stI pages l i).2 (spotI pages l i).page.toNat (spotI pages l i).count.toNat (spotI pages l i).small (spotI pages l i).cls (spotI pages l i).cell.toNat := by
 unfold layO; rw [if_pos hs]
theorem okI_bad (hs : (spotS pages (nth l i)).2 = false) : okI pages l i = false := by
 unfold okI layO; rw [if_neg (by simp [hs])]
theorem ok_spots (h : ∀ j, j < i → okI pages l j = true) : ∀ j, j < i → (spotS pages (nth l j)).2 = true := fun j hj => okI_spot (h j hj)
theorem small_kind (hs : (spotS pages (nth l i)).2 = true) (hsm : (spotI pages l i).small = true) (h1 : nth (stI pages l i).1 (spotI pages l i).page.toNat ≠ -1) (h2 : nth (stI pages l i).1 (spotI pages l i).page.toNat ≠ (spotI pages l i).cls) : okI pages l i = false := by
 unfold okI; rw [okI_eq hs, layS, if_pos hsm, if_neg (by simp [h2]), if_neg h1]
theorem small_had (h0 : 0 ≤ pages ∧ pages ≤ 64) (hi : i < l.length) (h : ∀ j, j < i → okI pages l j = true) (hs : (spotS pages (nth l i)).2 = true) (hsm : (spotI pages l i).small = true) {j : Nat} (hj : j < i) (hat : (nth l j).1 = (nth l i).1) : okI pages l i = false := by
 have hl : (l.take i).length = i := by simp; omega
 have L := laidP (laid_take h0 (by omega) h)
 obtain ⟨p, c, k, e1, e2, e3, hc, hp, hk, ha, hq⟩ := spot_cell hs hsm
 have hsp : ∀ j, j < (l.take i).length → (spotS pages (nth (l.take i) j)).2 = true := fun j hj => by rw [nth_take (by omega)]; exact ok_spots h j (by omega)
 have hw := wordsL_k hc
 have x0 : 0 ≤ (k : Int) * nth wordsL c := Int.mul_nonneg (by omega) (by omega)
 rw [mul_words] at hq
 have hpt : (spotI pages l i).page.toNat = p := by show (spotS pages (nth l i)).1.page.toNat = p; omega
 have hkt : (spotI pages l i).cell.toNat = k := by show (spotS pages (nth l i)).1.cell.toNat = k; omega
 have W := spot_words (hsp j (by omega))
 have g := W.good
 rw [nth_take hj] at W g
 -- the other one is small, and stands on this page
 have hjs : (spotS pages (nth l j)).1.small = true := by
  cases hz : (spotS pages (nth l j)).1.small with
  | true => rfl
  | false => have := (W.lg hz).1; rw [hat, ha] at this; omega
 obtain ⟨c', hc', f1, f2, _, f3⟩ := W.sm hjs
 obtain ⟨_, _, _, g4, _⟩ := g.s1 hjs
 have hw' := wordsL_k hc'
 have y0 : 0 ≤ (spotS pages (nth l j)).1.cell * nth wordsL c' := Int.mul_nonneg g4 (by omega)
 rw [mul_words] at f3
 have hpg : (spotS pages (nth l j)).1.page = p := by omega
 obtain ⟨q1, q2⟩ := L.sm j (by omega) (by show (spotS pages (nth (l.take i) j)).1.small = true; rw [nth_take hj]; exact hjs)
 have t1 : (spotI pages (l.take i) j).page.toNat = p := by show (spotS pages (nth (l.take i) j)).1.page.toNat = p; rw [nth_take hj]; omega
 rw [t1] at q1
 have t2 : (spotI pages (l.take i) j).cls = c' := by show (spotS pages (nth (l.take i) j)).1.cls = c'; rw [nth_take hj]; exact f1
 rw [t2] at q1
 unfold okI; rw [okI_eq hs, layS, if_pos hsm, hpt, hkt]
 show (if _ ∧ _ then _ else _ : Bool × List Int × List Nat).1 = false
 rw [if_neg, if_neg (by omega)]
 rintro ⟨z1, z2⟩
 have z3 : (spotI pages l i).cls = c := e2
 have hb := (cell_bit L hsp (a := (nth l i).1) (p := p) (c := c) (k := k) (by rw [z1]; exact z3) hc (by omega) ha (by rw [mul_words]; exact hq)).2 ⟨j, by omega, by rw [nth_take hj]; exact hat⟩
 rw [and_pow z2] at hb; cases hb
theorem small_ok (h0 : 0 ≤ pages ∧ pages ≤ 64) (hi : i < l.length) (h : ∀ j, j < i → okI pages l j = true) (hs : (spotS pages (nth l i)).2 = true) (hsm : (spotI pages l i).small = true)
    (hk : nth (stI pages l i).1 (spotI pages l i).page.toNat = -1 ∨ nth (stI pages l i).1 (spotI pages l i).page.toNat = (spotI pages l i).cls) (hn : ∀ j, j < i → (nth l j).1 ≠ (nth l i).1) :
    okI pages l i = true ∧ (stI pages l (i + 1)).1 = (stI pages l i).1.set (spotI pages l i).page.toNat (spotI pages l i).cls := by
 have hl : (l.take i).length = i := by simp; omega
 have L := laidP (laid_take h0 (by omega) h)
 obtain ⟨p, c, k, e1, e2, e3, hc, hp, hkk, ha, hq⟩ := spot_cell hs hsm
 have hsp : ∀ j, j < (l.take i).length → (spotS pages (nth (l.take i) j)).2 = true := fun j hj => by rw [nth_take (by omega)]; exact ok_spots h j (by omega)
 have hpt : (spotI pages l i).page.toNat = p := by show (spotS pages (nth l i)).1.page.toNat = p; omega
 have hkt : (spotI pages l i).cell.toNat = k := by show (spotS pages (nth l i)).1.cell.toNat = k; omega
 have hct : (spotI pages l i).cls = c := e2
 rw [hpt, hct] at hk ⊢
 have hpl : p < (stI pages l i).1.length := by rw [stI_len.1]; omega
 have e : layO pages (stI pages l i) (nth l i) = layS (stI pages l i).1 (stI pages l i).2 p (spotI pages l i).count.toNat true c k := by rw [okI_eq hs, hpt, hkt, hct, hsm]
 unfold okI
 simp only [stI]
 rw [e, layS, if_pos rfl]
 rcases hk with hk | hk
 · rw [if_neg (by omega), if_pos hk]; exact ⟨rfl, rfl⟩
 · have hb : (nth (stI pages l i).2 p).testBit k = false := by
    cases hz : (nth (stI pages l i).2 p).testBit k with
    | false => rfl
    | true =>
     obtain ⟨j, hj, he⟩ := (cell_bit L hsp (a := (nth l i).1) hk hc (by omega) ha hq).1 hz
     rw [nth_take (by omega)] at he
     exact absurd he (hn j (by omega))
   rw [if_pos ⟨hk, bit_and hb⟩]
   refine ⟨rfl, ?_⟩
   show (stI pages l i).1 = _
   rw [← hk]
   apply List.ext_getElem?
   intro x
   rw [List.getElem?_set]
   split
   · rename_i hx; subst hx; rw [nth_eq hpl]; simp [hpl]
   · rfl
theorem large_eq (hs : (spotS pages (nth l i)).2 = true) (hsm : (spotI pages l i).small = false) :
    okI pages l i = (fillF (spotI pages l i).page.toNat (spotI pages l i).count.toNat 0 (stI pages l i).1).1 ∧ (okI pages l i = true → (stI pages l (i + 1)).1 = (fillF (spotI pages l i).page.toNat (spotI pages l i).count.toNat 0 (stI pages l i).1).2.set (spotI pages l i).page.toNat 6) := by
 unfold okI
 simp only [stI]
 rw [okI_eq hs, layS, hsm]
 simp only [Bool.false_eq_true, if_false]
 split
 · rename_i hf; exact ⟨by rw [hf], fun _ => rfl⟩
 · rename_i hf; exact ⟨by simp at hf; rw [hf], fun h => by cases h⟩
end
def kindsR (pages : Int) (l : List (Int × Int)) : List Int × Bool := match laidS pages l with
 | some st => (st.1, true)
 | none => ([], false)
theorem kindsR_bad {pages : Int} {l : List (Int × Int)} {i : Nat} (hi : i < l.length) (h : okI pages l i = false) : kindsR pages l = ([], false) := by
 unfold kindsR laidS; rw [if_neg]
 simp only [Bool.and_eq_true, not_and]; intro _; rw [all_bad hi h]; simp
theorem kindsR_good {pages : Int} {l : List (Int × Int)} (h0 : 0 ≤ pages ∧ pages ≤ 64) (h : ∀ i, i < l.length → okI pages l i = true) : kindsR pages l = ((stI pages l l.length).1, true) := by
 unfold kindsR laidS; rw [if_pos]
 simp only [Bool.and_eq_true, decide_eq_true_eq]; exact ⟨h0, all_good h⟩
theorem kindsR_out {pages : Int} {l : List (Int × Int)} (h0 : ¬ (0 ≤ pages ∧ pages ≤ 64)) : kindsR pages l = ([], false) := by
 unfold kindsR laidS; rw [if_neg (by simp [h0])]
def cellO (o : Int × Int) : (Int × Int × Int) × Bool := if (classS o.2).2 = false ∨ o.1 < 0 then ((0, 0, 0), false) else ((o.1.tdiv 32, (classS o.2).1, (whichS (classS o.2).1 (o.1.tmod 32)).1), (whichS (classS o.2).1 (o.1.tmod 32)).2)
def spanR (pages : Int) (o : Int × Int) : (Int × Int) × Bool := if (cellO o).2 = true then (((cellO o).1.1, 1), decide ((cellO o).1.1 < pages)) else if (pagesS o.2).2 ≠ 0 ∨ o.1 < 0 ∨ o.1.tmod 32 ≠ 0 then ((0, 0), false)
 else ((o.1.tdiv 32, (pagesS o.2).1), decide (o.1.tdiv 32 ≤ pages) && decide ((pagesS o.2).1 ≤ pages - o.1.tdiv 32))
theorem classS_pages {n : Int} (h : (classS n).2 = true) : (pagesS n).2 ≠ 0 := by
 obtain ⟨h1, k, hk, h2, h3⟩ := classS_spec h
 have := wordsL_k hk
 unfold pagesS; rw [if_pos (by omega)]; decide
theorem spanR_eq {pages : Int} {o : Int × Int} : (spanR pages o).2 = (spotS pages o).2 ∧ ((spotS pages o).2 = true → (spanR pages o).1 = ((spotS pages o).1.page, (spotS pages o).1.count) ∧ (cellO o).2 = (spotS pages o).1.small ∧ ((spotS pages o).1.small = true → (cellO o).1 = ((spotS pages o).1.page, (spotS pages o).1.cls, (spotS pages o).1.cell))) := by
 unfold spanR
 by_cases ha : o.1 < 0
 · have : (cellO o).2 = false := by unfold cellO; rw [if_pos (.inr ha)]
   rw [this]
   simp only [Bool.false_eq_true, if_false]
   rw [if_pos (.inr (.inl ha))]
   unfold spotS; rw [if_pos ha]; simp
 · cases hc : (classS o.2).2 with
   | true =>
    have hp := classS_pages hc
    have ec : cellO o = ((o.1.tdiv 32, (classS o.2).1, (whichS (classS o.2).1 (o.1.tmod 32)).1), (whichS (classS o.2).1 (o.1.tmod 32)).2) := by unfold cellO; rw [if_neg (by simp [hc, ha])]
    have es : spotS pages o = (⟨o.1.tdiv 32, 1, true, (classS o.2).1, (whichS (classS o.2).1 (o.1.tmod 32)).1⟩, (whichS (classS o.2).1 (o.1.tmod 32)).2 && decide (o.1.tdiv 32 < pages)) := by unfold spotS; rw [if_neg ha, if_pos hc]
    rw [ec, es]
    simp only
    cases hw : (whichS (classS o.2).1 (o.1.tmod 32)).2 with
    | true => simp
    | false => simp [hp]
   | false =>
    have ec : (cellO o).2 = false := by unfold cellO; rw [if_pos (.inl hc)]
    have es : spotS pages o = (⟨o.1.tdiv 32, (pagesS o.2).1, false, (classS o.2).1, 0⟩, decide ((pagesS o.2).2 = 0) && decide (o.1.tmod 32 = 0) && decide (o.1.tdiv 32 < pages) && decide ((pagesS o.2).1 ≤ pages - o.1.tdiv 32)) := by
     unfold spotS; rw [if_neg ha, if_neg (by simp [hc])]
    rw [ec, es]
    simp only [Bool.false_eq_true, if_false]
    by_cases hz : (pagesS o.2).2 ≠ 0 ∨ o.1 < 0 ∨ o.1.tmod 32 ≠ 0
    · rw [if_pos hz]
      rcases hz with hz | hz | hz
      · simp [hz]
      · exact absurd hz ha
      · simp [hz]
    · rw [if_neg hz]
      have h1 : (pagesS o.2).2 = 0 := Classical.byContradiction fun q => hz (.inl q)
      have h2 : o.1.tmod 32 = 0 := Classical.byContradiction fun q => hz (.inr (.inr q))
      have h3 := pagesS_b h1
      simp [h1, h2]
      rw [← Bool.decide_and, ← Bool.decide_and]; exact decide_eq_decide.2 (by omega)
theorem taken_bit {pages : Int} {l : List (Int × Int)} {st} (h : laidS pages l = some st) {c p k : Nat} (hc : c < 6) (hp : p < st.1.length) (hk : nth st.1 p = c) (hkc : (k : Int) < (cellsS c).1) :
    (∃ j, j < l.length ∧ (nth l j).1 = 32 * (p : Int) + (cellS c k).1) ↔ (nth st.2 p).testBit k = true := by
 have L := laidP h
 obtain ⟨h0, h1, _⟩ := laidS_some h
 have hw := wordsL_k hc
 have hcs : cellS c k = (4 + k * nth wordsL c, 0) := by unfold cellS; rw [if_neg (by omega)]; simp
 rw [hcs]
 have hcl : (cellsS c).1 = (28 : Int).tdiv (nth wordsL c) := by unfold cellsS; rw [if_neg (by omega)]; simp
 have hq : 4 + ((k : Int) + 1) * nth wordsL c ≤ 32 := by
  rw [hcl] at hkc
  have hk14 := (cells_max c hc).1
  rw [hcl] at hk14
  rcases hw with q | q | q | q | q | q <;> rw [q] at hkc ⊢ <;> simp at hkc <;> omega
 have hlen := L.len
 exact (cell_bit L (fun j hj => okI_spot (h1 j hj)) hk hc (by omega) (by show _ = 32 * (p : Int) + 4 + _; omega) hq).symm
set_option maxHeartbeats 4000000
open Go.Awp
/- Facts about classes, for the document's walks. -/
theorem wordsL_8 {j : Nat} (h : j < 6) : 8 * nth wordsL j ≤ 120 ∧ 2 ≤ nth wordsL j ∧ nth wordsL j ≤ 15 := by have := wordsL_k h; omega
theorem classS_at {n : Int} {i : Nat} (hi : i < 6) (h : 1 ≤ n ∧ n ≤ 8 * nth wordsL i) (hn : ∀ j, j < i → ¬ (1 ≤ n ∧ n ≤ 8 * nth wordsL j)) : classS n = ((i : Int), true) := by
 have := wordsL_8 hi
 unfold classS
 rw [if_neg (by omega)]
 have hf : wordsL.findIdx? (fun w => decide (n ≤ w * 8)) = some i := by
  rw [List.findIdx?_eq_some_iff_getElem]
  refine ⟨hi, by rw [← nth_eq (l := wordsL) hi]; simp; omega, fun j hj => ?_⟩
  have h6 : j < wordsL.length := Nat.lt_trans hj hi
  have := hn j hj
  rw [← nth_eq h6]; simp; omega
 rw [hf]
theorem classS_no {n : Int} (hn : ∀ j, j < 6 → ¬ (1 ≤ n ∧ n ≤ 8 * nth wordsL j)) : classS n = (0, false) := by
 have := hn 5 (by omega)
 have e : nth wordsL 5 = 15 := rfl
 unfold classS
 rw [if_pos (by omega)]
theorem which_tab0 : ∀ c : Nat, c < 6 → ∀ o : Nat, o < 32 → (∀ k : Nat, k < 14 → (k : Int) < (cellsS c).1 → (cellS c k).1 ≠ (o : Int)) → whichS c o = (0, false) := by decide +kernel
theorem which_at {c off : Int} {k : Nat} (hc : 0 ≤ c ∧ c < 6) (hk : (k : Int) < (cellsS c).1) (h : (cellS c k).1 = off) : whichS c off = ((k : Int), true) := by
 obtain ⟨d, rfl⟩ : ∃ d : Nat, c = d := ⟨c.toNat, by omega⟩
 have := (cells_max d (by omega)).1
 rw [← h]
 exact (cells_tab d (by omega) k (by omega) hk).1
theorem which_no {c off : Int} (hc : 0 ≤ c ∧ c < 6) (ho : 0 ≤ off ∧ off < 32) (h : ∀ k : Nat, (k : Int) < (cellsS c).1 → (cellS c k).1 ≠ off) : whichS c off = (0, false) := by
 obtain ⟨d, rfl⟩ : ∃ d : Nat, c = d := ⟨c.toNat, by omega⟩
 obtain ⟨o, rfl⟩ : ∃ o : Nat, off = o := ⟨off.toNat, by omega⟩
 exact which_tab0 d (by omega) o (by omega) fun k _ => h k
theorem cellS_b {c : Int} {k : Nat} (hc : 0 ≤ c ∧ c < 6) (hk : (k : Int) < (cellsS c).1) : cellS c k = (4 + k * nth wordsL c.toNat, 0) ∧ 4 + (k : Int) * nth wordsL c.toNat ≤ 400 ∧ 0 ≤ (k : Int) * nth wordsL c.toNat := by
 obtain ⟨d, rfl⟩ : ∃ d : Nat, c = d := ⟨c.toNat, by omega⟩
 have h14 := (cells_max d (by omega)).1
 have hw := wordsL_8 (j := d) (by omega)
 have h0 : 0 ≤ (k : Int) * nth wordsL d := Int.mul_nonneg (by omega) (by omega)
 refine ⟨by unfold cellS; rw [if_neg (by omega)], ?_, by simpa using h0⟩
 have : (k : Int) * nth wordsL d ≤ 14 * 15 := Int.mul_le_mul (by omega) (by omega) (by omega) (by omega)
 simp only [Int.toNat_natCast]; omega
theorem cellsS_b {c : Int} (hc : 0 ≤ c ∧ c < 6) : 1 ≤ (cellsS c).1 ∧ (cellsS c).1 ≤ 14 ∧ (cellsS c).2 = 0 ∧ (cellsS c).1 = (28 : Int).tdiv (nth wordsL c.toNat) := by
 obtain ⟨d, rfl⟩ : ∃ d : Nat, c = d := ⟨c.toNat, by omega⟩
 have := cells_max d (by omega)
 refine ⟨this.2, this.1, ?_, ?_⟩ <;> (unfold cellsS; rw [if_neg (by omega)])
def openIx (l : List Slot) (i : Nat) : List Nat := (List.range i).filter fun j => openT (nth l j)
def chainS (l : List Slot) : List Int := (openIx l l.length).map fun (j : Nat) => (j : Int)
set_option maxRecDepth 4000
open Go.Awp
theorem ct238 (g : Gl) (c : Int) : CtAt Tryz.prog g 238 [vI c] (.tup [vI (cellsS c).1, vI (cellsS c).2]) := by
 refine xA Tryz.func238 fun B S => ?_
 refine xU ?_
 refine xO2 ?_
 refine xG [0] ?_
 refine xO ?_
 refine xC (ct248 g c) ?_
 refine xO5 ?_
 refine xF [4,5] ?_
 refine W_seq (xU ?_)
 refine xO2 ?_
 refine xQ [4,5,12] ?_ ?_
 · intro h12
   have hc : c < 0 ∨ 6 ≤ c := Classical.byContradiction fun q => by simp [q] at h12
   have hr : cellsS c = (0, 1) := by unfold cellsS; rw [if_pos hc]
   refine xU ?_
   refine xH3 [2,3] ?_
   refine W_ret (xR (by simp [Tryz.f238]; exact .mk) ?_)
   simp [Tryz.f238, hr, hc]
 intro h12
 have hc : ¬ (c < 0 ∨ 6 ≤ c) := by intro q; simp [q] at h12
 have hr : cellsS c = ((28 : Int).tdiv (nth wordsL c.toNat), 0) := by unfold cellsS; rw [if_neg hc]
 have hw := wordsL_b (k := c.toNat) (by omega)
 have hw0 : nth wordsL c.toNat ≠ 0 := by omega
 have e1 : IntKind.i64.wrap ((28 : Int).tdiv (nth wordsL c.toNat)) = (28 : Int).tdiv (nth wordsL c.toNat) := by rcases hw with h | h | h | h | h | h <;> rw [h] <;> decide
 refine W_skip ?_
 refine xT ?_
 refine xO ?_
 refine xO ?_ (h := by simp [hc, hw0, e1]; exact .mk)
 refine xH2 [2,3] ?_
 refine W_ret (xR (by simp [Tryz.f238]; exact .mk) ?_)
 simp [Tryz.f238, hr, hc]

theorem ct239 (g : Gl) (c k : Int) : CtAt Tryz.prog g 239 [vI c, vI k] (.tup [vI (cellS c k).1, vI (cellS c k).2]) := by
 refine xA Tryz.func239 fun B S => ?_
 refine xU ?_
 refine xO2 ?_
 refine xG [0,1] ?_
 refine xO ?_
 refine xC (ct238 g c) ?_ (hi := by simp [impAs_vI]; exact .mk)
 refine xO5 ?_
 refine xF [0,1,6,7] ?_
 refine W_seq (xU ?_)
 refine xO3 ?_
 iterate 2 refine xI ?_
 refine xP ?_
 refine xB ?_
 iterate 3 refine xI ?_
 refine xP ?_
 refine xQ [0,1,23] ?_ ?_
 · intro h23
   have hc : c < 0 ∨ 6 ≤ c ∨ k < 0 ∨ (cellsS c).1 ≤ k := by by_cases q : c < 0 ∨ 6 ≤ c <;> simp [cellsS, q] at h23 ⊢ <;> omega
   have hr : cellS c k = (0, 1) := by unfold cellS; rw [if_pos hc]
   refine xU ?_
   refine xH2 [4,5] ?_
   refine W_ret (xR (by simp [Tryz.f239]; exact .mk) ?_)
   simp [Tryz.f239, hr]
 intro h23
 have hc : ¬ (c < 0 ∨ 6 ≤ c ∨ k < 0 ∨ (cellsS c).1 ≤ k) := by by_cases q : c < 0 ∨ 6 ≤ c <;> simp [cellsS, q] at h23 ⊢ <;> omega
 have hr : cellS c k = (4 + k * nth wordsL c.toNat, 0) := by unfold cellS; rw [if_neg hc]
 obtain ⟨m, rfl⟩ : ∃ m : Nat, c = m := ⟨c.toNat, by omega⟩
 have hm : m < 6 := by omega
 have hml : m < wordsL.length := hm
 have hw := wordsL_b hm
 have hk : 0 ≤ k ∧ k < 28 := by
  have h1 : k < (cellsS m).1 := by omega
  have h2 : (cellsS m).1 = (28 : Int).tdiv (nth wordsL m) := by unfold cellsS; rw [if_neg (by omega)]; rfl
  rw [h2] at h1
  rcases hw with h | h | h | h | h | h <;> rw [h] at h1 <;> simp at h1 <;> omega
 have e1 : IntKind.i64.wrap (k * nth wordsL m) = k * nth wordsL m := by rcases hw with h | h | h | h | h | h <;> rw [h] <;> exact wrap64 (by omega) (by omega)
 have e2 : IntKind.i64.wrap (4 + k * nth wordsL m) = 4 + k * nth wordsL m := by rcases hw with h | h | h | h | h | h <;> rw [h] <;> exact wrap64 (by omega) (by omega)
 refine W_skip ?_
 refine xT ?_
 refine xO ?_
 refine xC (ct237 g) ?_ (hi := by simp [impAs_vI]; exact .mk)
 refine xO ?_
 refine xO ?_ (h := by simp [indexA, partA, Ty.agg, -List.getElem?_map, map_get hml, show (m : Int) < 6 from by omega]; exact .mk)
 refine xO ?_ (h := by simp [e1]; exact .mk)
 refine xO ?_ (h := by simp [e1, e2]; exact .mk)
 refine xH2 [4,5] ?_
 refine W_ret (xR (by simp [Tryz.f239]; exact .mk) ?_)
 simp [Tryz.f239, hr]

open Go.Awp
theorem in234t (g : Gl) (a b : Int) (o : Awp.Obj) (L : List (Int × Int)) (hL : L.length ≤ 2^40) (hab : -2^60 ≤ b - a ∧ b - a ≤ 2^60) (hlt : a < b) : ∀ B S, CallsA Tryz.prog g B S ⟨3, true⟩ 234 [.d (vI a), .d (vI b), .ptr 0 0 0] [.var 113 [.hdr 1 0 L.length], .row 2 (L.map eObj), o]
    (fun x r => x = .tup [] ∧ r = [.var 113 [.hdr 4 0 (L.length + 1)], .dead, o, .row 2 [eObj (a, b - a)], .row 2 ((L ++ [(a, b - a)]).map eObj)]) := by
 refine callsA_at Tryz.func234 rfl (Nat.le_of_ble_eq_true rfl) fun B S => ?_
 have e1 : IntKind.i64.wrap (b - a) = b - a := wrap64 (by omega) (by omega)
 have e2 : (L.length + 1) * 16 ≤ 140737488355328 := by omega
 have e3 : L.length ≤ 140737488355327 := by omega
 refine xU ?_
 refine xO3 ?_
 refine xQ [0,1,2,7] ?_ ?_
 · intro h7
   refine xY ?_
   refine xO4 ?_
   refine xO ?_ (h := by simp [e1]; exact .mk)
   refine xOs ?_
   refine xO ?_
   refine xO ?_ (h := by simp [rows, e2, e3]; exact .mk)
   refine xOs ?_
   refine xE [] ?_
   refine endAt_normal (by simp [Tryz.f234]; exact .mk) ?_ ?_
   · simp
   simp [eObj]
 intro h7
 simp at h7; omega

theorem in234f (g : Gl) (a b : Int) (o : Awp.Obj) (L : List (Int × Int)) (hL : L.length ≤ 2^40) (hab : -2^60 ≤ b - a ∧ b - a ≤ 2^60) (hlt : ¬ a < b) : ∀ B S, CallsA Tryz.prog g B S ⟨3, true⟩ 234 [.d (vI a), .d (vI b), .ptr 0 0 0] [.var 113 [.hdr 1 0 L.length], .row 2 (L.map eObj), o]
    (fun x r => x = .tup [] ∧ r = [.var 113 [.hdr 1 0 L.length], .row 2 (L.map eObj), o]) := by
 refine callsA_at Tryz.func234 rfl (Nat.le_of_ble_eq_true rfl) fun B S => ?_
 have e1 : IntKind.i64.wrap (b - a) = b - a := wrap64 (by omega) (by omega)
 have e2 : (L.length + 1) * 16 ≤ 140737488355328 := by omega
 have e3 : L.length ≤ 140737488355327 := by omega
 refine xU ?_
 refine xO3 ?_
 refine xQ [0,1,2,7] ?_ ?_
 · intro h7
   simp at h7; omega
 intro h7
 refine W_skip ?_
 refine endAt_normal (by simp [Tryz.f234]; exact .mk) ?_ ?_
 · simp
 simp [eObj]

theorem in234u (g : Gl) (a b : Int) (L : List (Int × Int)) (hL : L.length ≤ 2^40) (hab : -2^60 ≤ b - a ∧ b - a ≤ 2^60) (hlt : a < b) : ∀ B S, CallsA Tryz.prog g B S ⟨2, true⟩ 234 [.d (vI a), .d (vI b), .ptr 0 0 0] [.var 113 [.hdr 1 0 L.length], .row 2 (L.map eObj)]
    (fun x r => x = .tup [] ∧ r = [.var 113 [.hdr 3 0 (L.length + 1)], .dead, .row 2 [eObj (a, b - a)], .row 2 ((L ++ [(a, b - a)]).map eObj)]) := by
 refine callsA_at Tryz.func234 rfl (Nat.le_of_ble_eq_true rfl) fun B S => ?_
 have e1 : IntKind.i64.wrap (b - a) = b - a := wrap64 (by omega) (by omega)
 have e2 : (L.length + 1) * 16 ≤ 140737488355328 := by omega
 have e3 : L.length ≤ 140737488355327 := by omega
 refine xU ?_
 refine xO3 ?_
 refine xQ [0,1,2,7] ?_ ?_
 · intro h7
   refine xY ?_
   refine xO4 ?_
   refine xO ?_ (h := by simp [e1]; exact .mk)
   refine xOs ?_
   refine xO ?_
   refine xO ?_ (h := by simp [rows, e2, e3]; exact .mk)
   refine xOs ?_
   refine xE [] ?_
   refine endAt_normal (by simp [Tryz.f234]; exact .mk) ?_ ?_
   · simp
   simp [eObj]
 intro h7
 simp at h7; omega

theorem in234g (g : Gl) (a b : Int) (L : List (Int × Int)) (hL : L.length ≤ 2^40) (hab : -2^60 ≤ b - a ∧ b - a ≤ 2^60) (hlt : ¬ a < b) : ∀ B S, CallsA Tryz.prog g B S ⟨2, true⟩ 234 [.d (vI a), .d (vI b), .ptr 0 0 0] [.var 113 [.hdr 1 0 L.length], .row 2 (L.map eObj)]
    (fun x r => x = .tup [] ∧ r = [.var 113 [.hdr 1 0 L.length], .row 2 (L.map eObj)]) := by
 refine callsA_at Tryz.func234 rfl (Nat.le_of_ble_eq_true rfl) fun B S => ?_
 have e1 : IntKind.i64.wrap (b - a) = b - a := wrap64 (by omega) (by omega)
 have e2 : (L.length + 1) * 16 ≤ 140737488355328 := by omega
 have e3 : L.length ≤ 140737488355327 := by omega
 refine xU ?_
 refine xO3 ?_
 refine xQ [0,1,2,7] ?_ ?_
 · intro h7
   simp at h7; omega
 intro h7
 refine W_skip ?_
 refine endAt_normal (by simp [Tryz.f234]; exact .mk) ?_ ?_
 · simp
 simp [eObj]

theorem in142g (g : Gl) (fr to : Int) (l : List (Int × Int)) (hl : l.length ≤ 2^39) (hG : gapsS fr to l = true) : ∀ B S, CallsA Tryz.prog g B S ⟨1, true⟩ 142 [.d (vI fr), .d (vI to), .d (rO l), .fn (.func 234) [] [.ptr 0 0 0]] [.var 113 [.d (.v (.slice none 0 0))]]
    (fun x r => x = .d (.v (.bool true)) ∧ r = [.var 113 [.hdr 1 0 (gapsF to fr l).length], .row 2 ((gapsF to fr l).map eObj)]) := by
 refine callsA_at Tryz.func142 rfl (Nat.le_of_ble_eq_true rfl) fun B S => ?_
 have hH : 0 ≤ fr ∧ fr ≤ to ∧ to ≤ 2048 ∧ fr.tmod 4 = 0 ∧ to.tmod 4 = 0 := by simp [gapsS, gapsHead] at hG; omega
 have hr0 : gapsOk to fr l = true := by simp [gapsS] at hG; exact hG.2
 refine xU ?_
 refine xH [0,1,2,3] ?_
 refine W_seq (xU ?_)
 refine xO3 ?_
 iterate 3 refine xI ?_
 refine xP ?_
 refine xB ?_
 iterate 2 refine xI ?_
 refine xP ?_
 refine xB ?_
 refine xI ?_
 refine run_call rfl (by simp; exact .mk) rfl rfl (by simp) (by simp; exact .mk) (by simp; exact .mk) (fun hb => ct201 g fr) (by simp) (by simp; exact .mk) (by simp) ?_
 refine xI ?_
 refine xP ?_
 refine xB ?_
 refine xI ?_
 refine run_call rfl (by simp; exact .mk) rfl rfl (by simp) (by simp; exact .mk) (by simp; exact .mk) (fun hb => ct201 g to) (by simp) (by simp; exact .mk) (by simp) ?_
 refine xI ?_
 refine xP ?_
 refine xQ [0,1,2,3,32] ?_ ?_
 · intro h32
   simp at h32; omega
 intro h32
 refine W_skip ?_
 refine xT ?_
 refine xH2 [1,2,3,9] ?_
 refine W_seq (xU ?_)
 refine xH3 [1,3,9,34,35,36] ?_
 refine W_block (W_rounds (fun m σ o => ∃ (i : Nat) (a : Int) (L : List (Int × Int)), m = l.length - i ∧ i ≤ l.length ∧ 0 ≤ a ∧ a ≤ to ∧ gapsOk to a (l.drop i) = true ∧ gapsF to fr l = L ++ gapsF to a (l.drop i) ∧ L.length ≤ i ∧ σ = slots [(1, .d (vI to)), (3, .fn (.func 234) [] [.ptr 0 0 0]), (9, .d (vI a)), (34, .d (rO l)), (35, .d (vI l.length)), (36, .d (vI i))] ∧ o = [.var 113 [.hdr 1 0 L.length], .row 2 (L.map eObj)]) l.length (Weak.nilCell 0 0 2 rfl rfl) ⟨0, fr, [], by simp, by simp, by omega, by omega, by simpa using hr0, by simp, by simp, rfl, rfl⟩ ?_)
 rintro m σ o ⟨i, a, L, rfl, hi, ha0, ha1, hinv, hgl, hLi, rfl, rfl⟩ _
 refine xU ?_
 refine xH [1,3,9,34,35,36,37] ?_
 refine W_seq (W_cond rfl ?_ ?_)
 · intro h37
   have hi2 : i < l.length := by simpa using h37
   rw [gapsOk_drop hi2] at hinv
   have hb : gapBad to a (nth l i) = false := by simp at hinv; exact hinv.1
   have hb2 : a ≤ (nth l i).1 ∧ (nth l i).1 ≤ to ∧ 4 ≤ (nth l i).2 ∧ (nth l i).2 ≤ to - (nth l i).1 := by simp [gapBad] at hb; omega
   have hb3 : (nth l i).1.tmod 4 = 0 ∧ (nth l i).2.tmod 4 = 0 := by simp [gapBad] at hb; omega
   have w1 : IntKind.i64.wrap (to - (nth l i).1) = to - (nth l i).1 := wrap64 (by omega) (by omega)
   have w2 : IntKind.i64.wrap ((nth l i).1 + (nth l i).2) = (nth l i).1 + (nth l i).2 := wrap64 (by omega) (by omega)
   rw [gapsF_drop hi2] at hgl
   refine W_skip fun _ => ?_
   refine W_seq (W_block ?_)
   refine xU ?_
   refine xO ?_ (h := by simp [eObj, *]; exact .mk)
   refine xO ?_ (h := by simp [eObj]; exact .mk)
   refine xO ?_
   refine xOs ?_
   refine xF [1,3,9,11,34,35,36] ?_
   refine W_seq (W_block ?_)
   refine W_seq (xU ?_)
   refine xO ?_
   refine xO ?_ (h := by simp [eObj]; exact .mk)
   refine xO3 ?_
   refine xQ [1,3,9,11,34,35,36,40] ?_ ?_
   · intro h40
     exfalso
     first | (simp [eObj] at h40; omega) | (simp [eObj, hb3] at h40)
   intro h40
   refine xU ?_
   refine xO ?_
   refine xO ?_ (h := by simp [eObj]; exact .mk)
   refine xO3 ?_
   refine xQ [1,3,9,11,34,35,36,40] ?_ ?_
   · intro h40'
     exfalso
     first | (simp [eObj] at h40'; omega) | (simp [eObj, hb3] at h40')
   intro h40'
   refine xU ?_
   refine xO ?_
   refine xO ?_ (h := by simp [eObj]; exact .mk)
   refine xO2 ?_
   refine xQ [1,3,9,11,34,35,36,40] ?_ ?_
   · intro h40''
     exfalso
     first | (simp [eObj] at h40''; omega) | (simp [eObj, hb3] at h40'')
   intro h40''
   refine xU ?_
   refine xO ?_
   refine xO ?_ (h := by simp [eObj]; exact .mk)
   refine xO2 ?_
   refine xO ?_ (h := by simp [eObj]; exact .mk)
   refine xO ?_ (h := by simp [w1]; exact .mk)
   refine xO2 ?_
   refine xQ [1,3,9,11,34,35,36,40] ?_ ?_
   · intro h40'''
     exfalso
     first | (simp [eObj] at h40'''; omega) | (simp [eObj, hb3] at h40''')
   intro h40'''
   refine xU ?_
   refine xO ?_
   refine xO ?_ (h := by simp [eObj]; exact .mk)
   refine xC (ct201 g _) ?_
   refine xO2 ?_
   refine xQ [1,3,9,11,34,35,36,40] ?_ ?_
   · intro h40''''
     exfalso
     first | (simp [eObj] at h40''''; omega) | (simp [eObj, hb3] at h40'''')
   intro h40''''
   refine xY ?_
   refine xO ?_
   refine xO ?_ (h := by simp [eObj]; exact .mk)
   refine xC (ct201 g _) ?_
   refine xO2 ?_
   refine xQ [1,3,9,11,34,35,36,40] ?_ ?_
   · intro h40'''''
     exfalso
     first | (simp [eObj] at h40'''''; omega) | (simp [eObj, hb3] at h40''''')
   intro h40'''''
   refine W_skip fun _ => ?_
   refine W_seq ?_
   by_cases hlt : a < (nth l i).1
   · skip
     skip
     refine xY ?_
     refine xO3 ?_
     refine xO ?_ (h := by simp [eObj]; exact .mk)
     refine run_inl0 rfl rfl rfl rfl (by simp; exact .mk) ⟨_, Tryz.func234, rfl, rfl⟩ (in234t g a (nth l i).1 _ L (by omega) (by omega) hlt) (.inl (by simp)) ?_
     refine xF [1,3,11,34,35,36] ?_
     refine xY ?_
     refine xO ?_
     refine xO ?_ (h := by simp [eObj]; exact .mk)
     refine xO ?_
     refine xO ?_ (h := by simp [eObj]; exact .mk)
     refine xO ?_ (h := by simp [w2]; exact .mk)
     refine xH [1,3,9,34,35,36] ?_
     refine xY ?_
     refine xO2 ?_
     refine xE [1,3,9,34,35,36] ?_
     refine rounds_kill [1,3,9,34,35,36] ?_
     refine rounds_swap 1 4 1 (by decide) (by simp) (by decide) rfl rfl ?_
     refine rounds_drop 2 [1,3,9,34,35,36] (by decide) (by rfl) (by rfl) ?_
     refine rounds_next (m' := l.length - (i+1)) (by omega) ⟨i+1, (nth l i).1 + (nth l i).2, L ++ [(a, (nth l i).1 - a)], rfl, by omega, by omega, by omega, by simp at hinv; exact hinv.2, by rw [hgl, gapE, if_pos hlt]; simp, by simp; omega, ?_, ?_⟩
     · rw [wrap64 (by omega) (by omega)]; simp; try rfl
     simp [eObj]; try rfl
   skip
   skip
   refine xY ?_
   refine xO3 ?_
   refine xO ?_ (h := by simp [eObj]; exact .mk)
   refine run_inl0 rfl rfl rfl rfl (by simp; exact .mk) ⟨_, Tryz.func234, rfl, rfl⟩ (in234f g a (nth l i).1 _ L (by omega) (by omega) hlt) (.inl (by simp)) ?_
   refine xF [1,3,11,34,35,36] ?_
   refine xY ?_
   refine xO ?_
   refine xO ?_ (h := by simp [eObj]; exact .mk)
   refine xO ?_
   refine xO ?_ (h := by simp [eObj]; exact .mk)
   refine xO ?_ (h := by simp [w2]; exact .mk)
   refine xH [1,3,9,34,35,36] ?_
   refine xY ?_
   refine xO2 ?_
   refine xE [1,3,9,34,35,36] ?_
   refine rounds_kill [1,3,9,34,35,36] ?_
   refine rounds_drop 2 [1,3,9,34,35,36] (by decide) (by rfl) (by rfl) ?_
   refine rounds_next (m' := l.length - (i+1)) (by omega) ⟨i+1, (nth l i).1 + (nth l i).2, L, rfl, by omega, by omega, by omega, by simp at hinv; exact hinv.2, by rw [hgl, gapE, if_neg hlt]; simp, by omega, ?_, rfl⟩
   rw [wrap64 (by omega) (by omega)]; rfl
 intro h37
 obtain rfl : i = l.length := by simp at h37; omega
 rw [List.drop_length] at hgl
 refine W_exit ?_
 rintro -
 refine W_seq ?_
 by_cases hlt : a < to
 · skip
   skip
   refine xY ?_
   refine xO3 ?_
   refine run_inl0 rfl rfl rfl rfl (by simp; exact .mk) ⟨_, Tryz.func234, rfl, rfl⟩ (in234u g a to L (by omega) (by omega) hlt) (.inl (by simp)) ?_
   refine xE [] ?_
   refine then_weak (Weak.perm [0,3,2,1] [0,3,2,1] rfl rfl rfl) ?_
   refine xT ?_
   refine xH [8] ?_
   refine W_ret (endAt_drop 2 (by simp [Tryz.f142]; exact .mk) ?_ ?_ (by simp) (by first | rfl | simp) (by first | rfl | simp))
   · rfl
   first | (simp [hgl, gapsF, gapE, hlt]; done) | (simp [hgl, gapsF, gapE, hlt, eObj]; try rfl)
 skip
 skip
 refine xY ?_
 refine xO3 ?_
 refine run_inl0 rfl rfl rfl rfl (by simp; exact .mk) ⟨_, Tryz.func234, rfl, rfl⟩ (in234g g a to L (by omega) (by omega) hlt) (.inl (by simp)) ?_
 refine xG [] ?_
 refine xH [8] ?_
 refine W_ret (endAt_drop 2 (by simp [Tryz.f142]; exact .mk) ?_ ?_ (by simp) (by first | rfl | simp) (by first | rfl | simp))
 · rfl
 first | (simp [hgl, gapsF, gapE, hlt]; done) | (simp [hgl, gapsF, gapE, hlt, eObj]; try rfl)

open Go.Awp
theorem ct205 (g : Gl) (fr to : Int) (l : List (Int × Int)) (hl : l.length ≤ 2^39) (hG : gapsS fr to l = true) : CtAt Tryz.prog g 205 [vI fr, vI to, rO l] (.tup [oO (gapsF to fr l), vI 0]) := by
 refine xA Tryz.func205 fun B S => ?_
 refine xU ?_
 refine xO2 ?_
 refine xG [0,1,2] ?_
 refine xO ?_
 refine xG [0,1,2,8] ?_
 refine xO4 ?_
 refine run_inl0 rfl rfl rfl rfl (by simp; exact .mk) ⟨_, Tryz.func142, rfl, rfl⟩ (in142g g fr to l hl hG) (.inl (by simp)) ?_
 refine xH [8,9] ?_
 refine W_seq (xU ?_)
 refine xO2 ?_
 refine xQ [8,16] ?_ ?_
 · intro h16
   simp at h16
 intro h16
 refine W_skip ?_
 refine xT ?_
 refine xH3 [6,7] ?_
 refine W_ret (xR (by simp [Tryz.f205]; exact .mk) ?_)
 simp [Tryz.f205, ownR]

theorem ct151 (g : Gl) (s : Stt) (hs : s.Ok) (hR : sttS s = true) (n : Int) : CtAt Tryz.prog g 151 [eStt s, vI n] (.tup [vI ((oneS s n).getD 0), .v (.bool (oneS s n).isSome)]) := by
 refine xA Tryz.func151 fun B S => ?_
 simp only [eStt, List.map, argD_agg, argD_v]
 have q0 := hs.h1
 have hb := superS_b (sttS_super hR)
 have hol := onesS_len (l := s.slots)
 have hT := tableS_len (sttS_rows hR)
 refine xU ?_
 refine xO3 ?_
 refine xG [1,2] ?_
 refine xO ?_
 refine xC (ct83 g n) ?_ (he := by simp [show D.roed ∘ eObj = eObj from funext roed_eObj]; exact .mk)
 refine xO5 ?_
 refine xF [2,6,7] ?_
 refine W_seq (xU ?_)
 refine xO2 ?_
 refine xQ [2,6,21] ?_ ?_
 · intro h21
   have hr : oneS s n = none := by unfold oneS; rw [if_pos (by simpa using h21)]
   refine xU ?_
   refine xH2 [4,5] ?_
   refine W_ret (xR (by simp [Tryz.f151]; exact .mk) ?_)
   first | (simp [Tryz.f151, hr]; done) | (simp [Tryz.f151, hr]; cases b <;> simp [eObj])
 intro h21
 have hr : oneS s n = (bestS (gapsF (s.sh.pages * 32) (s.base * 32) (spansS s.slots)) (needS n).1).map (·.1) := by unfold oneS; rw [if_neg (by simpa using h21)]
 refine W_skip ?_
 refine xT ?_
 refine xH [2,6,8] ?_
 refine W_seq (xU ?_)
 refine xO ?_ (h := by simp [eBlk]; exact .mk)
 refine xC (ct28 g s hs) ?_ (he := by simp [show D.roed ∘ eObj = eObj from funext roed_eObj]; exact .mk)
 refine xH2 [2,6,8,23,24,25] ?_
 refine W_block ?_
 refine W_rounds (fun m σ o => ∃ i : Nat, m = (onesS s.slots).length - i ∧ i ≤ (onesS s.slots).length ∧ σ = slots [(2, .ptr 0 0 0), (6, .d (vI (needS n).1)), (8, .hdr 2 0 i), (23, .hdr 1 0 (onesS s.slots).length), (24, .d (vI (onesS s.slots).length)), (25, .d (vI i))] ∧ o = [.var 28 [.d (vI s.sh.pages), .d (vI s.sh.slots), .d (vI s.sh.roots), .d (vI s.sh.room), .d (vI s.mode), .d (vI s.base), .d (rSl s.slots), .d (rR s.roots), .d (rBB s.data)], .row 3 ((onesS s.slots).map eBlk), .row 2 (((onesS s.slots).take i).map fun b => eObj (spanOf b))]) (onesS s.slots).length
  (Weak.trans (Weak.nilRow 8 2 rfl) (Weak.kills [2,6,8,23,24,25] rfl) (fun _ _ _ h1 h2 => by rw [← h1.len]; exact h2)) ⟨0, by simp, by simp, by simp, by simp⟩ ?_
 rintro m σ o ⟨i, rfl, hi, rfl, rfl⟩ _
 refine xU ?_
 refine xH [2,6,8,23,24,25,26] ?_
 refine W_seq (W_cond rfl ?_ ?_)
 · intro h26
   have hi2 : i < (onesS s.slots).length := by simpa using h26
   have e1 : (i + 1) * 16 ≤ 140737488355328 := by omega
   have e2 : i ≤ 140737488355327 := by omega
   have htk : ((onesS s.slots).take i).length = i := by simp; omega
   refine W_skip fun _ => ?_
   refine W_seq (W_block ?_)
   refine xU ?_
   refine xO ?_ (h := by simp [eBlk, hi2]; exact .mk)
   refine xO ?_ (h := by simp [-List.getElem?_map, map_get hi2, eBlk]; exact .mk)
   refine xO ?_
   refine xOs ?_
   refine xF [2,6,8,10,23,24,25] ?_
   refine xY ?_
   refine xO2 ?_
   refine xO ?_ (h := by simp [eBlk]; exact .mk)
   refine xO ?_
   refine xO ?_ (h := by simp [eBlk]; exact .mk)
   refine xOs ?_
   refine xO ?_
   refine xO ?_ (h := by simp [rows, e1, e2, htk, Nat.min_eq_left hi]; exact .mk)
   refine xH [2,6,8,23,24,25] ?_
   refine xY ?_
   refine xO2 ?_
   refine xE [2,6,8,23,24,25] ?_
   refine rounds_kill [2,6,8,23,24,25] ?_
   refine rounds_kills [2,6,8,23,24,25] rfl ?_
   refine rounds_swap 2 5 1 (by decide) (by simp) (by decide) rfl rfl ?_
   refine rounds_drop 3 [2,6,8,23,24,25] (by decide) (by rfl) (by rfl) ?_
   refine rounds_next (m' := (onesS s.slots).length - (i+1)) (by omega) ⟨i+1, rfl, by omega, ?_, ?_⟩
   · rw [wrap64 (by omega) (by omega)]; simp; try rfl
   rw [take_succ hi2]; simp [eObj, spanOf, eBlk]; try rfl
 intro h26
 obtain rfl : i = (onesS s.slots).length := by simp at h26; omega
 obtain ⟨U, hU⟩ : ∃ U, U = spansS s.slots := ⟨_, rfl⟩
 have hm : List.take (onesS s.slots).length (List.map (fun b => eObj (spanOf b)) (onesS s.slots)) = U.map eObj := by rw [hU, spansS, ← List.map_take, List.take_length, List.map_map]; rfl
 have hm2 : (onesS s.slots).length = U.length := by rw [hU, spansS, List.length_map]
 rw [hm, hm2]
 have e4 : IntKind.i64.wrap (s.base * 32) = s.base * 32 := wrap64 (by omega) (by omega)
 have e5 : IntKind.i64.wrap (s.sh.pages * 32) = s.sh.pages * 32 := wrap64 (by omega) (by omega)
 have hG := sttS_gaps hR
 rw [← hU] at hG hr
 have c132 := ct205 g (s.base * 32) (s.sh.pages * 32) U (by omega) hG
 have hgl := gapsF_len (to := s.sh.pages * 32) (l := U) (a := s.base * 32)
 obtain ⟨G, hGG⟩ : ∃ G, G = gapsF (s.sh.pages * 32) (s.base * 32) U := ⟨_, rfl⟩
 rw [← hGG] at hr c132 hgl
 obtain ⟨b, hbb⟩ : ∃ b, b = bestS G (needS n).1 := ⟨_, rfl⟩
 have c133 := ct206 g G (by omega) (needS n).1
 rw [← hbb] at hr c133
 refine W_exit (xT ?_)
 refine xO ?_
 refine xO ?_ (h := by simp [eBlk]; exact .mk)
 refine xO ?_ (h := by simp [e4]; exact .mk)
 refine xO2 ?_
 refine xO ?_ (h := by simp [eBlk]; exact .mk)
 refine xO ?_ (h := by simp [e5]; exact .mk)
 refine xO ?_
 refine xC (c132) ?_ (he := by simp [show D.roed ∘ eObj = eObj from funext roed_eObj]; exact .mk)
 refine xO5 ?_
 refine xG [6,11] ?_
 refine xO2 ?_
 refine xC (c133) ?_ (he := by simp [show D.roed ∘ eObj = eObj from funext roed_eObj]; exact .mk)
 refine xO4 ?_
 refine xOs ?_
 refine xO ?_
 refine xG [13,14] ?_
 refine xO ?_
 refine xO ?_ (h := by simp [eBlk]; exact .mk)
 refine xH3 [4,5] ?_
 refine W_ret (xR (by simp [Tryz.f151]; exact .mk) ?_)
 first | (simp [Tryz.f151, hr]; done) | (simp [Tryz.f151, hr]; cases b <;> simp [eObj])

open Go.Awp
theorem ct240 (g : Gl) (ks : List Int) (hl : ks.length ≤ 2^39) : CtAt Tryz.prog g 240 [rI ks] (oO (runsS ks)) := by
 refine xA Tryz.func240 fun B S => ?_
 refine xU ?_
 refine xO ?_
 refine xG [0] ?_
 refine xO ?_
 refine xG [0,3] ?_
 refine xH [0,3,4] ?_
 refine W_seq (xU ?_)
 refine xH3 [3,4,8,9,10] ?_
 refine W_block ?_
 refine W_rounds (fun m σ o => ∃ i : Nat, m = ks.length - i ∧ i ≤ ks.length ∧ σ = slots [(3, .hdr 0 0 (runsI ks i).1.length), (4, .d (vT (runsI ks i).2)), (8, .d (rI ks)), (9, .d (vI ks.length)), (10, .d (vI i))] ∧ o = [.row 2 ((runsI ks i).1.map eObj)]) ks.length
  (Weak.trans (Weak.nilRow 3 2 rfl) (Weak.kills [3,4,8,9,10] rfl) (fun _ _ _ h1 h2 => by rw [← h1.len]; exact h2)) ⟨0, by simp, by simp, by simp [runsI], by simp [runsI]⟩ ?_
 rintro m σ o ⟨i, rfl, hi, rfl, rfl⟩ _
 refine xU ?_
 refine xH [3,4,8,9,10,11] ?_
 refine W_seq (W_cond rfl ?_ ?_)
 · intro h11
   have hi2 : i < ks.length := by simpa using h11
   have hin := runsI_len (ks := ks) (i := i)
   have e2 : ((runsI ks i).1.length + 1) * 16 ≤ 140737488355328 := by omega
   have e3 : (runsI ks i).1.length ≤ 140737488355327 := by omega
   refine W_skip fun _ => ?_
   refine W_seq (W_block ?_)
   refine xU ?_
   refine xO ?_
   refine xO ?_ (h := by simp [*]; exact .mk)
   refine xO3 ?_
   refine xG [3,4,5,6,8,9,10] ?_
   refine xH3 [3,4,5,7,8,9,10] ?_
   refine W_seq (W_block ?_)
   refine xU ?_
   refine xO2 ?_
   refine xI ?_
   refine xP ?_
   refine xB ?_
   refine xQ [3,5,7,8,9,10,17] ?_ ?_
   · intro h17
     have hk : nth ks i = -1 ∧ (runsI ks i).2 = true := by simpa using h17
     have hst : runsI ks (i + 1) = (bumpR (runsI ks i).1, true) := by rw [runsI, if_pos hk.1, if_pos hk.2]
     obtain ⟨R, hRR⟩ : ∃ R, R = (runsI ks i).1 := ⟨_, rfl⟩
     obtain ⟨m, hm, hm1, hm2⟩ : ∃ m, R.length = m + 1 ∧ 1 ≤ (nth R m).2 ∧ (nth R m).2 ≤ i := by rw [hRR]; exact runsI_pos hk.2
     rw [← hRR] at hst hin ⊢
     clear hRR
     have e1 : IntKind.i64.wrap (m : Int) = m := wrap64 (by omega) (by omega)
     have em : m < R.length := by omega
     have e4 : IntKind.i64.wrap ((nth R m).2 + 1) = (nth R m).2 + 1 := wrap64 (by omega) (by omega)
     refine xY ?_
     refine xO2 ?_
     refine xO ?_ (h := by simp [hm]; exact .mk)
     refine xO ?_ (h := by simp [hm, e1]; exact .mk)
     refine xO ?_ (h := by simp [em]; exact .mk)
     refine xO ?_
     refine xO ?_ (h := by simp [-List.getElem?_map, map_get em, eObj]; exact .mk)
     refine xO ?_ (h := by simp [e4]; exact .mk)
     refine xO ?_ (h := by simp [em]; exact .mk)
     refine xO ?_
     refine xO ?_ (h := by simp [-List.getElem?_map, map_get em, eObj, nrmL, nrm, putC, splice]; exact .mk)
     refine xF [3,7,8,9,10] ?_
     refine xY ?_
     refine xH2 [3,4,8,9,10] ?_
     refine xY ?_
     refine xO2 ?_
     refine xE [3,4,8,9,10] ?_
     refine rounds_kill [3,4,8,9,10] ?_
     first
     | (refine rounds_drop 1 [3,4,8,9,10] (by decide) (by rfl) (by rfl) ?_
        refine rounds_next (m' := ks.length - (i+1)) (by omega) ⟨i+1, rfl, by omega, ?_, ?_⟩
        · rw [wrap64 (by omega) (by omega), hst]; simp [bumpR, *]; try rfl
        rw [hst]; simp [bumpR, List.map_set, eObj, nrmL, nrm, putC, splice, *]; try rfl)
     | (refine rounds_kills [3,4,8,9,10] rfl ?_
        refine rounds_swap 0 2 1 (by decide) (by simp) (by decide) rfl rfl ?_
        refine rounds_drop 1 [3,4,8,9,10] (by decide) (by rfl) (by rfl) ?_
        refine rounds_next (m' := ks.length - (i+1)) (by omega) ⟨i+1, rfl, by omega, ?_, ?_⟩
        · rw [wrap64 (by omega) (by omega), hst]; simp [hk2]; try rfl
        rw [hst]; simp [eObj]; try rfl)
   intro h17
   have hk : ¬ (nth ks i = -1 ∧ (runsI ks i).2 = true) := by simpa using h17
   refine xU ?_
   refine xO2 ?_
   refine xQ [3,5,7,8,9,10,32] ?_ ?_
   · intro h32
     have hk2 : nth ks i = -1 := by simpa using h32
     have hst : runsI ks (i + 1) = ((runsI ks i).1 ++ [((i : Int), 1)], true) := by rw [runsI, if_pos hk2, if_neg (fun h => hk ⟨hk2, h⟩)]
     refine xY ?_
     refine xO2 ?_
     refine xOs ?_
     refine xO ?_
     refine xO ?_ (h := by simp [rows, e2, e3]; exact .mk)
     refine xH [3,7,8,9,10] ?_
     refine xY ?_
     refine xH2 [3,4,8,9,10] ?_
     refine xY ?_
     refine xO2 ?_
     refine xE [3,4,8,9,10] ?_
     refine rounds_kill [3,4,8,9,10] ?_
     first
     | (refine rounds_drop 1 [3,4,8,9,10] (by decide) (by rfl) (by rfl) ?_
        refine rounds_next (m' := ks.length - (i+1)) (by omega) ⟨i+1, rfl, by omega, ?_, ?_⟩
        · rw [wrap64 (by omega) (by omega), hst]; simp [bumpR, *]; try rfl
        rw [hst]; simp [bumpR, List.map_set, eObj, nrmL, nrm, putC, splice, *]; try rfl)
     | (refine rounds_kills [3,4,8,9,10] rfl ?_
        refine rounds_swap 0 2 1 (by decide) (by simp) (by decide) rfl rfl ?_
        refine rounds_drop 1 [3,4,8,9,10] (by decide) (by rfl) (by rfl) ?_
        refine rounds_next (m' := ks.length - (i+1)) (by omega) ⟨i+1, rfl, by omega, ?_, ?_⟩
        · rw [wrap64 (by omega) (by omega), hst]; simp [hk2]; try rfl
        rw [hst]; simp [eObj]; try rfl)
   intro h32
   have hk2 : nth ks i ≠ -1 := by simpa using h32
   have hst : runsI ks (i + 1) = ((runsI ks i).1, false) := by rw [runsI, if_neg hk2]
   refine W_skip fun _ => ?_
   refine xY ?_
   refine xH2 [3,4,8,9,10] ?_
   refine xY ?_
   refine xO2 ?_
   refine xE [3,4,8,9,10] ?_
   refine rounds_kill [3,4,8,9,10] ?_
   first
   | (refine rounds_drop 1 [3,4,8,9,10] (by decide) (by rfl) (by rfl) ?_
      refine rounds_next (m' := ks.length - (i+1)) (by omega) ⟨i+1, rfl, by omega, ?_, ?_⟩
      · rw [wrap64 (by omega) (by omega), hst]; simp [bumpR, *]; try rfl
      rw [hst]; simp [bumpR, List.map_set, eObj, nrmL, nrm, putC, splice, *]; try rfl)
   | (refine rounds_kills [3,4,8,9,10] rfl ?_
      refine rounds_swap 0 2 1 (by decide) (by simp) (by decide) rfl rfl ?_
      refine rounds_drop 1 [3,4,8,9,10] (by decide) (by rfl) (by rfl) ?_
      refine rounds_next (m' := ks.length - (i+1)) (by omega) ⟨i+1, rfl, by omega, ?_, ?_⟩
      · rw [wrap64 (by omega) (by omega), hst]; simp [hk2]; try rfl
      rw [hst]; simp [eObj]; try rfl)
 intro h11
 obtain rfl : i = ks.length := by simp at h11; omega
 refine W_exit (xT ?_)
 refine xH2 [2] ?_
 refine W_ret (xR (by simp [Tryz.f240]; exact .mk) ?_)
 simp [Tryz.f240, ownR, runsS]

theorem ct210 (g : Gl) (ks : List Int) (hl : ks.length ≤ 2^39) (n : Int) : CtAt Tryz.prog g 210 [rI ks, vI n] (.tup [vI ((bestR ks n).getD (0, 0)).1, .v (.bool (bestR ks n).isSome)]) := by
 refine xA Tryz.func210 fun B S => ?_
 refine xU ?_
 refine xO2 ?_
 refine xG [0,1,4,5] ?_
 refine xH [0,1,4,5,6] ?_
 refine W_seq (xU ?_)
 refine xO ?_
 refine xC (ct240 g ks hl) ?_
 refine xO2 ?_
  
 refine xF [1,4,5,6,10,11,12] ?_
 refine W_block ?_
 obtain ⟨R, hR⟩ : ∃ R, R = runsS ks := ⟨_, rfl⟩
 have hbb : bestR ks n = R.foldl (bestRStep n) none := by rw [hR]; rfl
 have hRl : R.length ≤ ks.length := by rw [hR]; exact runsI_len
 rw [hbb]
 simp only [← hR]
 refine W_rounds (fun m σ o => ∃ i : Nat, m = R.length - i ∧ i ≤ R.length ∧ σ = slots [(1, .d (vI n)), (4, .d (vI (((R.take i).foldl (bestRStep n) none).getD (0, 0)).1)), (5, .d (vT ((R.take i).foldl (bestRStep n) none).isSome)), (6, .d (vI (((R.take i).foldl (bestRStep n) none).getD (0, 0)).2)), (10, .hdr 0 0 R.length), (11, .d (vI R.length)), (12, .d (vI i))] ∧ o = [.row 2 (R.map eObj)]) R.length (Weak.kills [1,4,5,6,10,11,12] rfl) ⟨0, by simp, by simp, by simp, by simp⟩ ?_
 rintro m σ o ⟨i, rfl, hi, rfl, rfl⟩ _
 refine xU ?_
 refine xH [1,4,5,6,10,11,12,13] ?_
 refine W_seq (W_cond rfl ?_ ?_)
 · intro h13
   have hi2 : i < R.length := by simpa using h13
   have hst : (R.take (i + 1)).foldl (bestRStep n) none = bestRStep n ((R.take i).foldl (bestRStep n) none) (nth R i) := by rw [take_succ hi2, List.foldl_append]; rfl
   obtain ⟨b, hb⟩ : ∃ b, b = (R.take i).foldl (bestRStep n) none := ⟨_, rfl⟩
   rw [← hb] at hst ⊢
   refine W_skip fun _ => ?_
   refine W_seq (W_block ?_)
   refine xU ?_
   refine xO ?_ (h := by simp [eObj, hi2]; exact .mk)
   refine xO ?_ (h := by simp [-List.getElem?_map, map_get hi2, eObj]; exact .mk)
   refine xO ?_
   refine xOs ?_
   refine xF [1,4,5,6,8,10,11,12] ?_
   refine W_seq ?_
   rcases b with _ | b
   · skip
     skip
     refine xY ?_
     refine xO3 ?_
     refine xI ?_
     refine xI ?_ (h := fun hb => by simp [eObj]; exact .mk)
     iterate 2 refine xI ?_
     refine xP ?_
     refine xB ?_
     iterate 4 refine xI ?_
     refine xI ?_ (h := fun hb => by simp [eObj]; exact .mk)
     iterate 2 refine xI ?_
     iterate 2 refine xP ?_
     refine xQ [1,4,5,6,8,10,11,12,33] ?_ ?_
     · intro h33
       have hs : (R.take (i + 1)).foldl (bestRStep n) none = some (nth R i) := by rw [hst, bestRStep, if_pos (by simp at h33 ⊢; omega)]
       refine W_regD (by kernel_rfl) [] 4 [0,1,2,3,4,5,6] (by decide +kernel) ?_
       refine xO ?_
       refine xO ?_ (h := by simp [eObj]; exact .mk)
       refine xO ?_
       refine xO ?_ (h := by simp [eObj]; exact .mk)
       refine xH3 [1,4,5,6,10,11,12] ?_
       refine xY ?_
       refine xO2 ?_
       refine xE [1,4,5,6,10,11,12] ?_
       refine rounds_drop 1 [1,4,5,6,10,11,12] (by simp) (by simp) (by simp) ?_
       refine rounds_next (m' := R.length - (i+1)) (by omega) ⟨i+1, rfl, by omega, ?_, rfl⟩
       rw [wrap64 (by omega) (by omega), hs]; rfl
     intro h33
     have hs : (R.take (i + 1)).foldl (bestRStep n) none = none := by rw [hst, bestRStep, if_neg (by simp at h33 ⊢; omega)]
     refine W_skip fun _ => ?_
     refine xY ?_
     refine xO2 ?_
     refine xE [1,4,5,6,10,11,12] ?_
     refine rounds_drop 1 [1,4,5,6,10,11,12] (by simp) (by simp) (by simp) ?_
     refine rounds_next (m' := R.length - (i+1)) (by omega) ⟨i+1, rfl, by omega, ?_, rfl⟩
     rw [wrap64 (by omega) (by omega), hs]; rfl
   skip
   skip
   refine xY ?_
   refine xO3 ?_
   refine xI ?_
   refine xI ?_ (h := fun hb => by simp [eObj]; exact .mk)
   iterate 2 refine xI ?_
   refine xP ?_
   refine xB ?_
   iterate 4 refine xI ?_
   refine xI ?_ (h := fun hb => by simp [eObj]; exact .mk)
   iterate 2 refine xI ?_
   iterate 2 refine xP ?_
   refine xQ [1,4,5,6,8,10,11,12,33] ?_ ?_
   · intro h33
     have hs : (R.take (i + 1)).foldl (bestRStep n) none = some (nth R i) := by rw [hst, bestRStep, if_pos (by simp at h33 ⊢; omega)]
     refine W_regD (by kernel_rfl) [] 4 [0,1,2,3,4,5,6] (by decide +kernel) ?_
     refine xO ?_
     refine xO ?_ (h := by simp [eObj]; exact .mk)
     refine xO ?_
     refine xO ?_ (h := by simp [eObj]; exact .mk)
     refine xH3 [1,4,5,6,10,11,12] ?_
     refine xY ?_
     refine xO2 ?_
     refine xE [1,4,5,6,10,11,12] ?_
     refine rounds_drop 1 [1,4,5,6,10,11,12] (by simp) (by simp) (by simp) ?_
     refine rounds_next (m' := R.length - (i+1)) (by omega) ⟨i+1, rfl, by omega, ?_, rfl⟩
     rw [wrap64 (by omega) (by omega), hs]; rfl
   intro h33
   have hs : (R.take (i + 1)).foldl (bestRStep n) none = some b := by rw [hst, bestRStep, if_neg (by simp at h33 ⊢; omega)]
   refine W_skip fun _ => ?_
   refine xY ?_
   refine xO2 ?_
   refine xE [1,4,5,6,10,11,12] ?_
   refine rounds_drop 1 [1,4,5,6,10,11,12] (by simp) (by simp) (by simp) ?_
   refine rounds_next (m' := R.length - (i+1)) (by omega) ⟨i+1, rfl, by omega, ?_, rfl⟩
   rw [wrap64 (by omega) (by omega), hs]; rfl
 intro h13
 obtain rfl : i = R.length := by simp at h13; omega
 rw [List.take_length]
 refine W_exit (xT ?_)
 refine xO4 ?_
 refine xF [4,5] ?_
 refine W_ret (xR (by simp [Tryz.f210]; exact .mk) ?_)
 simp [Tryz.f210]

open Go.Awp
theorem in208 (g : Gl) (ks : List Int) (ms : List Nat) (h1 : ms.length = 64) (h2 : ks.length ≤ 64) (h3 : ∀ i, i < 64 → nth ms i < 2^64) (c : Nat) (hc : c < 6) : ∀ B S, CallsA Tryz.prog g B S ⟨4, true⟩ 208 [.ptr 3 0 0, .d (vI c)] [.var 157 [.ptr 3 0 0], .var 4 [.d (vT true)], .row 1 (ks.map vI), .var 163 (AV.hdr 2 0 ks.length :: ms.map cU)]
    (fun x r => x = .tup [.d (vI ((cellR ks ms c).getD 0)), .d (vT (cellR ks ms c).isSome)] ∧ r = [.var 157 [.ptr 3 0 0], .var 4 [.d (vT true)], .row 1 (ks.map vI), .var 163 (AV.hdr 2 0 ks.length :: ms.map cU)]) := by
 refine callsA_at Tryz.func208 rfl (Nat.le_of_ble_eq_true rfl) fun B S => ?_
 obtain ⟨m, hm⟩ : ∃ m : Nat, (cellsS c).1 = m := ⟨(cellsS c).1.toNat, by have := cells_max c hc; omega⟩
 have hmm : (cellsS c).1.toNat = m := by omega
 have hm14 : m ≤ 14 := by have := cells_max c hc; omega
 refine xU ?_
 refine xO2 ?_
 refine xG [0,1] ?_
 refine xO ?_
 refine xC (ct238 g c) ?_
 refine xO5 ?_
 refine xF [0,1,6] ?_
 refine W_seq (xU ?_)
 iterate 6 refine xO ?_
 refine xF [0,1,6,23,24,25] ?_
 refine W_block (W_rounds (fun f σ o => ∃ p : Nat, f = ks.length - p ∧ p ≤ ks.length ∧ (∀ q, q < p → (openC ks ms c m q).isSome = false) ∧ σ = slots [(0, .ptr 3 0 0), (1, .d (vI c)), (6, .d (vI m)), (23, .hdr 2 0 ks.length), (24, .d (vI ks.length)), (25, .d (vI p))] ∧ o = [.var 157 [.ptr 3 0 0], .var 4 [.d (vT true)], .row 1 (ks.map vI), .var 163 (AV.hdr 2 0 ks.length :: ms.map cU)]) ks.length (Weak.kills [0,1,6,23,24,25] (by simp [pickL, hm])) ⟨0, by simp, by simp, by simp, rfl, rfl⟩ ?_)
 rintro f σ o ⟨p, rfl, hp, hinv, rfl, rfl⟩ _
 refine xU ?_
 refine xH [0,1,6,23,24,25,26] ?_
 refine W_seq (W_cond rfl ?_ ?_)
 · intro h26
   have hp2 : p < ks.length := by simpa using h26
   have q1 : (p : Int) < 64 := by omega
   have r1 : p < ms.length := by omega
   have d1 := drop_cons_nth (f := cU) r1
   refine W_skip fun _ => ?_
   refine W_seq (W_block ?_)
   refine xU ?_
   refine xO ?_
   refine xO ?_ (h := by simp [hp2]; exact .mk)
   refine xO ?_ (h := by simp [-List.getElem?_map, map_get hp2]; exact .mk)
   refine xO2 ?_
   refine xG [0,1,6,8,9,23,24,25] ?_
   refine xH2 [0,1,6,8,9,23,24,25,30,31] ?_
   refine W_block (W_rounds (fun f σ o => ∃ k : Nat, f = m - k ∧ k ≤ m ∧ (nth ks p = c → ∀ j, j < k → (nth ms p).testBit j = true) ∧ σ = slots [(0, .ptr 3 0 0), (1, .d (vI c)), (6, .d (vI m)), (8, .d (vI p)), (9, .d (vI (nth ks p))), (23, .hdr 2 0 ks.length), (24, .d (vI ks.length)), (25, .d (vI p)), (30, .d (vI m)), (31, .d (vI k))] ∧ o = [.var 157 [.ptr 3 0 0], .var 4 [.d (vT true)], .row 1 (ks.map vI), .var 163 (AV.hdr 2 0 ks.length :: ms.map cU)]) m .refl ⟨0, by simp, by simp, by simp, rfl, rfl⟩ ?_)
   rintro f σ o ⟨k, rfl, hk, hin2, rfl, rfl⟩ _
   refine xU ?_
   refine xH [0,1,6,8,9,23,24,25,30,31,32] ?_
   refine W_seq (W_cond rfl ?_ ?_)
   · intro h32
     have hk2 : k < m := by simpa using h32
     have hk64 : k < 64 := by omega
     have hg := h3 p (by omega)
     obtain ⟨z, hz⟩ : ∃ z : Nat, z = nth ms p >>> k := ⟨_, rfl⟩
     have b1 := shrO (m := nth ms p) hk64
     rw [← hz] at b1
     have hz64 : z < 2 ^ 64 := by rw [hz, Nat.shiftRight_eq_div_pow]; exact Nat.lt_of_le_of_lt (Nat.div_le_self _ _) hg
     have b2 := andO (b := 1) hz64 (by decide)
     have hbit := bit2 hz
     refine W_skip fun _ => ?_
     refine W_seq (W_block ?_)
     refine xU ?_
     refine xO2 ?_
     refine xG [0,1,6,8,9,10,23,24,25,30,31] ?_
     refine xO4 ?_
     iterate 4 refine xI ?_
     refine xI ?_ (h := fun hb => by simp [indexAddrA, q1]; exact .mk)
     refine xI ?_ (h := fun hb => by simp [cU, d1]; exact .mk)
     refine xI ?_
     refine xI ?_ (h := fun hb => by simp [b1]; exact .mk)
     refine xI ?_ (h := fun hb => by simp [b2]; exact .mk)
     refine xI ?_
     refine xP ?_
     refine xQ [0,1,6,8,9,10,23,24,25,30,31,48] ?_ ?_
     · intro h48
       have hh : nth ks p = c ∧ (nth ms p).testBit k = false := by rw [hbit]; simp at h48 ⊢; omega
       have ho : openC ks ms c m p = some k := openC_some hh.1 hk2 (hin2 hh.1) hh.2
       have hsl : slabR ks ms c = some p := slabR_some (m := m) hmm hp2 hinv ho
       have hr : cellR ks ms c = some ((p : Int) * 32 + (cellS c k).1) := by unfold cellR; rw [hsl]; simp only; rw [hmm, ho]; rfl
       have ct := cells_tab c hc k (by omega) (by omega)
       have w1 : IntKind.i64.wrap ((p : Int) * 32) = (p : Int) * 32 := wrap64 (by omega) (by omega)
       have w2 : IntKind.i64.wrap ((p : Int) * 32 + (cellS c k).1) = (p : Int) * 32 + (cellS c k).1 := wrap64 (by omega) (by omega)
       refine xU ?_
       refine xO2 ?_
       refine xC (ct239 g c k) ?_
       refine xO5 ?_
       refine xG [8,11] ?_
       refine xO ?_
       refine xO ?_ (h := by simp [w1]; exact .mk)
       refine xO ?_
       refine xO ?_ (h := by simp [w1, w2]; exact .mk)
       refine xH2 [4,5] ?_
       refine W_ret (endAt_ret (by simp [Tryz.f208]; exact .mk) ?_ ?_)
       · simp [hr]
       rfl
     intro h48
     refine W_skip fun _ => ?_
     refine xY ?_
     refine xO2 ?_
     refine xE [0,1,6,8,9,23,24,25,30,31] ?_
     refine rounds_kill [0,1,6,8,9,23,24,25,30,31] ?_
     refine rounds_next (m' := m - (k+1)) (by omega) ⟨k+1, rfl, by omega, fun e j hj => ?_, ?_, rfl⟩
     · rcases Nat.lt_succ_iff_lt_or_eq.1 hj with hj | rfl
       · exact hin2 e j hj
       rw [hbit]; simp [e] at h48 ⊢; omega
     rw [wrap64 (by omega) (by omega)]; rfl
   intro h32
   obtain rfl : k = m := by simp at h32; omega
   refine W_exit ?_
   rintro -
   refine xY ?_
   refine xO2 ?_
   refine xE [0,1,6,23,24,25] ?_
   refine rounds_kill [0,1,6,23,24,25] ?_
   refine rounds_next (m' := ks.length - (p+1)) (by omega) ⟨p+1, rfl, by omega, fun q hq => ?_, ?_, rfl⟩
   · rcases Nat.lt_succ_iff_lt_or_eq.1 hq with hq | rfl
     · exact hinv q hq
     exact openC_none hin2
   rw [wrap64 (by omega) (by omega)]; rfl
 intro h26
 obtain rfl : p = ks.length := by simp at h26; omega
 have hsl : slabR ks ms c = none := slabR_none (m := m) hmm hinv
 have hr0 : cellR ks ms c = (freeR ks).map fun (p : Nat) => (p : Int) * 32 + 4 := by unfold cellR; rw [hsl]
 refine W_exit ?_
 rintro -
 refine W_seq (xU ?_)
 iterate 6 refine xO ?_
 refine xF [64,65,66] ?_
 refine W_block (W_rounds (fun f σ o => ∃ p : Nat, f = ks.length - p ∧ p ≤ ks.length ∧ (∀ q, q < p → nth ks q ≠ -1) ∧ σ = slots [(64, .hdr 2 0 ks.length), (65, .d (vI ks.length)), (66, .d (vI p))] ∧ o = [.var 157 [.ptr 3 0 0], .var 4 [.d (vT true)], .row 1 (ks.map vI), .var 163 (AV.hdr 2 0 ks.length :: ms.map cU)]) ks.length .refl ⟨0, by simp, by simp, by simp, rfl, rfl⟩ ?_)
 rintro f σ o ⟨p, rfl, hp, hin3, rfl, rfl⟩ _
 refine xU ?_
 refine xH [64,65,66,67] ?_
 refine W_seq (W_cond rfl ?_ ?_)
 · intro h67
   have hp2 : p < ks.length := by simpa using h67
   refine W_skip fun _ => ?_
   refine W_seq (W_block ?_)
   refine xU ?_
   refine xO ?_
   refine xO ?_ (h := by simp [hp2]; exact .mk)
   refine xO ?_ (h := by simp [-List.getElem?_map, map_get hp2]; exact .mk)
   refine xO2 ?_
   refine xG [13,14,64,65,66] ?_
   refine xO2 ?_
   refine xQ [13,64,65,66,72] ?_ ?_
   · intro h72
     have hk : nth ks p = -1 := by simpa using h72
     have hr : cellR ks ms c = some ((p : Int) * 32 + 4) := by rw [hr0, freeR_some hp2 hk hin3]; rfl
     have w1 : IntKind.i64.wrap ((p : Int) * 32) = (p : Int) * 32 := wrap64 (by omega) (by omega)
     have w2 : IntKind.i64.wrap ((p : Int) * 32 + 4) = (p : Int) * 32 + 4 := wrap64 (by omega) (by omega)
     refine xU ?_
     refine xO ?_
     refine xO ?_ (h := by simp [w1]; exact .mk)
     refine xO ?_ (h := by simp [w1, w2]; exact .mk)
     refine xH2 [4,5] ?_
     refine W_ret (endAt_ret (by simp [Tryz.f208]; exact .mk) ?_ ?_)
     · simp [hr]
     rfl
   intro h72
   refine W_skip fun _ => ?_
   refine xY ?_
   refine xO2 ?_
   refine xE [64,65,66] ?_
   refine rounds_kill [64,65,66] ?_
   refine rounds_next (m' := ks.length - (p+1)) (by omega) ⟨p+1, rfl, by omega, fun q hq => ?_, ?_, rfl⟩
   · rcases Nat.lt_succ_iff_lt_or_eq.1 hq with hq | rfl
     · exact hin3 q hq
     simpa using h72
   rw [wrap64 (by omega) (by omega)]; rfl
 intro h67
 have hr : cellR ks ms c = none := by rw [hr0, freeR_none (fun q hq => hin3 q (by simp at h67; omega))]; rfl
 refine W_exit (xT ?_)
 refine xH2 [4,5] ?_
 refine W_ret (endAt_ret (by simp [Tryz.f208]; exact .mk) ?_ ?_)
 · simp [hr]
 rfl

open Go.Awp
theorem ct152 (g : Gl) (pages : Int) (l : List (Int × Int)) (hl : l.length ≤ 2^40) (ho : ∀ i, i < l.length → (nth l i).1 ≤ 2^40) (n : Int) : CtAt Tryz.prog g 152 [vI pages, rO l, vI n] (.tup [vI ((placeS pages l n).getD 0), .v (.bool (placeS pages l n).isSome)]) := by
 refine xA Tryz.func152 fun B S => ?_
 have hc := in141 g pages l hl ho
 refine xU ?_
 refine xH2 [0,1,2] ?_
 refine W_seq ?_
 cases hr0 : laidS pages l
 · skip
   simp only [hr0] at hc
   have hr : placeS pages l n = none := by unfold placeS; rw [hr0]
   refine xY ?_
   refine xO2 ?_
   refine run_inl0 rfl rfl rfl rfl (by simp; exact .mk) ⟨_, Tryz.func141, rfl, rfl⟩ hc (.inl (by simp)) ?_
   refine xO5 ?_
   refine xF [2,8,9] ?_
   refine W_seq (xU ?_)
   refine xO2 ?_
   refine xQ [2,8,23] ?_ ?_
   · intro h23
     refine xU ?_
     refine xH2 [6,7] ?_
     refine W_ret (xR (by simp [Tryz.f152]; exact .mk) ?_)
     first | (simp [Tryz.f152, hr]; done) | (simp [Tryz.f152, hr]; cases b <;> simp)
   intro h23
   simp at h23
 skip
 rename_i y
 simp only [hr0] at hc
 have L := laidP hr0
 obtain ⟨hp0, hokk, hy⟩ := laidS_some hr0
 have hlt := stI_lt (pages := pages) (l := l) (i := l.length)
 rw [← hy] at hlt
 obtain ⟨ks, ms⟩ := y
 simp only at hc L hlt
 have hks := L.len
 rw [← hks] at hc
 refine xY ?_
 refine xO2 ?_
 refine run_inl0 rfl rfl rfl rfl (by simp; exact .mk) ⟨_, Tryz.func141, rfl, rfl⟩ hc (.inl (by simp)) ?_
 refine xO5 ?_
 refine xF [2,8,9] ?_
 refine W_seq (xU ?_)
 refine xO2 ?_
 refine xQ [2,8,23] ?_ ?_
 · intro h23
   simp at h23
 intro h23
 refine W_skip fun _ => ?_
 refine W_seq (xU ?_)
 refine xO ?_
 refine xC (ct207 g n) ?_ (he := by simp [show (D.roed ∘ vI) = vI from funext fun _ => roed_v _]; exact .mk)
 refine xO5 ?_
 refine xG [2,8,10,11] ?_
 refine xO ?_
 refine xQ [2,8,10,29] ?_ ?_
 · intro h29
   have hcl : (classS n).2 = true := h29
   obtain ⟨c, hc6, hcn⟩ := classS_c hcl
   have hr : placeS pages l n = cellR ks ms c := by unfold placeS; rw [hr0]; simp only; rw [if_pos hcl, hcn]
   rw [hcn]
   refine xU ?_
   refine xO2 ?_
   refine run_inl0 rfl rfl rfl rfl (by simp; exact .mk) ⟨_, Tryz.func208, rfl, rfl⟩ (in208 g ks ms L.len2 (by have := L.len; omega) hlt c hc6) (.inl (by simp)) ?_
   refine xO4 ?_
   refine xF [6,7] ?_
   refine W_ret (xR (by simp [Tryz.f152]; exact .mk) ?_)
   first | (simp [Tryz.f152, hr]; done) | (simp [Tryz.f152, hr]; cases b <;> simp)
 intro h29
 have hcl : ¬ (classS n).2 = true := by simpa using h29
 refine W_skip ?_
 refine xT ?_
 refine xO ?_
 refine xC (ct209 g n) ?_ (he := by simp [show (D.roed ∘ vI) = vI from funext fun _ => roed_v _]; exact .mk)
 refine xO5 ?_
 refine xF [8,12,13] ?_
 refine W_seq (xU ?_)
 refine xO2 ?_
 refine xQ [8,12,41] ?_ ?_
 · intro h41
   have hr : placeS pages l n = none := by unfold placeS; rw [hr0]; simp only; rw [if_neg hcl, if_pos (by simpa using h41)]
   refine xU ?_
   refine xH2 [6,7] ?_
   refine W_ret (xR (by simp [Tryz.f152]; exact .mk) ?_)
   first | (simp [Tryz.f152, hr]; done) | (simp [Tryz.f152, hr]; cases b <;> simp)
 intro h41
 have hr : placeS pages l n = (bestR ks (pagesS n).1).map fun g => g.1 * 32 := by unfold placeS; rw [hr0]; simp only; rw [if_neg hcl, if_neg (by simpa using h41)]
 have hbb := bestR_b (ks := ks) (n := (pagesS n).1)
 have c137 := ct210 g ks (by have := L.len; omega) (pagesS n).1
 obtain ⟨b, hb⟩ : ∃ b, b = bestR ks (pagesS n).1 := ⟨_, rfl⟩
 rw [← hb] at hr hbb c137
 have w1 : IntKind.i64.wrap ((b.getD (0, 0)).1 * 32) = (b.getD (0, 0)).1 * 32 := wrap64 (by omega) (by omega)
 refine W_skip ?_
 refine xT ?_
 refine xO5 ?_
 refine xC (c137) ?_ (he := by simp [show (D.roed ∘ vI) = vI from funext fun _ => roed_v _]; exact .mk)
 refine xO5 ?_
 refine xG [14,15] ?_
 refine xO ?_
 refine xO ?_ (h := by simp [w1]; exact .mk)
 refine xH3 [6,7] ?_
 refine W_ret (xR (by simp [Tryz.f152]; exact .mk) ?_)
 first | (simp [Tryz.f152, hr]; done) | (simp [Tryz.f152, hr]; cases b <;> simp)

open Go.Awp
theorem ct103 (g : Gl) (s : Stt) (hs : s.Ok) (hR : sttS s = true) (two : Bool) (n : Int) : CtAt Tryz.prog g 103 [eStt s, vT two, vI n] (.tup [vI ((roomW s two n).getD 0), .v (.bool (roomW s two n).isSome)]) := by
 refine xA Tryz.func103 fun B S => ?_
 simp only [eStt, List.map, argD_agg, argD_v]
 have hb := superS_b (sttS_super hR)
 have hT := sttS_rows hR
 have hl32 := tableS_len hT
 have htl := twosO_len (l := s.slots)
 refine xU ?_
 refine xH3 [1,2,3] ?_
 refine W_seq (xU ?_)
 refine xO2 ?_
 refine xQ [2,3,11] ?_ ?_
 · intro h11
   have hr : roomW s two n = oneS s n := by unfold roomW; rw [if_neg (by simpa using h11)]
   refine xU ?_
   refine xO2 ?_
   refine xC (ct151 g s hs hR n) ?_
   refine xO4 ?_
   refine xF [6,7] ?_
   refine W_ret (xR (by simp [Tryz.f103]; exact .mk) ?_)
   simp [Tryz.f103, hr]
 intro h11
 have hr : roomW s two n = placeS s.base (twosO s.slots) n := by unfold roomW; rw [if_pos (by simpa using h11)]
 refine W_skip ?_
 refine xT ?_
 refine xO ?_
 refine xC (ct22 g s hs) ?_
 refine xO5 ?_
 refine xG [2,3,8] ?_
 refine xO4 ?_
 refine xC (ct152 g s.base (twosO s.slots) (by omega) (twosO_le hT) n) ?_
 refine xO4 ?_
 refine xF [6,7] ?_
 refine W_ret (xR (by simp [Tryz.f103]; exact .mk) ?_)
 simp [Tryz.f103, hr]

theorem ct38 (g : Gl) (s : Stt) (hs : s.Ok) (two : Bool) (n : Int) : CtAt Tryz.prog g 38 [eStt s, vT two, vI n] (.tup [vI ((roomS s two n).getD 0), .v (.bool (roomS s two n).isSome)]) := by
 refine xA Tryz.func38 fun B S => ?_
 simp only [eStt, List.map, argD_agg, argD_v]
 refine xU ?_
 refine xH3 [1,2,3] ?_
 refine W_seq (xU ?_)
 refine xO ?_
 refine xC (ct32 g s hs) ?_
 refine xO2 ?_
 refine xI ?_
 refine run_call rfl (by simp; exact .mk) rfl rfl (by simp) (by simp; exact .mk) (by simp; exact .mk) (fun hb => ct102 g n) (by simp) (by simp; exact .mk) (by simp) ?_
 refine xI ?_
 refine xP ?_
 refine xQ [1,2,3,15] ?_ ?_
 · intro h15
   have hr : roomS s two n = none := by unfold roomS; rw [if_neg]; simp at h15 ⊢; grind
   refine xU ?_
   refine xH2 [6,7] ?_
   refine W_ret (xR (by simp [Tryz.f38]; exact .mk) ?_)
   simp [Tryz.f38, hr]
 intro h15
 have hR : sttS s = true ∧ sizedN n = true := by simp at h15; grind
 have hr : roomS s two n = roomW s two n := by unfold roomS; rw [if_pos (by simp [hR])]
 refine W_skip ?_
 refine xT ?_
 refine xO3 ?_
 refine xC (ct103 g s hs hR.1 two n) ?_
 refine xO4 ?_
 refine xF [6,7] ?_
 refine W_ret (xR (by simp [Tryz.f38]; exact .mk) ?_)
 simp [Tryz.f38, hr]

open Go.Awp
theorem in107 (g : Gl) (o0 o1 o2 o3 o4 : Awp.Obj) (mode : Int) : ∀ B S, CallsA Tryz.prog g B S ⟨5, true⟩ 107 [.d (vI mode)] [o0, o1, o2, o3, o4]
    (fun x r => x = .fn (.func 159) [] [.ptr 5 0 0] ∧ r = [o0, o1, o2, o3, o4, .var 3 [.d (vI mode)]]) := by
 refine callsA_at Tryz.func107 rfl (Nat.le_of_ble_eq_true rfl) fun B S => ?_
 refine xU ?_
 refine xO2 ?_
 refine xE [1] ?_
 refine xT ?_
 refine xO2 ?_
 refine xE [2] fun _ => ?_
 refine W_ret (endAt_ret (by simp [Tryz.f107]; exact .mk) ?_ ?_)
 · simp
 simp

theorem in159 (g : Gl) (mode : Int) (b lb : Nat) (c : LoopC) (L : List (Nat × AV)) (hc1 : c.params.size = 1) (hc2 : ∀ p ∈ c.params.toList, p < c.n) (a0 a1 a2 a3 a4 : Awp.Obj) (d2 d3 d4 : Bool → Awp.Obj) (ok : Bool → Bool)
    (z0 : a0.lt 8 = true) (z1 : a1.lt 8 = true) (z2 : a2.lt 8 = true) (z3 : a3.lt 8 = true) (z4 : a4.lt 8 = true) (y2 : ∀ t, (d2 t).lt 8 = true) (y3 : ∀ t, (d3 t).lt 8 = true) (y4 : ∀ t, (d4 t).lt 8 = true) (zL : (L.all fun p => p.2.lt 8) = true)
    (hround : ∀ two, ∀ B S, RoundI Tryz.prog g B S lb 7 c L [.d (vT two)] [a0, a1, a2, a3, a4, .var 3 [.d (vI mode)], .blk b, .lp lb c L .ready none] (fun bb o => bb = ok two ∧ o = if ok two = true then [a0, a1, a2, a3, a4, .var 3 [.d (vI mode)], .blk b, .lp lb c L .ready none] else [a0, a1, d2 two, d3 two, d4 two, .var 3 [.d (vI mode)], .blk b, .lp lb c L .done (some .ret)])) :
    ∀ B S, CallsA Tryz.prog g B S ⟨8, true⟩ 159 [.fn (.yield lb) [] [], .ptr 5 0 0] [a0, a1, a2, a3, a4, .var 3 [.d (vI mode)], .blk b, .lp lb c L .ready none] (fun x r => x = .tup [] ∧ r = (match firstB mode ok with | none => [a0, a1, a2, a3, a4, .var 3 [.d (vI mode)], .blk b, .lp lb c L .ready none] | some two => [a0, a1, d2 two, d3 two, d4 two, .var 3 [.d (vI mode)], .blk b, .lp lb c L .done (some .ret)])) := by
 refine callsA_WI Tryz.func159 rfl (Nat.le_of_ble_eq_true rfl) fun B S => ?_
 refine WI_seq ?_
 refine WI_reg rfl ?_ (by decide +kernel)
 refine xO ?_
 refine xE [0,3] fun _ => ?_
 refine WI_block ?_
 refine WI_seq ?_
 refine WI_reg rfl ?_ (by decide +kernel)
 refine xO2 ?_
 refine xE [0,3,4] fun _ => ?_
 refine WI_cond rfl ?_ ?_
 · intro h4
   have hm : mode = 1 := by simpa using h4
   refine WI_regN rfl ?_
   refine WRI_run [0] [1] rfl (by decide +kernel) ?_
   refine xB ?_
   refine run_nil ?_
   refine WRI_yield (fun bb o => bb = ok false ∧ o = if ok false = true then [a0, a1, a2, a3, a4, .var 3 [.d (vI mode)], .blk b, .lp lb c L .ready none] else [a0, a1, d2 false, d3 false, d4 false, .var 3 [.d (vI mode)], .blk b, .lp lb c L .done (some .ret)]) rfl (by simp; exact .mk) rfl rfl rfl (by simp) (by simp; exact .mk) (by simp; exact .mk) rfl hc1 hc2 (hround false) ?_
   rintro bb o2 ⟨rfl, rfl⟩
   cases hokf : ok false
   · skip
     have hr : firstB mode ok = some false := by simp [firstB, pickB, *]
     simp only [Bool.false_eq_true, if_false]
     refine WRI_ends [] (by decide +kernel) ?_
     refine xE [] ?_
     try simp only [thenI_ret, roundsI_ret, inBlkI_ret, thenI_exit, roundsI_exit, inBlkI_exit, inBlkI_normal, if_true]
     refine endInM_normal (fn := Tryz.f159) (rs := []) 8 .nil ?_ (Nat.le_refl _) ?_ ?_ ?_
     · simp [Tryz.f159]; exact .mk
     · rfl
     · simp [z0, z1, z2, z3, z4, y2, y3, y4, zL]
     exact ⟨rfl, by rw [hr]; rfl⟩
   skip
   have hr : firstB mode ok = none := by simp [firstB, pickB, *]
   simp only [if_true]
   refine WRI_ends [] (by decide +kernel) ?_
   refine xE [] ?_
   try simp only [thenI_ret, roundsI_ret, inBlkI_ret, thenI_exit, roundsI_exit, inBlkI_exit, inBlkI_normal, if_true]
   refine endInM_normal (fn := Tryz.f159) (rs := []) 8 .nil ?_ (Nat.le_refl _) ?_ ?_ ?_
   · simp [Tryz.f159]; exact .mk
   · rfl
   · simp [z0, z1, z2, z3, z4, y2, y3, y4, zL]
   exact ⟨rfl, by rw [hr]; rfl⟩
 intro h4
 have n1 : ¬ mode = 1 := by simpa using h4
 refine WI_seq ?_
 refine WI_reg rfl ?_ (by decide +kernel)
 refine xO2 ?_
 refine xE [0,3,8] fun _ => ?_
 refine WI_cond rfl ?_ ?_
 · intro h8
   have hm : mode = 2 := by simpa using h8
   refine WI_regN rfl ?_
   refine WRI_run [0] [1] rfl (by decide +kernel) ?_
   refine xB ?_
   refine run_nil ?_
   refine WRI_yield (fun bb o => bb = ok true ∧ o = if ok true = true then [a0, a1, a2, a3, a4, .var 3 [.d (vI mode)], .blk b, .lp lb c L .ready none] else [a0, a1, d2 true, d3 true, d4 true, .var 3 [.d (vI mode)], .blk b, .lp lb c L .done (some .ret)]) rfl (by simp; exact .mk) rfl rfl rfl (by simp) (by simp; exact .mk) (by simp; exact .mk) rfl hc1 hc2 (hround true) ?_
   rintro bb o2 ⟨rfl, rfl⟩
   cases hokt : ok true
   · skip
     have hr : firstB mode ok = some true := by simp [firstB, pickB, *]
     simp only [Bool.false_eq_true, if_false]
     refine WRI_ends [] (by decide +kernel) ?_
     refine xE [] ?_
     try simp only [thenI_ret, roundsI_ret, inBlkI_ret, thenI_exit, roundsI_exit, inBlkI_exit, inBlkI_normal, if_true]
     refine endInM_normal (fn := Tryz.f159) (rs := []) 8 .nil ?_ (Nat.le_refl _) ?_ ?_ ?_
     · simp [Tryz.f159]; exact .mk
     · rfl
     · simp [z0, z1, z2, z3, z4, y2, y3, y4, zL]
     exact ⟨rfl, by rw [hr]; rfl⟩
   skip
   have hr : firstB mode ok = none := by simp [firstB, pickB, *]
   simp only [if_true]
   refine WRI_ends [] (by decide +kernel) ?_
   refine xE [] ?_
   try simp only [thenI_ret, roundsI_ret, inBlkI_ret, thenI_exit, roundsI_exit, inBlkI_exit, inBlkI_normal, if_true]
   refine endInM_normal (fn := Tryz.f159) (rs := []) 8 .nil ?_ (Nat.le_refl _) ?_ ?_ ?_
   · simp [Tryz.f159]; exact .mk
   · rfl
   · simp [z0, z1, z2, z3, z4, y2, y3, y4, zL]
   exact ⟨rfl, by rw [hr]; rfl⟩
 intro h8
 have n2 : ¬ mode = 2 := by simpa using h8
 refine WI_seq ?_
 refine WI_reg rfl ?_ (by decide +kernel)
 refine xO2 ?_
 refine xE [0,3,12] fun _ => ?_
 refine WI_cond rfl ?_ ?_
 · intro h12
   have hm : mode = 3 := by simpa using h12
   refine WI_regN rfl ?_
   refine WRI_run [0] [1,2,3,4,5] rfl (by decide +kernel) ?_
   refine xB ?_
   refine run_nil ?_
   refine WRI_yield (fun bb o => bb = ok true ∧ o = if ok true = true then [a0, a1, a2, a3, a4, .var 3 [.d (vI mode)], .blk b, .lp lb c L .ready none] else [a0, a1, d2 true, d3 true, d4 true, .var 3 [.d (vI mode)], .blk b, .lp lb c L .done (some .ret)]) rfl (by simp; exact .mk) rfl rfl rfl (by simp) (by simp; exact .mk) (by simp; exact .mk) rfl hc1 hc2 (hround true) ?_
   rintro bb o2 ⟨rfl, rfl⟩
   cases hokt : ok true
   · skip
     have hr : firstB mode ok = some true := by simp [firstB, pickB, *]
     simp only [Bool.false_eq_true, if_false]
     refine WRI_ends [2,3,4,5] (by decide +kernel) ?_
     refine xB ?_
     iterate 2 (refine run_not (av := .d (.v (.bool false))) rfl (by simp; exact .mk) rfl ?_)
     refine xP ?_
     refine xE [] ?_
     try simp only [thenI_ret, roundsI_ret, inBlkI_ret, thenI_exit, roundsI_exit, inBlkI_exit, inBlkI_normal, if_true]
     refine endInM_normal (fn := Tryz.f159) (rs := []) 8 .nil ?_ (Nat.le_refl _) ?_ ?_ ?_
     · simp [Tryz.f159]; exact .mk
     · rfl
     · simp [z0, z1, z2, z3, z4, y2, y3, y4, zL]
     exact ⟨rfl, by rw [hr]; rfl⟩
   skip
   simp only [if_true]
   refine WRI_run [2,3] [4,5] rfl (by decide +kernel) ?_
   refine xB ?_
   refine xI ?_
   refine run_nil ?_
   refine WRI_yield (fun bb o => bb = ok false ∧ o = if ok false = true then [a0, a1, a2, a3, a4, .var 3 [.d (vI mode)], .blk b, .lp lb c L .ready none] else [a0, a1, d2 false, d3 false, d4 false, .var 3 [.d (vI mode)], .blk b, .lp lb c L .done (some .ret)]) rfl (by simp; exact .mk) rfl rfl rfl (by simp) (by simp; exact .mk) (by simp; exact .mk) rfl hc1 hc2 (hround false) ?_
   rintro bb o2 ⟨rfl, rfl⟩
   cases hokf : ok false
   · skip
     have hr : firstB mode ok = some false := by simp [firstB, pickB, *]
     simp only [Bool.false_eq_true, if_false]
     refine WRI_ends [5] (by decide +kernel) ?_
     refine xP ?_
     refine xE [] ?_
     try simp only [thenI_ret, roundsI_ret, inBlkI_ret, thenI_exit, roundsI_exit, inBlkI_exit, inBlkI_normal, if_true]
     refine endInM_normal (fn := Tryz.f159) (rs := []) 8 .nil ?_ (Nat.le_refl _) ?_ ?_ ?_
     · simp [Tryz.f159]; exact .mk
     · rfl
     · simp [z0, z1, z2, z3, z4, y2, y3, y4, zL]
     exact ⟨rfl, by rw [hr]; rfl⟩
   skip
   have hr : firstB mode ok = none := by simp [firstB, pickB, *]
   simp only [if_true]
   refine WRI_ends [5] (by decide +kernel) ?_
   refine xP ?_
   refine xE [] ?_
   try simp only [thenI_ret, roundsI_ret, inBlkI_ret, thenI_exit, roundsI_exit, inBlkI_exit, inBlkI_normal, if_true]
   refine endInM_normal (fn := Tryz.f159) (rs := []) 8 .nil ?_ (Nat.le_refl _) ?_ ?_ ?_
   · simp [Tryz.f159]; exact .mk
   · rfl
   · simp [z0, z1, z2, z3, z4, y2, y3, y4, zL]
   exact ⟨rfl, by rw [hr]; rfl⟩
 intro h12
 have n3 : ¬ mode = 3 := by simpa using h12
 refine WI_seq ?_
 refine WI_reg rfl ?_ (by decide +kernel)
 refine xO2 ?_
 refine xE [0,20] fun _ => ?_
 refine WI_cond rfl ?_ ?_
 · intro h20
   have hm : mode = 4 := by simpa using h20
   refine WI_regN rfl ?_
   refine WRI_run [0] [1,2,3,4,5] rfl (by decide +kernel) ?_
   refine xB ?_
   refine run_nil ?_
   refine WRI_yield (fun bb o => bb = ok false ∧ o = if ok false = true then [a0, a1, a2, a3, a4, .var 3 [.d (vI mode)], .blk b, .lp lb c L .ready none] else [a0, a1, d2 false, d3 false, d4 false, .var 3 [.d (vI mode)], .blk b, .lp lb c L .done (some .ret)]) rfl (by simp; exact .mk) rfl rfl rfl (by simp) (by simp; exact .mk) (by simp; exact .mk) rfl hc1 hc2 (hround false) ?_
   rintro bb o2 ⟨rfl, rfl⟩
   cases hokf : ok false
   · skip
     have hr : firstB mode ok = some false := by simp [firstB, pickB, *]
     simp only [Bool.false_eq_true, if_false]
     refine WRI_ends [2,3,4,5] (by decide +kernel) ?_
     refine xB ?_
     iterate 2 (refine run_not (av := .d (.v (.bool false))) rfl (by simp; exact .mk) rfl ?_)
     refine xP ?_
     refine xE [] ?_
     try simp only [thenI_ret, roundsI_ret, inBlkI_ret, thenI_exit, roundsI_exit, inBlkI_exit, inBlkI_normal, if_true]
     refine endInM_normal (fn := Tryz.f159) (rs := []) 8 .nil ?_ (Nat.le_refl _) ?_ ?_ ?_
     · simp [Tryz.f159]; exact .mk
     · rfl
     · simp [z0, z1, z2, z3, z4, y2, y3, y4, zL]
     exact ⟨rfl, by rw [hr]; rfl⟩
   skip
   simp only [if_true]
   refine WRI_run [2,3] [4,5] rfl (by decide +kernel) ?_
   refine xB ?_
   refine xI ?_
   refine run_nil ?_
   refine WRI_yield (fun bb o => bb = ok true ∧ o = if ok true = true then [a0, a1, a2, a3, a4, .var 3 [.d (vI mode)], .blk b, .lp lb c L .ready none] else [a0, a1, d2 true, d3 true, d4 true, .var 3 [.d (vI mode)], .blk b, .lp lb c L .done (some .ret)]) rfl (by simp; exact .mk) rfl rfl rfl (by simp) (by simp; exact .mk) (by simp; exact .mk) rfl hc1 hc2 (hround true) ?_
   rintro bb o2 ⟨rfl, rfl⟩
   cases hokt : ok true
   · skip
     have hr : firstB mode ok = some true := by simp [firstB, pickB, *]
     simp only [Bool.false_eq_true, if_false]
     refine WRI_ends [5] (by decide +kernel) ?_
     refine xP ?_
     refine xE [] ?_
     try simp only [thenI_ret, roundsI_ret, inBlkI_ret, thenI_exit, roundsI_exit, inBlkI_exit, inBlkI_normal, if_true]
     refine endInM_normal (fn := Tryz.f159) (rs := []) 8 .nil ?_ (Nat.le_refl _) ?_ ?_ ?_
     · simp [Tryz.f159]; exact .mk
     · rfl
     · simp [z0, z1, z2, z3, z4, y2, y3, y4, zL]
     exact ⟨rfl, by rw [hr]; rfl⟩
   skip
   have hr : firstB mode ok = none := by simp [firstB, pickB, *]
   simp only [if_true]
   refine WRI_ends [5] (by decide +kernel) ?_
   refine xP ?_
   refine xE [] ?_
   try simp only [thenI_ret, roundsI_ret, inBlkI_ret, thenI_exit, roundsI_exit, inBlkI_exit, inBlkI_normal, if_true]
   refine endInM_normal (fn := Tryz.f159) (rs := []) 8 .nil ?_ (Nat.le_refl _) ?_ ?_ ?_
   · simp [Tryz.f159]; exact .mk
   · rfl
   · simp [z0, z1, z2, z3, z4, y2, y3, y4, zL]
   exact ⟨rfl, by rw [hr]; rfl⟩
 intro h20
 have n4 : ¬ mode = 4 := by simpa using h20
 have hr : firstB mode ok = none := by simp [firstB, pickB, *]
 refine WI_skip ?_
 try simp only [thenI_ret, roundsI_ret, inBlkI_ret, thenI_exit, roundsI_exit, inBlkI_exit, inBlkI_normal, if_true]
 refine endInM_normal (fn := Tryz.f159) (rs := []) 8 .nil ?_ (Nat.le_refl _) ?_ ?_ ?_
 · simp [Tryz.f159]; exact .mk
 · rfl
 · simp [z0, z1, z2, z3, z4, y2, y3, y4, zL]
 exact ⟨rfl, by rw [hr]; rfl⟩

open Go.Awp
theorem in40 (g : Gl) (s : Stt) (hs : s.Ok) (n : Int) : ∀ B S, CallsA Tryz.prog g B S ⟨0, true⟩ 40 ([eStt s, vI n].map argD) [] (fun x r => x = .tup [.d (vT ((firstP s n).getD (false, 0)).1), .d (vI ((firstP s n).getD (false, 0)).2), .d (vT (firstP s n).isSome)] ∧ r = []) := by
 refine callsA_WI Tryz.func40 rfl (Nat.le_of_ble_eq_true rfl) fun B S => ?_
 simp only [eStt, List.map, argD_agg, argD_v]
 refine WI_seq ?_
 refine WI_reg rfl ?_ (by decide +kernel)
 refine xO5 ?_
 refine xE [2,3,4,5,6] fun _ => ?_
 refine WI_seq ?_
 refine WI_seq ?_
 refine WI_reg rfl ?_ (by decide +kernel)
 refine xO2 ?_
 refine run_inl0 rfl rfl rfl rfl (by simp; exact .mk) ⟨_, Tryz.func107, rfl, rfl⟩ (in107 g _ _ _ _ _ s.mode) (.inl (by simp)) ?_
 refine xE [2,3,4,5,6,12] fun _ => ?_
 refine WI_block ?_
 refine WI_rangeFunc [2,3,4,5,6] (by simp; exact .mk) ⟨_, Tryz.func159, rfl, rfl⟩ (by simp; exact .mk) _ (fun fn b lb B S => in159 g s.mode b lb _ _ rfl ?_ _ _ _ _ _ (fun two => .var 4 [.d (vT two)]) (fun two => .var 3 [.d (vI ((roomS s two n).getD 0))]) (fun _ => .var 4 [.d (vT true)]) (fun two => (roomS s two n).isNone) rfl rfl rfl rfl rfl (fun _ => rfl) (fun _ => rfl) (fun _ => rfl) rfl (fun two B S => ?_) B S) ?_
 · intro p hp2
   have hp3 : p = 13 := by simpa using hp2
   show p < 24
   rw [hp3]; decide
 · skip
   unfold RoundI
   refine WI_weak (Weak.kills [2,3,4,5,6,13] (L := [(2, .ptr 0 0 0), (3, .ptr 1 0 0), (4, .ptr 2 0 0), (5, .ptr 3 0 0), (6, .ptr 4 0 0), (13, .d (vT two))]) rfl) ?_
   refine WI_reg rfl ?_ (by decide +kernel)
   refine xO ?_
   refine xE [2,3,4,5,6,7] ?_
   refine ⟨rfl, rfl, rfl, fun _ => ?_⟩
   refine WI_block ?_
   refine WI_seq ?_
   refine WI_reg rfl ?_ (by decide +kernel)
   refine xO3 ?_
   refine xC (ct38 g s hs two n) ?_
   refine xO5 ?_
   refine xE [4,5,6,7,8,9] fun _ => ?_
   refine WI_seq ?_
   refine WI_reg rfl ?_ (by decide +kernel)
   refine xO ?_
   refine xE [4,5,6,7,8,21] fun _ => ?_
   refine WI_cond rfl ?_ ?_
   · intro h21
     have hf : (roomS s two n).isNone = false := by cases hq : roomS s two n <;> simp [hq] at h21 ⊢
     refine WI_seq ?_
     refine WI_reg rfl ?_ (by decide +kernel)
     refine xO2 ?_
     iterate 3 (refine xOs ?_)
     refine xE [4,5,6] fun _ => ?_
     refine WI_ret ?_
     simp only [thenI_ret, inBlkI_ret]
     refine ⟨rfl, hf.symm, ?_⟩
     rw [if_neg (by simp [hf])]; rfl
   intro h21
   have hf : (roomS s two n).isNone = true := by cases hq : roomS s two n <;> simp [hq] at h21 ⊢
   refine WI_skip ?_
   simp only [inBlkI_normal]
   refine ⟨rfl, hf.symm, ?_⟩
   rw [if_pos hf]; rfl
 rintro fn b lb av o ⟨rfl, rfl⟩
 cases hf : firstB s.mode (fun two => (roomS s two n).isNone) with
 | none =>
  refine ⟨_, _, rfl, by simp, ?_⟩
  have hr : firstP s n = none := by rw [firstP_B, hf]; rfl
  simp only [pending_none, inBlkI_normal]
  rintro -
  refine WI_seq ?_
  refine WI_reg rfl ?_ (by decide +kernel)
  iterate 3 (refine xOs ?_)
  refine xE [4,5,6] fun _ => ?_
  refine WI_ret ?_
  try simp only [thenI_ret, roundsI_ret, inBlkI_ret, thenI_exit, roundsI_exit, inBlkI_exit, inBlkI_normal, if_true]
  refine endInM_ret (fn := Tryz.f40) (rs := [.d (vT false), .d (vI 0), .d (vT false)]) 0 (.cons (r := 6) rfl .nil) ?_ (Nat.zero_le _) ?_ ?_ ?_
  · simp [Tryz.f40]; exact .mk
  · rfl
  · rfl
  rw [hr]; exact ⟨rfl, rfl⟩
 | some two =>
  refine ⟨_, _, rfl, by simp, ?_⟩
  have hr : firstP s n = some (two, (roomS s two n).getD 0) := by rw [firstP_B, hf]; rfl
  simp only [pending_ret, thenI_ret, inBlkI_ret]
  refine endInM_ret (fn := Tryz.f40) (rs := [.d (vT two), .d (vI ((roomS s two n).getD 0)), .d (vT true)]) 0 (.cons (r := 6) rfl .nil) ?_ (Nat.zero_le _) ?_ ?_ ?_
  · simp [Tryz.f40]; exact .mk
  · rfl
  · rfl
  rw [hr]; exact ⟨rfl, rfl⟩
theorem ct40 (g : Gl) (s : Stt) (hs : s.Ok) (n : Int) : CtAt Tryz.prog g 40 [eStt s, vI n] (.tup [vT ((firstP s n).getD (false, 0)).1, vI ((firstP s n).getD (false, 0)).2, vT (firstP s n).isSome]) :=
 ctAt_of_calls Tryz.func40 rfl rfl (in40 g s hs n) (by simp) (by simp)


open Go.Awp
theorem ct42 (g : Gl) (s : Stt) (hs : s.Ok) (n : Int) : CtAt Tryz.prog g 42 [eStt s, vI n] (.tup [oStt (putS s n).1, .agg [vI (putS s n).2.1.1, vI (putS s n).2.1.2], vI (putS s n).2.2]) := by
 refine xA Tryz.func42 fun B S => ?_
 simp only [eStt, List.map, argD_agg, argD_v]
 refine xU ?_
 refine xO4 ?_
 refine xG [1,2,4,5] ?_
 refine xH [1,2,4,5,7] ?_
 refine W_seq (xU ?_)
 refine xOl ?_
 refine xC (ct32 g s hs) ?_ (hi := by simp [oStt]; exact .mk)
 refine xO2 ?_
 refine xI ?_
 refine run_call rfl (by simp; exact .mk) rfl rfl (by simp) (by simp; exact .mk) (by simp; exact .mk) (fun hb => ct102 g n) (by simp) (by simp [oStt]; exact .mk) (by simp) ?_
 refine xI ?_
 refine xP ?_
 refine xQ [1,2,4,5,7,24] ?_ ?_
 · intro h24
   have hr : putS s n = (zStt, (0, 0), 1) := by unfold putS; rw [if_neg]; simp at h24 ⊢; grind
   refine xU ?_
   refine xO ?_
   refine xC (ct108 g 1) ?_ (hi := by simp [oStt]; exact .mk)
   refine xO3 ?_
   iterate 2 (refine xOs ?_)
   refine xH [4,5,6] ?_
   refine W_ret (end_ret (by simp [Tryz.f42]; exact .mk) (by simp; exact .mk) ?_ (by simp [oStt]))
   first | (simp [Tryz.f42, hr, oStt, zStt, ownR]; done) | (simp [Tryz.f42, hr, oStt, zStt, ownR, putAt, zerosB, List.map_set]; try exact ⟨rfl, rfl⟩)
 intro h24
 have hR : sttS s = true ∧ sizedN n = true := by simp at h24; grind
 have hR2 : (sttS s && sizedN n) = true := by simp [hR]
 have hn := sizedN_iff.1 hR.2
 refine W_skip fun _ => ?_
 refine W_seq (xU ?_)
 refine xO ?_
 refine xOl ?_
 refine xC (ct109 g s.slots hs.h1) ?_ (hi := by simp [oStt]; exact .mk)
 refine xO5 ?_
 refine xG [1,2,4,5,7,9] ?_
 refine xO2 ?_
 refine xQ [1,2,4,5,7,37] ?_ ?_
 · intro h37
   have hx : nextS s.slots = none := by simpa using h37
   have hr : putS s n = (zStt, (0, 0), 9) := by unfold putS; rw [if_pos hR2, hx]
   refine xU ?_
   refine xO ?_
   refine xC (ct108 g 9) ?_ (hi := by simp [oStt]; exact .mk)
   refine xO3 ?_
   iterate 2 (refine xOs ?_)
   refine xH [4,5,6] ?_
   refine W_ret (end_ret (by simp [Tryz.f42]; exact .mk) (by simp; exact .mk) ?_ (by simp [oStt]))
   first | (simp [Tryz.f42, hr, oStt, zStt, ownR]; done) | (simp [Tryz.f42, hr, oStt, zStt, ownR, putAt, zerosB, List.map_set]; try exact ⟨rfl, rfl⟩)
 intro h37
 obtain ⟨k, hk⟩ : ∃ k, nextS s.slots = some k := Option.isSome_iff_exists.1 (by simpa using h37)
 obtain ⟨hkl, hko, _⟩ := nextS_spec hk
 refine W_skip ?_
 refine xT ?_
 refine xOl ?_
 refine xO ?_
 refine xC (ct40 g s hs n) ?_ (hi := by simp [oStt]; exact .mk)
 iterate 7 refine xO ?_
 refine xF [1,2,4,5,7,10,11,12] ?_
 refine W_seq (xU ?_)
 refine xO2 ?_
 refine xQ [1,2,4,5,7,10,11,51] ?_ ?_
 · intro h51
   have hx : firstP s n = none := by simpa using h51
   have hr : putS s n = (zStt, (0, 0), 10) := by unfold putS; rw [if_pos hR2, hk]; simp only; rw [hx]
   refine xU ?_
   refine xO ?_
   refine xC (ct108 g 10) ?_ (hi := by simp [oStt]; exact .mk)
   refine xO3 ?_
   iterate 2 (refine xOs ?_)
   refine xH [4,5,6] ?_
   refine W_ret (end_ret (by simp [Tryz.f42]; exact .mk) (by simp; exact .mk) ?_ (by simp [oStt]))
   first | (simp [Tryz.f42, hr, oStt, zStt, ownR]; done) | (simp [Tryz.f42, hr, oStt, zStt, ownR, putAt, zerosB, List.map_set]; try exact ⟨rfl, rfl⟩)
 intro h51
 obtain ⟨p, hp⟩ : ∃ p, firstP s n = some p := Option.isSome_iff_exists.1 (by simpa using h51)
 have hr : putS s n = (putAt s k (newSlot (nth s.slots k).gen n p.1 p.2) (zerosB n), ((k : Int), (nth s.slots k).gen), 0) := by unfold putS; rw [if_pos hR2, hk]; simp only; rw [hp]
 obtain ⟨two, a⟩ := p
 have ht : takeT s.slots ⟨0, false, two, a, n⟩ = (s.slots.set k (newSlot (nth s.slots k).gen n two a), ((k : Int), (nth s.slots k).gen), 0) := put_take hR.1 hR.2 hk hp
 have c70 := ct110 g s.slots hs.h1 ⟨0, false, two, a, n⟩
 rw [ht] at c70
 rw [hp]
 have hkd : k < s.data.length := by have := rowsS_len (sttS_rowsS hR.1); omega
 have e1 : 0 ≤ n := by omega
 have e2 : n ≤ 140737488355328 := by omega
 refine W_skip ?_
 refine xT ?_
 refine xOl ?_
 refine xC (ct24 g s hs) ?_ (hi := by simp [oStt]; exact .mk)
 refine xO ?_
 refine xOs ?_
 refine xG [1,2,4,5,7,10,11,13] ?_
 refine xO ?_
 refine xOl ?_
 refine xO3 ?_
 refine xOs ?_
 refine xC (c70) ?_ (hi := by simp [oStt]; exact .mk)
 iterate 6 refine xO ?_
 refine xOs ?_
 refine xH [1,4,5,7,13,14,15,16] ?_
 refine W_seq (xU ?_)
 refine xO2 ?_
 refine xQ [1,4,5,7,13,14,15,16,71] ?_ ?_
 · intro h71
   simp at h71
 intro h71
 refine W_skip fun _ => ?_
 refine W_seq ?_
 refine W_regDSK (hard := []) [3,6,8] (keepOk_lt (by decide)) (by kernel_rfl) 4 [0,1,2,3,4,5,7,6,8,9,10] [[0,1,2,3,4,5,7,8,6,9,10], [0,1,2,4,5,7,6,3,8,9,10], [0,1,2,4,5,7,6,8,3,9,10], [0,1,2,4,5,7,8,3,6,9,10], [0,1,2,4,5,7,8,6,3,9,10]] (by decide +kernel) ?_
 refine xO ?_
 refine xOl ?_
 refine xO ?_
 refine xOl ?_
 refine xO3 ?_
 refine xO ?_ (h := by simp [e1, e2]; exact .mk)
 refine xOs ?_
 refine xO ?_ (h := by simp [eSlot, hkd]; exact .mk)
 refine xO ?_ (h := by simp [splice, hkd, nrmL, nrm, putC]; exact .mk)
 refine xE [4,5,13,15] ?_
 refine ⟨_, rfl, ⟨?_, ?_, ?_, ?_, ?_, trivial⟩, ?_⟩
 · skip
   refine xO ?_
   refine xOl ?_
   refine xO ?_
   refine xOl ?_
   refine xO3 ?_
   refine xOs ?_
   refine xO ?_ (h := by simp [e1, e2]; exact .mk)
   refine xO ?_ (h := by simp [eSlot, hkd]; exact .mk)
   refine xO ?_ (h := by simp [splice, hkd, nrmL, nrm, putC]; exact .mk)
   refine xE [4,5,13,15] ?_
   exact Weak.perm [0,1,2,3,4,5,6,7,8,9] [0,1,2,3,4,5,6,7,8,9] rfl rfl rfl
 · skip
   refine xO ?_
   refine xOl ?_
   refine xO4 ?_
   refine xO ?_ (h := by simp [e1, e2]; exact .mk)
   refine xOl ?_
   refine xOs ?_
   refine xO ?_ (h := by simp [eSlot, hkd]; exact .mk)
   refine xO ?_ (h := by simp [splice, hkd, nrmL, nrm, putC]; exact .mk)
   refine xE [4,5,13,15] ?_
   exact Weak.perm [0,1,2,3,4,5,6,7,8,9] [0,1,2,3,4,5,6,7,8,9] rfl rfl rfl
 · skip
   refine xO ?_
   refine xOl ?_
   refine xO4 ?_
   refine xO ?_ (h := by simp [e1, e2]; exact .mk)
   refine xOs ?_
   refine xOl ?_
   refine xO ?_ (h := by simp [eSlot, hkd]; exact .mk)
   refine xO ?_ (h := by simp [splice, hkd, nrmL, nrm, putC]; exact .mk)
   refine xE [4,5,13,15] ?_
   exact Weak.perm [0,1,2,3,4,5,6,7,8,9] [0,1,2,3,4,5,6,7,8,9] rfl rfl rfl
 · skip
   refine xO ?_
   refine xOl ?_
   refine xO4 ?_
   refine xOs ?_
   refine xOl ?_
   refine xO ?_ (h := by simp [e1, e2]; exact .mk)
   refine xO ?_ (h := by simp [eSlot, hkd]; exact .mk)
   refine xO ?_ (h := by simp [splice, hkd, nrmL, nrm, putC]; exact .mk)
   refine xE [4,5,13,15] ?_
   exact Weak.perm [0,1,2,3,4,5,6,7,8,9] [0,1,2,3,4,5,6,7,8,9] rfl rfl rfl
 · skip
   refine xO ?_
   refine xOl ?_
   refine xO4 ?_
   refine xOs ?_
   refine xO ?_ (h := by simp [e1, e2]; exact .mk)
   refine xOl ?_
   refine xO ?_ (h := by simp [eSlot, hkd]; exact .mk)
   refine xO ?_ (h := by simp [splice, hkd, nrmL, nrm, putC]; exact .mk)
   refine xE [4,5,13,15] ?_
   exact Weak.perm [0,1,2,3,4,5,6,7,8,9] [0,1,2,3,4,5,6,7,8,9] rfl rfl rfl
 rintro -
 refine W_seq ?_
 refine W_regDSK (hard := []) [1,2] (keepOk_lt (by decide)) (by kernel_rfl) 4 [0,1,2,3,4] [[0,2,1,3,4]] (by decide +kernel) ?_
 iterate 2 (refine xOl ?_)
 iterate 2 (refine xOs ?_)
 refine xO ?_
 refine xE [4,5,6] ?_
 refine ⟨_, rfl, ⟨?_, trivial⟩, ?_⟩
 · skip
   refine xOl ?_
   refine xOs ?_
   refine xOl ?_
   refine xOs ?_
   refine xO ?_
   refine xE [4,5,6] ?_
   exact Weak.perm [0,1,2,3,4,5,6,7,8,9] [0,1,2,3,4,5,6,7,8,9] rfl rfl rfl
 rintro -
 refine W_ret (end_ret (by simp [Tryz.f42]; exact .mk) (by simp; exact .mk) ?_ (by simp [oStt]))
 first | (simp [Tryz.f42, hr, oStt, zStt, ownR]; done) | (simp [Tryz.f42, hr, oStt, zStt, ownR, putAt, zerosB, List.map_set]; try exact ⟨rfl, rfl⟩)

open Go.Awp
open Go.Awp
theorem zStt_ok : zStt.Ok := ⟨by decide, by decide, by decide, fun i hi => absurd hi (Nat.not_lt_zero _), fun i hi => absurd hi (Nat.not_lt_zero _)⟩
theorem putAt_ok {s : Stt} {k : Nat} {y : Slot} {d : List UInt8} (h : s.Ok) (hd : d.length ≤ 2^40) : (putAt s k y d).Ok := by
 refine ⟨by simpa [putAt] using h.h1, h.h2, by simpa [putAt] using h.h3, fun i hi => ?_, h.h5⟩
 simp only [putAt, List.length_set] at hi ⊢
 by_cases hm : k < s.data.length
 · rw [nth_set2 hm]
   split
   · exact hd
   · exact h.h4 i hi
 · rw [List.set_eq_of_length_le (by omega)]
   exact h.h4 i hi
theorem putS_ok {s : Stt} {n : Int} (h : s.Ok) : (putS s n).1.Ok := by
 unfold putS
 split
 · rename_i hr
   simp only [Bool.and_eq_true] at hr
   have hn := sizedN_iff.1 hr.2
   cases nextS s.slots with
   | none => exact zStt_ok
   | some k => cases firstP s n with
    | none => exact zStt_ok
    | some p => exact putAt_ok h (by simp [zerosB]; omega)
 · exact zStt_ok
theorem moveS_ok {s : Stt} {k : Int} {two : Bool} {a : Int} (h : s.Ok) : (moveS s k two a).1.Ok := by
 unfold moveS
 split
 · split
   · exact layAt_ok h
   · exact zStt_ok
 · exact zStt_ok
def sh1 : Shape := ⟨1, 2, 2, 30⟩
def stO : Stt := firstStt sh1 1
def stA : Stt := (putS stO 16).1
def stB : Stt := (putS stA 16).1
def stC : Stt := (rszS stB 0 17).1
def stT : Stt := firstStt sh1 2
def stU : Stt := (putS stT 121).1
def otherOk (a b : Stt) (k : Int) (i : Nat) : Bool := decide ((i : Int) = k) || (sameSlot (nth a.slots i) (nth b.slots i) && (str (nth a.data i)).toList == (str (nth b.data i)).toList)
def othersS (a b : Stt) (k : Int) : Bool := decide (a.slots.length = b.slots.length) && (decide (a.data.length = b.data.length) && (a.mode == b.mode && (a.base == b.base && (sameShape a.sh b.sh && (List.range (min a.slots.length a.data.length)).all (otherOk a b k)))))
open Go.Awp
theorem moveS_cases {s : Stt} {k : Int} {two : Bool} {a : Int} (he : (moveS s k two a).2 = 0) : ∃ m : Nat, k = m ∧ liveS s m = true ∧ m < s.slots.length ∧ (nth s.slots m).live = true ∧ m < s.data.length ∧ moveS s k two a = (layAt s m two a, 0) ∧ sttS (layAt s m two a) = true := by
 unfold moveS at he ⊢
 split at he
 · rename_i hr
   obtain ⟨m, rfl, h1, h2, h3, _⟩ := liveS_nat hr
   rw [if_pos hr]
   simp only [Int.toNat_natCast] at he ⊢
   split at he
   · rename_i hq
     rw [if_pos hq]
     exact ⟨m, rfl, hr, h1, h2, h3, rfl, hq⟩
   · cases he
 · cases he
open Go.Awp
open Go.Awp
theorem ct21 (g : Gl) (s : Stt) (hs : s.Ok) : CtAt Tryz.prog g 21 [eStt s] (oStt s) := by
 refine xA Tryz.func21 fun B S => ?_
 simp only [eStt, List.map, argD_agg, argD_v]
 have q0 := hs.h1
 have q1 := hs.h2
 have q3 := hs.h3
 have e1 : s.slots.length * 32 ≤ 140737488355328 := by omega
 have e2 : s.slots.length ≤ 140737488355328 := by omega
 have e3 : s.roots.length * 32 ≤ 140737488355328 := by omega
 have e4 : s.roots.length ≤ 140737488355328 := by omega
 refine xU ?_
 refine xO2 ?_
 refine xG [1,2] ?_
 refine xOl ?_
 refine xO ?_
 refine xOs ?_
 refine xG [1,2,3] ?_
 refine xO2 ?_
 refine xOl ?_
 refine xO ?_ (h := by simp [rows, e1, e2]; exact .mk)
 refine xO ?_
 refine xOs ?_
 refine xG [1,2,3] ?_
 refine xO2 ?_
 refine xOl ?_
 refine xO ?_ (h := by simp [rows, e3, e4]; exact .mk)
 refine xO ?_
 refine xOs ?_
 refine xG [1,2,3] ?_
 refine xO ?_
 refine xOs ?_
 refine xF [1,2,3] ?_
 refine W_seq (xU ?_)
 refine xH [1,2,3,4] ?_
 refine W_block (W_rounds (fun m σ o => ∃ i : Nat, m = s.data.length - i ∧ i ≤ s.data.length ∧ σ = slots [(1, .ptr 0 0 0), (2, .ptr 1 0 0), (3, .ptr 2 0 0), (4, .d (vI i))] ∧ o = [.var 28 [.d (vI s.sh.pages), .d (vI s.sh.slots), .d (vI s.sh.roots), .d (vI s.sh.room), .d (vI s.mode), .d (vI s.base), .d (rSl s.slots), .d (rR s.roots), .d (rBB s.data)], .var 28 [.d (vI 0), .d (vI 0), .d (vI 0), .d (vI 0), .d (vI 0), .d (vI 0), .d (.v (.slice none 0 0)), .d (.v (.slice none 0 0)), .d (.v (.slice none 0 0))], .var 28 [.d (vI s.sh.pages), .d (vI s.sh.slots), .d (vI s.sh.roots), .d (vI s.sh.room), .d (vI s.mode), .d (vI s.base), .hdr 4 0 s.slots.length, .hdr 6 0 s.roots.length, .hdr 7 0 i], .dead, .row 5 (s.slots.map eSlot), .dead, .row 3 (s.roots.map eRoot), .row 1 ((s.data.take i).map oB)]) s.data.length (Weak.nilCell 2 8 1 rfl rfl) ⟨0, by simp, by simp, rfl, rfl⟩ ?_)
 rintro m σ o ⟨i, rfl, hi, rfl, rfl⟩ _
 refine W_seq (xU ?_)
 refine xO2 ?_
 refine xOl ?_
 refine xO2 ?_
 refine xQ [1,2,3,4,21] ?_ ?_
 · intro h21
   have hi2 : i < s.data.length := by simpa using h21
   have hb := hs.h4 i hi2
   have f1 : (nth s.data i).length ≤ 140737488355328 := by omega
   have f2 : (i + 1) * 24 ≤ 140737488355328 := by omega
   have f3 : i ≤ 140737488355327 := by omega
   have f5 : (D.row M.own 1 ((nth s.data i).map vB)).noOwn = false := by first | rfl | simp [noOwn_row]
   have f4 : min i s.data.length = i := by omega
   refine W_skip fun _ => ?_
   refine W_seq (W_block ?_)
   refine W_regDT (hard := []) [1,2,8,9] (keepOk_lt (by decide)) (by kernel_rfl) 4 [[0,1,3,4,5,6,7,2,8,9,10,11,12], [0,3,4,5,6,7,2,1,8,9,10,11,12], [0,3,4,5,6,7,2,8,1,9,10,11,12], [0,3,4,5,6,7,2,8,9,1,10,11,12]] (by decide +kernel) ⟨?_, ?_, ?_, ?_, trivial⟩
   · skip
     refine xO ?_
     refine xOl ?_
     refine xO ?_
     refine xOl ?_
     refine xO ?_
     refine xO ?_ (h := by simp [eSlot, hi2]; exact .mk)
     refine xO ?_ (h := by simp [-List.getElem?_map, map_get hi2]; exact .mk)
     refine xO ?_
     refine xO ?_ (h := by simp [rows, f1]; exact .mk)
     refine xO ?_
     refine xO ?_ (h := by simp [rows, f5, f2, f3, f4]; exact .mk)
     refine xO ?_
     refine xOs ?_
     refine xF [1,2,3,4] ?_
     refine xY ?_
     refine xO3 ?_
     refine xE [1,2,3,4] ?_
     refine rounds_kill [1,2,3,4] ?_
     refine rounds_kills [1,2,3,4] rfl ?_
     refine rounds_swap 7 11 1 (by decide) (by simp) (by decide) rfl rfl ?_
     refine rounds_drop 8 [1,2,3,4] (by decide) (by rfl) (by rfl) ?_
     refine rounds_next (m' := s.data.length - (i+1)) (by omega) ⟨i+1, rfl, by omega, ?_, ?_⟩
     · rw [wrap64 (by omega) (by omega)]; rfl
     rw [take_succ hi2]; simp; try rfl
   · skip
     refine xO2 ?_
     refine xOl ?_
     refine xO ?_
     refine xO ?_ (h := by simp [eSlot, hi2]; exact .mk)
     refine xO ?_ (h := by simp [-List.getElem?_map, map_get hi2]; exact .mk)
     refine xO ?_
     refine xOl ?_
     refine xO ?_ (h := by simp [rows, f1]; exact .mk)
     refine xO ?_
     refine xO ?_ (h := by simp [rows, f5, f2, f3, f4]; exact .mk)
     refine xO ?_
     refine xOs ?_
     refine xF [1,2,3,4] ?_
     refine xY ?_
     refine xO3 ?_
     refine xE [1,2,3,4] ?_
     refine rounds_kill [1,2,3,4] ?_
     refine rounds_kills [1,2,3,4] rfl ?_
     refine rounds_swap 7 11 1 (by decide) (by simp) (by decide) rfl rfl ?_
     refine rounds_drop 8 [1,2,3,4] (by decide) (by rfl) (by rfl) ?_
     refine rounds_next (m' := s.data.length - (i+1)) (by omega) ⟨i+1, rfl, by omega, ?_, ?_⟩
     · rw [wrap64 (by omega) (by omega)]; rfl
     rw [take_succ hi2]; simp; try rfl
   · skip
     refine xO2 ?_
     refine xOl ?_
     refine xO ?_
     refine xO ?_ (h := by simp [eSlot, hi2]; exact .mk)
     refine xO ?_ (h := by simp [-List.getElem?_map, map_get hi2]; exact .mk)
     refine xO ?_
     refine xO ?_ (h := by simp [rows, f1]; exact .mk)
     refine xOl ?_
     refine xO ?_
     refine xO ?_ (h := by simp [rows, f5, f2, f3, f4]; exact .mk)
     refine xO ?_
     refine xOs ?_
     refine xF [1,2,3,4] ?_
     refine xY ?_
     refine xO3 ?_
     refine xE [1,2,3,4] ?_
     refine rounds_kill [1,2,3,4] ?_
     refine rounds_kills [1,2,3,4] rfl ?_
     refine rounds_swap 7 11 1 (by decide) (by simp) (by decide) rfl rfl ?_
     refine rounds_drop 8 [1,2,3,4] (by decide) (by rfl) (by rfl) ?_
     refine rounds_next (m' := s.data.length - (i+1)) (by omega) ⟨i+1, rfl, by omega, ?_, ?_⟩
     · rw [wrap64 (by omega) (by omega)]; rfl
     rw [take_succ hi2]; simp; try rfl
   skip
   refine xO2 ?_
   refine xOl ?_
   refine xO ?_
   refine xO ?_ (h := by simp [eSlot, hi2]; exact .mk)
   refine xO ?_ (h := by simp [-List.getElem?_map, map_get hi2]; exact .mk)
   refine xO ?_
   refine xO ?_ (h := by simp [rows, f1]; exact .mk)
   refine xO ?_
   refine xOl ?_
   refine xO ?_ (h := by simp [rows, f5, f2, f3, f4]; exact .mk)
   refine xO ?_
   refine xOs ?_
   refine xF [1,2,3,4] ?_
   refine xY ?_
   refine xO3 ?_
   refine xE [1,2,3,4] ?_
   refine rounds_kill [1,2,3,4] ?_
   refine rounds_kills [1,2,3,4] rfl ?_
   refine rounds_swap 7 11 1 (by decide) (by simp) (by decide) rfl rfl ?_
   refine rounds_drop 8 [1,2,3,4] (by decide) (by rfl) (by rfl) ?_
   refine rounds_next (m' := s.data.length - (i+1)) (by omega) ⟨i+1, rfl, by omega, ?_, ?_⟩
   · rw [wrap64 (by omega) (by omega)]; rfl
   rw [take_succ hi2]; simp; try rfl
 intro h21
 obtain rfl : i = s.data.length := by simp at h21; omega
 rw [show List.take s.data.length (s.data.map oB) = s.data.map oB by rw [List.take_of_length_le (by simp)]]
 refine W_exit (xT ?_)
 refine xOl ?_
 refine xOs ?_
 refine xF [2] ?_
 refine W_ret (end_ret (by simp [Tryz.f21]; exact .mk) (by simp; exact .mk) ?_ (by simp [oStt]))
 simp [Tryz.f21, oStt, ownR]

open Go.Awp
end Go.Proofs
