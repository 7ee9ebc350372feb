/- Contracts of the program's functions and plain facts, for arguments as each lemma says. -/
import Derived.Test.YtokgokbgidgfeaaAwpD
import Derived.Test.YtokgokbgidgfeaaCC
import Derived.Test.YtokgokbgidgfeaaCB
import Derived.Test.YtokgokbgidgfeaaAwpC
import Derived.Test.YtokgokbgidgfeaaCA
set_option linter.all false
set_option maxHeartbeats 4000000
namespace Go.Proofs
open Go.Awp
def apartS (a b : Spot) : Prop := (a.small = true ∧ b.small = true ∧ a.cls = b.cls ∧ a.cell ≠ b.cell) ∨ a.page + a.count ≤ b.page ∨ b.page + b.count ≤ a.page
def Holds (st : List Int × List Nat) (a : Spot) : Prop := (a.small = true → nth st.1 a.page.toNat = a.cls ∧ (nth st.2 a.page.toNat).testBit a.cell.toNat = true) ∧ (a.small = false → ∀ t : Nat, (t : Int) < a.count → nth st.1 (a.page.toNat + t) = 7 ∨ nth st.1 (a.page.toNat + t) = 6)
structure GoodSpot (pages : Int) (a : Spot) : Prop where
 p0 : 0 ≤ a.page
 c1 : 1 ≤ a.count
 p1 : a.page + a.count ≤ pages
 s1 : a.small = true → a.count = 1 ∧ 0 ≤ a.cls ∧ a.cls < 6 ∧ 0 ≤ a.cell ∧ a.cell < 64
theorem nth_set2 {α : Type} [Inhabited α] {l : List α} {i j : Nat} {x : α} (hi : i < l.length) : nth (l.set i x) j = if i = j then x else nth l j := by
 by_cases hj : j < l.length
 · rw [nth_eq (by simpa using hj), List.getElem_set]
   split
   · rfl
   · rw [nth_eq hj]
 · rw [if_neg (by omega)]
   simp only [nth]
   rw [List.getD_eq_getElem?_getD, List.getD_eq_getElem?_getD, List.getElem?_eq_none (by simpa using hj), List.getElem?_eq_none (by omega)]
theorem fillF_spec {p : Nat} : ∀ {f j : Nat} {l : List Int}, (fillF p f j l).1 = true → p + j + f ≤ l.length → (∀ t, j ≤ t → t < j + f → nth l (p + t) = -1) ∧ ∀ x, nth (fillF p f j l).2 x = if p + j ≤ x ∧ x < p + j + f then 7 else nth l x
 | 0, j, l, h, hl => ⟨fun t h1 h2 => by omega, fun x => by rw [if_neg (by omega)]; rfl⟩
 | f + 1, j, l, h, hl => by
  by_cases hq : nth l (p + j) = -1
  · rw [fillF_t hq] at h ⊢
    obtain ⟨h1, h2⟩ := fillF_spec h (by simp; omega)
    constructor
    · intro t ht1 ht2
      by_cases e : t = j
      · subst e; exact hq
      · have := h1 t (by omega) (by omega)
        rwa [nth_set2 (by omega), if_neg (by omega)] at this
    · intro x
      rw [h2, nth_set2 (by omega)]
      by_cases e : p + j = x
      · subst e; rw [if_neg (by omega), if_pos rfl, if_pos (by omega)]
      · rw [if_neg e]
        by_cases e2 : p + (j + 1) ≤ x ∧ x < p + (j + 1) + f
        · rw [if_pos e2, if_pos (by omega)]
        · rw [if_neg e2, if_neg (by omega)]
  · rw [fillF_f hq] at h; cases h
theorem and_pow {m c : Nat} (h : m &&& 2 ^ c = 0) : m.testBit c = false := by
 have := congrArg (fun x => x.testBit c) h
 simpa [Nat.testBit_and, Nat.testBit_two_pow_self] using this
theorem lay_step {pages : Int} {st : List Int × List Nat} {b : Spot} (hp : pages ≤ 64) (h1 : st.1.length = pages.toNat) (h2 : st.2.length = 64) (hb : GoodSpot pages b)
    (h : (layS st.1 st.2 b.page.toNat b.count.toNat b.small b.cls b.cell.toNat).1 = true) :
    (∀ a, GoodSpot pages a → Holds st a → apartS a b ∧ Holds (layS st.1 st.2 b.page.toNat b.count.toNat b.small b.cls b.cell.toNat).2 a) ∧ Holds (layS st.1 st.2 b.page.toNat b.count.toNat b.small b.cls b.cell.toNat).2 b := by
 obtain ⟨bp, bc, bs, bk, bl⟩ := b
 obtain ⟨p0, c1, p1, s1⟩ := hb
 simp only at p0 c1 p1 s1 h ⊢
 have hpl : bp.toNat < st.1.length := by omega
 have hpm : bp.toNat < st.2.length := by omega
 unfold layS at h ⊢
 by_cases hs : bs = true
 · subst hs
   obtain ⟨rfl, k0, k6, l0, l64⟩ := s1 rfl
   simp only [if_true] at h ⊢
   by_cases hc : nth st.1 bp.toNat = bk ∧ nth st.2 bp.toNat &&& 2 ^ bl.toNat = 0
   · rw [if_pos hc] at h ⊢
     have hbit := and_pow hc.2
     refine ⟨fun a ga ha => ⟨?_, ?_⟩, ?_⟩
     · by_cases hpp : a.page + a.count ≤ bp ∨ bp + 1 ≤ a.page
       · exact .inr hpp
       · left
         cases has : a.small with
         | true =>
          obtain ⟨q1, q2⟩ := ha.1 has
          have gs := ga.s1 has
          have hpe : a.page = bp := by have := gs.1; omega
          rw [hpe] at q1 q2
          refine ⟨rfl, rfl, by rw [← q1, hc.1], fun e => ?_⟩
          simp only at e
          rw [e] at q2
          rw [hbit] at q2; cases q2
         | false =>
          exfalso
          have := ha.2 has (bp - a.page).toNat (by have := ga.c1; omega)
          rw [show a.page.toNat + (bp - a.page).toNat = bp.toNat by have := ga.p0; omega, hc.1] at this
          omega
     · refine ⟨fun has => ?_, fun has t ht => ha.2 has t ht⟩
       obtain ⟨q1, q2⟩ := ha.1 has
       refine ⟨q1, ?_⟩
       rw [nth_set2 hpm]
       split
       · rename_i e; rw [← e] at q2; rw [Nat.testBit_or, q2]; rfl
       · exact q2
     · refine ⟨fun _ => ⟨hc.1, ?_⟩, fun e => by cases e⟩
       simp only
       rw [nth_set2 hpm, if_pos rfl, Nat.testBit_or, Nat.testBit_two_pow_self]; simp
   · rw [if_neg hc] at h ⊢
     by_cases hf : nth st.1 bp.toNat = -1
     · rw [if_pos hf] at h ⊢
       have nopage : ∀ a, GoodSpot pages a → Holds st a → a.page + a.count ≤ bp ∨ bp + 1 ≤ a.page := by
        intro a ga ha
        by_cases hpp : a.page + a.count ≤ bp ∨ bp + 1 ≤ a.page
        · exact hpp
        · exfalso
          cases has : a.small with
          | true =>
           obtain ⟨q1, _⟩ := ha.1 has
           have gs := ga.s1 has
           rw [show a.page = bp by omega, hf] at q1
           omega
          | false =>
           have := ha.2 has (bp - a.page).toNat (by have := ga.c1; omega)
           rw [show a.page.toNat + (bp - a.page).toNat = bp.toNat by have := ga.p0; omega, hf] at this
           omega
       refine ⟨fun a ga ha => ⟨.inr (nopage a ga ha), ?_⟩, ?_⟩
       · have hn := nopage a ga ha
         have h0 := ga.p0
         have h1 := ga.c1
         refine ⟨fun has => ?_, fun has t ht => ?_⟩
         · obtain ⟨q1, q2⟩ := ha.1 has
           simp only
           rw [nth_set2 hpl, nth_set2 hpm, if_neg (by omega), if_neg (by omega)]
           exact ⟨q1, q2⟩
         · simp only
           rw [nth_set2 hpl, if_neg (by omega)]
           exact ha.2 has t ht
       · refine ⟨fun _ => ⟨?_, ?_⟩, fun e => by cases e⟩
         · simp only; rw [nth_set2 hpl, if_pos rfl]
         · simp only; rw [nth_set2 hpm, if_pos rfl, Nat.testBit_two_pow_self]
     · rw [if_neg hf] at h; cases h
 · have hs2 : bs = false := by simpa using hs
   subst hs2
   simp only [Bool.false_eq_true, if_false] at h ⊢
   by_cases hf : (fillF bp.toNat bc.toNat 0 st.1).1 = true
   · rw [if_pos hf] at h ⊢
     obtain ⟨g1, g2⟩ := fillF_spec hf (by omega)
     have hlen : bp.toNat < (fillF bp.toNat bc.toNat 0 st.1).2.length := by rw [fillF_len]; exact hpl
     have val : ∀ x, nth ((fillF bp.toNat bc.toNat 0 st.1).2.set bp.toNat 6) x = if bp.toNat = x then 6 else if bp.toNat ≤ x ∧ x < bp.toNat + bc.toNat then 7 else nth st.1 x := by
      intro x
      rw [nth_set2 hlen, g2]
      simp only [Nat.add_zero]
     have nopage : ∀ a, GoodSpot pages a → Holds st a → a.page + a.count ≤ bp ∨ bp + bc ≤ a.page := by
      intro a ga ha
      by_cases hpp : a.page + a.count ≤ bp ∨ bp + bc ≤ a.page
      · exact hpp
      · exfalso
        have h0 := ga.p0
        have h1 := ga.c1
        cases has : a.small with
        | true =>
         obtain ⟨q1, _⟩ := ha.1 has
         have gs := ga.s1 has
         have := g1 (a.page - bp).toNat (by omega) (by omega)
         rw [show bp.toNat + (a.page - bp).toNat = a.page.toNat by omega, q1] at this
         omega
        | false =>
         by_cases hle : a.page ≤ bp
         · have e1 := ha.2 has (bp - a.page).toNat (by omega)
           have e2 := g1 0 (by omega) (by omega)
           rw [show a.page.toNat + (bp - a.page).toNat = bp.toNat + 0 by omega, e2] at e1
           omega
         · have e1 := ha.2 has 0 (by omega)
           have e2 := g1 (a.page - bp).toNat (by omega) (by omega)
           rw [show bp.toNat + (a.page - bp).toNat = a.page.toNat + 0 by omega] at e2
           simp only [Nat.add_zero] at e1 e2
           rw [e2] at e1
           omega
     refine ⟨fun a ga ha => ⟨.inr (nopage a ga ha), ?_⟩, ?_⟩
     · have hn := nopage a ga ha
       have h0 := ga.p0
       have h1 := ga.c1
       refine ⟨fun has => ?_, fun has t ht => ?_⟩
       · obtain ⟨q1, q2⟩ := ha.1 has
         refine ⟨?_, q2⟩
         simp only
         rw [val, if_neg (by omega), if_neg (by omega)]; exact q1
       · simp only
         rw [val, if_neg (by omega), if_neg (by omega)]; exact ha.2 has t ht
     · refine ⟨fun e => (by cases e), fun _ t ht => ?_⟩
       simp only at ht ⊢
       rw [val]
       split
       · exact .inr rfl
       · rw [if_pos (by omega)]; exact .inl rfl
   · rw [if_neg hf] at h; cases h
open Go.Awp
theorem wordsL_k {k : Nat} (h : k < 6) : nth wordsL k = 2 ∨ nth wordsL k = 3 ∨ nth wordsL k = 5 ∨ nth wordsL k = 7 ∨ nth wordsL k = 10 ∨ nth wordsL k = 15 := by
 have : k = 0 ∨ k = 1 ∨ k = 2 ∨ k = 3 ∨ k = 4 ∨ k = 5 := by omega
 rcases this with h | h | h | h | h | h <;> subst h <;> decide
theorem classS_spec {n : Int} (h : (classS n).2 = true) : 1 ≤ n ∧ ∃ k : Nat, k < 6 ∧ (classS n).1 = k ∧ n ≤ nth wordsL k * 8 := by
 unfold classS at h ⊢
 split
 · rename_i h1; rw [if_pos h1] at h; simp at h
 · rename_i h1
   rw [if_neg h1] at h
   refine ⟨by omega, ?_⟩
   cases hf : wordsL.findIdx? (fun w => decide (n ≤ w * 8)) with
   | none => rw [hf] at h; simp at h
   | some k =>
    obtain ⟨h2, h3, _⟩ := List.findIdx?_eq_some_iff_getElem.1 hf
    exact ⟨k, h2, rfl, by rw [nth_eq h2]; simpa using h3⟩
structure SpotW (pages : Int) (o : Int × Int) (a : Spot) : Prop where
 good : GoodSpot pages a
 sm : a.small = true → ∃ k : Nat, k < 6 ∧ a.cls = k ∧ o.1 = 32 * a.page + 4 + a.cell * nth wordsL k ∧ (o.2 + 7).tdiv 8 ≤ nth wordsL k ∧ 4 + (a.cell + 1) * nth wordsL k ≤ 32
 lg : a.small = false → o.1 = 32 * a.page ∧ (o.2 + 7).tdiv 8 ≤ 32 * a.count
theorem spot_words {pages : Int} {o : Int × Int} (h : (spotS pages o).2 = true) : SpotW pages o (spotS pages o).1 := by
 unfold spotS at h ⊢
 split
 · rename_i h1; rw [if_pos h1] at h; simp at h
 · rename_i h1
   rw [if_neg h1] at h
   have hdm : o.1 = 32 * o.1.tdiv 32 + o.1.tmod 32 := by
    rw [Int.tdiv_eq_ediv_of_nonneg (by omega), Int.tmod_eq_emod_of_nonneg (by omega)]; omega
   have hp : 0 ≤ o.1.tdiv 32 := Int.tdiv_nonneg (by omega) (by omega)
   have hm : 0 ≤ o.1.tmod 32 ∧ o.1.tmod 32 < 32 := by rw [Int.tmod_eq_emod_of_nonneg (by omega)]; omega
   split
   · rename_i h2
     rw [if_pos h2] at h
     simp only [Bool.and_eq_true, decide_eq_true_eq] at h
     obtain ⟨hn, k, hk, hcls, hlen⟩ := classS_spec h2
     obtain ⟨hw, hpg⟩ := h
     rw [hcls] at hw ⊢
     simp only
     have hwk := wordsL_k hk
     have hwb : 2 ≤ nth wordsL k ∧ nth wordsL k ≤ 15 := by omega
     obtain ⟨w, hwe⟩ : ∃ w, w = nth wordsL k := ⟨_, rfl⟩
     have hlen2 : (o.2 + 7).tdiv 8 ≤ w := by
      rw [Int.tdiv_eq_ediv_of_nonneg (by omega)]; omega
     have hcell : ∃ c : Int, (whichS k (o.1.tmod 32)).1 = c ∧ 0 ≤ c ∧ o.1.tmod 32 = 4 + c * w ∧ 4 + (c + 1) * w ≤ 32 := by
      unfold whichS at hw ⊢
      split
      · rename_i h3; rw [if_pos h3] at hw; simp at hw
      · rename_i h3
        rw [if_neg h3] at hw
        split
        · rename_i h4; rw [if_pos h4] at hw; simp at hw
        · rename_i h4
          simp only [Int.toNat_natCast] at h4 ⊢
          refine ⟨_, rfl, Int.tdiv_nonneg (by omega) (by omega), ?_⟩
          rw [← hwe] at h4 ⊢
          have h5 : ¬ (28 : Int).tdiv w ≤ (o.1.tmod 32 - 4).tdiv w := by omega
          have h6 : (o.1.tmod 32 - 4).tmod w = 0 := by omega
          generalize hx : o.1.tmod 32 - 4 = x at h5 h6
          have hx0 : 0 ≤ x := by omega
          rw [Int.tdiv_eq_ediv_of_nonneg (by omega), Int.tdiv_eq_ediv_of_nonneg hx0] at h5
          rw [Int.tmod_eq_emod_of_nonneg hx0] at h6
          rw [Int.tdiv_eq_ediv_of_nonneg hx0]
          rw [← hwe] at hwk
          rcases hwk with e | e | e | e | e | e <;> rw [e] at h5 h6 ⊢ <;> omega
     obtain ⟨c, e1, e2, e3, e4⟩ := hcell
     rw [e1]
     have hc : c < 64 := by
      rw [← hwe] at hwk
      rcases hwk with e | e | e | e | e | e <;> rw [e] at e4 <;> omega
     refine ⟨⟨hp, by simp, by simp only; omega, fun _ => ⟨rfl, by simp only; omega, by simp only; omega, e2, hc⟩⟩, fun _ => ⟨k, hk, rfl, ?_, by rw [← hwe]; exact hlen2, by rw [← hwe]; exact e4⟩, fun e => by cases e⟩
     simp only
     rw [← hwe]
     generalize c * w = y at e3 ⊢
     omega
   · rename_i h2
     rw [if_neg h2] at h
     simp only [Bool.and_eq_true, decide_eq_true_eq] at h
     obtain ⟨⟨⟨q1, q2⟩, q3⟩, q4⟩ := h
     have hk : 1 ≤ (pagesS o.2).1 ∧ (o.2 + 7).tdiv 8 ≤ 32 * (pagesS o.2).1 := by
      unfold pagesS at q1 ⊢
      split
      · rename_i h3; rw [if_pos h3] at q1; simp at q1
      · simp only; rw [Int.tdiv_eq_ediv_of_nonneg (by omega), Int.tdiv_eq_ediv_of_nonneg (by omega)]; omega
     refine ⟨⟨hp, hk.1, by simp only; omega, fun e => (by cases e)⟩, fun e => (by cases e), fun _ => ⟨by simp only; omega, hk.2⟩⟩
theorem okI_spot {pages : Int} {l : List (Int × Int)} {i : Nat} (h : okI pages l i = true) : (spotS pages (nth l i)).2 = true := by
 unfold okI layO at h
 split at h
 · assumption
 · simp at h
theorem okI_lay {pages : Int} {l : List (Int × Int)} {i : Nat} (h : okI pages l i = true) : stI pages l (i + 1) = (layS (stI pages l i).1 (stI pages l i).2 (spotS pages (nth l i)).1.page.toNat (spotS pages (nth l i)).1.count.toNat (spotS pages (nth l i)).1.small (spotS pages (nth l i)).1.cls (spotS pages (nth l i)).1.cell.toNat).2 ∧
    (layS (stI pages l i).1 (stI pages l i).2 (spotS pages (nth l i)).1.page.toNat (spotS pages (nth l i)).1.count.toNat (spotS pages (nth l i)).1.small (spotS pages (nth l i)).1.cls (spotS pages (nth l i)).1.cell.toNat).1 = true := by
 have hs := okI_spot h
 constructor
 · simp only [stI, layO]; rw [if_pos hs]
 · simp only [okI, layO] at h; rwa [if_pos hs] at h
theorem laid_holds {pages : Int} {l : List (Int × Int)} (hp : pages ≤ 64) : ∀ {i : Nat}, (∀ j, j < i → okI pages l j = true) → ∀ j, j < i → Holds (stI pages l i) (spotS pages (nth l j)).1
 | 0, _, j, h => by omega
 | i + 1, h, j, hj => by
  obtain ⟨e1, e2⟩ := okI_lay (h i (by omega))
  have hstep := lay_step hp stI_len.1 stI_len.2 (spot_words (okI_spot (h i (by omega)))).good e2
  rw [e1]
  by_cases hji : j = i
  · subst hji; exact hstep.2
  · exact (hstep.1 _ (spot_words (okI_spot (h j (by omega)))).good (laid_holds hp (fun j hj => h j (by omega)) j (by omega))).2
theorem laid_apart {pages : Int} {l : List (Int × Int)} (hp : pages ≤ 64) {i : Nat} (h : ∀ j, j ≤ i → okI pages l j = true) {j : Nat} (hj : j < i) : apartS (spotS pages (nth l j)).1 (spotS pages (nth l i)).1 := by
 obtain ⟨_, e2⟩ := okI_lay (h i (by omega))
 have hstep := lay_step hp stI_len.1 stI_len.2 (spot_words (okI_spot (h i (by omega)))).good e2
 exact (hstep.1 _ (spot_words (okI_spot (h j (by omega)))).good (laid_holds hp (fun j hj => h j (by omega)) j hj)).1
def wordsN (s : Slot) : Int := (s.len + 7).tdiv 8 + (if s.two = true then 0 else 2)
theorem twos_at {l : List Slot} {k : Nat} (hk : k < l.length) (h : isTwo (nth l k) = true) : ∃ i, i < (twosO l).length ∧ nth (twoIx l l.length) i = k := by
 have hm : k ∈ twoIx l l.length := by simp only [twoIx, List.mem_filter, List.mem_range]; exact ⟨hk, h⟩
 obtain ⟨i, hi, e⟩ := List.getElem_of_mem hm
 exact ⟨i, by simpa [twosO] using hi, by rw [nth_eq hi, e]⟩
theorem needS_words {n : Int} (h : 1 ≤ n ∧ n ≤ 2048) : (n + 7).tdiv 8 + 2 ≤ (needS n).1 := by
 unfold needS; rw [if_neg (by omega)]
 simp only [upS]
 have e1 : (n + 7).tdiv 8 = (n + 7) / 8 := Int.tdiv_eq_ediv_of_nonneg (by omega)
 have e2 : (n + 8 - 1).tdiv 8 = (n + 8 - 1) / 8 := Int.tdiv_eq_ediv_of_nonneg (by omega)
 rw [e1, e2, Int.tdiv_eq_ediv_of_nonneg (a := 2 + (n + 8 - 1) / 8 + 4 - 1) (by omega)]
 omega
theorem needS_pos {n : Int} (h : 1 ≤ n ∧ n ≤ 2048) : 4 ≤ (needS n).1 := by
 have := needS_words h
 have h2 : 0 < (n + 7).tdiv 8 := by rw [Int.tdiv_eq_ediv_of_nonneg (by omega)]; omega
 have h3 : (needS n).1 = upS (2 + (n + 8 - 1).tdiv 8) := by unfold needS; rw [if_neg (by omega)]
 rw [h3] at this ⊢
 unfold upS at this ⊢
 omega
open Go.Awp
section
variable {α : Type} [Inhabited α]
omit [Inhabited α] in
theorem nil_or_snoc (l : List α) : l = [] ∨ ∃ l' u, l = l' ++ [u] := by
 by_cases h : l = []
 · exact .inl h
 · exact .inr ⟨l.dropLast, l.getLast h, (List.dropLast_concat_getLast h).symm⟩
theorem nth_mid {P S : List α} {x : α} {i : Nat} (h : i = P.length) : nth (P ++ x :: S) i = x := by
 subst h; simp [nth]
theorem nth_at {l : List α} {i : Nat} {x : α} (h : l[i]? = some x) : nth l i = x := by simp [nth, h]
theorem swp_mid {P M S : List α} {x y : α} {i j : Nat} (hi : i = P.length) (hj : j = P.length + 1 + M.length) : swp (P ++ x :: (M ++ y :: S)) i j = P ++ y :: (M ++ x :: S) := by
 have hy : nth (P ++ x :: (M ++ y :: S)) j = y := by
  rw [show P ++ x :: (M ++ y :: S) = (P ++ x :: M) ++ y :: S by simp]
  exact nth_mid (by simp [hj]; omega)
 unfold swp
 rw [if_pos (by simp; omega), hy, nth_mid hi]
 subst hi hj
 apply List.ext_getElem?
 intro k
 simp only [List.getElem?_set, List.length_set]
 rcases Nat.lt_trichotomy k P.length with h | h | h
 · rw [if_neg (by omega), if_neg (by omega), List.getElem?_append_left h, List.getElem?_append_left h]
 · subst h; rw [if_neg (by omega), if_pos rfl, if_pos (by simp)]; simp
 · obtain ⟨d, rfl⟩ : ∃ d, k = P.length + 1 + d := ⟨k - (P.length + 1), by omega⟩
   have e : ∀ (z : α) (T : List α), (P ++ z :: T)[P.length + 1 + d]? = T[d]? := fun z T => by
    rw [List.getElem?_append_right (by omega), show P.length + 1 + d - P.length = d + 1 by omega]; simp
   rw [e, e, if_neg (show ¬ P.length = P.length + 1 + d by omega)]
   rcases Nat.lt_trichotomy d M.length with h | h | h
   · rw [if_neg (by omega), List.getElem?_append_left h, List.getElem?_append_left h]
   · subst h; rw [if_pos rfl, if_pos (by simp; omega)]; simp
   · rw [if_neg (by omega), List.getElem?_append_right (by omega), List.getElem?_append_right (by omega)]
     obtain ⟨q, hq⟩ : ∃ q, d - M.length = q + 1 := ⟨d - M.length - 1, by omega⟩
     rw [hq]; simp
theorem swp_adj {P S : List α} {x y : α} {i j : Nat} (hi : i = P.length) (hj : j = P.length + 1) : swp (P ++ x :: y :: S) i j = P ++ y :: x :: S :=
 swp_mid (M := []) hi (by simpa using hj)
theorem swp_adj' {P S : List α} {x y : α} {i j : Nat} (hi : i = P.length + 1) (hj : j = P.length) : swp (P ++ x :: y :: S) i j = P ++ y :: x :: S := by
 rw [← swp_adj (P := P) (S := S) (x := x) (y := y) hj hi]
 unfold swp
 subst hi hj
 have h1 : P.length < (P ++ x :: y :: S).length := by simp
 have h2 : P.length + 1 < (P ++ x :: y :: S).length := by simp
 rw [if_pos ⟨h2, h1⟩, if_pos ⟨h1, h2⟩, List.set_comm _ _ (by omega)]
theorem swrF_mid {a b : Nat} : ∀ (k i : Nat) (P X M Y S : List α), X.length = k → Y.length = k → a + i = P.length → b + i = P.length + k + M.length →
    swrF a b k i (P ++ (X ++ (M ++ (Y ++ S)))) = P ++ (Y ++ (M ++ (X ++ S)))
 | 0, i, P, X, M, Y, S, hX, hY, _, _ => by
  rw [List.length_eq_zero_iff] at hX hY; subst hX hY; rfl
 | k + 1, i, P, x :: X, M, y :: Y, S, hX, hY, ha, hb => by
  have e := swp_mid (P := P) (M := X ++ M) (S := Y ++ S) (x := x) (y := y) (i := a + i) (j := b + i) ha (by simp at hX ⊢; omega)
  have e1 : P ++ ((x :: X) ++ (M ++ ((y :: Y) ++ S))) = P ++ x :: ((X ++ M) ++ y :: (Y ++ S)) := by simp
  unfold swrF
  rw [e1, e]
  have := swrF_mid (a := a) (b := b) k (i + 1) (P ++ [y]) X (M ++ [x]) Y S (by simpa using hX) (by simpa using hY) (by simp; omega) (by simp; omega)
  have e2 : P ++ y :: ((X ++ M) ++ x :: (Y ++ S)) = (P ++ [y]) ++ (X ++ ((M ++ [x]) ++ (Y ++ S))) := by simp
  rw [e2, this]; simp
theorem swr_mid {a b n : Nat} {P X M Y S : List α} (hX : X.length = n) (hY : Y.length = n) (ha : a = P.length) (hb : b = P.length + n + M.length) :
    swr a b n (P ++ (X ++ (M ++ (Y ++ S)))) = P ++ (Y ++ (M ++ (X ++ S))) := swrF_mid n 0 P X M Y S hX hY (by omega) (by omega)
theorem rotF_mid {m : Nat} : ∀ (f i j : Nat) (P L R S : List α), i + j ≤ f → 0 < i → 0 < j → L.length = i → R.length = j → i ≤ m → m = P.length + i →
    rotF m f i j (P ++ (L ++ (R ++ S))) = P ++ (R ++ (L ++ S))
 | 0, i, j, P, L, R, S, hf, hi, hj, _, _, _, _ => by omega
 | f + 1, i, j, P, L, R, S, hf, hi, hj, hL, hR, him, hm => by
  unfold rotF
  split
  · rename_i h; subst h
    have := swr_mid (a := m - i) (b := m) (P := P) (X := L) (M := []) (Y := R) (S := S) hL hR (by omega) (by rw [List.length_nil]; omega)
    simpa using this
  · split
    · rename_i h1 h2
      have eL : L = L.take j ++ L.drop j := (List.take_append_drop ..).symm
      have e1 : P ++ (L ++ (R ++ S)) = P ++ (L.take j ++ (L.drop j ++ (R ++ S))) := by
       rw [← List.append_assoc (L.take j), List.take_append_drop]
      rw [e1, swr_mid (X := L.take j) (M := L.drop j) (Y := R) (by simp; omega) hR (by omega) (by simp; omega)]
      have := rotF_mid (m := m) f (i - j) j (P ++ R) (L.drop j) (L.take j) S (by omega) (by omega) hj (by simp; omega) (by simp; omega) (by omega) (by simp; omega)
      rw [show P ++ (R ++ (L.drop j ++ (L.take j ++ S))) = (P ++ R) ++ (L.drop j ++ (L.take j ++ S)) by simp, this]
      rw [List.append_assoc, ← List.append_assoc (L.take j), List.take_append_drop]
    · rename_i h1 h2
      have eR : R = R.take (j - i) ++ R.drop (j - i) := (List.take_append_drop ..).symm
      have e1 : P ++ (L ++ (R ++ S)) = P ++ (L ++ (R.take (j - i) ++ (R.drop (j - i) ++ S))) := by
       rw [← List.append_assoc (R.take (j - i)), List.take_append_drop]
      rw [e1, swr_mid (X := L) (M := R.take (j - i)) (Y := R.drop (j - i)) hL (by simp; omega) (by omega) (by simp; omega)]
      rw [rotF_mid (m := m) f i (j - i) P (R.drop (j - i)) (R.take (j - i)) (L ++ S) (by omega) hi (by omega) (by simp; omega) (by simp; omega) him hm]
      rw [← List.append_assoc (R.take (j - i)), List.take_append_drop]
theorem rotS_mid {a m b : Nat} {P L R S : List α} (h1 : 0 < L.length) (h2 : 0 < R.length) (ha : a = P.length) (hm : m = a + L.length) (hb : b = m + R.length) : rotS a m b (P ++ (L ++ (R ++ S))) = P ++ (R ++ (L ++ S)) := by
 unfold rotS
 exact rotF_mid _ _ _ P L R S (by omega) (by omega) (by omega) (by omega) (by omega) (by omega) (by omega)
theorem upF_mid : ∀ (k i : Nat) (P A C : List α) (x : α), A.length = k → i = P.length → upF k i (P ++ x :: (A ++ C)) = P ++ (A ++ x :: C)
 | 0, i, P, A, C, x, hA, _ => by rw [List.length_eq_zero_iff] at hA; subst hA; rfl
 | k + 1, i, P, y :: A, C, x, hA, hi => by
  unfold upF
  rw [show P ++ x :: ((y :: A) ++ C) = P ++ x :: y :: (A ++ C) by simp, swp_adj hi (by omega)]
  have := upF_mid k (i + 1) (P ++ [y]) A C x (by simpa using hA) (by simp; omega)
  rw [show P ++ y :: x :: (A ++ C) = (P ++ [y]) ++ x :: (A ++ C) by simp, this]; simp
theorem dnF_mid : ∀ (k i : Nat) (P A C : List α) (x : α), A.length = k → i = P.length + k → dnF k i (P ++ (A ++ x :: C)) = P ++ x :: (A ++ C)
 | 0, i, P, A, C, x, hA, _ => by rw [List.length_eq_zero_iff] at hA; subst hA; rfl
 | k + 1, i, P, A, C, x, hA, hi => by
  obtain ⟨A', y, rfl⟩ : ∃ A' y, A = A' ++ [y] := by
   rcases nil_or_snoc A with rfl | h
   · simp at hA
   · exact h
  have hA' : A'.length = k := by simpa using hA
  unfold dnF
  rw [show P ++ ((A' ++ [y]) ++ x :: C) = (P ++ A') ++ y :: x :: C by simp, swp_adj' (by simp; omega) (by simp; omega)]
  have := dnF_mid k (i - 1) P A' (y :: C) x hA' (by omega)
  rw [show (P ++ A') ++ x :: y :: C = P ++ (A' ++ x :: (y :: C)) by simp, this]; simp
end
theorem bsF_spec {p : Nat → Bool} : ∀ (f i j : Nat), j - i ≤ f → i ≤ j → (∀ x y, i ≤ x → x < y → y < j → p y = true → p x = true) →
    (∀ x, i ≤ x → x < bsF p f i j → p x = true) ∧ (∀ x, bsF p f i j ≤ x → x < j → p x = false)
 | 0, i, j, hf, h, hp => by
  have : i = j := by omega
  subst this
  exact ⟨fun x h1 h2 => by simp [bsF] at h2; omega, fun x h1 h2 => by simp [bsF] at h1; omega⟩
 | f + 1, i, j, hf, h, hp => by
  by_cases hij : i < j
  · cases hq : p ((i + j) / 2) with
    | true =>
     rw [bsF_t hij hq]
     obtain ⟨a1, a2⟩ := bsF_spec f ((i + j) / 2 + 1) j (by omega) (by omega) (fun x y h1 h2 h3 h4 => hp x y (by omega) h2 h3 h4)
     refine ⟨fun x h1 h2 => ?_, a2⟩
     rcases Nat.lt_trichotomy x ((i + j) / 2) with h | h | h
     · exact hp x _ h1 h (by omega) hq
     · rw [h]; exact hq
     · exact a1 x (by omega) h2
    | false =>
     rw [bsF_f hij hq]
     obtain ⟨a1, a2⟩ := bsF_spec f i ((i + j) / 2) (by omega) (by omega) (fun x y h1 h2 h3 h4 => hp x y h1 h2 (by omega) h4)
     refine ⟨a1, fun x h1 h2 => ?_⟩
     by_cases hx : x < (i + j) / 2
     · exact a2 x h1 hx
     · cases hpx : p x with
       | false => rfl
       | true =>
        rcases Nat.lt_or_ge ((i + j) / 2) x with h | h
        · have := hp _ x (by omega) h h2 hpx; rw [hq] at this; cases this
        · have : x = (i + j) / 2 := by omega
          rw [this, hq] at hpx; cases hpx
  · rw [bsF_end (by omega)]
    exact ⟨fun x h1 h2 => by omega, fun x h1 h2 => by omega⟩
theorem bsS_spec {p : Nat → Bool} {i j : Nat} (h : i ≤ j) (hp : ∀ x y, i ≤ x → x < y → y < j → p y = true → p x = true) :
    (∀ x, i ≤ x → x < bsS p i j → p x = true) ∧ (∀ x, bsS p i j ≤ x → x < j → p x = false) := bsF_spec _ i j (Nat.le_refl _) h hp
open Go.Awp
section
variable {α : Type} [Inhabited α] {lt : α → α → Bool} {R Q : α → α → Prop}
structure Keys (lt : α → α → Bool) (R Q : α → α → Prop) : Prop where
 tr : ∀ {x y z}, R x y → R y z → R x z
 no : ∀ {x y}, Q x y → lt y x = false → R x y
 on : ∀ {x y}, Q x y → lt y x = true → R y x
 sa : ∀ {x y}, Q x y → R x y → lt y x = false
variable (K : Keys lt R Q)
include K
theorem cross {A B : List α} {u v : α} {A' B' : List α} (hA : A = A' ++ [u]) (hB : B = v :: B') (sA : A.Pairwise R) (sB : B.Pairwise R) (h : R u v) : ∀ x ∈ A, ∀ y ∈ B, R x y := by
 subst hA hB
 have h1 : ∀ x ∈ A', R x u := fun x hx => (List.pairwise_append.1 sA).2.2 x hx u (by simp)
 have h2 : ∀ y ∈ B', R v y := (List.pairwise_cons.1 sB).1
 intro x hx y hy
 have a1 : R x v := by
  rcases List.mem_append.1 hx with hx | hx
  · exact K.tr (h1 x hx) h
  · simp at hx; subst hx; exact h
 rcases List.mem_cons.1 hy with rfl | hy
 · exact a1
 · exact K.tr a1 (h2 y hy)
theorem symF_ok : ∀ (f a m b : Nat) (P L M S : List α), a = P.length → m = a + L.length → b = m + M.length → L.length + M.length ≤ f → 0 < L.length → 0 < M.length → L.Pairwise R → M.Pairwise R →
    (∀ x ∈ L, ∀ y ∈ M, Q x y) → ∃ X, symF lt f a m b (P ++ (L ++ (M ++ S))) = P ++ (X ++ S) ∧ X.Perm (L ++ M) ∧ X.Pairwise R
 | 0, a, m, b, P, L, M, S, _, _, _, hf, hL, _, _, _, _ => by omega
 | f + 1, a, m, b, P, L, M, S, ha, hm, hb, hf, hL, hM, sL, sM, hQ => by
  have nL : ∀ c, a ≤ c → c < m → ∀ (h : c - a < L.length), nth (P ++ (L ++ (M ++ S))) c = L[c - a] := fun c h1 h2 h => nth_at (by
    rw [List.getElem?_append_right (by omega), List.getElem?_append_left (by omega), List.getElem?_eq_getElem (by omega)]; simp only [ha])
  have nM : ∀ c, m ≤ c → c < b → ∀ (h : c - m < M.length), nth (P ++ (L ++ (M ++ S))) c = M[c - m] := fun c h1 h2 h => nth_at (by
    rw [List.getElem?_append_right (by omega), List.getElem?_append_right (by omega), List.getElem?_append_left (by omega), List.getElem?_eq_getElem (by omega)]
    simp only [show c - P.length - L.length = c - m by omega])
  have oL : ∀ i j (hi : i < L.length) (hj : j < L.length), i < j → R L[i] L[j] := fun i j hi hj h => List.pairwise_iff_getElem.1 sL i j hi hj h
  have oM : ∀ i j (hi : i < M.length) (hj : j < M.length), i < j → R M[i] M[j] := fun i j hi hj h => List.pairwise_iff_getElem.1 sM i j hi hj h
  by_cases k1 : m - a = 1
  · obtain ⟨x, rfl⟩ : ∃ x, L = [x] := List.length_eq_one_iff.1 (by omega)
    have hx : nth (P ++ ([x] ++ (M ++ S))) a = x := nth_mid (S := M ++ S) ha
    have hp : ∀ c, m ≤ c → ∀ (h : c - m < M.length), lt (nth (P ++ ([x] ++ (M ++ S))) c) (nth (P ++ ([x] ++ (M ++ S))) a) = lt M[c - m] x := fun c h1 h => by rw [hx, nM c h1 (by omega) h]
    have sp := bsS_spec (p := fun h => lt (nth (P ++ ([x] ++ (M ++ S))) h) (nth (P ++ ([x] ++ (M ++ S))) a)) (i := m) (j := b) (by omega) (fun c d h1 h2 h3 h4 => by
      rw [hp d (by omega) (by omega)] at h4
      rw [hp c h1 (by omega)]
      have r1 := K.on (hQ x (by simp) _ (List.getElem_mem _)) h4
      have r2 := K.tr (oM (c - m) (d - m) (by omega) (by omega) (by omega)) r1
      cases hl : lt M[c - m] x with
      | true => rfl
      | false =>
        have r3 := K.no (hQ x (by simp) _ (List.getElem_mem _)) hl
        have := K.sa (hQ x (by simp) _ (List.getElem_mem _)) (K.tr r3 (oM (c - m) (d - m) (by omega) (by omega) (by omega)))
        rw [h4] at this; cases this)
    have hbd := bsS_le (p := fun h => lt (nth (P ++ ([x] ++ (M ++ S))) h) (nth (P ++ ([x] ++ (M ++ S))) a)) (i := m) (j := b) (by omega)
    unfold symF
    rw [if_pos k1]
    simp only
    generalize bsS (fun h => lt (nth (P ++ ([x] ++ (M ++ S))) h) (nth (P ++ ([x] ++ (M ++ S))) a)) m b = i at sp hbd
    have e : P ++ ([x] ++ (M ++ S)) = P ++ x :: (M.take (i - m) ++ (M.drop (i - m) ++ S)) := by
     rw [← List.append_assoc (M.take (i - m)), List.take_append_drop]; rfl
    rw [e, upF_mid (i - 1 - a) a P (M.take (i - m)) (M.drop (i - m) ++ S) x (by simp at hm ⊢; omega) ha]
    refine ⟨M.take (i - m) ++ x :: M.drop (i - m), by simp, ?_, ?_⟩
    · refine List.perm_middle.trans ?_
      simp
    · have h1 : ∀ y ∈ M.take (i - m), R y x := fun y hy => by
       obtain ⟨k, hk, rfl⟩ := List.getElem_of_mem hy
       simp only [List.length_take] at hk
       rw [List.getElem_take]
       have h := sp.1 (m + k) (by omega) (by omega)
       rw [hp _ (by omega) (by omega)] at h
       simp only [Nat.add_sub_cancel_left] at h
       exact K.on (hQ x (by simp) _ (List.getElem_mem _)) h
      have h2 : ∀ y ∈ M.drop (i - m), R x y := fun y hy => by
       obtain ⟨k, hk, rfl⟩ := List.getElem_of_mem hy
       simp only [List.length_drop] at hk
       rw [List.getElem_drop]
       have h := sp.2 (i + k) (by omega) (by omega)
       rw [hp _ (by omega) (by omega)] at h
       simp only [show i + k - m = i - m + k by omega] at h
       exact K.no (hQ x (by simp) _ (List.getElem_mem _)) h
      have sM' : (M.take (i - m) ++ M.drop (i - m)).Pairwise R := by rw [List.take_append_drop]; exact sM
      obtain ⟨s1, s2, s3⟩ := List.pairwise_append.1 sM'
      refine List.pairwise_append.2 ⟨s1, List.pairwise_cons.2 ⟨h2, s2⟩, fun y hy z hz => ?_⟩
      rcases List.mem_cons.1 hz with rfl | hz
      · exact h1 y hy
      · exact s3 y hy z hz
  by_cases k2 : b - m = 1
  · obtain ⟨y, rfl⟩ : ∃ y, M = [y] := List.length_eq_one_iff.1 (by omega)
    have hy : nth (P ++ (L ++ ([y] ++ S))) m = y := by
     rw [show P ++ (L ++ ([y] ++ S)) = (P ++ L) ++ y :: S by simp]
     exact nth_mid (by simp; omega)
    have hp : ∀ c, a ≤ c → ∀ (h : c - a < L.length), lt (nth (P ++ (L ++ ([y] ++ S))) m) (nth (P ++ (L ++ ([y] ++ S))) c) = lt y L[c - a] := fun c h1 h => by rw [hy, nL c h1 (by omega) h]
    have sp := bsS_spec (p := fun h => !lt (nth (P ++ (L ++ ([y] ++ S))) m) (nth (P ++ (L ++ ([y] ++ S))) h)) (i := a) (j := m) (by omega) (fun c d h1 h2 h3 h4 => by
      simp only [Bool.not_eq_true'] at h4 ⊢
      rw [hp d (by omega) (by omega)] at h4
      rw [hp c h1 (by omega)]
      exact K.sa (hQ _ (List.getElem_mem _) y (by simp)) (K.tr (oL (c - a) (d - a) (by omega) (by omega) (by omega)) (K.no (hQ _ (List.getElem_mem _) y (by simp)) h4)))
    have hbd := bsS_le (p := fun h => !lt (nth (P ++ (L ++ ([y] ++ S))) m) (nth (P ++ (L ++ ([y] ++ S))) h)) (i := a) (j := m) (by omega)
    unfold symF
    rw [if_neg k1, if_pos k2]
    simp only
    generalize bsS (fun h => !lt (nth (P ++ (L ++ ([y] ++ S))) m) (nth (P ++ (L ++ ([y] ++ S))) h)) a m = i at sp hbd
    have e : P ++ (L ++ ([y] ++ S)) = (P ++ L.take (i - a)) ++ (L.drop (i - a) ++ y :: S) := by
     rw [List.append_assoc, ← List.append_assoc (L.take (i - a)), List.take_append_drop]; rfl
    rw [e, dnF_mid (m - i) m (P ++ L.take (i - a)) (L.drop (i - a)) S y (by simp; omega) (by simp; omega)]
    refine ⟨L.take (i - a) ++ y :: L.drop (i - a), by simp, ?_, ?_⟩
    · refine List.perm_middle.trans ?_
      rw [List.take_append_drop]
      exact (List.perm_append_comm (l₁ := [y]) (l₂ := L))
    · have h1 : ∀ x ∈ L.take (i - a), R x y := fun x hx => by
       obtain ⟨k, hk, rfl⟩ := List.getElem_of_mem hx
       simp only [List.length_take] at hk
       rw [List.getElem_take]
       have h := sp.1 (a + k) (by omega) (by omega)
       simp only [Bool.not_eq_true'] at h
       rw [hp _ (by omega) (by omega)] at h
       simp only [Nat.add_sub_cancel_left] at h
       exact K.no (hQ _ (List.getElem_mem _) y (by simp)) h
      have h2 : ∀ x ∈ L.drop (i - a), R y x := fun x hx => by
       obtain ⟨k, hk, rfl⟩ := List.getElem_of_mem hx
       simp only [List.length_drop] at hk
       rw [List.getElem_drop]
       have h := sp.2 (i + k) (by omega) (by omega)
       simp only [Bool.not_eq_false'] at h
       rw [hp _ (by omega) (by omega)] at h
       simp only [show i + k - a = i - a + k by omega] at h
       exact K.on (hQ _ (List.getElem_mem _) y (by simp)) h
      have sL' : (L.take (i - a) ++ L.drop (i - a)).Pairwise R := by rw [List.take_append_drop]; exact sL
      obtain ⟨s1, s2, s3⟩ := List.pairwise_append.1 sL'
      refine List.pairwise_append.2 ⟨s1, List.pairwise_cons.2 ⟨h2, s2⟩, fun x hx z hz => ?_⟩
      rcases List.mem_cons.1 hz with rfl | hz
      · exact h1 x hx
      · exact s3 x hx z hz
  -- the general step
  obtain ⟨mid, hmid⟩ : ∃ mid, mid = (a + b) / 2 := ⟨_, rfl⟩
  obtain ⟨N, hN⟩ : ∃ N, N = mid + m := ⟨_, rfl⟩
  obtain ⟨s0, hs0⟩ : ∃ s0, s0 = if mid < m then N - b else a := ⟨_, rfl⟩
  obtain ⟨r0, hr0⟩ : ∃ r0, r0 = if mid < m then mid else m := ⟨_, rfl⟩
  have hsr : a ≤ s0 ∧ s0 ≤ r0 ∧ r0 ≤ m ∧ r0 ≤ mid ∧ N ≤ b + s0 := by
   rw [hs0, hr0]; split <;> omega
  have hrange : ∀ c, s0 ≤ c → c < r0 → a ≤ c ∧ c < m ∧ m ≤ N - 1 - c ∧ N - 1 - c < b := fun c h1 h2 => by omega
  have hp : ∀ c (h1 : s0 ≤ c) (h2 : c < r0), lt (nth (P ++ (L ++ (M ++ S))) (N - 1 - c)) (nth (P ++ (L ++ (M ++ S))) c) = lt (M[N - 1 - c - m]'(by have := hrange c h1 h2; omega)) (L[c - a]'(by have := hrange c h1 h2; omega)) := fun c h1 h2 => by
   have := hrange c h1 h2
   rw [nL c (by omega) (by omega) (by omega), nM (N - 1 - c) (by omega) (by omega) (by omega)]
  obtain ⟨st, hst⟩ : ∃ st, bsS (fun c => !lt (nth (P ++ (L ++ (M ++ S))) (N - 1 - c)) (nth (P ++ (L ++ (M ++ S))) c)) s0 r0 = st := ⟨_, rfl⟩
  have sp := bsS_spec (p := fun c => !lt (nth (P ++ (L ++ (M ++ S))) (N - 1 - c)) (nth (P ++ (L ++ (M ++ S))) c)) (i := s0) (j := r0) (by omega) (fun c d h1 h2 h3 h4 => by
    simp only [Bool.not_eq_true'] at h4 ⊢
    have q1 := hrange c h1 (by omega)
    have q2 := hrange d (by omega) h3
    rw [hp d (by omega) h3] at h4
    rw [hp c h1 (by omega)]
    refine K.sa (hQ _ (List.getElem_mem _) _ (List.getElem_mem _)) (K.tr (oL (c - a) (d - a) (by omega) (by omega) (by omega)) (K.tr (K.no (hQ _ (List.getElem_mem _) _ (List.getElem_mem _)) h4) (oM (N - 1 - d - m) (N - 1 - c - m) (by omega) (by omega) (by omega)))))
  have hbd := bsS_le (p := fun c => !lt (nth (P ++ (L ++ (M ++ S))) (N - 1 - c)) (nth (P ++ (L ++ (M ++ S))) c)) (i := s0) (j := r0) (by omega)
  rw [hst] at sp hbd
  obtain ⟨en, hen⟩ : ∃ en, en = N - st := ⟨_, rfl⟩
  rw [symF_gen k1 k2 hmid hN rfl hs0 hr0 hst hen]
  have hb1 : a ≤ st ∧ st ≤ m ∧ m ≤ en ∧ en ≤ b ∧ st ≤ mid := by omega
  have hp1 : ∀ c, s0 ≤ c → c < st → ∀ (h1 : c - a < L.length) (h2 : N - 1 - c - m < M.length), R L[c - a] M[N - 1 - c - m] := fun c h1 h2 h3 h4 => by
   have h := sp.1 c h1 h2
   simp only [Bool.not_eq_true'] at h
   rw [hp c h1 (by omega)] at h
   exact K.no (hQ _ (List.getElem_mem _) _ (List.getElem_mem _)) h
  have hp2 : ∀ c, st ≤ c → c < r0 → ∀ (h1 : c - a < L.length) (h2 : N - 1 - c - m < M.length), R M[N - 1 - c - m] L[c - a] := fun c h1 h2 h3 h4 => by
   have h := sp.2 c h1 h2
   simp only [Bool.not_eq_false'] at h
   rw [hp c (by omega) h2] at h
   exact K.on (hQ _ (List.getElem_mem _) _ (List.getElem_mem _)) h
  -- the parts
  obtain ⟨L1, L2, rfl, hL1⟩ : ∃ L1 L2, L = L1 ++ L2 ∧ L1.length = st - a := ⟨L.take (st - a), L.drop (st - a), by simp, by simp; omega⟩
  obtain ⟨M1, M2, rfl, hM1⟩ : ∃ M1 M2, M = M1 ++ M2 ∧ M1.length = en - m := ⟨M.take (en - m), M.drop (en - m), by simp, by simp; omega⟩
  simp only [List.length_append] at hm hb hf hL hM
  obtain ⟨sL1, sL2, sL12⟩ := List.pairwise_append.1 sL
  obtain ⟨sM1, sM2, sM12⟩ := List.pairwise_append.1 sM
  have c1 : ∀ x ∈ L1, ∀ y ∈ M2, R x y := by
   rcases Nat.eq_zero_or_pos L1.length with h | h
   · rw [List.length_eq_zero_iff] at h; subst h; simp
   rcases Nat.eq_zero_or_pos M2.length with h' | h'
   · rw [List.length_eq_zero_iff] at h'; subst h'; simp
   have hs : s0 < st := by
    rcases Nat.lt_or_ge s0 st with h | h
    · exact h
    · exfalso; have : st = s0 := by omega
      rw [hs0] at this; split at this <;> omega
   have hr := hp1 (st - 1) (by omega) (by omega) (by simp; omega) (by simp; omega)
   have e1 : (L1 ++ L2)[st - 1 - a]'(by simp; omega) = L1[L1.length - 1]'(by omega) := by rw [List.getElem_append_left (by omega)]; congr 1; omega
   have e2 : (M1 ++ M2)[N - 1 - (st - 1) - m]'(by simp; omega) = M2[0]'h' := by rw [List.getElem_append_right (by omega)]; congr 1; omega
   rw [e1, e2] at hr
   have hA : L1 = L1.dropLast ++ [L1[L1.length - 1]'(by omega)] := by
    have := List.dropLast_concat_getLast (l := L1) (by intro e; subst e; simp at h)
    rw [List.getLast_eq_getElem] at this; exact this.symm
   have hB : M2 = M2[0]'h' :: M2.tail := by cases M2 with
    | nil => simp at h'
    | cons z t => rfl
   exact cross K hA hB sL1 sM2 hr
  have c2 : ∀ x ∈ M1, ∀ y ∈ L2, R x y := by
   rcases Nat.eq_zero_or_pos M1.length with h | h
   · rw [List.length_eq_zero_iff] at h; subst h; simp
   rcases Nat.eq_zero_or_pos L2.length with h' | h'
   · rw [List.length_eq_zero_iff] at h'; subst h'; simp
   have hs : st < r0 := by
    rcases Nat.lt_or_ge st r0 with h | h
    · exact h
    · exfalso; have : st = r0 := by omega
      rw [hr0] at this; split at this <;> omega
   have hr := hp2 st (Nat.le_refl _) hs (by simp; omega) (by simp; omega)
   have e1 : (L1 ++ L2)[st - a]'(by simp; omega) = L2[0]'h' := by rw [List.getElem_append_right (by omega)]; congr 1; omega
   have e2 : (M1 ++ M2)[N - 1 - st - m]'(by simp; omega) = M1[M1.length - 1]'(by omega) := by rw [List.getElem_append_left (by omega)]; congr 1; omega
   rw [e1, e2] at hr
   have hA : M1 = M1.dropLast ++ [M1[M1.length - 1]'(by omega)] := by
    have := List.dropLast_concat_getLast (l := M1) (by intro e; subst e; simp at h)
    rw [List.getLast_eq_getElem] at this; exact this.symm
   have hB : L2 = L2[0]'h' :: L2.tail := by cases L2 with
    | nil => simp at h'
    | cons z t => rfl
   exact cross K hA hB sM1 sL2 hr
  have hl1 : (if st < m ∧ m < en then rotS st m en (P ++ (L1 ++ L2 ++ (M1 ++ M2 ++ S))) else P ++ (L1 ++ L2 ++ (M1 ++ M2 ++ S))) = P ++ (L1 ++ (M1 ++ (L2 ++ (M2 ++ S)))) := by
   split
   · rw [show P ++ (L1 ++ L2 ++ (M1 ++ M2 ++ S)) = (P ++ L1) ++ (L2 ++ (M1 ++ (M2 ++ S))) by simp]
     rw [rotS_mid (by omega) (by omega) (by simp; omega) (by omega) (by omega)]; simp
   · rename_i h
     have : L2.length = 0 ∨ M1.length = 0 := by omega
     rcases this with h | h <;> (rw [List.length_eq_zero_iff] at h; subst h; simp)
  simp only [hl1]
  obtain ⟨X1, hX1, pX1, sX1⟩ : ∃ X1, (if a < st ∧ st < mid then symF lt f a st mid (P ++ (L1 ++ (M1 ++ (L2 ++ (M2 ++ S))))) else P ++ (L1 ++ (M1 ++ (L2 ++ (M2 ++ S))))) = P ++ (X1 ++ (L2 ++ (M2 ++ S))) ∧ X1.Perm (L1 ++ M1) ∧ X1.Pairwise R := by
   split
   · exact symF_ok f a st mid P L1 M1 (L2 ++ (M2 ++ S)) ha (by omega) (by omega) (by omega) (by omega) (by omega) sL1 sM1 (fun x hx y hy => hQ x (by simp [hx]) y (by simp [hy]))
   · rename_i h
     have : L1.length = 0 ∨ M1.length = 0 := by omega
     refine ⟨L1 ++ M1, by simp, .refl _, ?_⟩
     rcases this with h | h <;> (rw [List.length_eq_zero_iff] at h; subst h; simpa)
  rw [hX1]
  have hX1l : X1.length = mid - a := by rw [pX1.length_eq, List.length_append]; omega
  obtain ⟨X2, hX2, pX2, sX2⟩ : ∃ X2, (if mid < en ∧ en < b then symF lt f mid en b (P ++ (X1 ++ (L2 ++ (M2 ++ S)))) else P ++ (X1 ++ (L2 ++ (M2 ++ S)))) = P ++ (X1 ++ (X2 ++ S)) ∧ X2.Perm (L2 ++ M2) ∧ X2.Pairwise R := by
   split
   · obtain ⟨X2, h1, h2, h3⟩ := symF_ok f mid en b (P ++ X1) L2 M2 S (by simp; omega) (by omega) (by omega) (by omega) (by omega) (by omega) sL2 sM2 (fun x hx y hy => hQ x (by simp [hx]) y (by simp [hy]))
     exact ⟨X2, by rw [show P ++ (X1 ++ (L2 ++ (M2 ++ S))) = (P ++ X1) ++ (L2 ++ (M2 ++ S)) by simp, h1]; simp, h2, h3⟩
   · rename_i h
     have : L2.length = 0 ∨ M2.length = 0 := by omega
     refine ⟨L2 ++ M2, by simp, .refl _, ?_⟩
     rcases this with h | h <;> (rw [List.length_eq_zero_iff] at h; subst h; simpa)
  rw [hX2]
  refine ⟨X1 ++ X2, by simp, ?_, List.pairwise_append.2 ⟨sX1, sX2, fun x hx y hy => ?_⟩⟩
  · refine (pX1.append pX2).trans ?_
    rw [List.append_assoc, List.append_assoc]
    refine List.Perm.append_left L1 ?_
    rw [← List.append_assoc, ← List.append_assoc]
    exact List.Perm.append_right M2 List.perm_append_comm
  · have hx := pX1.mem_iff.1 hx
    have hy := pX2.mem_iff.1 hy
    rcases List.mem_append.1 hx with hx | hx <;> rcases List.mem_append.1 hy with hy | hy
    · exact sL12 x hx y hy
    · exact c1 x hx y hy
    · exact c2 x hx y hy
    · exact sM12 x hx y hy
theorem sink_ok : ∀ (j : Nat) (a : Nat) (P X S : List α) (y : α), a = P.length → j = a + X.length → ∃ A C, X = A ++ C ∧ sink lt a j (P ++ (X ++ y :: S)) = P ++ (A ++ y :: (C ++ S)) ∧ (∀ c ∈ C, lt y c = true) ∧ (∀ A' u, A = A' ++ [u] → lt y u = false)
 | 0, a, P, X, S, y, ha, hj => by
  have : X.length = 0 := by omega
  rw [List.length_eq_zero_iff] at this; subst this
  exact ⟨[], [], rfl, rfl, by simp, fun A' u h => by simp at h⟩
 | j + 1, a, P, X, S, y, ha, hj => by
  rcases nil_or_snoc X with rfl | ⟨X', u, rfl⟩
  · refine ⟨[], [], rfl, ?_, by simp, fun A' u h => by simp at h⟩
    unfold sink
    rw [if_neg (by simp at hj; omega)]; rfl
  · simp only [List.length_append, List.length_cons, List.length_nil] at hj
    have h1 : nth (P ++ ((X' ++ [u]) ++ y :: S)) (j + 1) = y := by
     rw [show P ++ ((X' ++ [u]) ++ y :: S) = (P ++ (X' ++ [u])) ++ y :: S by simp]
     exact nth_mid (by simp; omega)
    have h2 : nth (P ++ ((X' ++ [u]) ++ y :: S)) j = u := by
     rw [show P ++ ((X' ++ [u]) ++ y :: S) = (P ++ X') ++ u :: (y :: S) by simp]
     exact nth_mid (by simp; omega)
    unfold sink
    rw [h1, h2]
    split
    · rename_i h
      have e : swp (P ++ ((X' ++ [u]) ++ y :: S)) (j + 1) j = P ++ (X' ++ y :: (u :: S)) := by
       rw [show P ++ ((X' ++ [u]) ++ y :: S) = (P ++ X') ++ u :: y :: S by simp, swp_adj' (by simp; omega) (by simp; omega)]; simp
      rw [e]
      obtain ⟨A, C, r1, r2, r3, r4⟩ := sink_ok j a P X' (u :: S) y ha (by omega)
      refine ⟨A, C ++ [u], by rw [r1]; simp, by rw [r2]; simp, fun c hc => ?_, r4⟩
      rcases List.mem_append.1 hc with hc | hc
      · exact r3 c hc
      · simp at hc; subst hc; exact h.2
    · rename_i h
      refine ⟨X' ++ [u], [], by simp, by simp, by simp, fun A' v hA => ?_⟩
      have := List.append_inj_right' hA rfl
      simp at this; subst this
      cases hl : lt y u with
      | false => rfl
      | true => exact absurd ⟨by omega, hl⟩ h
theorem insF_ok : ∀ (k i a : Nat) (P X Y S : List α), a = P.length → i = a + X.length → Y.length = k → X.Pairwise R → Y.Pairwise Q → (∀ x ∈ X, ∀ y ∈ Y, Q x y) →
    ∃ Z, insF lt a k i (P ++ (X ++ (Y ++ S))) = P ++ (Z ++ S) ∧ Z.Perm (X ++ Y) ∧ Z.Pairwise R
 | 0, i, a, P, X, Y, S, ha, hi, hY, sX, sY, hQ => by
  rw [List.length_eq_zero_iff] at hY; subst hY
  exact ⟨X, by simp [insF], by simp, sX⟩
 | k + 1, i, a, P, X, y :: Y, S, ha, hi, hY, sX, sY, hQ => by
  obtain ⟨A, C, rfl, r2, r3, r4⟩ := sink_ok K (lt := lt) i a P X (Y ++ S) y ha hi
  obtain ⟨sA, sC, sAC⟩ := List.pairwise_append.1 sX
  obtain ⟨sy, sY⟩ := List.pairwise_cons.1 sY
  have hC : ∀ c ∈ C, R y c := fun c hc => K.on (hQ c (by simp [hc]) y (by simp)) (r3 c hc)
  have hA : ∀ x ∈ A, R x y := by
   rcases nil_or_snoc A with rfl | ⟨A', u, rfl⟩
   · simp
   · have hu : R u y := K.no (hQ u (by simp) y (by simp)) (r4 A' u rfl)
     intro x hx
     rcases List.mem_append.1 hx with hx | hx
     · exact K.tr ((List.pairwise_append.1 sA).2.2 x hx u (by simp)) hu
     · simp at hx; subst hx; exact hu
  have sN : (A ++ y :: C).Pairwise R := by
   refine List.pairwise_append.2 ⟨sA, List.pairwise_cons.2 ⟨hC, sC⟩, fun x hx z hz => ?_⟩
   rcases List.mem_cons.1 hz with rfl | hz
   · exact hA x hx
   · exact sAC x hx z hz
  have pN : (A ++ y :: C).Perm (A ++ C ++ [y]) := (List.perm_middle).trans (List.perm_append_comm (l₁ := [y]) (l₂ := A ++ C))
  obtain ⟨Z, z1, z2, z3⟩ := insF_ok k (i + 1) a P (A ++ y :: C) Y S ha (by simp at hi ⊢; omega) (by simpa using hY) sN sY (fun x hx z hz => by
    rcases List.mem_append.1 (pN.mem_iff.1 hx) with hx | hx
    · exact hQ x hx z (by simp [hz])
    · simp at hx; subst hx; exact sy z hz)
  refine ⟨Z, ?_, z2.trans ?_, z3⟩
  · unfold insF
    rw [show P ++ ((A ++ C) ++ ((y :: Y) ++ S)) = P ++ ((A ++ C) ++ y :: (Y ++ S)) by simp, r2]
    rw [show P ++ (A ++ y :: (C ++ (Y ++ S))) = P ++ ((A ++ y :: C) ++ (Y ++ S)) by simp]
    exact z1
  · have := pN.append_right Y
    simpa using this
theorem insS_ok {a b : Nat} {P X S : List α} (ha : a = P.length) (hb : b = a + X.length) (sX : X.Pairwise Q) : ∃ Z, insS lt a b (P ++ (X ++ S)) = P ++ (Z ++ S) ∧ Z.Perm X ∧ Z.Pairwise R := by
 cases X with
 | nil =>
  refine ⟨[], ?_, .refl _, .nil⟩
  unfold insS
  rw [show b - (a + 1) = 0 by simp at hb; omega]; rfl
 | cons x X =>
  obtain ⟨sx, sX⟩ := List.pairwise_cons.1 sX
  obtain ⟨Z, z1, z2, z3⟩ := insF_ok K (b - (a + 1)) (a + 1) a P [x] X S ha (by simp) (by simp at hb; omega) (by simp) sX (fun u hu y hy => by simp at hu; subst hu; exact sx y hy)
  exact ⟨Z, by unfold insS; simpa using z1, by simpa using z2, z3⟩
end
open Go.Awp
section
variable {α : Type} [Inhabited α] {lt : α → α → Bool} {R Q : α → α → Prop}
inductive Blks (R Q : α → α → Prop) (bs : Nat) : List α → Prop
 | last {B : List α} (h : B.length ≤ bs) (s : B.Pairwise R) : Blks R Q bs B
 | cons {B r : List α} (h : B.length = bs) (s : B.Pairwise R) (t : Blks R Q bs r) (c : ∀ x ∈ B, ∀ y ∈ r, Q x y) : Blks R Q bs (B ++ r)
theorem Blks.head {bs : Nat} {r : List α} (h : Blks R Q bs r) (hl : bs ≤ r.length) : ∃ B r', r = B ++ r' ∧ B.length = bs ∧ B.Pairwise R ∧ Blks R Q bs r' ∧ ∀ x ∈ B, ∀ y ∈ r', Q x y := by
 cases h with
 | last h s => exact ⟨r, [], by simp, by omega, s, .last (by simp) .nil, by simp⟩
 | cons h s t c => exact ⟨_, _, rfl, h, s, t, c⟩
theorem Blks.one {bs : Nat} {r : List α} (h : Blks R Q bs r) (hl : r.length ≤ bs) : r.Pairwise R := by
 cases h with
 | last h s => exact s
 | @cons B r h s t c =>
  have : r.length = 0 := by simp at hl; omega
  rw [List.length_eq_zero_iff] at this; subst this; simpa using s
theorem pairF_ok (K : Keys lt R Q) {bs : Nat} (hbs : 0 < bs) : ∀ (f a : Nat) (P r : List α), a = P.length → r.length ≤ f → Blks R Q bs r → ∃ r', pairF lt bs f a (P ++ r) = P ++ r' ∧ r'.Perm r ∧ Blks R Q (2 * bs) r' := by
 have small : ∀ (a : Nat) (P r : List α), a = P.length → r.length < 2 * bs → Blks R Q bs r → ∃ r', lastP lt bs a (P ++ r) = P ++ r' ∧ r'.Perm r ∧ Blks R Q (2 * bs) r' := by
  intro a P r ha hr hB
  unfold lastP
  split
  · rename_i h
    simp only [List.length_append] at h
    obtain ⟨B, r1, rfl, h1, h2, h3, h4⟩ := hB.head (by omega)
    simp only [List.length_append] at h hr
    obtain ⟨X, x1, x2, x3⟩ := symF_ok K (P.length + (B.length + r1.length) - a) a (a + bs) (P.length + (B.length + r1.length)) P B r1 [] ha (by omega) (by omega) (by omega) (by omega) (by omega) h2 (h3.one (by omega)) h4
    refine ⟨X, ?_, x2, .last (by rw [x2.length_eq]; simp; omega) x3⟩
    unfold symS
    simpa using x1
  · rename_i h
    simp only [List.length_append] at h
    exact ⟨r, rfl, .refl _, .last (by omega) (hB.one (by omega))⟩
 intro f
 induction f with
 | zero =>
  intro a P r ha hf hB
  unfold pairF
  exact small a P r ha (by omega) hB
 | succ f ih =>
  intro a P r ha hf hB
  unfold pairF
  split
  · rename_i h
    simp only [List.length_append] at h
    obtain ⟨B, r1, rfl, h1, h2, h3, h4⟩ := hB.head (by omega)
    simp only [List.length_append] at h hf
    obtain ⟨C, r2, rfl, k1, k2, k3, k4⟩ := h3.head (by omega)
    simp only [List.length_append] at h hf
    obtain ⟨X, x1, x2, x3⟩ := symF_ok K (a + 2 * bs - a) a (a + bs) (a + 2 * bs) P B C r2 ha (by omega) (by omega) (by omega) (by omega) (by omega) h2 k2 (fun x hx y hy => h4 x hx y (by simp [hy]))
    unfold symS
    rw [x1]
    have hX : X.length = 2 * bs := by rw [x2.length_eq]; simp; omega
    obtain ⟨r3, y1, y2, y3⟩ := ih (a + 2 * bs) (P ++ X) r2 (by simp; omega) (by omega) k3
    refine ⟨X ++ r3, by rw [← List.append_assoc, y1, List.append_assoc], ?_, .cons hX x3 y3 fun x hx y hy => ?_⟩
    · have := x2.append y2
      simpa using this
    · have hy := y2.mem_iff.1 hy
      rcases List.mem_append.1 (x2.mem_iff.1 hx) with hx | hx
      · exact h4 x hx y (by simp [hy])
      · exact k4 x hx y hy
  · rename_i h
    simp only [List.length_append] at h
    exact small a P r ha (by omega) hB
theorem mrgF_ok (K : Keys lt R Q) : ∀ (f bs : Nat) (l : List α), 0 < bs → l.length ≤ f + bs → Blks R Q bs l → (mrgF lt f bs l).Pairwise R
 | 0, bs, l, h0, hl, hB => by unfold mrgF; exact hB.one (by omega)
 | f + 1, bs, l, h0, hl, hB => by
  unfold mrgF
  split
  · obtain ⟨r', h1, h2, h3⟩ := pairF_ok K h0 l.length 0 [] l rfl (Nat.le_refl _) hB
    rw [show ([] : List α) ++ l = l from rfl] at h1
    rw [h1, List.nil_append]
    exact mrgF_ok K f (2 * bs) r' (by omega) (by rw [h2.length_eq]; omega) h3
  · exact hB.one (by omega)
theorem blkF_ok (K : Keys lt R Q) : ∀ (f a : Nat) (P r : List α), a = P.length → r.length ≤ f → r.Pairwise Q → ∃ r', blkF lt f a (P ++ r) = P ++ r' ∧ r'.Perm r ∧ Blks R Q 20 r' := by
 have small : ∀ (a : Nat) (P r : List α), a = P.length → r.length < 20 → r.Pairwise Q → ∃ r', insS lt a (P ++ r).length (P ++ r) = P ++ r' ∧ r'.Perm r ∧ Blks R Q 20 r' := by
  intro a P r ha hr hQ
  obtain ⟨Z, z1, z2, z3⟩ := insS_ok K (P := P) (X := r) (S := []) (a := a) (b := (P ++ r).length) ha (by simp; omega) hQ
  exact ⟨Z, by simpa using z1, z2, .last (by rw [z2.length_eq]; omega) z3⟩
 intro f
 induction f with
 | zero =>
  intro a P r ha hf hQ
  unfold blkF
  exact small a P r ha (by omega) hQ
 | succ f ih =>
  intro a P r ha hf hQ
  unfold blkF
  split
  · rename_i h
    simp only [List.length_append] at h
    obtain ⟨X, r1, rfl, hX⟩ : ∃ X r1, r = X ++ r1 ∧ X.length = 20 := ⟨r.take 20, r.drop 20, by simp, by simp; omega⟩
    simp only [List.length_append] at h hf
    obtain ⟨q1, q2, q3⟩ := List.pairwise_append.1 hQ
    obtain ⟨Z, z1, z2, z3⟩ := insS_ok K (P := P) (X := X) (S := r1) (a := a) (b := a + 20) ha (by omega) q1
    rw [z1]
    obtain ⟨r2, y1, y2, y3⟩ := ih (a + 20) (P ++ Z) r1 (by simp [z2.length_eq]; omega) (by omega) q2
    refine ⟨Z ++ r2, by rw [← List.append_assoc, y1, List.append_assoc], z2.append y2, .cons (by rw [z2.length_eq]; exact hX) z3 y3 fun x hx y hy => q3 x (z2.mem_iff.1 hx) y (y2.mem_iff.1 hy)⟩
  · rename_i h
    simp only [List.length_append] at h
    exact small a P r ha (by omega) hQ
theorem stS_ok (K : Keys lt R Q) {l : List α} (h : l.Pairwise Q) : (stS lt l).Pairwise R := by
 obtain ⟨r', h1, h2, h3⟩ := blkF_ok K l.length 0 [] l rfl (Nat.le_refl _) h
 rw [show ([] : List α) ++ l = l from rfl, List.nil_append] at h1
 unfold stS
 rw [h1]
 exact mrgF_ok K _ _ _ (by omega) (by rw [h2.length_eq]; omega) h3
end
def beforeB (x y : Blk) : Prop := x.at_ < y.at_ ∨ (x.at_ = y.at_ ∧ x.slot < y.slot)
def aheadB (x y : Blk) : Prop := x.slot < y.slot
theorem keysB : Keys ltB beforeB aheadB := by
 have hlt : ∀ x y : Blk, ltB x y = decide (x.at_ < y.at_) := fun x y => by
  unfold ltB cmpI
  split
  · simp [*]
  · split <;> simp [*]
 constructor
 · intro x y z h1 h2; unfold beforeB at *; omega
 · intro x y h1 h2; rw [hlt] at h2; unfold beforeB aheadB at *; simp at h2; omega
 · intro x y h1 h2; rw [hlt] at h2; unfold beforeB aheadB at *; simp at h2; omega
 · intro x y h1 h2; rw [hlt]; unfold beforeB aheadB at *; simp; omega
set_option maxHeartbeats 4000000
open Go.Awp
def covers (a : Spot) (x : Nat) : Prop := a.page ≤ (x : Int) ∧ (x : Int) < a.page + a.count
abbrev spotI (pages : Int) (l : List (Int × Int)) (i : Nat) : Spot := (spotS pages (nth l i)).1
structure Free (pages : Int) (l : List (Int × Int)) (i : Nat) : Prop where
 k : ∀ x : Nat, (x : Int) < pages → (∀ j, j < i → ¬ covers (spotI pages l j) x) → nth (stI pages l i).1 x = -1
 b : ∀ x c : Nat, x < 64 → (nth (stI pages l i).2 x).testBit c = true → ∃ j, j < i ∧ (spotI pages l j).small = true ∧ (spotI pages l j).page = x ∧ (spotI pages l j).cell = c
theorem fillF_ok {p : Nat} : ∀ {f j : Nat} {l : List Int}, (∀ t, j ≤ t → t < j + f → nth l (p + t) = -1) → p + j + f ≤ l.length → (fillF p f j l).1 = true
 | 0, j, l, _, _ => rfl
 | f + 1, j, l, h, hl => by
  rw [fillF_t (h j (by omega) (by omega))]
  exact fillF_ok (fun t h1 h2 => by rw [nth_set2 (by omega), if_neg (by omega)]; exact h t (by omega) (by omega)) (by simp; omega)
theorem bit_and {m c : Nat} (h : m.testBit c = false) : m &&& 2 ^ c = 0 := by
 apply Nat.eq_of_testBit_eq
 intro i
 rw [Nat.testBit_and, Nat.testBit_two_pow, Nat.zero_testBit]
 by_cases e : c = i
 · subst e; simp [h]
 · simp [e]
theorem lay_all {pages : Int} {l : List (Int × Int)} (h0 : 0 ≤ pages) (hp : pages ≤ 64) (hs : ∀ i, i < l.length → (spotS pages (nth l i)).2 = true)
    (ha : ∀ i j, i < j → j < l.length → apartS (spotI pages l i) (spotI pages l j)) : ∀ i, i ≤ l.length → (∀ j, j < i → okI pages l j = true) ∧ Free pages l i
 | 0, _ => ⟨fun j hj => by omega, fun x hx _ => by
     show nth (List.replicate pages.toNat (-1)) x = -1
     rw [nth_eq (by rw [List.length_replicate]; omega), List.getElem_replicate], fun x c hx hb => by
     exfalso
     have : nth (stI pages l 0).2 x = 0 := by
       show nth (List.replicate 64 0) x = 0
       rw [nth_eq (by rw [List.length_replicate]; omega), List.getElem_replicate]
     rw [this] at hb; simp at hb⟩
 | i + 1, hi => by
  obtain ⟨hok, hF⟩ := lay_all h0 hp hs ha i (by omega)
  have hsp := hs i (by omega)
  have hg := (spot_words hsp).good
  have hgj : ∀ j, j < i → GoodSpot pages (spotI pages l j) := fun j hj => (spot_words (hs j (by omega))).good
  have hold := laid_holds hp (pages := pages) (l := l) hok
  obtain ⟨l1, l2⟩ := stI_len (pages := pages) (l := l) (i := i)
  obtain ⟨b, hb⟩ : ∃ b, b = spotI pages l i := ⟨_, rfl⟩
  have hb' : (spotS pages (nth l i)).1 = b := hb.symm
  rw [hb'] at hg
  have hap : ∀ j, j < i → apartS (spotI pages l j) b := fun j hj => by rw [hb]; exact ha j i hj (by omega)
  have g0 := hg.p0
  have g1 := hg.c1
  have g2 := hg.p1
  have hpn : (b.page.toNat : Int) = b.page := by omega
  -- it is laid
  have hlay : (layS (stI pages l i).1 (stI pages l i).2 b.page.toNat b.count.toNat b.small b.cls b.cell.toNat).1 = true := by
   unfold layS
   cases hsm : b.small with
   | true =>
    obtain ⟨q1, q2, q3, q4, q5⟩ := hg.s1 hsm
    simp only [if_true]
    by_cases hex : ∃ j, j < i ∧ covers (spotI pages l j) b.page.toNat
    · obtain ⟨j, hj, hc⟩ := hex
      have hA := hap j hj
      unfold covers at hc
      rcases hA with ⟨a1, a2, a3, a4⟩ | hA | hA
      · have hgs := (hgj j hj).s1 a1
        have hpe : (spotI pages l j).page = b.page := by omega
        have hk := ((hold j hj).1 a1).1
        rw [show (spotS pages (nth l j)).1.page.toNat = b.page.toNat by rw [show (spotS pages (nth l j)).1.page = b.page from hpe]] at hk
        have hbit : (nth (stI pages l i).2 b.page.toNat).testBit b.cell.toNat = false := by
         cases hq : (nth (stI pages l i).2 b.page.toNat).testBit b.cell.toNat with
         | false => rfl
         | true =>
          exfalso
          obtain ⟨j2, hj2, r1, r2, r3⟩ := hF.b _ _ (by omega) hq
          rcases hap j2 hj2 with ⟨_, _, _, s4⟩ | s | s
          · omega
          · have := ((hgj j2 hj2).s1 r1).1; omega
          · omega
        rw [if_pos ⟨hk.trans a3, bit_and hbit⟩]
      · omega
      · omega
    · have hfree := hF.k b.page.toNat (by omega) (fun j hj hc => hex ⟨j, hj, hc⟩)
      rw [if_neg (fun h => by rw [hfree] at h; omega), if_pos hfree]
   | false =>
    simp only [Bool.false_eq_true, if_false]
    rw [if_pos (fillF_ok (fun t h1 h2 => hF.k _ (by omega) (fun j hj hc => by
      unfold covers at hc
      rcases hap j hj with ⟨_, a2, _⟩ | hA | hA
      · rw [hsm] at a2; cases a2
      · omega
      · omega)) (by omega))]
  have hoki : okI pages l i = true := by
   unfold okI layO
   rw [if_pos hsp, hb']
   exact hlay
  have hst : stI pages l (i + 1) = (layS (stI pages l i).1 (stI pages l i).2 b.page.toNat b.count.toNat b.small b.cls b.cell.toNat).2 := by
   rw [(okI_lay hoki).1, hb']
  refine ⟨fun j hj => ?_, ?_, ?_⟩
  · by_cases e : j = i
    · subst e; exact hoki
    · exact hok j (by omega)
  · intro x hx hc
    have hx1 : nth (stI pages l i).1 x = -1 := hF.k x hx (fun j hj => hc j (by omega))
    have hx2 : ¬ covers b x := by rw [hb]; exact hc i (by omega)
    unfold covers at hx2
    rw [hst]
    unfold layS at hlay ⊢
    cases hsm : b.small with
    | true =>
     obtain ⟨q1, _⟩ := hg.s1 hsm
     simp only [if_true]
     split
     · exact hx1
     · split
       · simp only; rw [nth_set2 (by omega), if_neg (by omega)]; exact hx1
       · exact hx1
    | false =>
     simp only [hsm, Bool.false_eq_true, if_false] at hlay ⊢
     by_cases hf : (fillF b.page.toNat b.count.toNat 0 (stI pages l i).1).1 = true
     · rw [if_pos hf]
       simp only
       rw [nth_set2 (by rw [fillF_len]; omega), if_neg (by omega), (fillF_spec hf (by omega)).2, if_neg (by omega)]; exact hx1
     · rw [if_neg hf] at hlay; cases hlay
  · intro x c hx hbit
    rw [hst] at hbit
    unfold layS at hlay hbit
    have old : (nth (stI pages l i).2 x).testBit c = true → ∃ j, j < i + 1 ∧ (spotI pages l j).small = true ∧ (spotI pages l j).page = x ∧ (spotI pages l j).cell = c := fun h => by
     obtain ⟨j, hj, r⟩ := hF.b x c hx h
     exact ⟨j, by omega, r⟩
    cases hsm : b.small with
    | true =>
     obtain ⟨q1, q2, q3, q4, q5⟩ := hg.s1 hsm
     have new : b.page.toNat = x → b.cell.toNat = c → ∃ j, j < i + 1 ∧ (spotI pages l j).small = true ∧ (spotI pages l j).page = x ∧ (spotI pages l j).cell = c := fun h1 h2 =>
      ⟨i, by omega, by rw [← hb]; exact hsm, by rw [← hb]; omega, by rw [← hb]; omega⟩
     simp only [hsm, if_true] at hbit
     split at hbit
     · simp only at hbit
       rw [nth_set2 (by omega)] at hbit
       split at hbit
       · rename_i e
         rw [Nat.testBit_or, Bool.or_eq_true] at hbit
         rcases hbit with h | h
         · exact old (by rw [← e]; exact h)
         · rw [Nat.testBit_two_pow] at h
           exact new e (by simpa using h)
       · exact old hbit
     · split at hbit
       · simp only at hbit
         rw [nth_set2 (by omega)] at hbit
         split at hbit
         · rename_i e
           rw [Nat.testBit_two_pow] at hbit
           exact new e (by simpa using hbit)
         · exact old hbit
       · exact old hbit
    | false =>
     simp only [hsm, Bool.false_eq_true, if_false] at hbit
     split at hbit <;> exact old hbit
theorem laid_iff {pages : Int} {l : List (Int × Int)} : (laidS pages l).isSome = true ↔ (0 ≤ pages ∧ pages ≤ 64) ∧ (∀ i, i < l.length → (spotS pages (nth l i)).2 = true) ∧ ∀ i j, i < j → j < l.length → apartS (spotI pages l i) (spotI pages l j) := by
 unfold laidS
 constructor
 · intro h
   split at h
   · rename_i h2
     simp only [Bool.and_eq_true, decide_eq_true_eq, List.all_eq_true, List.mem_range] at h2
     exact ⟨h2.1, fun i hi => okI_spot (h2.2 i hi), fun i j hij hj => laid_apart h2.1.2 (fun k hk => h2.2 k (by omega)) hij⟩
   · simp at h
 · rintro ⟨⟨h0, h1⟩, h2, h3⟩
   have := (lay_all h0 h1 h2 h3 l.length (Nat.le_refl _)).1
   rw [if_pos (by simp only [Bool.and_eq_true, decide_eq_true_eq, List.all_eq_true, List.mem_range]; exact ⟨⟨h0, h1⟩, this⟩)]
   rfl
open Go.Awp
def disjI (p q : Int × Int) : Prop := p.1 + p.2 ≤ q.1 ∨ q.1 + q.2 ≤ p.1
theorem gapsOk_iff {to : Int} : ∀ {l : List (Int × Int)} {a : Int}, l.Pairwise (fun p q => p.1 ≤ q.1) →
    (gapsOk to a l = true ↔ (∀ p ∈ l, a ≤ p.1 ∧ 4 ≤ p.2 ∧ p.1 + p.2 ≤ to ∧ p.1.tmod 4 = 0 ∧ p.2.tmod 4 = 0) ∧ l.Pairwise disjI)
 | [], a, _ => by simp [gapsOk]
 | p :: l, a, hs => by
  obtain ⟨s1, s2⟩ := List.pairwise_cons.1 hs
  have ih := gapsOk_iff (to := to) (l := l) (a := p.1 + p.2) s2
  simp only [gapsOk, Bool.and_eq_true, gapBad, Bool.not_eq_true', decide_eq_false_iff_not]
  rw [ih, List.pairwise_cons]
  constructor
  · rintro ⟨h1, h2, h3⟩
    refine ⟨fun q hq => ?_, fun q hq => .inl (h2 q hq).1, h3⟩
    rcases List.mem_cons.1 hq with rfl | hq
    · refine ⟨by omega, by omega, by omega, ?_, ?_⟩ <;> (have := h1; grind)
    · have := h2 q hq
      exact ⟨by omega, this.2⟩
  · rintro ⟨h1, h2, h3⟩
    have hp := h1 p (by simp)
    refine ⟨by omega, fun q hq => ?_, h3⟩
    have hq1 := h1 q (by simp [hq])
    have hq2 := h2 q hq
    have hq3 := s1 q hq
    unfold disjI at hq2
    exact ⟨by omega, hq1.2⟩
theorem nth_pair {α : Type} [Inhabited α] {R : α → α → Prop} {l : List α} : (∀ i j, i < j → j < l.length → R (nth l i) (nth l j)) ↔ l.Pairwise R := by
 rw [List.pairwise_iff_getElem]
 constructor
 · intro h i j hi hj hij
   have := h i j hij hj
   rwa [nth_eq hi, nth_eq hj] at this
 · intro h i j hij hj
   rw [nth_eq (by omega), nth_eq hj]
   exact h i j (by omega) hj hij
theorem nth_all {α : Type} [Inhabited α] {R : α → Prop} {l : List α} : (∀ i, i < l.length → R (nth l i)) ↔ ∀ x ∈ l, R x := by
 constructor
 · intro h x hx
   obtain ⟨i, hi, rfl⟩ := List.getElem_of_mem hx
   have := h i hi
   rwa [nth_eq hi] at this
 · intro h i hi
   exact h _ (nth_mem hi)
theorem range_pair {R : Nat → Nat → Prop} {n : Nat} : (List.range n).Pairwise R ↔ ∀ i j, i < j → j < n → R i j := by
 rw [List.pairwise_iff_getElem]
 simp only [List.length_range, List.getElem_range]
 exact ⟨fun h i j hij hj => h i j (by omega) hj hij, fun h i j hi hj hij => h i j hij hj⟩
def fitsS (s : Stt) (x : Slot) : Prop := if x.two = true then (spotS s.base (x.at_, x.len)).2 = true else s.base * 32 ≤ x.at_ ∧ x.at_.tmod 4 = 0 ∧ x.at_ + (needS x.len).1 ≤ s.sh.pages * 32
def clearS (base : Int) (x y : Slot) : Prop := (x.two = true → y.two = true → apartS (spotS base (x.at_, x.len)).1 (spotS base (y.at_, y.len)).1) ∧
 (x.two = false → y.two = false → disjI (x.at_, (needS x.len).1) (y.at_, (needS y.len).1))
theorem disjI_symm {p q : Int × Int} (h : disjI p q) : disjI q p := h.symm
theorem twos_all {R : Int × Int → Prop} {l : List Slot} : (∀ o ∈ twosO l, R o) ↔ ∀ i, i < l.length → isTwo (nth l i) = true → R ((nth l i).at_, (nth l i).len) := by
 simp only [twosO, twoIx, List.mem_map, List.mem_filter, List.mem_range]
 constructor
 · intro h i hi ht; exact h _ ⟨i, ⟨hi, ht⟩, rfl⟩
 · rintro h o ⟨i, ⟨hi, ht⟩, rfl⟩; exact h i hi ht
theorem twos_pair {R : Int × Int → Int × Int → Prop} {l : List Slot} : (twosO l).Pairwise R ↔ ∀ i j, i < j → j < l.length → isTwo (nth l i) = true → isTwo (nth l j) = true → R ((nth l i).at_, (nth l i).len) ((nth l j).at_, (nth l j).len) := by
 rw [twosO, List.pairwise_map, twoIx, List.pairwise_filter, range_pair]
 exact Iff.rfl
theorem onesR_all {R : Blk → Prop} {l : List Slot} : (∀ o ∈ onesR l, R o) ↔ ∀ i, i < l.length → isOne (nth l i) = true → R (blkAt l i) := by
 simp only [onesR, oneIx, List.mem_map, List.mem_filter, List.mem_range]
 constructor
 · intro h i hi ht; exact h _ ⟨i, ⟨hi, ht⟩, rfl⟩
 · rintro h o ⟨i, ⟨hi, ht⟩, rfl⟩; exact h i hi ht
theorem onesR_pair {R : Blk → Blk → Prop} {l : List Slot} : (onesR l).Pairwise R ↔ ∀ i j, i < j → j < l.length → isOne (nth l i) = true → isOne (nth l j) = true → R (blkAt l i) (blkAt l j) := by
 rw [onesR, List.pairwise_map, oneIx, List.pairwise_filter, range_pair]
theorem onesR_ahead {l : List Slot} : (onesR l).Pairwise aheadB := by
 rw [onesR_pair]
 intro i j hij _ _ _
 show (i : Int) < j
 omega
theorem onesS_sorted {l : List Slot} : (onesS l).Pairwise beforeB := stS_ok keysB onesR_ahead
theorem needS_quad {n : Int} (h : 1 ≤ n ∧ n ≤ 2048) : (needS n).1.tmod 4 = 0 := by
 unfold needS; rw [if_neg (by omega)]
 simp only [upS]
 rw [Int.tmod_eq_emod_of_nonneg]
 · omega
 · have : 0 ≤ (2 + (n + 8 - 1).tdiv 8 + 4 - 1).tdiv 4 := by
    rw [Int.tdiv_eq_ediv_of_nonneg (a := n + 8 - 1) (by omega), Int.tdiv_eq_ediv_of_nonneg (by omega)]; omega
   omega
theorem gaps_head {sh : Shape} {mode base : Int} (h : superS sh mode base = true) : gapsHead (base * 32) (sh.pages * 32) = true := by
 have := superS_b h
 simp only [gapsHead, decide_eq_true_eq]
 rw [Int.tmod_eq_emod_of_nonneg (by omega), Int.tmod_eq_emod_of_nonneg (by omega)]
 omega
def modeP (mode : Int) (x : Slot) : Prop := (mode = 1 → x.two = false) ∧ (mode = 2 → x.two = true)
theorem sttS_iff {s : Stt} : sttS s = true ↔ superS s.sh s.mode s.base = true ∧ rowsS s = true ∧ (∀ i, i < s.slots.length → (nth s.slots i).live = true → fitsS s (nth s.slots i) ∧ modeP s.mode (nth s.slots i)) ∧
    ∀ i j, i < j → j < s.slots.length → (nth s.slots i).live = true → (nth s.slots j).live = true → clearS s.base (nth s.slots i) (nth s.slots j) := by
 unfold sttS
 simp only [Bool.and_eq_true]
 constructor
 · rintro ⟨h1, h2, h3, h4, h5⟩
   obtain ⟨_, l2, l3⟩ := laid_iff.1 h3
   rw [nth_all (R := fun o => (spotS s.base o).2 = true), twos_all] at l2
   rw [nth_pair (R := fun o p => apartS (spotS s.base o).1 (spotS s.base p).1), twos_pair] at l3
   simp only [gapsS, Bool.and_eq_true] at h4
   have hsort : (spansS s.slots).Pairwise (fun p q => p.1 ≤ q.1) := by
    rw [spansS, List.pairwise_map]
    exact onesS_sorted.imp fun {x y} h => by unfold beforeB at h; show x.at_ ≤ y.at_; omega
   obtain ⟨g1, g2⟩ := (gapsOk_iff hsort).1 h4.2
   have g3 : ∀ b ∈ onesR s.slots, s.base * 32 ≤ b.at_ ∧ 4 ≤ b.len ∧ b.at_ + b.len ≤ s.sh.pages * 32 ∧ b.at_.tmod 4 = 0 ∧ b.len.tmod 4 = 0 := fun b hb =>
    g1 (spanOf b) (by rw [spansS]; exact List.mem_map_of_mem ((stS_perm (lt := ltB) _).mem_iff.2 hb))
   rw [onesR_all] at g3
   have g4 : (onesR s.slots).Pairwise (fun x y => disjI (spanOf x) (spanOf y)) := by
    rw [spansS, List.pairwise_map] at g2
    exact ((stS_perm (lt := ltB) _).pairwise_iff (fun h => disjI_symm h)).1 g2
   rw [onesR_pair] at g4
   refine ⟨h1, h2, fun i hi hl => ⟨?_, ?_⟩, fun i j hij hj hl1 hl2 => ⟨fun t1 t2 => l3 i j hij hj (by simp [isTwo, hl1, t1]) (by simp [isTwo, hl2, t2]), fun t1 t2 => g4 i j hij hj (by simp [isOne, hl1, t1]) (by simp [isOne, hl2, t2])⟩⟩
   · unfold fitsS
     split
     · rename_i ht; exact l2 i hi (by simp [isTwo, hl, ht])
     · rename_i ht
       have := g3 i hi (by simp [isOne, hl, ht])
       exact ⟨this.1, this.2.2.2.1, this.2.2.1⟩
   · unfold modeOk at h5
     constructor
     · intro hm
       rw [if_pos hm] at h5
       have : (twosO s.slots).length = 0 := by simpa using h5
       cases ht : (nth s.slots i).two with
       | false => rfl
       | true =>
        obtain ⟨a, ha, _⟩ := twos_at hi (show isTwo (nth s.slots i) = true by simp [isTwo, hl, ht])
        omega
     · intro hm
       rw [if_neg (by omega), if_pos hm] at h5
       have : (onesR s.slots).length = 0 := by
        have q := of_decide_eq_true h5
        rwa [spansS, List.length_map, onesS, nodup_of_stS] at q
       cases ht : (nth s.slots i).two with
       | true => rfl
       | false =>
        exfalso
        have hm : blkAt s.slots i ∈ onesR s.slots := by
         rw [onesR]; exact List.mem_map_of_mem (by simp only [oneIx, List.mem_filter, List.mem_range]; exact ⟨hi, by simp [isOne, hl, ht]⟩)
        rw [List.length_eq_zero_iff] at this
        rw [this] at hm; cases hm
 · rintro ⟨h1, h2, h3, h4⟩
   have ht := rowsS_t h2
   have hb := superS_b h1
   have live2 : ∀ {x : Slot}, isTwo x = true → x.live = true ∧ x.two = true := fun h => by simpa [isTwo] using h
   have live1 : ∀ {x : Slot}, isOne x = true → x.live = true ∧ x.two = false := fun h => by simpa [isOne] using h
   refine ⟨h1, h2, ?_, ?_, ?_⟩
   · refine laid_iff.2 ⟨by omega, ?_, ?_⟩
     · rw [nth_all (R := fun o => (spotS s.base o).2 = true), twos_all]
       intro i hi hx
       have := (h3 i hi (live2 hx).1).1
       unfold fitsS at this; rwa [if_pos (live2 hx).2] at this
     · rw [nth_pair (R := fun o p => apartS (spotS s.base o).1 (spotS s.base p).1), twos_pair]
       intro i j hij hj hx hy
       exact (h4 i j hij hj (live2 hx).1 (live2 hy).1).1 (live2 hx).2 (live2 hy).2
   · simp only [gapsS, Bool.and_eq_true]
     have hsort : (spansS s.slots).Pairwise (fun p q => p.1 ≤ q.1) := by
      rw [spansS, List.pairwise_map]
      exact onesS_sorted.imp fun {x y} h => by unfold beforeB at h; show x.at_ ≤ y.at_; omega
     refine ⟨gaps_head h1, (gapsOk_iff hsort).2 ⟨fun p hp => ?_, ?_⟩⟩
     · rw [spansS] at hp
       obtain ⟨b, hb', rfl⟩ := List.mem_map.1 hp
       obtain ⟨i, hi, hx, rfl⟩ := onesS_mem hb'
       have hf := (h3 i hi (live1 hx).1).1
       unfold fitsS at hf
       rw [if_neg (by simp [(live1 hx).2])] at hf
       have hs := slotS1_live (tableS_slot ht i hi) (live1 hx).1
       exact ⟨hf.1, needS_pos (by omega), hf.2.2, hf.2.1, needS_quad (by omega)⟩
     · rw [spansS, List.pairwise_map]
       refine ((stS_perm (lt := ltB) (onesR s.slots)).pairwise_iff (fun h => disjI_symm h)).2 ?_
       rw [onesR_pair]
       intro i j hij hj hx hy
       exact (h4 i j hij hj (live1 hx).1 (live1 hy).1).2 (live1 hx).2 (live1 hy).2
   · unfold modeOk
     split
     · rename_i hm
       rw [decide_eq_true_eq]
       have : ∀ o ∈ twosO s.slots, False := by
        rw [twos_all (R := fun _ => False)]
        intro i hi hx
        have := (h3 i hi (live2 hx).1).2.1 hm
        rw [(live2 hx).2] at this; cases this
       cases hq : twosO s.slots with
       | nil => rfl
       | cons o t => exact (this o (by simp [hq])).elim
     · split
       · rename_i hm
         rw [decide_eq_true_eq]
         have : ∀ o ∈ onesR s.slots, False := by
          rw [onesR_all (R := fun _ => False)]
          intro i hi hx
          have := (h3 i hi (live1 hx).1).2.2 hm
          rw [(live1 hx).2] at this; cases this
         have h0 : onesR s.slots = [] := by
          cases hq : onesR s.slots with
          | nil => rfl
          | cons o t => exact (this o (by simp [hq])).elim
         rw [spansS, List.length_map, onesS, nodup_of_stS, h0]; rfl
       · rfl
open Go.Awp
def openT (x : Slot) : Bool := !x.live && decide (x.gen ≠ 65535)
def sizedN (n : Int) : Bool := decide (1 ≤ n ∧ n ≤ 2048)
def nextF (l : List Slot) : Nat → Nat → Option Nat
 | 0, _ => none
 | f + 1, i => if openT (nth l i) = true then some i else nextF l f (i + 1)
def nextS (l : List Slot) : Option Nat := (List.range l.length).find? fun i => openT (nth l i)
@[simp high] theorem slice_rows3 {α : Type} {P : Program} {objs : List Awp.Obj} {t : TypeId} {k : Nat} {f : α → D} {l : List α} {lo : Option Int} {q : Int} : sliceA P objs t (.d (rows k f l)) lo (some q) (some q) = (match ty P t with
    | some { k := .slice e, .. } => match ty P e with
      | some T => if k = T.size ∧ 0 ≤ lo.getD 0 ∧ lo.getD 0 ≤ q ∧ q ≤ l.length then some (.cut k (((l.drop (lo.getD 0).toNat).take (q.toNat - (lo.getD 0).toNat)).map f)) else none
      | none => none
    | _ => none) := by
 unfold rows sliceA
 cases ty P t with
 | none => rfl
 | some T =>
  obtain ⟨sz, by', K, z⟩ := T
  cases K with
  | slice e =>
   simp only
   cases ty P e with
   | none => rfl
   | some T => simp
  | _ => rfl
set_option maxRecDepth 4000
open Go.Awp
open Go.Awp
theorem ct25 (g : Gl) (a : Abs) (ha : a.Ok) : CtAt Try.prog g 25 [eAbs a] (.v (.bool (rightS a))) := by
 refine ctAt_of_W Try.func25 rfl rfl (Nat.le_of_ble_eq_true rfl) fun B S => ?_
 simp only [eAbs, List.map, argD_agg]
 refine xU ?_
 iterate 2 refine xO ?_
 refine xG [1] ?_
 iterate 4 refine xO ?_
 refine xF [1,3] ?_
 refine W_seq (xU ?_)
 iterate 6 refine xO ?_
 iterate 2 (refine run_if rfl (by simp; exact .mk) rfl (by simp <;> omega) (fun hb => by simp; exact .mk) ?_)
 refine xP ?_
 refine run_op1 rfl rfl rfl (by simp <;> omega) (by simp; exact .mk) ?_
 iterate 2 (refine run_if rfl (by simp; exact .mk) rfl (by simp <;> omega) (fun hb => by simp; exact .mk) ?_)
 refine xP ?_
 refine run_op1 rfl rfl rfl (by simp <;> omega) (by simp; exact .mk) ?_
 iterate 3 (refine run_if rfl (by simp; exact .mk) rfl (by simp <;> omega) (fun hb => by simp; exact .mk) ?_)
 refine xP ?_
 refine run_end [1,26] (by simp <;> omega) (by simp; exact .mk) ?_
 rintro -
 refine W_cond rfl ?_ ?_
 · intro h26
   have hr : rightS a = false := right_len (by simp [lensOk] at *; omega)
   refine xU ?_
   refine xO ?_
   refine xF [2] ?_
   refine W_ret (xR (by simp [Try.f25]; exact .mk) ?_)
   simp [Try.f25, hr]
 intro h26
 have h0 : lensOk a = true := by simp [lensOk] at *; omega
 have hgd : a.gens.length = a.data.length := by simp [lensOk] at h0; omega
 refine W_skip ?_
 rintro -
 refine W_seq (xU ?_)
 iterate 4 refine xO ?_
 refine xF [1,28,29,30] ?_
 refine W_block (W_rounds (fun m σ o => ∃ i : Nat, m = a.gens.length - i ∧ i ≤ a.gens.length ∧ (∀ j, j < i → slotOk a j = true) ∧ σ = slots [(1, .ptr 0 0 0), (28, .d (rI a.gens)), (29, .d (vI a.gens.length)), (30, .d (vI i))] ∧ o = [.var 26 [.d (rI a.gens), .d (rBB a.data), .d (rR a.roots)]]) a.gens.length .refl ⟨0, by simp, by simp, by simp, rfl, rfl⟩ ?_)
 have q1 := ha.h1
 rintro m σ o ⟨i, rfl, hi, hinv, rfl, rfl⟩ _
 refine xU ?_
 refine xO ?_
 refine xF [1,28,29,30,31] ?_
 refine W_seq (W_cond rfl ?_ ?_)
 · intro h31
   have hi2 : i < a.gens.length := by simpa using h31
   have hi3 : i < a.data.length := by omega
   refine W_skip ?_
   rintro -
   refine W_seq (W_block ?_)
   refine xU ?_
   refine xO ?_
   refine xO ?_ (h := by simp [*]; exact .mk)
   iterate 3 refine xO ?_
   refine xG [1,4,5,28,29,30] ?_
   iterate 3 refine xO ?_
   iterate 2 (refine run_if rfl (by simp; exact .mk) rfl (by simp <;> omega) (fun hb => by simp; exact .mk) ?_)
   refine xP ?_
   refine run_op1 rfl rfl rfl (by simp <;> omega) (by simp; exact .mk) ?_
   iterate 3 (refine run_if rfl (by simp; exact .mk) rfl (by simp <;> omega) (fun hb => by simp; exact .mk) ?_)
   refine run_if rfl (by simp; exact .mk) rfl (by simp <;> omega) (fun hb => by simp [*]; exact .mk) ?_
   iterate 3 (refine run_if rfl (by simp; exact .mk) rfl (by simp <;> omega) (fun hb => by simp; exact .mk) ?_)
   refine xP ?_
   refine run_end [1,28,29,30,49] (by simp <;> omega) (by simp; exact .mk) ?_
   rintro -
   refine W_cond rfl ?_ ?_
   · intro h49
     refine W_seq ?_
     have hr : rightS a = false := right_bad hi2 (by simp [slotOk] at *; omega)
     refine W_reg rfl ?_
     refine xO ?_
     refine xF [2] ?_
     refine W_ret (xR (by simp [Try.f25]; exact .mk) ?_)
     simp [Try.f25, hr]
   intro h49
   refine W_skip ?_
   rintro -
   refine W_reg rfl ?_
   iterate 2 refine xO ?_
   refine xE [1,28,29,30] ?_
   refine rounds_kill [1,28,29,30] ?_
   refine rounds_next (m' := a.gens.length - (i+1)) (by omega) ⟨i+1, rfl, by omega, ?_, ?_, rfl⟩
   · intro j hj
     rcases Nat.lt_succ_iff_lt_or_eq.1 hj with hj | rfl
     · exact hinv j hj
     simp [slotOk] at *; omega
   rw [wrap64 (by omega) (by omega)]; rfl
 intro h31
 refine W_exit ?_
 rintro -
 refine W_seq ?_
 have hr : rightS a = rootsS a.roots := right_good h0 (fun j hj => hinv j (by simp at h31; omega))
 refine W_reg rfl ?_
 iterate 2 refine xO ?_
 refine xC (ct54 g _ ha.h3 ha.h5) ?_
 refine xO ?_
 refine xF [2] ?_
 refine W_ret (xR (by simp [Try.f25]; exact .mk) ?_)
 simp [Try.f25, hr]

theorem ct43 (g : Gl) (x y : List Int) (hx : x.length ≤ 2^40) : CtAt Try.prog g 43 [rI x, rI y] (.v (.bool (sameL (fun a b => a == b) x y))) := by
 refine ctAt_of_W Try.func43 rfl rfl (Nat.le_of_ble_eq_true rfl) fun B S => ?_
 refine xU ?_
 refine xO ?_
 refine xF [0,1] ?_
 refine W_seq (xU ?_)
 iterate 5 refine xO ?_
 refine xF [0,1,10] ?_
 refine W_cond rfl ?_ ?_
 · intro h10
   have hr : sameL (fun a b => a == b) x y = false := sameL_len (by simp at h10; omega)
   refine xU ?_
   refine xO ?_
   refine xF [4] ?_
   refine W_ret (xR (by simp [Try.f43]; exact .mk) ?_)
   simp [Try.f43, hr]
 intro h10
 have hxy : x.length = y.length := by simp at h10; omega
 refine W_skip ?_
 rintro -
 refine W_seq (xU ?_)
 refine xO ?_
 refine xF [0,1,5] ?_
 refine W_block (W_rounds (fun m σ o => ∃ i : Nat, m = x.length - i ∧ i ≤ x.length ∧ (∀ j, j < i → (fun a b => a == b) (nth x j) (nth y j) = true) ∧ σ = slots [(0, .d (rI x)), (1, .d (rI y)), (5, .d (vI i))] ∧ o = []) x.length .refl ⟨0, by simp, by simp, by simp, rfl, rfl⟩ ?_)
 rintro m σ o ⟨i, rfl, hi, hinv, rfl, rfl⟩ _
 refine W_seq (xU ?_)
 iterate 4 refine xO ?_
 refine xF [0,1,5,14] ?_
 refine W_cond rfl ?_ ?_
 · intro h14
   have h2 : i < x.length := by simpa using h14
   have h3 : i < y.length := by omega
   refine W_skip ?_
   rintro -
   refine W_seq (W_block ?_)
   refine W_seq ?_
   refine W_regD (by kernel_rfl) [] 4 [0,1,2,3,4,5,6,7,8] (by decide +kernel) ?_
   iterate 2 refine xO ?_
   refine xO ?_ (h := by simp [*]; exact .mk)
   iterate 3 refine xO ?_
   refine xO ?_ (h := by simp [*]; exact .mk)
   iterate 2 refine xO ?_
   refine xF [0,1,5,25] ?_
   refine W_cond rfl ?_ ?_
   · intro h25
     have hr : sameL (fun a b => a == b) x y = false := sameL_bad h2 (by simpa using h25)
     refine xU ?_
     refine xO ?_
     refine xF [4] ?_
     refine W_ret (xR (by simp [Try.f43]; exact .mk) ?_)
     simp [Try.f43, hr]
   intro h25
   refine W_skip ?_
   rintro -
   refine W_reg rfl ?_
   iterate 3 refine xO ?_
   refine xE [0,1,5] ?_
   refine rounds_kill [0,1,5] ?_
   refine rounds_next (m' := x.length - (i+1)) (by omega) ⟨i+1, rfl, by omega, ?_, ?_, rfl⟩
   · intro j hj
     rcases Nat.lt_succ_iff_lt_or_eq.1 hj with hj | rfl
     · exact hinv j hj
     simpa using h25
   rw [wrap64 (by omega) (by omega)]; rfl
 intro h14
 have hr : sameL (fun a b => a == b) x y = true := sameL_good hxy (fun j hj => hinv j (by simp at h14; omega))
 refine W_exit (xT ?_)
 refine xO ?_
 refine xF [4] ?_
 refine W_ret (xR (by simp [Try.f43]; exact .mk) ?_)
 simp [Try.f43, hr]

theorem ct44 (g : Gl) (x y : List (List UInt8)) (hx : x.length ≤ 2^40) : CtAt Try.prog g 44 [rBB x, rBB y] (.v (.bool (sameL (fun a b => (str a).toList == (str b).toList) x y))) := by
 refine ctAt_of_W Try.func44 rfl rfl (Nat.le_of_ble_eq_true rfl) fun B S => ?_
 refine xU ?_
 refine xO ?_
 refine xF [0,1] ?_
 refine W_seq (xU ?_)
 iterate 5 refine xO ?_
 refine xF [0,1,10] ?_
 refine W_cond rfl ?_ ?_
 · intro h10
   have hr : sameL (fun a b => (str a).toList == (str b).toList) x y = false := sameL_len (by simp at h10; omega)
   refine xU ?_
   refine xO ?_
   refine xF [4] ?_
   refine W_ret (xR (by simp [Try.f44]; exact .mk) ?_)
   simp [Try.f44, hr]
 intro h10
 have hxy : x.length = y.length := by simp at h10; omega
 refine W_skip ?_
 rintro -
 refine W_seq (xU ?_)
 refine xO ?_
 refine xF [0,1,5] ?_
 refine W_block (W_rounds (fun m σ o => ∃ i : Nat, m = x.length - i ∧ i ≤ x.length ∧ (∀ j, j < i → (fun a b => (str a).toList == (str b).toList) (nth x j) (nth y j) = true) ∧ σ = slots [(0, .d (rBB x)), (1, .d (rBB y)), (5, .d (vI i))] ∧ o = []) x.length .refl ⟨0, by simp, by simp, by simp, rfl, rfl⟩ ?_)
 rintro m σ o ⟨i, rfl, hi, hinv, rfl, rfl⟩ _
 refine W_seq (xU ?_)
 iterate 4 refine xO ?_
 refine xF [0,1,5,14] ?_
 refine W_cond rfl ?_ ?_
 · intro h14
   have h2 : i < x.length := by simpa using h14
   have h3 : i < y.length := by omega
   refine W_skip ?_
   rintro -
   refine W_seq (W_block ?_)
   refine W_seq ?_
   refine W_regD (by kernel_rfl) [] 4 [0,1,2,3,5,6,7,8,4,9,10] (by decide +kernel) ?_
   iterate 2 refine xO ?_
   refine xO ?_ (h := by simp [*]; exact .mk)
   iterate 3 refine xO ?_
   refine xO ?_ (h := by simp [*]; exact .mk)
   refine xO ?_
   iterate 2 (refine xO ?_ (h := by simp [conv_rB]; exact .mk))
   refine xO ?_
   refine xF [0,1,5,27] ?_
   refine W_cond rfl ?_ ?_
   · intro h27
     have hr : sameL (fun a b => (str a).toList == (str b).toList) x y = false := sameL_bad h2 (by simpa using h27)
     refine xU ?_
     refine xO ?_
     refine xF [4] ?_
     refine W_ret (xR (by simp [Try.f44]; exact .mk) ?_)
     simp [Try.f44, hr]
   intro h27
   refine W_skip ?_
   rintro -
   refine W_reg rfl ?_
   iterate 3 refine xO ?_
   refine xE [0,1,5] ?_
   refine rounds_kill [0,1,5] ?_
   refine rounds_next (m' := x.length - (i+1)) (by omega) ⟨i+1, rfl, by omega, ?_, ?_, rfl⟩
   · intro j hj
     rcases Nat.lt_succ_iff_lt_or_eq.1 hj with hj | rfl
     · exact hinv j hj
     simpa using h27
   rw [wrap64 (by omega) (by omega)]; rfl
 intro h14
 have hr : sameL (fun a b => (str a).toList == (str b).toList) x y = true := sameL_good hxy (fun j hj => hinv j (by simp at h14; omega))
 refine W_exit (xT ?_)
 refine xO ?_
 refine xF [4] ?_
 refine W_ret (xR (by simp [Try.f44]; exact .mk) ?_)
 simp [Try.f44, hr]

theorem ct45 (g : Gl) (x y : List Root) (hx : x.length ≤ 2^40) : CtAt Try.prog g 45 [rR x, rR y] (.v (.bool (sameL sameRoot x y))) := by
 refine ctAt_of_W Try.func45 rfl rfl (Nat.le_of_ble_eq_true rfl) fun B S => ?_
 refine xU ?_
 refine xO ?_
 refine xF [0,1] ?_
 refine W_seq (xU ?_)
 iterate 5 refine xO ?_
 refine xF [0,1,10] ?_
 refine W_cond rfl ?_ ?_
 · intro h10
   have hr : sameL sameRoot x y = false := sameL_len (by simp at h10; omega)
   refine xU ?_
   refine xO ?_
   refine xF [4] ?_
   refine W_ret (xR (by simp [Try.f45]; exact .mk) ?_)
   simp [Try.f45, hr]
 intro h10
 have hxy : x.length = y.length := by simp at h10; omega
 refine W_skip ?_
 rintro -
 refine W_seq (xU ?_)
 refine xO ?_
 refine xF [0,1,5] ?_
 refine W_block (W_rounds (fun m σ o => ∃ i : Nat, m = x.length - i ∧ i ≤ x.length ∧ (∀ j, j < i → sameRoot (nth x j) (nth y j) = true) ∧ σ = slots [(0, .d (rR x)), (1, .d (rR y)), (5, .d (vI i))] ∧ o = []) x.length .refl ⟨0, by simp, by simp, by simp, rfl, rfl⟩ ?_)
 rintro m σ o ⟨i, rfl, hi, hinv, rfl, rfl⟩ _
 refine W_seq (xU ?_)
 iterate 4 refine xO ?_
 refine xF [0,1,5,14] ?_
 refine W_cond rfl ?_ ?_
 · intro h14
   have h2 : i < x.length := by simpa using h14
   have h3 : i < y.length := by omega
   refine W_skip ?_
   rintro -
   refine W_seq (W_block ?_)
   refine W_seq ?_
   refine W_regD (by kernel_rfl) [] 4 [0,1,2,3,4,5,6,7,8] (by decide +kernel) ?_
   iterate 2 refine xO ?_
   refine xO ?_ (h := by simp [eRoot, *]; exact .mk)
   refine xO ?_ (h := by simp [eRoot]; exact .mk)
   iterate 2 refine xO ?_
   refine xO ?_ (h := by simp [eRoot, *]; exact .mk)
   refine xO ?_ (h := by simp [eRoot]; exact .mk)
   refine xO ?_
   refine xF [0,1,5,25] ?_
   refine W_cond rfl ?_ ?_
   · intro h25
     have hr : sameL sameRoot x y = false := sameL_bad h2 (and3_f h25)
     refine xU ?_
     refine xO ?_
     refine xF [4] ?_
     refine W_ret (xR (by simp [Try.f45]; exact .mk) ?_)
     simp [Try.f45, hr]
   intro h25
   refine W_skip ?_
   rintro -
   refine W_reg rfl ?_
   iterate 3 refine xO ?_
   refine xE [0,1,5] ?_
   refine rounds_kill [0,1,5] ?_
   refine rounds_next (m' := x.length - (i+1)) (by omega) ⟨i+1, rfl, by omega, ?_, ?_, rfl⟩
   · intro j hj
     rcases Nat.lt_succ_iff_lt_or_eq.1 hj with hj | rfl
     · exact hinv j hj
     exact and3_t h25
   rw [wrap64 (by omega) (by omega)]; rfl
 intro h14
 have hr : sameL sameRoot x y = true := sameL_good hxy (fun j hj => hinv j (by simp at h14; omega))
 refine W_exit (xT ?_)
 refine xO ?_
 refine xF [4] ?_
 refine W_ret (xR (by simp [Try.f45]; exact .mk) ?_)
 simp [Try.f45, hr]

theorem ct115 (g : Gl) (n : Int) : CtAt Try.prog g 115 [vI n] (.v (.bool (decide (1 ≤ n) && decide (n ≤ 2048)))) := by
 refine ctAt_of_W Try.func115 rfl rfl (Nat.le_of_ble_eq_true rfl) fun B S => ?_
 refine xU ?_
 refine xO ?_
 refine xG [0] ?_
 iterate 3 refine xO ?_
 iterate 2 (refine run_if rfl (by simp; exact .mk) rfl (by simp <;> omega) (fun hb => by simp; exact .mk) ?_)
 refine xP ?_
 refine run_op1 rfl rfl rfl (by simp <;> omega) (by simp; exact .mk) ?_
 refine run_end [2] (by simp <;> omega) (by simp; exact .mk) ?_
 rintro -
 refine W_ret (xR (by simp [Try.f115]; exact .mk) ?_)
 simp [Try.f115]

theorem ct16 (g : Gl) (a b : Abs) (ha : a.Ok) : CtAt Try.prog g 16 [eAbs a, eAbs b] (.v (.bool (sameAbs a b))) := by
 refine ctAt_of_W Try.func16 rfl rfl (Nat.le_of_ble_eq_true rfl) fun B S => ?_
 simp only [eAbs, List.map, argD_agg]
 refine xU ?_
 iterate 3 refine xO ?_
 refine xG [2,3] ?_
 iterate 4 refine xO ?_
 refine xC (ct43 g _ _ ha.h1) ?_
 refine xO ?_
 iterate 4 (refine run_if rfl (by simp; exact .mk) rfl (by simp <;> omega) (fun hb => by simp; exact .mk) ?_)
 refine run_call rfl (by simp; exact .mk) rfl rfl (by simp) (by simp; exact .mk) (by simp; exact .mk) (fun hb => ct44 g _ _ ha.h2) (by simp) (by simp; exact .mk) (by simp) ?_
 refine xP ?_
 refine run_op1 rfl rfl rfl (by simp <;> omega) (by simp; exact .mk) ?_
 iterate 4 (refine run_if rfl (by simp; exact .mk) rfl (by simp <;> omega) (fun hb => by simp; exact .mk) ?_)
 refine run_call rfl (by simp; exact .mk) rfl rfl (by simp) (by simp; exact .mk) (by simp; exact .mk) (fun hb => ct45 g _ _ ha.h3) (by simp) (by simp; exact .mk) (by simp) ?_
 refine xP ?_
 refine run_op1 rfl rfl rfl (by simp <;> omega) (by simp; exact .mk) ?_
 refine run_end [4] (by simp <;> omega) (by simp; exact .mk) ?_
 rintro -
 refine W_ret (xR (by simp [Try.f16]; exact .mk) ?_)
 simp [Try.f16, sameAbs, Bool.and_assoc]

theorem ct84 (g : Gl) (a : Abs) (ix gn : Int) (hl : a.data.length = a.gens.length) : CtAt Try.prog g 84 [eAbs a, .agg [vI ix, vI gn]] (.v (.bool (goodS a ix gn))) := by
 refine ctAt_of_W Try.func84 rfl rfl (Nat.le_of_ble_eq_true rfl) fun B S => ?_
 simp only [eAbs, List.map, argD_agg]
 refine xU ?_
 iterate 3 refine xO ?_
 refine xF [2,3] ?_
 refine W_seq ?_
 refine W_regD (by kernel_rfl) [] 4 [0,1,2,3,4,5,6,7,8,9,10,11,12,13,14,15,16,17,18,19,20,21,22,23,24,25,26,27,28,29,30,31,32] (by decide +kernel) ?_
 iterate 4 refine xO ?_
 iterate 6 (refine run_if rfl (by simp; exact .mk) rfl (by simp <;> omega) (fun hb => by simp; exact .mk) ?_)
 refine xP ?_
 refine run_op1 rfl rfl rfl (by simp <;> omega) (by simp; exact .mk) ?_
 iterate 4 (refine run_if rfl (by simp; exact .mk) rfl (by simp <;> omega) (fun hb => by simp; exact .mk) ?_)
 refine run_if rfl (by simp; exact .mk) rfl (by simp <;> omega) (fun hb => by simp at hb; simp [show 0 ≤ ix ∧ ix < a.data.length from by omega]; exact .mk) ?_
 iterate 3 (refine run_if rfl (by simp; exact .mk) rfl (by simp <;> omega) (fun hb => by simp; exact .mk) ?_)
 refine xP ?_
 refine run_op1 rfl rfl rfl (by simp <;> omega) (by simp; exact .mk) ?_
 iterate 4 (refine run_if rfl (by simp; exact .mk) rfl (by simp <;> omega) (fun hb => by simp; exact .mk) ?_)
 refine run_if rfl (by simp; exact .mk) rfl (by simp <;> omega) (fun hb => by simp at hb; simp [show 0 ≤ ix ∧ ix < a.gens.length from by omega]; exact .mk) ?_
 iterate 4 (refine run_if rfl (by simp; exact .mk) rfl (by simp <;> omega) (fun hb => by simp; exact .mk) ?_)
 refine xP ?_
 refine run_op1 rfl rfl rfl (by simp <;> omega) (by simp; exact .mk) ?_
 refine run_end [4] (by simp <;> omega) (by simp; exact .mk) ?_
 rintro -
 refine W_ret (xR (by simp [Try.f84]; exact .mk) ?_)
 simp [Try.f84, goodS, Bool.and_assoc]

open Go.Awp
theorem ct51 (g : Gl) (x y : List UInt8) : CtAt Try.prog g 51 [rB x, rB y] (.v (.bool ((str x).toList == (str y).toList))) := by
 refine ctAt_of_W Try.func51 rfl rfl (Nat.le_of_ble_eq_true rfl) fun B S => ?_
 refine xU ?_
 refine xO ?_
 refine xG [0,1] ?_
 refine xO ?_
 refine xO ?_ (h := by simp [conv_rB]; exact .mk)
 refine xO ?_
 refine xO ?_ (h := by simp [conv_rB]; exact .mk)
 iterate 2 refine xO ?_
 refine xF [4] ?_
 refine W_ret (xR (by simp [Try.f51]; exact .mk) ?_)
 simp [Try.f51]

theorem ct56 (g : Gl) (x y : List Int) (hx : x.length ≤ 2^40) : CtAt Try.prog g 56 [rI x, rI y] (.v (.bool (sameL (fun a b => a == b) x y))) := by
 refine ctAt_of_W Try.func56 rfl rfl (Nat.le_of_ble_eq_true rfl) fun B S => ?_
 refine xU ?_
 refine xO ?_
 refine xF [0,1] ?_
 refine W_seq (xU ?_)
 iterate 5 refine xO ?_
 refine xF [0,1,10] ?_
 refine W_cond rfl ?_ ?_
 · intro h10
   have hr : sameL (fun a b => a == b) x y = false := sameL_len (by simp at h10; omega)
   refine xU ?_
   refine xO ?_
   refine xF [4] ?_
   refine W_ret (xR (by simp [Try.f56]; exact .mk) ?_)
   simp [Try.f56, hr]
 intro h10
 have hxy : x.length = y.length := by simp at h10; omega
 refine W_skip ?_
 rintro -
 refine W_seq (xU ?_)
 iterate 3 refine xO ?_
 refine xF [0,1,12,13] ?_
 refine W_block (W_rounds (fun m σ o => ∃ i : Nat, m = x.length - i ∧ i ≤ x.length ∧ (∀ j, j < i → (fun a b => a == b) (nth x j) (nth y j) = true) ∧ σ = slots [(0, .d (rI x)), (1, .d (rI y)), (12, .d (vI x.length)), (13, .d (vI i))] ∧ o = []) x.length .refl ⟨0, by simp, by simp, by simp, rfl, rfl⟩ ?_)
 rintro m σ o ⟨i, rfl, hi, hinv, rfl, rfl⟩ _
 refine xU ?_
 refine xO ?_
 refine xF [0,1,12,13,14] ?_
 refine W_seq (W_cond rfl ?_ ?_)
 · intro h14
   have h2 : i < x.length := by simpa using h14
   have h3 : i < y.length := by omega
   refine W_skip ?_
   rintro -
   refine W_seq (W_block ?_)
   refine xU ?_
   iterate 2 refine xO ?_
   refine xF [0,1,5,12,13] ?_
   refine W_seq ?_
   refine W_regD (by kernel_rfl) [] 4 [0,1,2,3,4,5,6,7,8] (by decide +kernel) ?_
   iterate 2 refine xO ?_
   refine xO ?_ (h := by simp [*]; exact .mk)
   iterate 3 refine xO ?_
   refine xO ?_ (h := by simp [*]; exact .mk)
   iterate 2 refine xO ?_
   refine xF [0,1,12,13,24] ?_
   refine W_cond rfl ?_ ?_
   · intro h24
     have hr : sameL (fun a b => a == b) x y = false := sameL_bad h2 (by simpa using h24)
     refine xU ?_
     refine xO ?_
     refine xF [4] ?_
     refine W_ret (xR (by simp [Try.f56]; exact .mk) ?_)
     simp [Try.f56, hr]
   intro h24
   refine W_skip ?_
   rintro -
   refine W_reg rfl ?_
   iterate 2 refine xO ?_
   refine xE [0,1,12,13] ?_
   refine rounds_kill [0,1,12,13] ?_
   refine rounds_next (m' := x.length - (i+1)) (by omega) ⟨i+1, rfl, by omega, ?_, ?_, rfl⟩
   · intro j hj
     rcases Nat.lt_succ_iff_lt_or_eq.1 hj with hj | rfl
     · exact hinv j hj
     simpa using h24
   rw [wrap64 (by omega) (by omega)]; rfl
 intro h14
 have hr : sameL (fun a b => a == b) x y = true := sameL_good hxy (fun j hj => hinv j (by simp at h14; omega))
 refine W_exit (xT ?_)
 refine xO ?_
 refine xF [4] ?_
 refine W_ret (xR (by simp [Try.f56]; exact .mk) ?_)
 simp [Try.f56, hr]

theorem ct58 (g : Gl) (x y : List Root) (hx : x.length ≤ 2^40) : CtAt Try.prog g 58 [rR x, rR y] (.v (.bool (sameL sameRoot x y))) := by
 refine ctAt_of_W Try.func58 rfl rfl (Nat.le_of_ble_eq_true rfl) fun B S => ?_
 refine xU ?_
 refine xO ?_
 refine xF [0,1] ?_
 refine W_seq (xU ?_)
 iterate 5 refine xO ?_
 refine xF [0,1,10] ?_
 refine W_cond rfl ?_ ?_
 · intro h10
   have hr : sameL sameRoot x y = false := sameL_len (by simp at h10; omega)
   refine xU ?_
   refine xO ?_
   refine xF [4] ?_
   refine W_ret (xR (by simp [Try.f58]; exact .mk) ?_)
   simp [Try.f58, hr]
 intro h10
 have hxy : x.length = y.length := by simp at h10; omega
 refine W_skip ?_
 rintro -
 refine W_seq (xU ?_)
 iterate 3 refine xO ?_
 refine xF [0,1,12,13] ?_
 refine W_block (W_rounds (fun m σ o => ∃ i : Nat, m = x.length - i ∧ i ≤ x.length ∧ (∀ j, j < i → sameRoot (nth x j) (nth y j) = true) ∧ σ = slots [(0, .d (rR x)), (1, .d (rR y)), (12, .d (vI x.length)), (13, .d (vI i))] ∧ o = []) x.length .refl ⟨0, by simp, by simp, by simp, rfl, rfl⟩ ?_)
 rintro m σ o ⟨i, rfl, hi, hinv, rfl, rfl⟩ _
 refine xU ?_
 refine xO ?_
 refine xF [0,1,12,13,14] ?_
 refine W_seq (W_cond rfl ?_ ?_)
 · intro h14
   have h2 : i < x.length := by simpa using h14
   have h3 : i < y.length := by omega
   refine W_skip ?_
   rintro -
   refine W_seq (W_block ?_)
   refine xU ?_
   iterate 2 refine xO ?_
   refine xF [0,1,5,12,13] ?_
   refine W_seq ?_
   refine W_regD (by kernel_rfl) [] 4 [0,1,2,3,4,5,6,7,8] (by decide +kernel) ?_
   iterate 2 refine xO ?_
   refine xO ?_ (h := by simp [eRoot, *]; exact .mk)
   refine xO ?_ (h := by simp [eRoot]; exact .mk)
   iterate 2 refine xO ?_
   refine xO ?_ (h := by simp [eRoot, *]; exact .mk)
   refine xO ?_ (h := by simp [eRoot]; exact .mk)
   refine xO ?_
   refine xF [0,1,12,13,24] ?_
   refine W_cond rfl ?_ ?_
   · intro h24
     have hr : sameL sameRoot x y = false := sameL_bad h2 (by simp [sameRoot] at h24 ⊢; grind)
     refine xU ?_
     refine xO ?_
     refine xF [4] ?_
     refine W_ret (xR (by simp [Try.f58]; exact .mk) ?_)
     simp [Try.f58, hr]
   intro h24
   refine W_skip ?_
   rintro -
   refine W_reg rfl ?_
   iterate 2 refine xO ?_
   refine xE [0,1,12,13] ?_
   refine rounds_kill [0,1,12,13] ?_
   refine rounds_next (m' := x.length - (i+1)) (by omega) ⟨i+1, rfl, by omega, ?_, ?_, rfl⟩
   · intro j hj
     rcases Nat.lt_succ_iff_lt_or_eq.1 hj with hj | rfl
     · exact hinv j hj
     simp [sameRoot] at h24 ⊢; grind
   rw [wrap64 (by omega) (by omega)]; rfl
 intro h14
 have hr : sameL sameRoot x y = true := sameL_good hxy (fun j hj => hinv j (by simp at h14; omega))
 refine W_exit (xT ?_)
 refine xO ?_
 refine xF [4] ?_
 refine W_ret (xR (by simp [Try.f58]; exact .mk) ?_)
 simp [Try.f58, hr]

theorem in57 (g : Gl) (objs : List Awp.Obj) (x y : List (List UInt8)) (hx : x.length ≤ 2^40) : ∀ B S, CallsA Try.prog g B S ⟨objs.length, true⟩ 57 [.d (rBB x), .d (rBB y), .fn (.func 51) [] []] objs
    (fun a o => a = .d (.v (.bool (sameL (fun a b => (str a).toList == (str b).toList) x y))) ∧ o = objs) := by
 refine callsA_at Try.func57 rfl (Nat.le_of_ble_eq_true rfl) fun B S => ?_
 refine xU ?_
 refine xO ?_
 refine xF [0,1,2] ?_
 refine W_seq (xU ?_)
 iterate 5 refine xO ?_
 refine xF [0,1,2,14] ?_
 refine W_cond rfl ?_ ?_
 · intro h14
   have hr : sameL (fun a b => (str a).toList == (str b).toList) x y = false := sameL_len (by simp at h14; omega)
   refine xU ?_
   refine xO ?_
   refine xF [6] ?_
   refine W_ret (endAt_ret (by simp [Try.f57]; exact .mk) ?_ ?_)
   · simp [hr]
   rfl
 intro h14
 have hxy : x.length = y.length := by simp at h14; omega
 refine W_skip ?_
 rintro -
 refine W_seq (xU ?_)
 iterate 3 refine xO ?_
 refine xF [1,2,15,16,17] ?_
 refine W_block (W_rounds (fun m σ o => ∃ i : Nat, m = x.length - i ∧ i ≤ x.length ∧ (∀ j, j < i → (fun a b => (str a).toList == (str b).toList) (nth x j) (nth y j) = true) ∧ σ = slots [(1, .d (rBB y)), (2, .fn (.func 51) [] []), (15, .d (rBB x)), (16, .d (vI x.length)), (17, .d (vI i))] ∧ o = objs) x.length .refl ⟨0, by simp, by simp, by simp, rfl, rfl⟩ ?_)
 rintro m σ o ⟨i, rfl, hi, hinv, rfl, rfl⟩ _
 refine xU ?_
 refine xO ?_
 refine xF [1,2,15,16,17,18] ?_
 refine W_seq (W_cond rfl ?_ ?_)
 · intro h18
   have h2 : i < x.length := by simpa using h18
   have h3 : i < y.length := by omega
   refine W_skip ?_
   rintro -
   refine W_seq (W_block ?_)
   refine xU ?_
   refine xO ?_
   refine xO ?_ (h := by simp [*]; exact .mk)
   iterate 3 refine xO ?_
   refine xG [1,2,7,8,15,16,17] ?_
   iterate 2 refine xO ?_
   refine xO ?_ (h := by simp [*]; exact .mk)
   iterate 2 refine xO ?_
   refine xG [1,2,8,9,15,16,17] ?_
   iterate 3 refine xO ?_
   refine xC (ct51 g _ _) ?_
   refine xO ?_
   refine xF [1,2,15,16,17,30] ?_
   refine W_cond rfl ?_ ?_
   · intro h30
     have hr : sameL (fun a b => (str a).toList == (str b).toList) x y = false := sameL_bad h2 (by simpa using h30)
     refine xU ?_
     refine xO ?_
     refine xF [6] ?_
     refine W_ret (endAt_ret (by simp [Try.f57]; exact .mk) ?_ ?_)
     · simp [hr]
     rfl
   intro h30
   refine W_skip ?_
   rintro -
   refine W_reg rfl ?_
   iterate 2 refine xO ?_
   refine xE [1,2,15,16,17] ?_
   refine rounds_kill [1,2,15,16,17] ?_
   refine rounds_next (m' := x.length - (i+1)) (by omega) ⟨i+1, rfl, by omega, ?_, ?_, rfl⟩
   · intro j hj
     rcases Nat.lt_succ_iff_lt_or_eq.1 hj with hj | rfl
     · exact hinv j hj
     simpa using h30
   rw [wrap64 (by omega) (by omega)]; rfl
 intro h18
 have hr : sameL (fun a b => (str a).toList == (str b).toList) x y = true := sameL_good hxy (fun j hj => hinv j (by simp at h18; omega))
 refine W_exit (xT ?_)
 refine xO ?_
 refine xF [6] ?_
 refine W_ret (endAt_ret (by simp [Try.f57]; exact .mk) ?_ ?_)
 · simp [hr]
 rfl

theorem ct27 (g : Gl) (a b : Abs) (ha : a.Ok) : CtAt Try.prog g 27 [eAbs a, eAbs b] (.v (.bool (sameAbs a b))) := by
 refine ctAt_of_W Try.func27 rfl rfl (Nat.le_of_ble_eq_true rfl) fun B S => ?_
 simp only [eAbs, List.map, argD_agg]
 refine xU ?_
 iterate 3 refine xO ?_
 refine xG [2,3] ?_
 iterate 4 refine xO ?_
 refine xC (ct56 g _ _ ha.h1) ?_
 refine xO ?_
 iterate 4 refine xI ?_
 refine run_inlG rfl (by simp; exact .mk) rfl rfl (by simp) (by simp; exact .mk) ⟨_, Try.func57, rfl, rfl⟩ (fun hb => in57 g _ _ _ ha.h2) ?_
 refine xP ?_
 refine xB ?_
 iterate 4 refine xI ?_
 refine run_call rfl (by simp; exact .mk) rfl rfl (by simp) (by simp; exact .mk) (by simp; exact .mk) (fun hb => ct58 g _ _ ha.h3) (by simp) (by simp; exact .mk) (by simp) ?_
 refine xP ?_
 refine xB ?_
 refine xF [4] ?_
 refine W_ret (xR (by simp [Try.f27]; exact .mk) ?_)
 simp [Try.f27, sameAbs, Bool.and_assoc]

open Go.Awp
theorem ct78 (g : Gl) (l : List Int) (hl : l.length ≤ 2^40) : CtAt Try.prog g 78 [rI l] (oI l) := by
 refine ctAt_of_W Try.func78 rfl rfl (Nat.le_of_ble_eq_true rfl) fun B S => ?_
 refine xU ?_
 refine xO ?_
 refine xF [0] ?_
 refine W_seq (W_seq ?_)
 refine W_region rfl (WR_cut (hard := []) [0] [1] ?_)
 refine xO ?_
 refine xE [0,3] ?_
 refine WR_nilcmp rfl rfl rfl (.inl rfl) rfl ⟨_, Try.underlying22⟩ (by simp; rfl) ?_
 intro nb hnb
 refine WR_run (hard := []) ?_
 refine xF [0,4] ?_
 refine W_cond rfl ?_ ?_
 · intro h4
   have hl0 : l = [] := List.eq_nil_of_length_eq_zero (hnb (by simpa using h4))
   subst hl0
   refine xU ?_
   refine xO ?_
   refine xF [2] ?_
   refine W_ret (xR (by simp [Try.f78]; exact .mk) ?_)
   simp [Try.f78, ownR]
 intro h4
 refine W_skip ?_
 rintro -
 refine W_seq ?_
 have e1 : l.length * 32 ≤ 140737488355328 := by omega
 have e2 : l.length ≤ 140737488355328 := by omega
 have e3 : l.length * 8 ≤ 140737488355328 := by omega
 refine W_reg rfl ?_
 iterate 2 refine xO ?_
 refine xO ?_ (h := by simp [rows, e1, e2, e3]; exact .mk)
 refine xO ?_
 refine xF [2] ?_
 refine W_ret (xR (by simp [Try.f78]; exact .mk) ?_)
 simp [Try.f78, ownR]

theorem ct52 (g : Gl) (l : List Root) (hl : l.length ≤ 2^40) : CtAt Try.prog g 52 [rR l] (oR l) := by
 refine ctAt_of_W Try.func52 rfl rfl (Nat.le_of_ble_eq_true rfl) fun B S => ?_
 refine xU ?_
 refine xO ?_
 refine xF [0] ?_
 refine W_seq (W_seq ?_)
 refine W_region rfl (WR_cut (hard := []) [0] [1] ?_)
 refine xO ?_
 refine xE [0,3] ?_
 refine WR_nilcmp rfl rfl rfl (.inl rfl) rfl ⟨_, Try.underlying24⟩ (by simp; rfl) ?_
 intro nb hnb
 refine WR_run (hard := []) ?_
 refine xF [0,4] ?_
 refine W_cond rfl ?_ ?_
 · intro h4
   have hl0 : l = [] := List.eq_nil_of_length_eq_zero (hnb (by simpa using h4))
   subst hl0
   refine xU ?_
   refine xO ?_
   refine xF [2] ?_
   refine W_ret (xR (by simp [Try.f52]; exact .mk) ?_)
   simp [Try.f52, ownR]
 intro h4
 refine W_skip ?_
 rintro -
 refine W_seq ?_
 have e1 : l.length * 32 ≤ 140737488355328 := by omega
 have e2 : l.length ≤ 140737488355328 := by omega
 have e3 : l.length * 8 ≤ 140737488355328 := by omega
 refine W_reg rfl ?_
 iterate 2 refine xO ?_
 refine xO ?_ (h := by simp [rows, e1, e2, e3]; exact .mk)
 refine xO ?_
 refine xF [2] ?_
 refine W_ret (xR (by simp [Try.f52]; exact .mk) ?_)
 simp [Try.f52, ownR]

theorem ct53 (g : Gl) (l : List UInt8) (hl : l.length ≤ 2^40) : CtAt Try.prog g 53 [rB l] (oB l) := by
 refine ctAt_of_W Try.func53 rfl rfl (Nat.le_of_ble_eq_true rfl) fun B S => ?_
 refine xU ?_
 refine xO ?_
 refine xF [0] ?_
 refine W_seq (W_seq ?_)
 refine W_region rfl (WR_cut (hard := []) [0] [1] ?_)
 refine xO ?_
 refine xE [0,3] ?_
 refine WR_nilcmp rfl rfl rfl (.inl rfl) rfl ⟨_, Try.underlying29⟩ (by simp; rfl) ?_
 intro nb hnb
 refine WR_run (hard := []) ?_
 refine xF [0,4] ?_
 refine W_cond rfl ?_ ?_
 · intro h4
   have hl0 : l = [] := List.eq_nil_of_length_eq_zero (hnb (by simpa using h4))
   subst hl0
   refine xU ?_
   refine xO ?_
   refine xF [2] ?_
   refine W_ret (xR (by simp [Try.f53]; exact .mk) ?_)
   simp [Try.f53, ownR]
 intro h4
 refine W_skip ?_
 rintro -
 refine W_seq ?_
 have e1 : l.length * 32 ≤ 140737488355328 := by omega
 have e2 : l.length ≤ 140737488355328 := by omega
 have e3 : l.length * 8 ≤ 140737488355328 := by omega
 refine W_reg rfl ?_
 iterate 2 refine xO ?_
 refine xO ?_ (h := by simp [rows, e1, e2, e3]; exact .mk)
 refine xO ?_
 refine xF [2] ?_
 refine W_ret (xR (by simp [Try.f53]; exact .mk) ?_)
 simp [Try.f53, ownR]

open Go.Awp
theorem ct139 (g : Gl) (l : List Root) (k : Nat) (r : Root) (hl : l.length ≤ 2^40) (hk : k < l.length) : CtAt Try.prog g 139 [rR l, vI k, eRoot r] (oR (l.set k r)) := by
 refine ctAt_of_W Try.func139 rfl rfl (Nat.le_of_ble_eq_true rfl) fun B S => ?_
 simp only [eRoot, List.map, argD_agg]
 refine xU ?_
 iterate 2 refine xO ?_
 refine xG [0,1,5] ?_
 refine xO ?_
 refine xC (ct52 g _ hl) ?_
 refine xO ?_
 refine xG [1,5,7] ?_
 iterate 3 refine xO ?_
 refine xO ?_ (h := by simp [hk]; exact .mk)
 refine xO ?_ (h := by simp [splice, hk, nrmL, nrm, putC, eRoot]; exact .mk)
 refine xG [7] ?_
 iterate 2 refine xO ?_
 refine xF [6] ?_
 refine W_ret (xR (by simp [Try.f139]; exact .mk) ?_)
 simp [Try.f139, ownR, List.map_set, eRoot]

theorem ct138 (g : Gl) (l : List Root) (nm : ByteArray) (hl : RootsOk l) (hn : nm.size ≤ 2^40) : CtAt Try.prog g 138 [rR l, vS nm] (.tup [vI (findS l nm).1, vI (findS l nm).2]) := by
 refine ctAt_of_W Try.func138 rfl rfl (Nat.le_of_ble_eq_true rfl) fun B S => ?_
 refine xU ?_
 iterate 2 refine xO ?_
 refine xF [0,1] ?_
 refine W_seq (W_block ?_)
 refine xU ?_
 refine xO ?_
 refine xC (ct54 g _ hl.h1 hl.h2) ?_
 iterate 2 refine xO ?_
 refine xF [0,1,6] ?_
 refine W_cond rfl ?_ ?_
 · intro h6
   have hr : rootsS l = false := by simpa using h6
   refine xU ?_
   iterate 2 refine xO ?_
   refine xF [4,5] ?_
   refine W_ret (xR (by simp [Try.f138]; exact .mk) ?_)
   simp [Try.f138, findS, *]
 intro h6
 have hr : rootsS l = true := by simpa using h6
 refine xU ?_
 refine xO ?_
 refine xC (ct83 g _ hn) ?_
 iterate 2 refine xO ?_
 refine xF [0,1,10] ?_
 refine W_cond rfl ?_ ?_
 · intro h10
   have hr2 : nameS nm = false := by simpa using h10
   refine xU ?_
   iterate 2 refine xO ?_
   refine xF [4,5] ?_
   refine W_ret (xR (by simp [Try.f138]; exact .mk) ?_)
   simp [Try.f138, findS, *]
 intro h10
 have hr2 : nameS nm = true := by simpa using h10
 refine W_skip ?_
 refine xT ?_
 iterate 2 refine xO ?_
 refine xC (ct95 g _ _ hl.h1) ?_
 iterate 2 refine xO ?_
 refine xF [4,5] ?_
 refine W_ret (xR (by simp [Try.f138]; exact .mk) ?_)
 simp [Try.f138, findS, *]

theorem ct118 (g : Gl) (l : List Root) (nm : ByteArray) (hl : RootsOk l) (hn : nm.size ≤ 2^40) : CtAt Try.prog g 118 [rR l, vS nm] (.tup [oR (dropS l nm).1, vI (dropS l nm).2]) := by
 refine ctAt_of_W Try.func118 rfl rfl (Nat.le_of_ble_eq_true rfl) fun B S => ?_
 refine xU ?_
 iterate 2 refine xO ?_
 refine xG [0,1] ?_
 iterate 2 refine xO ?_
 refine xC (ct138 g _ _ hl hn) ?_
 iterate 5 refine xO ?_
 refine xF [0,6,7] ?_
 refine W_seq (W_block ?_)
 refine xU ?_
 iterate 3 refine xO ?_
 refine xF [0,6,7,14] ?_
 refine W_cond rfl ?_ ?_
 · intro h14
   have hr : (findS l nm).2 ≠ 0 := by simpa using h14
   refine xU ?_
   iterate 3 refine xO ?_
   refine xF [4,5] ?_
   refine W_ret (xR (by simp [Try.f118]; exact .mk) ?_)
   simp [Try.f118, dropS, ownR, List.map_set, *]
 intro h14
 have hr : (findS l nm).2 = 0 := by simpa using h14
 refine xU ?_
 iterate 3 refine xO ?_
 refine xF [0,6,18] ?_
 refine W_cond rfl ?_ ?_
 · intro h18
   have hr2 : (findS l nm).1 < 0 := by simpa using h18
   refine xU ?_
   iterate 2 refine xO ?_
   refine xF [4,5] ?_
   refine W_ret (xR (by simp [Try.f118]; exact .mk) ?_)
   simp [Try.f118, dropS, ownR, List.map_set, *]
 intro h18
 have hr2 : 0 ≤ (findS l nm).1 := by simpa using h18
 obtain ⟨k, hk, hkl⟩ := findS_nat hl hr hr2
 have hk0 : ¬ ((k : Int) < 0) := by omega
 refine W_skip ?_
 refine xT ?_
 iterate 2 refine xO ?_
 refine xO ?_ (h := by simp [splice]; exact .mk)
 refine run_call0 rfl rfl rfl rfl (by simp; exact .mk) (by simp; exact .mk) (by have := ct139 g l k zRoot hl.h1 hkl; rw [← hk] at this; exact this) (by simp) (by simp; exact .mk) ?_
 iterate 2 refine xO ?_
 refine xF [4,5] ?_
 refine W_ret (xR (by simp [Try.f118]; exact .mk) ?_)
 simp [Try.f118, dropS, ownR, List.map_set, *]

theorem ct117 (g : Gl) (l : List Root) (nm : ByteArray) (hl : RootsOk l) (hn : nm.size ≤ 2^40) : CtAt Try.prog g 117 [rR l, vS nm] (.tup [.agg [vI (getS l nm).1, vI (getS l nm).2.1], vI (getS l nm).2.2]) := by
 refine ctAt_of_W Try.func117 rfl rfl (Nat.le_of_ble_eq_true rfl) fun B S => ?_
 refine xU ?_
 iterate 2 refine xO ?_
 refine xG [0,1,4] ?_
 iterate 2 refine xO ?_
 refine xC (ct138 g _ _ hl hn) ?_
 iterate 5 refine xO ?_
 refine xF [0,4,6,7] ?_
 refine W_seq (W_block ?_)
 refine xU ?_
 iterate 3 refine xO ?_
 refine xF [0,4,6,7,14] ?_
 refine W_cond rfl ?_ ?_
 · intro h14
   have hr : (findS l nm).2 ≠ 0 := by simpa using h14
   refine xU ?_
   refine xO ?_ (h := by simp [splice]; exact .mk)
   refine xO ?_
   refine xO ?_ (h := by simp [splice]; exact .mk)
   refine xO ?_
   refine xF [4,5] ?_
   refine W_ret (xR (by simp [Try.f117]; exact .mk) ?_)
   simp [Try.f117, getS, *]
 intro h14
 have hr : (findS l nm).2 = 0 := by simpa using h14
 refine xU ?_
 iterate 3 refine xO ?_
 refine xF [0,4,6,19] ?_
 refine W_cond rfl ?_ ?_
 · intro h19
   have hr2 : (findS l nm).1 < 0 := by simpa using h19
   refine xU ?_
   iterate 2 (refine xO ?_ (h := by simp [splice]; exact .mk))
   refine xO ?_
   refine xF [4,5] ?_
   refine W_ret (xR (by simp [Try.f117]; exact .mk) ?_)
   simp [Try.f117, getS, *]
 intro h19
 have hr2 : 0 ≤ (findS l nm).1 := by simpa using h19
 obtain ⟨k, hk, hkl⟩ := findS_nat hl hr hr2
 have hk0 : ¬ ((k : Int) < 0) := by omega
 refine W_skip ?_
 refine xT ?_
 iterate 2 refine xO ?_
 refine xO ?_ (h := by simp [eRoot, hk, hkl]; exact .mk)
 refine xO ?_
 refine xO ?_ (h := by simp [eRoot]; exact .mk)
 refine xO ?_ (h := by simp [splice]; exact .mk)
 refine xO ?_
 refine xF [4,5] ?_
 refine W_ret (xR (by simp [Try.f117]; exact .mk) ?_)
 simp [Try.f117, getS, *]

end Go.Proofs
