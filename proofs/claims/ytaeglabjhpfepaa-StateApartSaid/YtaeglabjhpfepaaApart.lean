/- Plain facts about layouts, and the contract of the law StateApart: it answers true, for every state. -/
import Derived.Test.YtaeglabjhpfepaaStC
set_option linter.all false
set_option linter.unusedSimpArgs false
set_option maxHeartbeats 1000000
namespace Go.Proofs
open Go.Awp
/-- Two spots that share nothing. -/
def apartS (a b : Spot) : Prop := (a.small = true ∧ b.small = true ∧ a.cls = b.cls ∧ a.cell ≠ b.cell) ∨ a.page + a.count ≤ b.page ∨ b.page + b.count ≤ a.page
/-- What a layout holds of an object that was laid. -/
def Holds (st : List Int × List Nat) (a : Spot) : Prop := (a.small = true → nth st.1 a.page.toNat = a.cls ∧ (nth st.2 a.page.toNat).testBit a.cell.toNat = true) ∧ (a.small = false → ∀ t : Nat, (t : Int) < a.count → nth st.1 (a.page.toNat + t) = 7 ∨ nth st.1 (a.page.toNat + t) = 6)
structure GoodSpot (pages : Int) (a : Spot) : Prop where
  p0 : 0 ≤ a.page
  c1 : 1 ≤ a.count
  p1 : a.page + a.count ≤ pages
  s1 : a.small = true → a.count = 1 ∧ 0 ≤ a.cls ∧ a.cls < 6 ∧ 0 ≤ a.cell ∧ a.cell < 64
theorem nth_set2 {α : Type} [Inhabited α] {l : List α} {i j : Nat} {x : α} (hi : i < l.length) : nth (l.set i x) j = if i = j then x else nth l j := by
  by_cases hj : j < l.length
  · rw [nth_eq (by simpa using hj), List.getElem_set]
    split
    · rfl
    · rw [nth_eq hj]
  · rw [if_neg (by omega)]
    simp only [nth]
    rw [List.getD_eq_getElem?_getD, List.getD_eq_getElem?_getD, List.getElem?_eq_none (by simpa using hj), List.getElem?_eq_none (by omega)]
theorem fillF_spec {p : Nat} : ∀ {f j : Nat} {l : List Int}, (fillF p f j l).1 = true → p + j + f ≤ l.length → (∀ t, j ≤ t → t < j + f → nth l (p + t) = -1) ∧ ∀ x, nth (fillF p f j l).2 x = if p + j ≤ x ∧ x < p + j + f then 7 else nth l x
  | 0, j, l, h, hl => ⟨fun t h1 h2 => by omega, fun x => by rw [if_neg (by omega)]; rfl⟩
  | f + 1, j, l, h, hl => by
    by_cases hq : nth l (p + j) = -1
    · rw [fillF_t hq] at h ⊢
      obtain ⟨h1, h2⟩ := fillF_spec h (by simp; omega)
      constructor
      · intro t ht1 ht2
        by_cases e : t = j
        · subst e; exact hq
        · have := h1 t (by omega) (by omega)
          rwa [nth_set2 (by omega), if_neg (by omega)] at this
      · intro x
        rw [h2, nth_set2 (by omega)]
        by_cases e : p + j = x
        · subst e; rw [if_neg (by omega), if_pos rfl, if_pos (by omega)]
        · rw [if_neg e]
          by_cases e2 : p + (j + 1) ≤ x ∧ x < p + (j + 1) + f
          · rw [if_pos e2, if_pos (by omega)]
          · rw [if_neg e2, if_neg (by omega)]
    · rw [fillF_f hq] at h; cases h
theorem and_pow {m c : Nat} (h : m &&& 2 ^ c = 0) : m.testBit c = false := by
  have := congrArg (fun x => x.testBit c) h
  simpa [Nat.testBit_and, Nat.testBit_two_pow_self] using this
/-- A step: the new spot is apart from those that are held, and all are held behind it. -/
theorem lay_step {pages : Int} {st : List Int × List Nat} {b : Spot} (hp : pages ≤ 64) (h1 : st.1.length = pages.toNat) (h2 : st.2.length = 64) (hb : GoodSpot pages b)
    (h : (layS st.1 st.2 b.page.toNat b.count.toNat b.small b.cls b.cell.toNat).1 = true) :
    (∀ a, GoodSpot pages a → Holds st a → apartS a b ∧ Holds (layS st.1 st.2 b.page.toNat b.count.toNat b.small b.cls b.cell.toNat).2 a) ∧ Holds (layS st.1 st.2 b.page.toNat b.count.toNat b.small b.cls b.cell.toNat).2 b := by
  obtain ⟨bp, bc, bs, bk, bl⟩ := b
  obtain ⟨p0, c1, p1, s1⟩ := hb
  simp only at p0 c1 p1 s1 h ⊢
  have hpl : bp.toNat < st.1.length := by omega
  have hpm : bp.toNat < st.2.length := by omega
  unfold layS at h ⊢
  by_cases hs : bs = true
  · subst hs
    obtain ⟨rfl, k0, k6, l0, l64⟩ := s1 rfl
    simp only [if_true] at h ⊢
    by_cases hc : nth st.1 bp.toNat = bk ∧ nth st.2 bp.toNat &&& 2 ^ bl.toNat = 0
    · rw [if_pos hc] at h ⊢
      have hbit := and_pow hc.2
      refine ⟨fun a ga ha => ⟨?_, ?_⟩, ?_⟩
      · by_cases hpp : a.page + a.count ≤ bp ∨ bp + 1 ≤ a.page
        · exact .inr hpp
        · left
          cases has : a.small with
          | true =>
            obtain ⟨q1, q2⟩ := ha.1 has
            have gs := ga.s1 has
            have hpe : a.page = bp := by have := gs.1; omega
            rw [hpe] at q1 q2
            refine ⟨rfl, rfl, by rw [← q1, hc.1], fun e => ?_⟩
            simp only at e
            rw [e] at q2
            rw [hbit] at q2; cases q2
          | false =>
            exfalso
            have := ha.2 has (bp - a.page).toNat (by have := ga.c1; omega)
            rw [show a.page.toNat + (bp - a.page).toNat = bp.toNat by have := ga.p0; omega, hc.1] at this
            omega
      · refine ⟨fun has => ?_, fun has t ht => ha.2 has t ht⟩
        obtain ⟨q1, q2⟩ := ha.1 has
        refine ⟨q1, ?_⟩
        rw [nth_set2 hpm]
        split
        · rename_i e; rw [← e] at q2; rw [Nat.testBit_or, q2]; rfl
        · exact q2
      · refine ⟨fun _ => ⟨hc.1, ?_⟩, fun e => by cases e⟩
        simp only
        rw [nth_set2 hpm, if_pos rfl, Nat.testBit_or, Nat.testBit_two_pow_self]; simp
    · rw [if_neg hc] at h ⊢
      by_cases hf : nth st.1 bp.toNat = -1
      · rw [if_pos hf] at h ⊢
        have nopage : ∀ a, GoodSpot pages a → Holds st a → a.page + a.count ≤ bp ∨ bp + 1 ≤ a.page := by
          intro a ga ha
          by_cases hpp : a.page + a.count ≤ bp ∨ bp + 1 ≤ a.page
          · exact hpp
          · exfalso
            cases has : a.small with
            | true =>
              obtain ⟨q1, _⟩ := ha.1 has
              have gs := ga.s1 has
              rw [show a.page = bp by omega, hf] at q1
              omega
            | false =>
              have := ha.2 has (bp - a.page).toNat (by have := ga.c1; omega)
              rw [show a.page.toNat + (bp - a.page).toNat = bp.toNat by have := ga.p0; omega, hf] at this
              omega
        refine ⟨fun a ga ha => ⟨.inr (nopage a ga ha), ?_⟩, ?_⟩
        · have hn := nopage a ga ha
          have h0 := ga.p0
          have h1 := ga.c1
          refine ⟨fun has => ?_, fun has t ht => ?_⟩
          · obtain ⟨q1, q2⟩ := ha.1 has
            simp only
            rw [nth_set2 hpl, nth_set2 hpm, if_neg (by omega), if_neg (by omega)]
            exact ⟨q1, q2⟩
          · simp only
            rw [nth_set2 hpl, if_neg (by omega)]
            exact ha.2 has t ht
        · refine ⟨fun _ => ⟨?_, ?_⟩, fun e => by cases e⟩
          · simp only; rw [nth_set2 hpl, if_pos rfl]
          · simp only; rw [nth_set2 hpm, if_pos rfl, Nat.testBit_two_pow_self]
      · rw [if_neg hf] at h; cases h
  · have hs2 : bs = false := by simpa using hs
    subst hs2
    simp only [Bool.false_eq_true, if_false] at h ⊢
    by_cases hf : (fillF bp.toNat bc.toNat 0 st.1).1 = true
    · rw [if_pos hf] at h ⊢
      obtain ⟨g1, g2⟩ := fillF_spec hf (by omega)
      have hlen : bp.toNat < (fillF bp.toNat bc.toNat 0 st.1).2.length := by rw [fillF_len]; exact hpl
      have val : ∀ x, nth ((fillF bp.toNat bc.toNat 0 st.1).2.set bp.toNat 6) x = if bp.toNat = x then 6 else if bp.toNat ≤ x ∧ x < bp.toNat + bc.toNat then 7 else nth st.1 x := by
        intro x
        rw [nth_set2 hlen, g2]
        simp only [Nat.add_zero]
      have nopage : ∀ a, GoodSpot pages a → Holds st a → a.page + a.count ≤ bp ∨ bp + bc ≤ a.page := by
        intro a ga ha
        by_cases hpp : a.page + a.count ≤ bp ∨ bp + bc ≤ a.page
        · exact hpp
        · exfalso
          have h0 := ga.p0
          have h1 := ga.c1
          cases has : a.small with
          | true =>
            obtain ⟨q1, _⟩ := ha.1 has
            have gs := ga.s1 has
            have := g1 (a.page - bp).toNat (by omega) (by omega)
            rw [show bp.toNat + (a.page - bp).toNat = a.page.toNat by omega, q1] at this
            omega
          | false =>
            by_cases hle : a.page ≤ bp
            · have e1 := ha.2 has (bp - a.page).toNat (by omega)
              have e2 := g1 0 (by omega) (by omega)
              rw [show a.page.toNat + (bp - a.page).toNat = bp.toNat + 0 by omega, e2] at e1
              omega
            · have e1 := ha.2 has 0 (by omega)
              have e2 := g1 (a.page - bp).toNat (by omega) (by omega)
              rw [show bp.toNat + (a.page - bp).toNat = a.page.toNat + 0 by omega] at e2
              simp only [Nat.add_zero] at e1 e2
              rw [e2] at e1
              omega
      refine ⟨fun a ga ha => ⟨.inr (nopage a ga ha), ?_⟩, ?_⟩
      · have hn := nopage a ga ha
        have h0 := ga.p0
        have h1 := ga.c1
        refine ⟨fun has => ?_, fun has t ht => ?_⟩
        · obtain ⟨q1, q2⟩ := ha.1 has
          refine ⟨?_, q2⟩
          simp only
          rw [val, if_neg (by omega), if_neg (by omega)]; exact q1
        · simp only
          rw [val, if_neg (by omega), if_neg (by omega)]; exact ha.2 has t ht
      · refine ⟨fun e => (by cases e), fun _ t ht => ?_⟩
        simp only at ht ⊢
        rw [val]
        split
        · exact .inr rfl
        · rw [if_pos (by omega)]; exact .inl rfl
    · rw [if_neg hf] at h; cases h
end Go.Proofs

set_option linter.unusedSimpArgs false
set_option maxHeartbeats 1000000
namespace Go.Proofs
open Go.Awp
theorem wordsL_k {k : Nat} (h : k < 6) : nth wordsL k = 2 ∨ nth wordsL k = 3 ∨ nth wordsL k = 5 ∨ nth wordsL k = 7 ∨ nth wordsL k = 10 ∨ nth wordsL k = 15 := by
  have : k = 0 ∨ k = 1 ∨ k = 2 ∨ k = 3 ∨ k = 4 ∨ k = 5 := by omega
  rcases this with h | h | h | h | h | h <;> subst h <;> decide
theorem classS_spec {n : Int} (h : (classS n).2 = true) : 1 ≤ n ∧ ∃ k : Nat, k < 6 ∧ (classS n).1 = k ∧ n ≤ nth wordsL k * 8 := by
  unfold classS at h ⊢
  split
  · rename_i h1; rw [if_pos h1] at h; simp at h
  · rename_i h1
    rw [if_neg h1] at h
    refine ⟨by omega, ?_⟩
    cases hf : wordsL.findIdx? (fun w => decide (n ≤ w * 8)) with
    | none => rw [hf] at h; simp at h
    | some k =>
      obtain ⟨h2, h3, _⟩ := List.findIdx?_eq_some_iff_getElem.1 hf
      exact ⟨k, h2, rfl, by rw [nth_eq h2]; simpa using h3⟩
/-- Where an object lies that has a right spot: its words. -/
structure SpotW (pages : Int) (o : Int × Int) (a : Spot) : Prop where
  good : GoodSpot pages a
  sm : a.small = true → ∃ k : Nat, k < 6 ∧ a.cls = k ∧ o.1 = 32 * a.page + 4 + a.cell * nth wordsL k ∧ (o.2 + 7).tdiv 8 ≤ nth wordsL k ∧ 4 + (a.cell + 1) * nth wordsL k ≤ 32
  lg : a.small = false → o.1 = 32 * a.page ∧ (o.2 + 7).tdiv 8 ≤ 32 * a.count
theorem spot_words {pages : Int} {o : Int × Int} (h : (spotS pages o).2 = true) : SpotW pages o (spotS pages o).1 := by
  unfold spotS at h ⊢
  split
  · rename_i h1; rw [if_pos h1] at h; simp at h
  · rename_i h1
    rw [if_neg h1] at h
    have hdm : o.1 = 32 * o.1.tdiv 32 + o.1.tmod 32 := by
      rw [Int.tdiv_eq_ediv_of_nonneg (by omega), Int.tmod_eq_emod_of_nonneg (by omega)]; omega
    have hp : 0 ≤ o.1.tdiv 32 := Int.tdiv_nonneg (by omega) (by omega)
    have hm : 0 ≤ o.1.tmod 32 ∧ o.1.tmod 32 < 32 := by rw [Int.tmod_eq_emod_of_nonneg (by omega)]; omega
    split
    · rename_i h2
      rw [if_pos h2] at h
      simp only [Bool.and_eq_true, decide_eq_true_eq] at h
      obtain ⟨hn, k, hk, hcls, hlen⟩ := classS_spec h2
      obtain ⟨hw, hpg⟩ := h
      rw [hcls] at hw ⊢
      simp only
      have hwk := wordsL_k hk
      have hwb : 2 ≤ nth wordsL k ∧ nth wordsL k ≤ 15 := by omega
      obtain ⟨w, hwe⟩ : ∃ w, w = nth wordsL k := ⟨_, rfl⟩
      have hlen2 : (o.2 + 7).tdiv 8 ≤ w := by
        rw [Int.tdiv_eq_ediv_of_nonneg (by omega)]; omega
      have hcell : ∃ c : Int, (whichS k (o.1.tmod 32)).1 = c ∧ 0 ≤ c ∧ o.1.tmod 32 = 4 + c * w ∧ 4 + (c + 1) * w ≤ 32 := by
        unfold whichS at hw ⊢
        split
        · rename_i h3; rw [if_pos h3] at hw; simp at hw
        · rename_i h3
          rw [if_neg h3] at hw
          split
          · rename_i h4; rw [if_pos h4] at hw; simp at hw
          · rename_i h4
            simp only [Int.toNat_natCast] at h4 ⊢
            refine ⟨_, rfl, Int.tdiv_nonneg (by omega) (by omega), ?_⟩
            rw [← hwe] at h4 ⊢
            have h5 : ¬ (28 : Int).tdiv w ≤ (o.1.tmod 32 - 4).tdiv w := by omega
            have h6 : (o.1.tmod 32 - 4).tmod w = 0 := by omega
            generalize hx : o.1.tmod 32 - 4 = x at h5 h6
            have hx0 : 0 ≤ x := by omega
            rw [Int.tdiv_eq_ediv_of_nonneg (by omega), Int.tdiv_eq_ediv_of_nonneg hx0] at h5
            rw [Int.tmod_eq_emod_of_nonneg hx0] at h6
            rw [Int.tdiv_eq_ediv_of_nonneg hx0]
            rw [← hwe] at hwk
            rcases hwk with e | e | e | e | e | e <;> rw [e] at h5 h6 ⊢ <;> omega
      obtain ⟨c, e1, e2, e3, e4⟩ := hcell
      rw [e1]
      have hc : c < 64 := by
        rw [← hwe] at hwk
        rcases hwk with e | e | e | e | e | e <;> rw [e] at e4 <;> omega
      refine ⟨⟨hp, by simp, by simp only; omega, fun _ => ⟨rfl, by simp only; omega, by simp only; omega, e2, hc⟩⟩, fun _ => ⟨k, hk, rfl, ?_, by rw [← hwe]; exact hlen2, by rw [← hwe]; exact e4⟩, fun e => by cases e⟩
      simp only
      rw [← hwe]
      generalize c * w = y at e3 ⊢
      omega
    · rename_i h2
      rw [if_neg h2] at h
      simp only [Bool.and_eq_true, decide_eq_true_eq] at h
      obtain ⟨⟨⟨q1, q2⟩, q3⟩, q4⟩ := h
      have hk : 1 ≤ (pagesS o.2).1 ∧ (o.2 + 7).tdiv 8 ≤ 32 * (pagesS o.2).1 := by
        unfold pagesS at q1 ⊢
        split
        · rename_i h3; rw [if_pos h3] at q1; simp at q1
        · simp only; rw [Int.tdiv_eq_ediv_of_nonneg (by omega), Int.tdiv_eq_ediv_of_nonneg (by omega)]; omega
      refine ⟨⟨hp, hk.1, by simp only; omega, fun e => (by cases e)⟩, fun e => (by cases e), fun _ => ⟨by simp only; omega, hk.2⟩⟩
theorem okI_spot {pages : Int} {l : List (Int × Int)} {i : Nat} (h : okI pages l i = true) : (spotS pages (nth l i)).2 = true := by
  unfold okI layO at h
  split at h
  · assumption
  · simp at h
theorem okI_lay {pages : Int} {l : List (Int × Int)} {i : Nat} (h : okI pages l i = true) : stI pages l (i + 1) = (layS (stI pages l i).1 (stI pages l i).2 (spotS pages (nth l i)).1.page.toNat (spotS pages (nth l i)).1.count.toNat (spotS pages (nth l i)).1.small (spotS pages (nth l i)).1.cls (spotS pages (nth l i)).1.cell.toNat).2 ∧
    (layS (stI pages l i).1 (stI pages l i).2 (spotS pages (nth l i)).1.page.toNat (spotS pages (nth l i)).1.count.toNat (spotS pages (nth l i)).1.small (spotS pages (nth l i)).1.cls (spotS pages (nth l i)).1.cell.toNat).1 = true := by
  have hs := okI_spot h
  constructor
  · simp only [stI, layO]; rw [if_pos hs]
  · simp only [okI, layO] at h; rwa [if_pos hs] at h
/-- All objects of a layout are held. -/
theorem laid_holds {pages : Int} {l : List (Int × Int)} (hp : pages ≤ 64) : ∀ {i : Nat}, (∀ j, j < i → okI pages l j = true) → ∀ j, j < i → Holds (stI pages l i) (spotS pages (nth l j)).1
  | 0, _, j, h => by omega
  | i + 1, h, j, hj => by
    obtain ⟨e1, e2⟩ := okI_lay (h i (by omega))
    have hstep := lay_step hp stI_len.1 stI_len.2 (spot_words (okI_spot (h i (by omega)))).good e2
    rw [e1]
    by_cases hji : j = i
    · subst hji; exact hstep.2
    · exact (hstep.1 _ (spot_words (okI_spot (h j (by omega)))).good (laid_holds hp (fun j hj => h j (by omega)) j (by omega))).2
theorem laid_apart {pages : Int} {l : List (Int × Int)} (hp : pages ≤ 64) {i : Nat} (h : ∀ j, j ≤ i → okI pages l j = true) {j : Nat} (hj : j < i) : apartS (spotS pages (nth l j)).1 (spotS pages (nth l i)).1 := by
  obtain ⟨_, e2⟩ := okI_lay (h i (by omega))
  have hstep := lay_step hp stI_len.1 stI_len.2 (spot_words (okI_spot (h i (by omega)))).good e2
  exact (hstep.1 _ (spot_words (okI_spot (h j (by omega)))).good (laid_holds hp (fun j hj => h j (by omega)) j hj)).1
theorem mul_le_words {c w : Int} (hc : 0 ≤ c) (hw : 0 ≤ w) : 0 ≤ c * w := Int.mul_nonneg hc hw
/-- Objects whose spots are apart share no word. -/
theorem words_apart {pages : Int} {o p : Int × Int} {a b : Spot} (ha : SpotW pages o a) (hb : SpotW pages p b) (h : apartS a b) : o.1 + (o.2 + 7).tdiv 8 ≤ p.1 ∨ p.1 + (p.2 + 7).tdiv 8 ≤ o.1 := by
  have lower : ∀ {q : Int × Int} {c : Spot}, SpotW pages q c → 32 * c.page ≤ q.1 ∧ q.1 + (q.2 + 7).tdiv 8 ≤ 32 * (c.page + c.count) := by
    intro q c hc
    have h1 := hc.good.c1
    cases hs : c.small with
    | true =>
      obtain ⟨k, hk, e1, e2, e3, e4⟩ := hc.sm hs
      have hw := wordsL_k hk
      have hg := hc.good.s1 hs
      rcases hw with e | e | e | e | e | e <;> rw [e] at e2 e3 e4 <;> omega
    | false =>
      obtain ⟨e1, e2⟩ := hc.lg hs
      omega
  have la := lower ha
  have lb := lower hb
  rcases h with ⟨h1, h2, h3, h4⟩ | h | h
  · obtain ⟨k, hk, e1, e2, e3, e4⟩ := ha.sm h1
    obtain ⟨k', hk', f1, f2, f3, f4⟩ := hb.sm h2
    obtain rfl : k = k' := by omega
    have g1 := ha.good.s1 h1
    have g2 := hb.good.s1 h2
    by_cases hpp : a.page = b.page
    · have hw := wordsL_k hk
      rcases hw with e | e | e | e | e | e <;> rw [e] at e2 e3 e4 f2 f3 f4 <;> omega
    · omega
  · left; omega
  · right; omega
theorem spot_range {pages : Int} {o : Int × Int} {a : Spot} (h : SpotW pages o a) : 0 ≤ o.1 ∧ o.1 + (o.2 + 7).tdiv 8 ≤ 32 * pages := by
  have h1 := h.good.c1
  have h2 := h.good.p1
  have h3 := h.good.p0
  cases hs : a.small with
  | true =>
    obtain ⟨k, hk, e1, e2, e3, e4⟩ := h.sm hs
    have hw := wordsL_k hk
    have hg := h.good.s1 hs
    rcases hw with e | e | e | e | e | e <;> rw [e] at e2 e3 e4 <;> omega
  | false =>
    obtain ⟨e1, e2⟩ := h.lg hs
    omega
theorem sttS_laid {s : Stt} (h : sttS s = true) : ∀ j, j < (twosO s.slots).length → okI s.base (twosO s.slots) j = true := by
  simp only [sttS, Bool.and_eq_true] at h
  have h1 := h.2.2.1
  unfold laidS at h1
  split at h1
  · rename_i h2
    simp only [Bool.and_eq_true, List.all_eq_true, List.mem_range] at h2
    exact h2.2
  · simp at h1
/-- The words of a slot's object. -/
def wordsN (s : Slot) : Int := (s.len + 7).tdiv 8 + (if s.two = true then 0 else 2)
theorem twos_at {l : List Slot} {k : Nat} (hk : k < l.length) (h : isTwo (nth l k) = true) : ∃ i, i < (twosO l).length ∧ nth (twoIx l l.length) i = k := by
  have hm : k ∈ twoIx l l.length := by simp only [twoIx, List.mem_filter, List.mem_range]; exact ⟨hk, h⟩
  obtain ⟨i, hi, e⟩ := List.getElem_of_mem hm
  exact ⟨i, by simpa [twosO] using hi, by rw [nth_eq hi, e]⟩
theorem gapsOk_pair {to : Int} : ∀ {l : List (Int × Int)} {a : Int}, gapsOk to a l = true → l.Pairwise (fun p q => p.1 + p.2 ≤ q.1 ∨ q.1 + q.2 ≤ p.1) ∧ ∀ p ∈ l, a ≤ p.1 ∧ 0 ≤ p.2 ∧ p.1 + p.2 ≤ to
  | [], a, _ => ⟨.nil, by simp⟩
  | p :: l, a, h => by
    simp only [gapsOk, Bool.and_eq_true, gapBad, Bool.not_eq_true', decide_eq_false_iff_not] at h
    obtain ⟨h1, h2⟩ := gapsOk_pair h.2
    refine ⟨List.Pairwise.cons (fun q hq => .inl (h2 q hq).1) h1, fun q hq => ?_⟩
    rcases List.mem_cons.1 hq with rfl | hq
    · omega
    · have := h2 q hq; omega
theorem oneIx_sorted {l : List Slot} {n : Nat} : (oneIx l n).Pairwise (· < ·) := List.pairwise_lt_range.filter _
theorem ones_pair {s : Stt} (h : sttS s = true) : (onesR s.slots).Pairwise (fun b c => b.at_ + b.len ≤ c.at_ ∨ c.at_ + c.len ≤ b.at_) ∧ ∀ b ∈ onesR s.slots, s.base * 32 ≤ b.at_ ∧ 0 ≤ b.len ∧ b.at_ + b.len ≤ s.sh.pages * 32 := by
  have hg := sttS_gaps h
  simp only [gapsS, Bool.and_eq_true] at hg
  obtain ⟨h1, h2⟩ := gapsOk_pair hg.2
  have hperm := stS_perm (lt := ltB) (onesR s.slots)
  constructor
  · have h3 : (onesS s.slots).Pairwise (fun b c => b.at_ + b.len ≤ c.at_ ∨ c.at_ + c.len ≤ b.at_) := by
      rw [spansS, List.pairwise_map] at h1
      exact h1
    exact (hperm.pairwise_iff (fun h => h.symm)).1 h3
  · intro b hb
    exact h2 (spanOf b) (by rw [spansS]; exact List.mem_map_of_mem (hperm.mem_iff.2 hb))
theorem ones_apart {s : Stt} (h : sttS s = true) {i j : Nat} (hij : i < j) (hj : j < s.slots.length) (h1 : isOne (nth s.slots i) = true) (h2 : isOne (nth s.slots j) = true) :
    (nth s.slots i).at_ + (needS (nth s.slots i).len).1 ≤ (nth s.slots j).at_ ∨ (nth s.slots j).at_ + (needS (nth s.slots j).len).1 ≤ (nth s.slots i).at_ := by
  have hp := (ones_pair h).1
  rw [onesR, List.pairwise_map] at hp
  have hm : ∀ k, k < s.slots.length → isOne (nth s.slots k) = true → k ∈ oneIx s.slots s.slots.length := fun k hk h => by simp only [oneIx, List.mem_filter, List.mem_range]; exact ⟨hk, h⟩
  obtain ⟨a, ha, ea⟩ := List.getElem_of_mem (hm i (by omega) h1)
  obtain ⟨b, hb, eb⟩ := List.getElem_of_mem (hm j hj h2)
  have hab : a < b := by
    rcases Nat.lt_trichotomy a b with q | q | q
    · exact q
    · subst q; omega
    · have := (List.pairwise_iff_getElem.1 (oneIx_sorted (l := s.slots) (n := s.slots.length))) b a hb ha q
      omega
  have := (List.pairwise_iff_getElem.1 hp) a b ha hb hab
  rw [ea, eb] at this
  exact this
theorem needS_words {n : Int} (h : 1 ≤ n ∧ n ≤ 2048) : (n + 7).tdiv 8 + 2 ≤ (needS n).1 := by
  unfold needS; rw [if_neg (by omega)]
  simp only [upS]
  have e1 : (n + 7).tdiv 8 = (n + 7) / 8 := Int.tdiv_eq_ediv_of_nonneg (by omega)
  have e2 : (n + 8 - 1).tdiv 8 = (n + 8 - 1) / 8 := Int.tdiv_eq_ediv_of_nonneg (by omega)
  rw [e1, e2, Int.tdiv_eq_ediv_of_nonneg (a := 2 + (n + 8 - 1) / 8 + 4 - 1) (by omega)]
  omega
theorem needS_pos {n : Int} (h : 1 ≤ n ∧ n ≤ 2048) : 4 ≤ (needS n).1 := by
  have := needS_words h
  have h2 : 0 < (n + 7).tdiv 8 := by rw [Int.tdiv_eq_ediv_of_nonneg (by omega)]; omega
  have h3 : (needS n).1 = upS (2 + (n + 8 - 1).tdiv 8) := by unfold needS; rw [if_neg (by omega)]
  rw [h3] at this ⊢
  unfold upS at this ⊢
  omega
/-- Each live slot's words stand in the part of its format. -/
theorem apart_range {s : Stt} (h : sttS s = true) {i : Nat} (hi : i < s.slots.length) (hl : (nth s.slots i).live = true) : 1 ≤ wordsN (nth s.slots i) ∧ 0 ≤ (nth s.slots i).at_ ∧ (nth s.slots i).at_ + wordsN (nth s.slots i) ≤ 32 * s.sh.pages ∧
    ((nth s.slots i).two = true → (nth s.slots i).at_ + wordsN (nth s.slots i) ≤ 32 * s.base) ∧ ((nth s.slots i).two = false → 32 * s.base ≤ (nth s.slots i).at_) := by
  have hsl := slotS1_live (tableS_slot (sttS_rows h) i hi) hl
  have hsu := superS_b (sttS_super h)
  have hq : 0 < ((nth s.slots i).len + 7).tdiv 8 := by rw [Int.tdiv_eq_ediv_of_nonneg (by omega)]; omega
  unfold wordsN
  cases ht : (nth s.slots i).two with
  | true =>
    obtain ⟨a, ha, ea⟩ := twos_at hi (by simp [isTwo, hl, ht])
    have ho : nth (twosO s.slots) a = objAt s.slots i := by rw [twosO, nth_map (by simpa [twosO] using ha), ea]
    have hw := spot_range (spot_words (okI_spot (sttS_laid h a ha)))
    rw [ho] at hw
    simp only [objAt] at hw
    simp only [if_true]
    refine ⟨by omega, by omega, by omega, fun _ => by omega, fun e => (by cases e)⟩
  | false =>
    have hm : blkAt s.slots i ∈ onesR s.slots := by
      rw [onesR]; exact List.mem_map_of_mem (by simp only [oneIx, List.mem_filter, List.mem_range]; exact ⟨hi, by simp [isOne, hl, ht]⟩)
    have hb := (ones_pair h).2 _ hm
    simp only [blkAt] at hb
    have := needS_words (n := (nth s.slots i).len) (by omega)
    simp only [Bool.false_eq_true, if_false]
    refine ⟨by omega, by omega, by omega, fun e => e.elim, fun _ => by omega⟩
/-- No word is two objects'. -/
theorem apart_two {s : Stt} (h : sttS s = true) {i j : Nat} (hij : i < j) (hj : j < s.slots.length) (h1 : (nth s.slots i).live = true) (h2 : (nth s.slots j).live = true) :
    (nth s.slots i).at_ + wordsN (nth s.slots i) ≤ (nth s.slots j).at_ ∨ (nth s.slots j).at_ + wordsN (nth s.slots j) ≤ (nth s.slots i).at_ := by
  obtain ⟨a1, a2, a3, a4, a5⟩ := apart_range h (by omega) h1
  obtain ⟨b1, b2, b3, b4, b5⟩ := apart_range h hj h2
  cases t1 : (nth s.slots i).two with
  | false =>
    cases t2 : (nth s.slots j).two with
    | false =>
      have := ones_apart h hij hj (by simp [isOne, h1, t1]) (by simp [isOne, h2, t2])
      have s1 := slotS1_live (tableS_slot (sttS_rows h) i (by omega)) h1
      have s2 := slotS1_live (tableS_slot (sttS_rows h) j hj) h2
      have n1 := needS_words (n := (nth s.slots i).len) (by omega)
      have n2 := needS_words (n := (nth s.slots j).len) (by omega)
      simp only [wordsN, t1, t2, Bool.false_eq_true, if_false]
      omega
    | true => right; have := b4 t2; have := a5 t1; omega
  | true =>
    cases t2 : (nth s.slots j).two with
    | false => left; have := a4 t1; have := b5 t2; omega
    | true =>
      obtain ⟨a, ha, ea⟩ := twos_at (by omega) (show isTwo (nth s.slots i) = true by simp [isTwo, h1, t1])
      obtain ⟨b, hb, eb⟩ := twos_at hj (show isTwo (nth s.slots j) = true by simp [isTwo, h2, t2])
      have hoa : nth (twosO s.slots) a = objAt s.slots i := by rw [twosO, nth_map (by simpa [twosO] using ha), ea]
      have hob : nth (twosO s.slots) b = objAt s.slots j := by rw [twosO, nth_map (by simpa [twosO] using hb), eb]
      have hL := sttS_laid h
      have hsu := superS_b (sttS_super h)
      have wa := spot_words (okI_spot (hL a ha))
      have wb := spot_words (okI_spot (hL b hb))
      have hab : a ≠ b := by rintro rfl; omega
      have key : (nth (twosO s.slots) a).1 + ((nth (twosO s.slots) a).2 + 7).tdiv 8 ≤ (nth (twosO s.slots) b).1 ∨ (nth (twosO s.slots) b).1 + ((nth (twosO s.slots) b).2 + 7).tdiv 8 ≤ (nth (twosO s.slots) a).1 := by
        rcases Nat.lt_or_gt_of_ne hab with q | q
        · exact words_apart wa wb (laid_apart (by omega) (fun j hj => hL j (by omega)) q)
        · exact (words_apart wb wa (laid_apart (by omega) (fun j hj => hL j (by omega)) q)).symm
      rw [hoa, hob] at key
      simp only [objAt] at key
      simp only [wordsN, t1, t2, if_true]
      omega
end Go.Proofs

set_option linter.unusedSimpArgs false
set_option maxHeartbeats 1000000
namespace Go.Proofs
open Go.Awp
def zer2048 : List Value := List.replicate 2048 (.int .i64 0)
def cI (n : Int) : AV := .d (vI n)
def ow0 : List Int := List.replicate 2048 0
theorem ty58 : ty Try.prog 58 = some ⟨2048, 16384, .array 2048 3, zer2048⟩ := by kernel_rfl
theorem z58_all : zer2048.all Value.oneCell' = true := by kernel_rfl
theorem z58_map : zer2048.map (fun z => AV.d (D.v z)) = ow0.map cI := by kernel_rfl
theorem ow0_len : ow0.length = 2048 := by kernel_rfl
theorem ow0_nth {k : Nat} (h : k < 2048) : nth ow0 k = 0 := by
  have e : ow0 = List.replicate 2048 0 := rfl
  rw [e, nth_eq (by rw [List.length_replicate]; exact h), List.getElem_replicate]
@[simp] theorem lts_cI (m : Nat) (l : List Int) : AV.lts m (l.map cI) = true := by
  induction l with
  | nil => rfl
  | cons a l ih => simp [AV.lts, AV.lt, cI, ih]
@[simp] theorem lts_cI_set (m : Nat) (l : List Int) (p : Nat) (x : Int) : AV.lts m ((l.map cI).set p (cI x)) = true := by rw [← List.map_set]; exact lts_cI _ _
theorem splice_map0 {α β : Type} {l : List α} {f : α → β} {p : Nat} {y : α} (h : p < l.length) : Go.splice (l.map f) p [f y] = (l.set p y).map f := by
  simp only [Go.splice, List.length_singleton]
  rw [List.map_set, List.set_eq_take_append_cons_drop, if_pos (by simpa using h)]
  simp
/-- Is a word one of the first slots' objects'? -/
def Own (s : Stt) (i : Nat) (k : Nat) : Prop := ∃ j, j < i ∧ (nth s.slots j).live = true ∧ (nth s.slots j).at_ ≤ k ∧ (k : Int) < (nth s.slots j).at_ + wordsN (nth s.slots j)
theorem own_no {s : Stt} (h : sttS s = true) {i k : Nat} (hi : i < s.slots.length) (hl : (nth s.slots i).live = true) (h1 : (nth s.slots i).at_ ≤ k) (h2 : (k : Int) < (nth s.slots i).at_ + wordsN (nth s.slots i)) : ¬ Own s i k := by
  rintro ⟨j, hj, q1, q2, q3⟩
  have := apart_two h hj hi q1 hl
  omega
theorem own_up {s : Stt} {i k : Nat} (h : Own s i k) : Own s (i + 1) k := by
  obtain ⟨j, hj, h⟩ := h
  exact ⟨j, by omega, h⟩
end Go.Proofs

set_option linter.unusedSimpArgs false
set_option linter.unusedVariables false
set_option maxHeartbeats 4000000
set_option maxRecDepth 4000
namespace Go.Proofs
open Go.Awp
theorem ct8 (g : Gl) (s : Stt) : CtAt Try.prog g 8 [eStt s] (.v (.bool true)) := by
  refine ctAt_of_W Try.func8 rfl rfl (Nat.le_of_ble_eq_true rfl) fun B S => ?_
  simp only [eStt, List.map, argD_agg]
  refine W_seq ?_
  refine W_reg rfl ?_
  refine run_op rfl rfl rfl (by simp [boxA, AV.cells, AV.isCell, boxA, AV.cells, AV.isCell]; exact .mk) ?_
  refine run_op rfl rfl rfl (by simp [boxA, AV.cells, AV.isCell]; exact .mk) ?_
  refine run_end [1] (by simp) (by simp; exact .mk) ?_
  rintro -
  refine W_seq ?_
  refine W_reg rfl ?_
  refine run_call0 rfl rfl rfl rfl (by simp [boxA, AV.cells, AV.isCell, calleeA]; exact .mk) (by simp [boxA, AV.cells, AV.isCell, kindsOf, kinds, expAs, expA]; exact .mk) (ct27 g) (by simp [boxA, AV.cells, AV.isCell, D.noRo]) (by simp [boxA, AV.cells, AV.isCell, impA, impAs]; exact .mk) ?_
  refine run_op rfl rfl rfl (by simp [boxA, AV.cells, AV.isCell]; exact .mk) ?_
  refine run_end [1, 3] (by simp) (by simp; exact .mk) ?_
  rintro -
  refine W_seq ?_
  refine W_reg rfl ?_
  refine run_op rfl rfl rfl (by simp [boxA, AV.cells, AV.isCell, eSlot]; exact .mk) ?_
  refine run_call0 rfl rfl rfl rfl (by simp [boxA, AV.cells, AV.isCell, calleeA]; exact .mk) (by simp [boxA, AV.cells, AV.isCell, kindsOf, kinds, expAs, expA]; exact .mk) (ct28 g s) (by simp [boxA, AV.cells, AV.isCell, D.noRo]) (by simp [boxA, AV.cells, AV.isCell, impA, impAs]; exact .mk) ?_
  refine run_op rfl rfl rfl (by simp [boxA, AV.cells, AV.isCell]; exact .mk) ?_
  refine run_end [1, 3, 4] (by simp) (by simp; exact .mk) ?_
  rintro -
  refine W_seq ?_
  refine W_seq ?_
  refine W_reg rfl ?_
  refine run_op rfl rfl rfl (by simp [boxA, AV.cells, AV.isCell]; exact .mk) ?_
  refine run_op rfl rfl rfl (by simp [boxA, AV.cells, AV.isCell, unA]; exact .mk) ?_
  refine run_op rfl rfl rfl (by simp [boxA, AV.cells, AV.isCell]; exact .mk) ?_
  refine run_if rfl (by simp [boxA, AV.cells, AV.isCell]; exact .mk) rfl (by simp <;> first | omega | grind) (fun hb => by simp [boxA, AV.cells, AV.isCell, eSlot]; exact .mk) ?_
  refine run_call rfl (by simp [boxA, AV.cells, AV.isCell]; exact .mk) rfl rfl (by simp) (by simp [boxA, AV.cells, AV.isCell, calleeA]; exact .mk) (by simp [boxA, AV.cells, AV.isCell, kindsOf, kinds, expAs, expA]; exact .mk) (fun hb => ct29 g s (fewStt_ok (by simpa using hb))) (by simp [boxA, AV.cells, AV.isCell, D.noRo]) (by simp [boxA, AV.cells, AV.isCell, impA, impAs]; exact .mk) (by simp) ?_
  refine run_if rfl (by simp [boxA, AV.cells, AV.isCell]; exact .mk) rfl (by simp <;> first | omega | grind) (fun hb => by simp [boxA, AV.cells, AV.isCell, unA]; exact .mk) ?_
  refine run_pick rfl (by simp [boxA, AV.cells, AV.isCell]; exact .mk) rfl rfl (by simp) (by simp [boxA, AV.cells, AV.isCell]; exact .mk) (by simp [boxA, AV.cells, AV.isCell]; exact .mk) (by simp; exact .mk) ?_
  refine run_end [1, 3, 19] (by simp <;> first | omega | grind) (by simp; exact .mk) ?_
  rintro -
  refine W_cond rfl ?_ ?_
  · intro h19
    refine W_seq ?_
    refine W_reg rfl ?_
    iterate 2 (refine run_op rfl rfl rfl (by simp [boxA, AV.cells, AV.isCell]; exact .mk) ?_)
    refine run_end [2] (by simp) (by simp; exact .mk) ?_
    rintro -
    refine W_ret ?_
    refine end_ret (by simp [boxA, AV.cells, AV.isCell, Try.f8]; exact .mk) (by simp [boxA, AV.cells, AV.isCell, cl, cls]; exact .mk) ?_ (by simp [boxA, AV.cells, AV.isCell, D.noSn])
    simp [nrmR, nrmRs, nrmK, kindsOf, kinds, Try.f8]
  · intro h19
    have hF : fewStt s = true ∧ sttS s = true := by simpa using h19
    obtain ⟨hF, hR⟩ := hF
    have hl := fewStt_len hF
    have hsu := superS_b (sttS_super hR)
    have e1 : IntKind.i64.wrap (32 * s.sh.pages) = 32 * s.sh.pages := wrap64 (by omega) (by omega)
    have e2 : IntKind.i64.wrap (32 * s.base) = 32 * s.base := wrap64 (by omega) (by omega)
    refine W_skip ?_
    rintro -
    refine W_seq ?_
    refine W_reg rfl ?_
    refine run_op rfl rfl rfl (by simp [allocA, ty58, z58_all, z58_map]; exact .mk) ?_
    refine run_end [1, 3, 5] (by simp) (by simp; exact .mk) ?_
    rintro -
    refine W_seq ?_
    refine W_seq ?_
    refine W_reg rfl ?_
    refine run_op rfl rfl rfl (by simp [boxA, AV.cells, AV.isCell]; exact .mk) ?_
    refine run_end [1, 3, 5, 6] (by simp) (by simp; exact .mk) ?_
    rintro -
    refine W_block ?_
    refine W_rounds (fun m σ o => ∃ (i : Nat) (ow : List Int), m = s.slots.length - i ∧ i ≤ s.slots.length ∧ ow.length = 2048 ∧ (∀ k, k < 2048 → nth ow k ≠ 0 → Own s i k) ∧ σ = slots [(1, .ptr 0 0 0), (3, .d (vT true)), (5, .ptr 1 0 0), (6, .d (vI i))] ∧ o = [.var 56 [.d (vI s.sh.pages), .d (vI s.sh.slots), .d (vI s.sh.roots), .d (vI s.sh.room), .d (vI s.mode), .d (vI s.base), .d (rSl s.slots), .d (rR s.roots), .d (rBB s.data)], .var 58 (ow.map cI)]) s.slots.length .refl ⟨0, ow0, by simp, by simp, ow0_len, fun k hk h => absurd (ow0_nth hk) h, rfl, rfl⟩ ?_
    rintro m σ o ⟨i, ow, rfl, hi, hol, hinv, rfl, rfl⟩ _
    refine W_seq ?_
    refine W_seq ?_
    refine W_reg rfl ?_
    iterate 2 (refine run_op rfl rfl rfl (by simp [boxA, AV.cells, AV.isCell]; exact .mk) ?_)
    refine run_op rfl rfl rfl (by simp [boxA, AV.cells, AV.isCell, eSlot]; exact .mk) ?_
    refine run_op rfl rfl rfl (by simp [boxA, AV.cells, AV.isCell]; exact .mk) ?_
    refine run_op rfl rfl rfl (by simp [boxA, AV.cells, AV.isCell, eqA, eqFs, isStructTy, eqlNeq, strOp, isBoolTy, isPtrTy, isFnTy]; exact .mk) ?_
    refine run_end [1, 3, 5, 6, 25] (by simp) (by simp; exact .mk) ?_
    rintro -
    refine W_cond rfl ?_ ?_
    · intro h25
      have hi2 : i < s.slots.length := by simpa using h25
      refine W_skip ?_
      rintro -
      refine W_seq ?_
      refine W_block ?_
      refine W_seq ?_
      refine W_reg rfl ?_
      refine run_op rfl rfl rfl (by simp [boxA, AV.cells, AV.isCell]; exact .mk) ?_
      refine run_op rfl rfl rfl (by simp [boxA, AV.cells, AV.isCell, eSlot]; exact .mk) ?_
      refine run_op rfl rfl rfl (by simp [boxA, AV.cells, AV.isCell]; exact .mk) ?_
      refine run_op rfl rfl rfl (by simp [boxA, AV.cells, AV.isCell, eSlot, hi2]; exact .mk) ?_
      refine run_op rfl rfl rfl (by simp [boxA, AV.cells, AV.isCell, eSlot]; exact .mk) ?_
      refine run_op rfl rfl rfl (by simp [boxA, AV.cells, AV.isCell, allocA, Value.oneCell']; exact .mk) ?_
      refine run_op rfl rfl rfl (by simp [boxA, AV.cells, AV.isCell, storeA, AV.cells, AV.isCell, splice]; exact .mk) ?_
      refine run_end [1, 3, 5, 6, 7] (by simp) (by simp; exact .mk) ?_
      rintro -
      refine W_seq ?_
      refine W_seq ?_
      refine W_reg rfl ?_
      refine run_op rfl rfl rfl (by simp [boxA, AV.cells, AV.isCell]; exact .mk) ?_
      refine run_op rfl rfl rfl (by simp [boxA, AV.cells, AV.isCell, eSlot]; exact .mk) ?_
      refine run_op rfl rfl rfl (by simp [boxA, AV.cells, AV.isCell, unA]; exact .mk) ?_
      refine run_end [1, 3, 5, 6, 7, 35] (by simp) (by simp; exact .mk) ?_
      rintro -
      refine W_cond rfl ?_ ?_
      · intro h35
        have hinv2 : ∀ k, k < 2048 → nth ow k ≠ 0 → Own s (i + 1) k := fun k hk h => own_up (hinv k hk h)
        refine W_exit ?_
        rintro -
        refine W_reg rfl ?_
        refine run_op rfl rfl rfl (by simp [boxA, AV.cells, AV.isCell]; exact .mk) ?_
        refine run_op rfl rfl rfl (by simp [boxA, AV.cells, AV.isCell, eqA, eqFs, isStructTy, eqlNeq, strOp, isBoolTy, isPtrTy, isFnTy]; exact .mk) ?_
        refine run_op rfl rfl rfl (by simp [boxA, AV.cells, AV.isCell]; exact .mk) ?_
        refine run_end [1, 3, 5, 6] (by simp) (by simp; exact .mk) ?_
        refine rounds_drop 2 [1, 3, 5, 6] (by simp) (by simp [boxA, AV.cells, AV.isCell]) (by simp [boxA, AV.cells, AV.isCell]) ?_
        exact rounds_next (m' := s.slots.length - (i+1)) (by omega) ⟨i+1, ow, rfl, by omega, hol, hinv2, by rw [wrap64 (by omega) (by omega)]; rfl, rfl⟩
      · intro h35
        have hlv : (nth s.slots i).live = true := by simpa using h35
        have hrg := apart_range hR hi2 hlv
        have hsl := slotS1_live (tableS_slot (sttS_rows hR) i hi2) hlv
        obtain ⟨A, hA⟩ : ∃ A : Nat, (nth s.slots i).at_ = A := ⟨(nth s.slots i).at_.toNat, by omega⟩
        obtain ⟨N, hN⟩ : ∃ N : Nat, wordsN (nth s.slots i) = N := ⟨(wordsN (nth s.slots i)).toNat, by omega⟩
        have hq : 0 ≤ ((nth s.slots i).len + 7).tdiv 8 ∧ ((nth s.slots i).len + 7).tdiv 8 ≤ 300 := by rw [Int.tdiv_eq_ediv_of_nonneg (by omega)]; omega
        have w1 : IntKind.i64.wrap ((nth s.slots i).len + 7) = (nth s.slots i).len + 7 := wrap64 (by omega) (by omega)
        have w2 : IntKind.i64.wrap (((nth s.slots i).len + 7).tdiv 8) = ((nth s.slots i).len + 7).tdiv 8 := wrap64 (by omega) (by omega)
        have w3 : IntKind.i64.wrap (((nth s.slots i).len + 7).tdiv 8 + 2) = ((nth s.slots i).len + 7).tdiv 8 + 2 := wrap64 (by omega) (by omega)
        have w4 : IntKind.i64.wrap ((A : Int) + (N : Int)) = (A : Int) + (N : Int) := wrap64 (by omega) (by omega)
        rw [hA] at hrg ⊢
        rw [hN] at hrg
        refine W_skip ?_
        rintro -
        refine W_seq ?_
        refine W_reg rfl ?_
        refine run_op rfl rfl rfl (by simp [boxA, AV.cells, AV.isCell]; exact .mk) ?_
        refine run_op rfl rfl rfl (by simp [boxA, AV.cells, AV.isCell, eSlot]; exact .mk) ?_
        refine run_op rfl rfl rfl (by simp [boxA, AV.cells, AV.isCell, eqA, eqFs, isStructTy, eqlNeq, strOp, isBoolTy, isPtrTy, isFnTy, w1]; exact .mk) ?_
        refine run_op rfl rfl rfl (by simp [boxA, AV.cells, AV.isCell, eqA, eqFs, isStructTy, eqlNeq, strOp, isBoolTy, isPtrTy, isFnTy, w2]; exact .mk) ?_
        refine run_op rfl rfl rfl (by simp [boxA, AV.cells, AV.isCell]; exact .mk) ?_
        refine run_end [1, 3, 5, 6, 7, 8] (by simp) (by simp; exact .mk) ?_
        rintro -
        refine W_seq ?_
        refine W_seq ?_
        refine W_reg rfl ?_
        refine run_op rfl rfl rfl (by simp [boxA, AV.cells, AV.isCell]; exact .mk) ?_
        refine run_op rfl rfl rfl (by simp [boxA, AV.cells, AV.isCell, eSlot]; exact .mk) ?_
        refine run_op rfl rfl rfl (by simp [boxA, AV.cells, AV.isCell, unA]; exact .mk) ?_
        refine run_end [1, 3, 5, 6, 7, 8, 42] (by simp) (by simp; exact .mk) ?_
        rintro -
        refine W_cond rfl ?_ ?_
        · intro h42
          have htw : (nth s.slots i).two = false := by simpa using h42
          have hNe : ((nth s.slots i).len + 7).tdiv 8 + 2 = (N : Int) := by rw [← hN, wordsN, htw]; rfl
          refine W_reg rfl ?_
          refine run_op rfl rfl rfl (by simp [boxA, AV.cells, AV.isCell]; exact .mk) ?_
          refine run_op rfl rfl rfl (by simp [boxA, AV.cells, AV.isCell, eqA, eqFs, isStructTy, eqlNeq, strOp, isBoolTy, isPtrTy, isFnTy, w3]; exact .mk) ?_
          refine run_op rfl rfl rfl (by simp [boxA, AV.cells, AV.isCell]; exact .mk) ?_
          refine run_end [1, 3, 5, 6, 7, 8] (by simp) (by simp; exact .mk) ?_
          rw [hNe]
          rintro -
          refine W_seq ?_
          refine W_reg rfl ?_
          refine run_op rfl rfl rfl (by simp [boxA, AV.cells, AV.isCell]; exact .mk) ?_
          refine run_op rfl rfl rfl (by simp [boxA, AV.cells, AV.isCell, eSlot]; exact .mk) ?_
          refine run_op rfl rfl rfl (by simp [boxA, AV.cells, AV.isCell]; exact .mk) ?_
          refine run_end [1, 3, 5, 6, 7, 8, 9] (by simp) (by simp; exact .mk) ?_
          rintro -
          refine W_block ?_
          refine W_rounds (fun m σ o => ∃ (d : Nat) (ow : List Int), m = N - d ∧ d ≤ N ∧ ow.length = 2048 ∧ (∀ k, k < 2048 → nth ow k ≠ 0 → Own s i k ∨ (A ≤ k ∧ k < A + d)) ∧ σ = slots [(1, .ptr 0 0 0), (3, .d (vT true)), (5, .ptr 1 0 0), (6, .d (vI i)), (7, .ptr 2 0 0), (8, .d (vI N)), (9, .d (vI ((A : Int) + (d : Int))))] ∧ o = [.var 56 [.d (vI s.sh.pages), .d (vI s.sh.slots), .d (vI s.sh.roots), .d (vI s.sh.room), .d (vI s.mode), .d (vI s.base), .d (rSl s.slots), .d (rR s.roots), .d (rBB s.data)], .var 58 (ow.map cI), .var 60 [.d (vI (nth s.slots i).gen), .d (vT (nth s.slots i).live), .d (vT (nth s.slots i).two), .d (vI A), .d (vI (nth s.slots i).len)]]) N .refl ⟨0, ow, by simp, by simp, hol, fun k hk h => .inl (hinv k hk h), by simp, rfl⟩ ?_
          rintro m σ o ⟨d, ow, rfl, hd, hol, hinv, rfl, rfl⟩ _
          refine W_seq ?_
          refine W_seq ?_
          refine W_reg rfl ?_
          iterate 2 (refine run_op rfl rfl rfl (by simp [boxA, AV.cells, AV.isCell]; exact .mk) ?_)
          refine run_op rfl rfl rfl (by simp [boxA, AV.cells, AV.isCell, eSlot]; exact .mk) ?_
          refine run_op rfl rfl rfl (by simp [boxA, AV.cells, AV.isCell]; exact .mk) ?_
          refine run_op rfl rfl rfl (by simp [boxA, AV.cells, AV.isCell, eqA, eqFs, isStructTy, eqlNeq, strOp, isBoolTy, isPtrTy, isFnTy, w4]; exact .mk) ?_
          refine run_op rfl rfl rfl (by simp [boxA, AV.cells, AV.isCell, eqA, eqFs, isStructTy, eqlNeq, strOp, isBoolTy, isPtrTy, isFnTy]; exact .mk) ?_
          refine run_end [1, 3, 5, 6, 7, 8, 9, 52] (by simp) (by simp; exact .mk) ?_
          rintro -
          refine W_cond rfl ?_ ?_
          · intro h52
            have hd2 : d < N := by simp at h52; omega
            have r1 : A + d < ow.length := by omega
            have r2 : A + d < 2048 := by omega
            have q1 : 0 ≤ (A : Int) + (d : Int) ∧ (A : Int) + (d : Int) < 2048 := by omega
            have t1 : ((A : Int) + (d : Int)).toNat = A + d := by omega
            have d1 := drop_map_nth (f := cI) r1
            have hno : nth ow (A + d) = 0 := by
              by_cases h0 : nth ow (A + d) = 0
              · exact h0
              · rcases hinv (A + d) r2 h0 with h | h
                · exact absurd h (own_no hR hi2 hlv (by rw [hA]; omega) (by rw [hA, hN]; omega))
                · omega
            have e3 : IntKind.i64.wrap ((i : Int) + 1) = (i : Int) + 1 := wrap64 (by omega) (by omega)
            have e4 : IntKind.i64.wrap ((A : Int) + (d : Int) + 1) = (A : Int) + (d : Int) + 1 := wrap64 (by omega) (by omega)
            have d2 : ∀ (x : Int), Go.splice (ow.map cI) (A + d) [AV.d (vI x)] = (ow.set (A + d) x).map cI := fun x => splice_map0 (f := cI) r1
            refine W_skip ?_
            rintro -
            refine W_seq ?_
            refine W_block ?_
            refine W_seq ?_
            refine W_seq ?_
            refine W_reg rfl ?_
            refine run_op rfl rfl rfl (by simp [boxA, AV.cells, AV.isCell]; exact .mk) ?_
            refine run_op rfl rfl rfl (by simp [boxA, AV.cells, AV.isCell, eqA, eqFs, isStructTy, eqlNeq, strOp, isBoolTy, isPtrTy, isFnTy]; exact .mk) ?_
            refine run_op rfl rfl rfl (by simp [boxA, AV.cells, AV.isCell]; exact .mk) ?_
            refine run_if rfl (by simp [boxA, AV.cells, AV.isCell]; exact .mk) rfl (by simp <;> first | omega | grind) (fun hb => by simp [boxA, AV.cells, AV.isCell]; exact .mk) ?_
            refine run_if rfl (by simp [boxA, AV.cells, AV.isCell]; exact .mk) rfl (by simp <;> first | omega | grind) (fun hb => by simp [boxA, AV.cells, AV.isCell, eqA, eqFs, isStructTy, eqlNeq, strOp, isBoolTy, isPtrTy, isFnTy]; exact .mk) ?_
            refine run_pick rfl (by simp [boxA, AV.cells, AV.isCell]; exact .mk) rfl rfl (by simp) (by simp [boxA, AV.cells, AV.isCell]; exact .mk) (by simp [boxA, AV.cells, AV.isCell]; exact .mk) (by simp; exact .mk) ?_
            refine run_op1 rfl rfl rfl (by simp <;> first | omega | grind) (by simp [boxA, AV.cells, AV.isCell]; exact .mk) ?_
            refine run_if rfl (by simp [boxA, AV.cells, AV.isCell]; exact .mk) rfl (by simp <;> first | omega | grind) (fun hb => by simp [boxA, AV.cells, AV.isCell]; exact .mk) ?_
            refine run_if rfl (by simp [boxA, AV.cells, AV.isCell]; exact .mk) rfl (by simp <;> first | omega | grind) (fun hb => by simp [boxA, AV.cells, AV.isCell]; exact .mk) ?_
            refine run_if rfl (by simp [boxA, AV.cells, AV.isCell]; exact .mk) rfl (by simp <;> first | omega | grind) (fun hb => by simp [boxA, AV.cells, AV.isCell]; exact .mk) ?_
            refine run_if rfl (by simp [boxA, AV.cells, AV.isCell]; exact .mk) rfl (by simp <;> first | omega | grind) (fun hb => by simp [boxA, AV.cells, AV.isCell, eSlot]; exact .mk) ?_
            refine run_if rfl (by simp [boxA, AV.cells, AV.isCell]; exact .mk) rfl (by simp <;> first | omega | grind) (fun hb => by simp [boxA, AV.cells, AV.isCell, eqA, eqFs, isStructTy, eqlNeq, strOp, isBoolTy, isPtrTy, isFnTy, e1]; exact .mk) ?_
            refine run_if rfl (by simp [boxA, AV.cells, AV.isCell]; exact .mk) rfl (by simp <;> first | omega | grind) (fun hb => by simp [boxA, AV.cells, AV.isCell, eqA, eqFs, isStructTy, eqlNeq, strOp, isBoolTy, isPtrTy, isFnTy]; exact .mk) ?_
            refine run_pick rfl (by simp [boxA, AV.cells, AV.isCell]; exact .mk) rfl rfl (by simp) (by simp [boxA, AV.cells, AV.isCell]; exact .mk) (by simp [boxA, AV.cells, AV.isCell]; exact .mk) (by simp; exact .mk) ?_
            refine run_op1 rfl rfl rfl (by simp <;> first | omega | grind) (by simp [boxA, AV.cells, AV.isCell]; exact .mk) ?_
            refine run_if rfl (by simp [boxA, AV.cells, AV.isCell]; exact .mk) rfl (by simp <;> first | omega | grind) (fun hb => by simp [boxA, AV.cells, AV.isCell]; exact .mk) ?_
            refine run_if rfl (by simp [boxA, AV.cells, AV.isCell]; exact .mk) rfl (by simp <;> first | omega | grind) (fun hb => by simp [boxA, AV.cells, AV.isCell, eSlot]; exact .mk) ?_
            refine run_if rfl (by simp [boxA, AV.cells, AV.isCell]; exact .mk) rfl (by simp <;> first | omega | grind) (fun hb => by simp [boxA, AV.cells, AV.isCell]; exact .mk) ?_
            refine run_if rfl (by simp [boxA, AV.cells, AV.isCell]; exact .mk) rfl (by simp <;> first | omega | grind) (fun hb => by simp [boxA, AV.cells, AV.isCell]; exact .mk) ?_
            refine run_if rfl (by simp [boxA, AV.cells, AV.isCell]; exact .mk) rfl (by simp <;> first | omega | grind) (fun hb => by simp [boxA, AV.cells, AV.isCell, eSlot]; exact .mk) ?_
            refine run_if rfl (by simp [boxA, AV.cells, AV.isCell]; exact .mk) rfl (by simp <;> first | omega | grind) (fun hb => by simp [boxA, AV.cells, AV.isCell, eqA, eqFs, isStructTy, eqlNeq, strOp, isBoolTy, isPtrTy, isFnTy, e2]; exact .mk) ?_
            refine run_if rfl (by simp [boxA, AV.cells, AV.isCell]; exact .mk) rfl (by simp <;> first | omega | grind) (fun hb => by simp [boxA, AV.cells, AV.isCell, eqA, eqFs, isStructTy, eqlNeq, strOp, isBoolTy, isPtrTy, isFnTy]; exact .mk) ?_
            refine run_if rfl (by simp [boxA, AV.cells, AV.isCell]; exact .mk) rfl (by simp <;> first | omega | grind) (fun hb => by simp [boxA, AV.cells, AV.isCell, eqA, eqFs, isStructTy, eqlNeq, strOp, isBoolTy, isPtrTy, isFnTy]; exact .mk) ?_
            refine run_pick rfl (by simp [boxA, AV.cells, AV.isCell]; exact .mk) rfl rfl (by simp) (by simp [boxA, AV.cells, AV.isCell]; exact .mk) (by simp [boxA, AV.cells, AV.isCell]; exact .mk) (by simp; exact .mk) ?_
            refine run_op1 rfl rfl rfl (by simp <;> first | omega | grind) (by simp [boxA, AV.cells, AV.isCell]; exact .mk) ?_
            refine run_if rfl (by simp [boxA, AV.cells, AV.isCell]; exact .mk) rfl (by simp <;> first | omega | grind) (fun hb => by simp [boxA, AV.cells, AV.isCell]; exact .mk) ?_
            refine run_if rfl (by simp [boxA, AV.cells, AV.isCell]; exact .mk) rfl (by simp <;> first | omega | grind) (fun hb => by simp [boxA, AV.cells, AV.isCell, eSlot, indexAddrA, ty58, q1, t1]; exact .mk) ?_
            refine run_if rfl (by simp [boxA, AV.cells, AV.isCell]; exact .mk) rfl (by simp <;> first | omega | grind) (fun hb => by simp [boxA, AV.cells, AV.isCell, eSlot, d1, cI, hno]; exact .mk) ?_
            refine run_if rfl (by simp [boxA, AV.cells, AV.isCell]; exact .mk) rfl (by simp <;> first | omega | grind) (fun hb => by simp [boxA, AV.cells, AV.isCell, eqA, eqFs, isStructTy, eqlNeq, strOp, isBoolTy, isPtrTy, isFnTy]; exact .mk) ?_
            refine run_pick rfl (by simp [boxA, AV.cells, AV.isCell]; exact .mk) rfl rfl (by simp) (by simp [boxA, AV.cells, AV.isCell]; exact .mk) (by simp [boxA, AV.cells, AV.isCell]; exact .mk) (by simp; exact .mk) ?_
            refine run_end [1, 3, 5, 6, 7, 8, 9, 84] (by simp <;> first | omega | grind) (by simp; exact .mk) ?_
            rintro -
            refine W_cond rfl ?_ ?_
            · intro h84
              simp [htw] at h84
              simp [htw] at hrg
              omega
            · intro h84
              refine W_skip ?_
              rintro -
              refine W_reg rfl ?_
              iterate 2 (refine run_op rfl rfl rfl (by simp [boxA, AV.cells, AV.isCell]; exact .mk) ?_)
              refine run_op rfl rfl rfl (by simp [boxA, AV.cells, AV.isCell, eqA, eqFs, isStructTy, eqlNeq, strOp, isBoolTy, isPtrTy, isFnTy, e3]; exact .mk) ?_
              refine run_op rfl rfl rfl (by simp [boxA, AV.cells, AV.isCell, eSlot, indexAddrA, ty58, q1, t1]; exact .mk) ?_
              refine run_op rfl rfl rfl (by simp [storeA, AV.cells, AV.isCell, d2, r1, show A + d + 1 ≤ ow.length from r1]; exact .mk) ?_
              refine run_end [1, 3, 5, 6, 7, 8, 9] (by simp) (by simp; exact .mk) ?_
              rintro -
              refine W_reg rfl ?_
              refine run_op rfl rfl rfl (by simp [boxA, AV.cells, AV.isCell]; exact .mk) ?_
              refine run_op rfl rfl rfl (by simp [boxA, AV.cells, AV.isCell, eqA, eqFs, isStructTy, eqlNeq, strOp, isBoolTy, isPtrTy, isFnTy, e4]; exact .mk) ?_
              refine run_op rfl rfl rfl (by simp [boxA, AV.cells, AV.isCell]; exact .mk) ?_
              refine run_end [1, 3, 5, 6, 7, 8, 9] (by simp) (by simp; exact .mk) ?_
              refine rounds_kill [1, 3, 5, 6, 7, 8, 9] ?_
              refine rounds_next (m' := N - (d + 1)) (by omega) ⟨d + 1, ow.set (A + d) (i + 1), rfl, by omega, by simpa using hol, ?_, by rw [show ((d + 1 : Nat) : Int) = (d : Int) + 1 by omega, ← Int.add_assoc]; rfl, by rw [List.map_set]⟩
              intro k hk h
              rw [nth_set2 r1] at h
              split at h
              · rename_i e; right; omega
              · rcases hinv k hk h with h | h
                · exact .inl h
                · right; omega
          · intro h52
            obtain rfl : d = N := by simp at h52; omega
            have hinv2 : ∀ k, k < 2048 → nth ow k ≠ 0 → Own s (i + 1) k := fun k hk h => by
              rcases hinv k hk h with h | h
              · exact own_up h
              · exact ⟨i, by omega, hlv, by rw [hA]; omega, by rw [hA, hN]; omega⟩
            refine W_exit ?_
            rintro -
            refine W_reg rfl ?_
            refine run_op rfl rfl rfl (by simp [boxA, AV.cells, AV.isCell]; exact .mk) ?_
            refine run_op rfl rfl rfl (by simp [boxA, AV.cells, AV.isCell, eqA, eqFs, isStructTy, eqlNeq, strOp, isBoolTy, isPtrTy, isFnTy]; exact .mk) ?_
            refine run_op rfl rfl rfl (by simp [boxA, AV.cells, AV.isCell]; exact .mk) ?_
            refine run_end [1, 3, 5, 6] (by simp) (by simp; exact .mk) ?_
            refine rounds_drop 2 [1, 3, 5, 6] (by simp) (by simp [boxA, AV.cells, AV.isCell]) (by simp [boxA, AV.cells, AV.isCell]) ?_
            exact rounds_next (m' := s.slots.length - (i+1)) (by omega) ⟨i+1, ow, rfl, by omega, hol, hinv2, by rw [wrap64 (by omega) (by omega)]; rfl, rfl⟩
        · intro h42
          have htw : (nth s.slots i).two = true := by simpa using h42
          have hNe : ((nth s.slots i).len + 7).tdiv 8 = (N : Int) := by rw [← hN, wordsN, htw, if_pos rfl, Int.add_zero]
          rw [hNe]
          refine W_skip ?_
          rintro -
          refine W_seq ?_
          refine W_reg rfl ?_
          refine run_op rfl rfl rfl (by simp [boxA, AV.cells, AV.isCell]; exact .mk) ?_
          refine run_op rfl rfl rfl (by simp [boxA, AV.cells, AV.isCell, eSlot]; exact .mk) ?_
          refine run_op rfl rfl rfl (by simp [boxA, AV.cells, AV.isCell]; exact .mk) ?_
          refine run_end [1, 3, 5, 6, 7, 8, 9] (by simp) (by simp; exact .mk) ?_
          rintro -
          refine W_block ?_
          refine W_rounds (fun m σ o => ∃ (d : Nat) (ow : List Int), m = N - d ∧ d ≤ N ∧ ow.length = 2048 ∧ (∀ k, k < 2048 → nth ow k ≠ 0 → Own s i k ∨ (A ≤ k ∧ k < A + d)) ∧ σ = slots [(1, .ptr 0 0 0), (3, .d (vT true)), (5, .ptr 1 0 0), (6, .d (vI i)), (7, .ptr 2 0 0), (8, .d (vI N)), (9, .d (vI ((A : Int) + (d : Int))))] ∧ o = [.var 56 [.d (vI s.sh.pages), .d (vI s.sh.slots), .d (vI s.sh.roots), .d (vI s.sh.room), .d (vI s.mode), .d (vI s.base), .d (rSl s.slots), .d (rR s.roots), .d (rBB s.data)], .var 58 (ow.map cI), .var 60 [.d (vI (nth s.slots i).gen), .d (vT (nth s.slots i).live), .d (vT (nth s.slots i).two), .d (vI A), .d (vI (nth s.slots i).len)]]) N .refl ⟨0, ow, by simp, by simp, hol, fun k hk h => .inl (hinv k hk h), by simp, rfl⟩ ?_
          rintro m σ o ⟨d, ow, rfl, hd, hol, hinv, rfl, rfl⟩ _
          refine W_seq ?_
          refine W_seq ?_
          refine W_reg rfl ?_
          iterate 2 (refine run_op rfl rfl rfl (by simp [boxA, AV.cells, AV.isCell]; exact .mk) ?_)
          refine run_op rfl rfl rfl (by simp [boxA, AV.cells, AV.isCell, eSlot]; exact .mk) ?_
          refine run_op rfl rfl rfl (by simp [boxA, AV.cells, AV.isCell]; exact .mk) ?_
          refine run_op rfl rfl rfl (by simp [boxA, AV.cells, AV.isCell, eqA, eqFs, isStructTy, eqlNeq, strOp, isBoolTy, isPtrTy, isFnTy, w4]; exact .mk) ?_
          refine run_op rfl rfl rfl (by simp [boxA, AV.cells, AV.isCell, eqA, eqFs, isStructTy, eqlNeq, strOp, isBoolTy, isPtrTy, isFnTy]; exact .mk) ?_
          refine run_end [1, 3, 5, 6, 7, 8, 9, 52] (by simp) (by simp; exact .mk) ?_
          rintro -
          refine W_cond rfl ?_ ?_
          · intro h52
            have hd2 : d < N := by simp at h52; omega
            have r1 : A + d < ow.length := by omega
            have r2 : A + d < 2048 := by omega
            have q1 : 0 ≤ (A : Int) + (d : Int) ∧ (A : Int) + (d : Int) < 2048 := by omega
            have t1 : ((A : Int) + (d : Int)).toNat = A + d := by omega
            have d1 := drop_map_nth (f := cI) r1
            have hno : nth ow (A + d) = 0 := by
              by_cases h0 : nth ow (A + d) = 0
              · exact h0
              · rcases hinv (A + d) r2 h0 with h | h
                · exact absurd h (own_no hR hi2 hlv (by rw [hA]; omega) (by rw [hA, hN]; omega))
                · omega
            have e3 : IntKind.i64.wrap ((i : Int) + 1) = (i : Int) + 1 := wrap64 (by omega) (by omega)
            have e4 : IntKind.i64.wrap ((A : Int) + (d : Int) + 1) = (A : Int) + (d : Int) + 1 := wrap64 (by omega) (by omega)
            have d2 : ∀ (x : Int), Go.splice (ow.map cI) (A + d) [AV.d (vI x)] = (ow.set (A + d) x).map cI := fun x => splice_map0 (f := cI) r1
            refine W_skip ?_
            rintro -
            refine W_seq ?_
            refine W_block ?_
            refine W_seq ?_
            refine W_seq ?_
            refine W_reg rfl ?_
            refine run_op rfl rfl rfl (by simp [boxA, AV.cells, AV.isCell]; exact .mk) ?_
            refine run_op rfl rfl rfl (by simp [boxA, AV.cells, AV.isCell, eqA, eqFs, isStructTy, eqlNeq, strOp, isBoolTy, isPtrTy, isFnTy]; exact .mk) ?_
            refine run_op rfl rfl rfl (by simp [boxA, AV.cells, AV.isCell]; exact .mk) ?_
            refine run_if rfl (by simp [boxA, AV.cells, AV.isCell]; exact .mk) rfl (by simp <;> first | omega | grind) (fun hb => by simp [boxA, AV.cells, AV.isCell]; exact .mk) ?_
            refine run_if rfl (by simp [boxA, AV.cells, AV.isCell]; exact .mk) rfl (by simp <;> first | omega | grind) (fun hb => by simp [boxA, AV.cells, AV.isCell, eqA, eqFs, isStructTy, eqlNeq, strOp, isBoolTy, isPtrTy, isFnTy]; exact .mk) ?_
            refine run_pick rfl (by simp [boxA, AV.cells, AV.isCell]; exact .mk) rfl rfl (by simp) (by simp [boxA, AV.cells, AV.isCell]; exact .mk) (by simp [boxA, AV.cells, AV.isCell]; exact .mk) (by simp; exact .mk) ?_
            refine run_op1 rfl rfl rfl (by simp <;> first | omega | grind) (by simp [boxA, AV.cells, AV.isCell]; exact .mk) ?_
            refine run_if rfl (by simp [boxA, AV.cells, AV.isCell]; exact .mk) rfl (by simp <;> first | omega | grind) (fun hb => by simp [boxA, AV.cells, AV.isCell]; exact .mk) ?_
            refine run_if rfl (by simp [boxA, AV.cells, AV.isCell]; exact .mk) rfl (by simp <;> first | omega | grind) (fun hb => by simp [boxA, AV.cells, AV.isCell]; exact .mk) ?_
            refine run_if rfl (by simp [boxA, AV.cells, AV.isCell]; exact .mk) rfl (by simp <;> first | omega | grind) (fun hb => by simp [boxA, AV.cells, AV.isCell]; exact .mk) ?_
            refine run_if rfl (by simp [boxA, AV.cells, AV.isCell]; exact .mk) rfl (by simp <;> first | omega | grind) (fun hb => by simp [boxA, AV.cells, AV.isCell, eSlot]; exact .mk) ?_
            refine run_if rfl (by simp [boxA, AV.cells, AV.isCell]; exact .mk) rfl (by simp <;> first | omega | grind) (fun hb => by simp [boxA, AV.cells, AV.isCell, eqA, eqFs, isStructTy, eqlNeq, strOp, isBoolTy, isPtrTy, isFnTy, e1]; exact .mk) ?_
            refine run_if rfl (by simp [boxA, AV.cells, AV.isCell]; exact .mk) rfl (by simp <;> first | omega | grind) (fun hb => by simp [boxA, AV.cells, AV.isCell, eqA, eqFs, isStructTy, eqlNeq, strOp, isBoolTy, isPtrTy, isFnTy]; exact .mk) ?_
            refine run_pick rfl (by simp [boxA, AV.cells, AV.isCell]; exact .mk) rfl rfl (by simp) (by simp [boxA, AV.cells, AV.isCell]; exact .mk) (by simp [boxA, AV.cells, AV.isCell]; exact .mk) (by simp; exact .mk) ?_
            refine run_op1 rfl rfl rfl (by simp <;> first | omega | grind) (by simp [boxA, AV.cells, AV.isCell]; exact .mk) ?_
            refine run_if rfl (by simp [boxA, AV.cells, AV.isCell]; exact .mk) rfl (by simp <;> first | omega | grind) (fun hb => by simp [boxA, AV.cells, AV.isCell]; exact .mk) ?_
            refine run_if rfl (by simp [boxA, AV.cells, AV.isCell]; exact .mk) rfl (by simp <;> first | omega | grind) (fun hb => by simp [boxA, AV.cells, AV.isCell, eSlot]; exact .mk) ?_
            refine run_if rfl (by simp [boxA, AV.cells, AV.isCell]; exact .mk) rfl (by simp <;> first | omega | grind) (fun hb => by simp [boxA, AV.cells, AV.isCell]; exact .mk) ?_
            refine run_if rfl (by simp [boxA, AV.cells, AV.isCell]; exact .mk) rfl (by simp <;> first | omega | grind) (fun hb => by simp [boxA, AV.cells, AV.isCell]; exact .mk) ?_
            refine run_if rfl (by simp [boxA, AV.cells, AV.isCell]; exact .mk) rfl (by simp <;> first | omega | grind) (fun hb => by simp [boxA, AV.cells, AV.isCell, eSlot]; exact .mk) ?_
            refine run_if rfl (by simp [boxA, AV.cells, AV.isCell]; exact .mk) rfl (by simp <;> first | omega | grind) (fun hb => by simp [boxA, AV.cells, AV.isCell, eqA, eqFs, isStructTy, eqlNeq, strOp, isBoolTy, isPtrTy, isFnTy, e2]; exact .mk) ?_
            refine run_if rfl (by simp [boxA, AV.cells, AV.isCell]; exact .mk) rfl (by simp <;> first | omega | grind) (fun hb => by simp [boxA, AV.cells, AV.isCell, eqA, eqFs, isStructTy, eqlNeq, strOp, isBoolTy, isPtrTy, isFnTy]; exact .mk) ?_
            refine run_if rfl (by simp [boxA, AV.cells, AV.isCell]; exact .mk) rfl (by simp <;> first | omega | grind) (fun hb => by simp [boxA, AV.cells, AV.isCell, eqA, eqFs, isStructTy, eqlNeq, strOp, isBoolTy, isPtrTy, isFnTy]; exact .mk) ?_
            refine run_pick rfl (by simp [boxA, AV.cells, AV.isCell]; exact .mk) rfl rfl (by simp) (by simp [boxA, AV.cells, AV.isCell]; exact .mk) (by simp [boxA, AV.cells, AV.isCell]; exact .mk) (by simp; exact .mk) ?_
            refine run_op1 rfl rfl rfl (by simp <;> first | omega | grind) (by simp [boxA, AV.cells, AV.isCell]; exact .mk) ?_
            refine run_if rfl (by simp [boxA, AV.cells, AV.isCell]; exact .mk) rfl (by simp <;> first | omega | grind) (fun hb => by simp [boxA, AV.cells, AV.isCell]; exact .mk) ?_
            refine run_if rfl (by simp [boxA, AV.cells, AV.isCell]; exact .mk) rfl (by simp <;> first | omega | grind) (fun hb => by simp [boxA, AV.cells, AV.isCell, eSlot, indexAddrA, ty58, q1, t1]; exact .mk) ?_
            refine run_if rfl (by simp [boxA, AV.cells, AV.isCell]; exact .mk) rfl (by simp <;> first | omega | grind) (fun hb => by simp [boxA, AV.cells, AV.isCell, eSlot, d1, cI, hno]; exact .mk) ?_
            refine run_if rfl (by simp [boxA, AV.cells, AV.isCell]; exact .mk) rfl (by simp <;> first | omega | grind) (fun hb => by simp [boxA, AV.cells, AV.isCell, eqA, eqFs, isStructTy, eqlNeq, strOp, isBoolTy, isPtrTy, isFnTy]; exact .mk) ?_
            refine run_pick rfl (by simp [boxA, AV.cells, AV.isCell]; exact .mk) rfl rfl (by simp) (by simp [boxA, AV.cells, AV.isCell]; exact .mk) (by simp [boxA, AV.cells, AV.isCell]; exact .mk) (by simp; exact .mk) ?_
            refine run_end [1, 3, 5, 6, 7, 8, 9, 84] (by simp <;> first | omega | grind) (by simp; exact .mk) ?_
            rintro -
            refine W_cond rfl ?_ ?_
            · intro h84
              simp [htw] at h84
              simp [htw] at hrg
              omega
            · intro h84
              refine W_skip ?_
              rintro -
              refine W_reg rfl ?_
              iterate 2 (refine run_op rfl rfl rfl (by simp [boxA, AV.cells, AV.isCell]; exact .mk) ?_)
              refine run_op rfl rfl rfl (by simp [boxA, AV.cells, AV.isCell, eqA, eqFs, isStructTy, eqlNeq, strOp, isBoolTy, isPtrTy, isFnTy, e3]; exact .mk) ?_
              refine run_op rfl rfl rfl (by simp [boxA, AV.cells, AV.isCell, eSlot, indexAddrA, ty58, q1, t1]; exact .mk) ?_
              refine run_op rfl rfl rfl (by simp [storeA, AV.cells, AV.isCell, d2, r1, show A + d + 1 ≤ ow.length from r1]; exact .mk) ?_
              refine run_end [1, 3, 5, 6, 7, 8, 9] (by simp) (by simp; exact .mk) ?_
              rintro -
              refine W_reg rfl ?_
              refine run_op rfl rfl rfl (by simp [boxA, AV.cells, AV.isCell]; exact .mk) ?_
              refine run_op rfl rfl rfl (by simp [boxA, AV.cells, AV.isCell, eqA, eqFs, isStructTy, eqlNeq, strOp, isBoolTy, isPtrTy, isFnTy, e4]; exact .mk) ?_
              refine run_op rfl rfl rfl (by simp [boxA, AV.cells, AV.isCell]; exact .mk) ?_
              refine run_end [1, 3, 5, 6, 7, 8, 9] (by simp) (by simp; exact .mk) ?_
              refine rounds_kill [1, 3, 5, 6, 7, 8, 9] ?_
              refine rounds_next (m' := N - (d + 1)) (by omega) ⟨d + 1, ow.set (A + d) (i + 1), rfl, by omega, by simpa using hol, ?_, by rw [show ((d + 1 : Nat) : Int) = (d : Int) + 1 by omega, ← Int.add_assoc]; rfl, by rw [List.map_set]⟩
              intro k hk h
              rw [nth_set2 r1] at h
              split at h
              · rename_i e; right; omega
              · rcases hinv k hk h with h | h
                · exact .inl h
                · right; omega
          · intro h52
            obtain rfl : d = N := by simp at h52; omega
            have hinv2 : ∀ k, k < 2048 → nth ow k ≠ 0 → Own s (i + 1) k := fun k hk h => by
              rcases hinv k hk h with h | h
              · exact own_up h
              · exact ⟨i, by omega, hlv, by rw [hA]; omega, by rw [hA, hN]; omega⟩
            refine W_exit ?_
            rintro -
            refine W_reg rfl ?_
            refine run_op rfl rfl rfl (by simp [boxA, AV.cells, AV.isCell]; exact .mk) ?_
            refine run_op rfl rfl rfl (by simp [boxA, AV.cells, AV.isCell, eqA, eqFs, isStructTy, eqlNeq, strOp, isBoolTy, isPtrTy, isFnTy]; exact .mk) ?_
            refine run_op rfl rfl rfl (by simp [boxA, AV.cells, AV.isCell]; exact .mk) ?_
            refine run_end [1, 3, 5, 6] (by simp) (by simp; exact .mk) ?_
            refine rounds_drop 2 [1, 3, 5, 6] (by simp) (by simp [boxA, AV.cells, AV.isCell]) (by simp [boxA, AV.cells, AV.isCell]) ?_
            exact rounds_next (m' := s.slots.length - (i+1)) (by omega) ⟨i+1, ow, rfl, by omega, hol, hinv2, by rw [wrap64 (by omega) (by omega)]; rfl, rfl⟩
    · intro h25
      refine W_exit ?_
      rintro -
      refine W_seq ?_
      refine W_reg rfl ?_
      iterate 2 (refine run_op rfl rfl rfl (by simp [boxA, AV.cells, AV.isCell]; exact .mk) ?_)
      refine run_end [2] (by simp) (by simp; exact .mk) ?_
      rintro -
      refine W_ret ?_
      refine end_ret (by simp [boxA, AV.cells, AV.isCell, Try.f8]; exact .mk) (by simp [boxA, AV.cells, AV.isCell, cl, cls]; exact .mk) ?_ (by simp [boxA, AV.cells, AV.isCell, D.noSn])
      simp [nrmR, nrmRs, nrmK, kindsOf, kinds, Try.f8]

end Go.Proofs
