/- Contracts of the program's functions and plain facts, for arguments as each lemma says. -/
import Derived.Test.YtokgokbgidgfeaaGreatAwpD
import Derived.Test.YtokgokbgidgfeaaGreatCC
import Derived.Test.YtokgokbgidgfeaaGreatAwpC
import Derived.Test.YtokgokbgidgfeaaGreatCA
set_option linter.all false
set_option maxHeartbeats 4000000
namespace Go.Proofs
open Go.Awp
def covers (a : Spot) (x : Nat) : Prop := a.page ≤ (x : Int) ∧ (x : Int) < a.page + a.count
abbrev spotI (pages : Int) (l : List (Int × Int)) (i : Nat) : Spot := (spotS pages (nth l i)).1
structure Free (pages : Int) (l : List (Int × Int)) (i : Nat) : Prop where
 k : ∀ x : Nat, (x : Int) < pages → (∀ j, j < i → ¬ covers (spotI pages l j) x) → nth (stI pages l i).1 x = -1
 b : ∀ x c : Nat, x < 64 → (nth (stI pages l i).2 x).testBit c = true → ∃ j, j < i ∧ (spotI pages l j).small = true ∧ (spotI pages l j).page = x ∧ (spotI pages l j).cell = c
theorem fillF_ok {p : Nat} : ∀ {f j : Nat} {l : List Int}, (∀ t, j ≤ t → t < j + f → nth l (p + t) = -1) → p + j + f ≤ l.length → (fillF p f j l).1 = true
 | 0, j, l, _, _ => rfl
 | f + 1, j, l, h, hl => by
  rw [fillF_t (h j (by omega) (by omega))]
  exact fillF_ok (fun t h1 h2 => by rw [nth_set2 (by omega), if_neg (by omega)]; exact h t (by omega) (by omega)) (by simp; omega)
theorem bit_and {m c : Nat} (h : m.testBit c = false) : m &&& 2 ^ c = 0 := by
 apply Nat.eq_of_testBit_eq
 intro i
 rw [Nat.testBit_and, Nat.testBit_two_pow, Nat.zero_testBit]
 by_cases e : c = i
 · subst e; simp [h]
 · simp [e]
theorem lay_all {pages : Int} {l : List (Int × Int)} (h0 : 0 ≤ pages) (hp : pages ≤ 64) (hs : ∀ i, i < l.length → (spotS pages (nth l i)).2 = true)
    (ha : ∀ i j, i < j → j < l.length → apartS (spotI pages l i) (spotI pages l j)) : ∀ i, i ≤ l.length → (∀ j, j < i → okI pages l j = true) ∧ Free pages l i
 | 0, _ => ⟨fun j hj => by omega, fun x hx _ => by
     show nth (List.replicate pages.toNat (-1)) x = -1
     rw [nth_eq (by rw [List.length_replicate]; omega), List.getElem_replicate], fun x c hx hb => by
     exfalso
     have : nth (stI pages l 0).2 x = 0 := by
       show nth (List.replicate 64 0) x = 0
       rw [nth_eq (by rw [List.length_replicate]; omega), List.getElem_replicate]
     rw [this] at hb; simp at hb⟩
 | i + 1, hi => by
  obtain ⟨hok, hF⟩ := lay_all h0 hp hs ha i (by omega)
  have hsp := hs i (by omega)
  have hg := (spot_words hsp).good
  have hgj : ∀ j, j < i → GoodSpot pages (spotI pages l j) := fun j hj => (spot_words (hs j (by omega))).good
  have hold := laid_holds hp (pages := pages) (l := l) hok
  obtain ⟨l1, l2⟩ := stI_len (pages := pages) (l := l) (i := i)
  obtain ⟨b, hb⟩ : ∃ b, b = spotI pages l i := ⟨_, rfl⟩
  have hb' : (spotS pages (nth l i)).1 = b := hb.symm
  rw [hb'] at hg
  have hap : ∀ j, j < i → apartS (spotI pages l j) b := fun j hj => by rw [hb]; exact ha j i hj (by omega)
  have g0 := hg.p0
  have g1 := hg.c1
  have g2 := hg.p1
  have hpn : (b.page.toNat : Int) = b.page := by omega
  -- it is laid
  have hlay : (layS (stI pages l i).1 (stI pages l i).2 b.page.toNat b.count.toNat b.small b.cls b.cell.toNat).1 = true := by
   unfold layS
   cases hsm : b.small with
   | true =>
    obtain ⟨q1, q2, q3, q4, q5⟩ := hg.s1 hsm
    simp only [if_true]
    by_cases hex : ∃ j, j < i ∧ covers (spotI pages l j) b.page.toNat
    · obtain ⟨j, hj, hc⟩ := hex
      have hA := hap j hj
      unfold covers at hc
      rcases hA with ⟨a1, a2, a3, a4⟩ | hA | hA
      · have hgs := (hgj j hj).s1 a1
        have hpe : (spotI pages l j).page = b.page := by omega
        have hk := ((hold j hj).1 a1).1
        rw [show (spotS pages (nth l j)).1.page.toNat = b.page.toNat by rw [show (spotS pages (nth l j)).1.page = b.page from hpe]] at hk
        have hbit : (nth (stI pages l i).2 b.page.toNat).testBit b.cell.toNat = false := by
         cases hq : (nth (stI pages l i).2 b.page.toNat).testBit b.cell.toNat with
         | false => rfl
         | true =>
          exfalso
          obtain ⟨j2, hj2, r1, r2, r3⟩ := hF.b _ _ (by omega) hq
          rcases hap j2 hj2 with ⟨_, _, _, s4⟩ | s | s
          · omega
          · have := ((hgj j2 hj2).s1 r1).1; omega
          · omega
        rw [if_pos ⟨hk.trans a3, bit_and hbit⟩]
      · omega
      · omega
    · have hfree := hF.k b.page.toNat (by omega) (fun j hj hc => hex ⟨j, hj, hc⟩)
      rw [if_neg (fun h => by rw [hfree] at h; omega), if_pos hfree]
   | false =>
    simp only [Bool.false_eq_true, if_false]
    rw [if_pos (fillF_ok (fun t h1 h2 => hF.k _ (by omega) (fun j hj hc => by
      unfold covers at hc
      rcases hap j hj with ⟨_, a2, _⟩ | hA | hA
      · rw [hsm] at a2; cases a2
      · omega
      · omega)) (by omega))]
  have hoki : okI pages l i = true := by
   unfold okI layO
   rw [if_pos hsp, hb']
   exact hlay
  have hst : stI pages l (i + 1) = (layS (stI pages l i).1 (stI pages l i).2 b.page.toNat b.count.toNat b.small b.cls b.cell.toNat).2 := by
   rw [(okI_lay hoki).1, hb']
  refine ⟨fun j hj => ?_, ?_, ?_⟩
  · by_cases e : j = i
    · subst e; exact hoki
    · exact hok j (by omega)
  · intro x hx hc
    have hx1 : nth (stI pages l i).1 x = -1 := hF.k x hx (fun j hj => hc j (by omega))
    have hx2 : ¬ covers b x := by rw [hb]; exact hc i (by omega)
    unfold covers at hx2
    rw [hst]
    unfold layS at hlay ⊢
    cases hsm : b.small with
    | true =>
     obtain ⟨q1, _⟩ := hg.s1 hsm
     simp only [if_true]
     split
     · exact hx1
     · split
       · simp only; rw [nth_set2 (by omega), if_neg (by omega)]; exact hx1
       · exact hx1
    | false =>
     simp only [hsm, Bool.false_eq_true, if_false] at hlay ⊢
     by_cases hf : (fillF b.page.toNat b.count.toNat 0 (stI pages l i).1).1 = true
     · rw [if_pos hf]
       simp only
       rw [nth_set2 (by rw [fillF_len]; omega), if_neg (by omega), (fillF_spec hf (by omega)).2, if_neg (by omega)]; exact hx1
     · rw [if_neg hf] at hlay; cases hlay
  · intro x c hx hbit
    rw [hst] at hbit
    unfold layS at hlay hbit
    have old : (nth (stI pages l i).2 x).testBit c = true → ∃ j, j < i + 1 ∧ (spotI pages l j).small = true ∧ (spotI pages l j).page = x ∧ (spotI pages l j).cell = c := fun h => by
     obtain ⟨j, hj, r⟩ := hF.b x c hx h
     exact ⟨j, by omega, r⟩
    cases hsm : b.small with
    | true =>
     obtain ⟨q1, q2, q3, q4, q5⟩ := hg.s1 hsm
     have new : b.page.toNat = x → b.cell.toNat = c → ∃ j, j < i + 1 ∧ (spotI pages l j).small = true ∧ (spotI pages l j).page = x ∧ (spotI pages l j).cell = c := fun h1 h2 =>
      ⟨i, by omega, by rw [← hb]; exact hsm, by rw [← hb]; omega, by rw [← hb]; omega⟩
     simp only [hsm, if_true] at hbit
     split at hbit
     · simp only at hbit
       rw [nth_set2 (by omega)] at hbit
       split at hbit
       · rename_i e
         rw [Nat.testBit_or, Bool.or_eq_true] at hbit
         rcases hbit with h | h
         · exact old (by rw [← e]; exact h)
         · rw [Nat.testBit_two_pow] at h
           exact new e (by simpa using h)
       · exact old hbit
     · split at hbit
       · simp only at hbit
         rw [nth_set2 (by omega)] at hbit
         split at hbit
         · rename_i e
           rw [Nat.testBit_two_pow] at hbit
           exact new e (by simpa using hbit)
         · exact old hbit
       · exact old hbit
    | false =>
     simp only [hsm, Bool.false_eq_true, if_false] at hbit
     split at hbit <;> exact old hbit
theorem laid_iff {pages : Int} {l : List (Int × Int)} : (laidS pages l).isSome = true ↔ (0 ≤ pages ∧ pages ≤ 64) ∧ (∀ i, i < l.length → (spotS pages (nth l i)).2 = true) ∧ ∀ i j, i < j → j < l.length → apartS (spotI pages l i) (spotI pages l j) := by
 unfold laidS
 constructor
 · intro h
   split at h
   · rename_i h2
     simp only [Bool.and_eq_true, decide_eq_true_eq, List.all_eq_true, List.mem_range] at h2
     exact ⟨h2.1, fun i hi => okI_spot (h2.2 i hi), fun i j hij hj => laid_apart h2.1.2 (fun k hk => h2.2 k (by omega)) hij⟩
   · simp at h
 · rintro ⟨⟨h0, h1⟩, h2, h3⟩
   have := (lay_all h0 h1 h2 h3 l.length (Nat.le_refl _)).1
   rw [if_pos (by simp only [Bool.and_eq_true, decide_eq_true_eq, List.all_eq_true, List.mem_range]; exact ⟨⟨h0, h1⟩, this⟩)]
   rfl
open Go.Awp
def disjI (p q : Int × Int) : Prop := p.1 + p.2 ≤ q.1 ∨ q.1 + q.2 ≤ p.1
theorem gapsOk_iff {to : Int} : ∀ {l : List (Int × Int)} {a : Int}, l.Pairwise (fun p q => p.1 ≤ q.1) →
    (gapsOk to a l = true ↔ (∀ p ∈ l, a ≤ p.1 ∧ 4 ≤ p.2 ∧ p.1 + p.2 ≤ to ∧ p.1.tmod 4 = 0 ∧ p.2.tmod 4 = 0) ∧ l.Pairwise disjI)
 | [], a, _ => by simp [gapsOk]
 | p :: l, a, hs => by
  obtain ⟨s1, s2⟩ := List.pairwise_cons.1 hs
  have ih := gapsOk_iff (to := to) (l := l) (a := p.1 + p.2) s2
  simp only [gapsOk, Bool.and_eq_true, gapBad, Bool.not_eq_true', decide_eq_false_iff_not]
  rw [ih, List.pairwise_cons]
  constructor
  · rintro ⟨h1, h2, h3⟩
    refine ⟨fun q hq => ?_, fun q hq => .inl (h2 q hq).1, h3⟩
    rcases List.mem_cons.1 hq with rfl | hq
    · refine ⟨by omega, by omega, by omega, ?_, ?_⟩ <;> (have := h1; grind)
    · have := h2 q hq
      exact ⟨by omega, this.2⟩
  · rintro ⟨h1, h2, h3⟩
    have hp := h1 p (by simp)
    refine ⟨by omega, fun q hq => ?_, h3⟩
    have hq1 := h1 q (by simp [hq])
    have hq2 := h2 q hq
    have hq3 := s1 q hq
    unfold disjI at hq2
    exact ⟨by omega, hq1.2⟩
theorem nth_pair {α : Type} [Inhabited α] {R : α → α → Prop} {l : List α} : (∀ i j, i < j → j < l.length → R (nth l i) (nth l j)) ↔ l.Pairwise R := by
 rw [List.pairwise_iff_getElem]
 constructor
 · intro h i j hi hj hij
   have := h i j hij hj
   rwa [nth_eq hi, nth_eq hj] at this
 · intro h i j hij hj
   rw [nth_eq (by omega), nth_eq hj]
   exact h i j (by omega) hj hij
theorem nth_all {α : Type} [Inhabited α] {R : α → Prop} {l : List α} : (∀ i, i < l.length → R (nth l i)) ↔ ∀ x ∈ l, R x := by
 constructor
 · intro h x hx
   obtain ⟨i, hi, rfl⟩ := List.getElem_of_mem hx
   have := h i hi
   rwa [nth_eq hi] at this
 · intro h i hi
   exact h _ (nth_mem hi)
theorem range_pair {R : Nat → Nat → Prop} {n : Nat} : (List.range n).Pairwise R ↔ ∀ i j, i < j → j < n → R i j := by
 rw [List.pairwise_iff_getElem]
 simp only [List.length_range, List.getElem_range]
 exact ⟨fun h i j hij hj => h i j (by omega) hj hij, fun h i j hi hj hij => h i j hij hj⟩
def fitsS (s : Stt) (x : Slot) : Prop := if x.two = true then (spotS s.base (x.at_, x.len)).2 = true else s.base * 32 ≤ x.at_ ∧ x.at_.tmod 4 = 0 ∧ x.at_ + (needS x.len).1 ≤ s.sh.pages * 32
def clearS (base : Int) (x y : Slot) : Prop := (x.two = true → y.two = true → apartS (spotS base (x.at_, x.len)).1 (spotS base (y.at_, y.len)).1) ∧
 (x.two = false → y.two = false → disjI (x.at_, (needS x.len).1) (y.at_, (needS y.len).1))
theorem disjI_symm {p q : Int × Int} (h : disjI p q) : disjI q p := h.symm
theorem twos_all {R : Int × Int → Prop} {l : List Slot} : (∀ o ∈ twosO l, R o) ↔ ∀ i, i < l.length → isTwo (nth l i) = true → R ((nth l i).at_, (nth l i).len) := by
 simp only [twosO, twoIx, List.mem_map, List.mem_filter, List.mem_range]
 constructor
 · intro h i hi ht; exact h _ ⟨i, ⟨hi, ht⟩, rfl⟩
 · rintro h o ⟨i, ⟨hi, ht⟩, rfl⟩; exact h i hi ht
theorem twos_pair {R : Int × Int → Int × Int → Prop} {l : List Slot} : (twosO l).Pairwise R ↔ ∀ i j, i < j → j < l.length → isTwo (nth l i) = true → isTwo (nth l j) = true → R ((nth l i).at_, (nth l i).len) ((nth l j).at_, (nth l j).len) := by
 rw [twosO, List.pairwise_map, twoIx, List.pairwise_filter, range_pair]
 exact Iff.rfl
theorem onesR_all {R : Blk → Prop} {l : List Slot} : (∀ o ∈ onesR l, R o) ↔ ∀ i, i < l.length → isOne (nth l i) = true → R (blkAt l i) := by
 simp only [onesR, oneIx, List.mem_map, List.mem_filter, List.mem_range]
 constructor
 · intro h i hi ht; exact h _ ⟨i, ⟨hi, ht⟩, rfl⟩
 · rintro h o ⟨i, ⟨hi, ht⟩, rfl⟩; exact h i hi ht
theorem onesR_pair {R : Blk → Blk → Prop} {l : List Slot} : (onesR l).Pairwise R ↔ ∀ i j, i < j → j < l.length → isOne (nth l i) = true → isOne (nth l j) = true → R (blkAt l i) (blkAt l j) := by
 rw [onesR, List.pairwise_map, oneIx, List.pairwise_filter, range_pair]
theorem onesR_ahead {l : List Slot} : (onesR l).Pairwise aheadB := by
 rw [onesR_pair]
 intro i j hij _ _ _
 show (i : Int) < j
 omega
theorem onesS_sorted {l : List Slot} : (onesS l).Pairwise beforeB := stS_ok keysB onesR_ahead
theorem needS_quad {n : Int} (h : 1 ≤ n ∧ n ≤ 2048) : (needS n).1.tmod 4 = 0 := by
 unfold needS; rw [if_neg (by omega)]
 simp only [upS]
 rw [Int.tmod_eq_emod_of_nonneg]
 · omega
 · have : 0 ≤ (2 + (n + 8 - 1).tdiv 8 + 4 - 1).tdiv 4 := by
    rw [Int.tdiv_eq_ediv_of_nonneg (a := n + 8 - 1) (by omega), Int.tdiv_eq_ediv_of_nonneg (by omega)]; omega
   omega
theorem gaps_head {sh : Shape} {mode base : Int} (h : superS sh mode base = true) : gapsHead (base * 32) (sh.pages * 32) = true := by
 have := superS_b h
 simp only [gapsHead, decide_eq_true_eq]
 rw [Int.tmod_eq_emod_of_nonneg (by omega), Int.tmod_eq_emod_of_nonneg (by omega)]
 omega
def modeP (mode : Int) (x : Slot) : Prop := (mode = 1 → x.two = false) ∧ (mode = 2 → x.two = true)
theorem sttS_iff {s : Stt} : sttS s = true ↔ superS s.sh s.mode s.base = true ∧ rowsS s = true ∧ (∀ i, i < s.slots.length → (nth s.slots i).live = true → fitsS s (nth s.slots i) ∧ modeP s.mode (nth s.slots i)) ∧
    ∀ i j, i < j → j < s.slots.length → (nth s.slots i).live = true → (nth s.slots j).live = true → clearS s.base (nth s.slots i) (nth s.slots j) := by
 unfold sttS
 simp only [Bool.and_eq_true]
 constructor
 · rintro ⟨h1, h2, h3, h4, h5⟩
   obtain ⟨_, l2, l3⟩ := laid_iff.1 h3
   rw [nth_all (R := fun o => (spotS s.base o).2 = true), twos_all] at l2
   rw [nth_pair (R := fun o p => apartS (spotS s.base o).1 (spotS s.base p).1), twos_pair] at l3
   simp only [gapsS, Bool.and_eq_true] at h4
   have hsort : (spansS s.slots).Pairwise (fun p q => p.1 ≤ q.1) := by
    rw [spansS, List.pairwise_map]
    exact onesS_sorted.imp fun {x y} h => by unfold beforeB at h; show x.at_ ≤ y.at_; omega
   obtain ⟨g1, g2⟩ := (gapsOk_iff hsort).1 h4.2
   have g3 : ∀ b ∈ onesR s.slots, s.base * 32 ≤ b.at_ ∧ 4 ≤ b.len ∧ b.at_ + b.len ≤ s.sh.pages * 32 ∧ b.at_.tmod 4 = 0 ∧ b.len.tmod 4 = 0 := fun b hb =>
    g1 (spanOf b) (by rw [spansS]; exact List.mem_map_of_mem ((stS_perm (lt := ltB) _).mem_iff.2 hb))
   rw [onesR_all] at g3
   have g4 : (onesR s.slots).Pairwise (fun x y => disjI (spanOf x) (spanOf y)) := by
    rw [spansS, List.pairwise_map] at g2
    exact ((stS_perm (lt := ltB) _).pairwise_iff (fun h => disjI_symm h)).1 g2
   rw [onesR_pair] at g4
   refine ⟨h1, h2, fun i hi hl => ⟨?_, ?_⟩, fun i j hij hj hl1 hl2 => ⟨fun t1 t2 => l3 i j hij hj (by simp [isTwo, hl1, t1]) (by simp [isTwo, hl2, t2]), fun t1 t2 => g4 i j hij hj (by simp [isOne, hl1, t1]) (by simp [isOne, hl2, t2])⟩⟩
   · unfold fitsS
     split
     · rename_i ht; exact l2 i hi (by simp [isTwo, hl, ht])
     · rename_i ht
       have := g3 i hi (by simp [isOne, hl, ht])
       exact ⟨this.1, this.2.2.2.1, this.2.2.1⟩
   · unfold modeOk at h5
     constructor
     · intro hm
       rw [if_pos hm] at h5
       have : (twosO s.slots).length = 0 := by simpa using h5
       cases ht : (nth s.slots i).two with
       | false => rfl
       | true =>
        obtain ⟨a, ha, _⟩ := twos_at hi (show isTwo (nth s.slots i) = true by simp [isTwo, hl, ht])
        omega
     · intro hm
       rw [if_neg (by omega), if_pos hm] at h5
       have : (onesR s.slots).length = 0 := by
        have q := of_decide_eq_true h5
        rwa [spansS, List.length_map, onesS, nodup_of_stS] at q
       cases ht : (nth s.slots i).two with
       | true => rfl
       | false =>
        exfalso
        have hm : blkAt s.slots i ∈ onesR s.slots := by
         rw [onesR]; exact List.mem_map_of_mem (by simp only [oneIx, List.mem_filter, List.mem_range]; exact ⟨hi, by simp [isOne, hl, ht]⟩)
        rw [List.length_eq_zero_iff] at this
        rw [this] at hm; cases hm
 · rintro ⟨h1, h2, h3, h4⟩
   have ht := rowsS_t h2
   have hb := superS_b h1
   have live2 : ∀ {x : Slot}, isTwo x = true → x.live = true ∧ x.two = true := fun h => by simpa [isTwo] using h
   have live1 : ∀ {x : Slot}, isOne x = true → x.live = true ∧ x.two = false := fun h => by simpa [isOne] using h
   refine ⟨h1, h2, ?_, ?_, ?_⟩
   · refine laid_iff.2 ⟨by omega, ?_, ?_⟩
     · rw [nth_all (R := fun o => (spotS s.base o).2 = true), twos_all]
       intro i hi hx
       have := (h3 i hi (live2 hx).1).1
       unfold fitsS at this; rwa [if_pos (live2 hx).2] at this
     · rw [nth_pair (R := fun o p => apartS (spotS s.base o).1 (spotS s.base p).1), twos_pair]
       intro i j hij hj hx hy
       exact (h4 i j hij hj (live2 hx).1 (live2 hy).1).1 (live2 hx).2 (live2 hy).2
   · simp only [gapsS, Bool.and_eq_true]
     have hsort : (spansS s.slots).Pairwise (fun p q => p.1 ≤ q.1) := by
      rw [spansS, List.pairwise_map]
      exact onesS_sorted.imp fun {x y} h => by unfold beforeB at h; show x.at_ ≤ y.at_; omega
     refine ⟨gaps_head h1, (gapsOk_iff hsort).2 ⟨fun p hp => ?_, ?_⟩⟩
     · rw [spansS] at hp
       obtain ⟨b, hb', rfl⟩ := List.mem_map.1 hp
       obtain ⟨i, hi, hx, rfl⟩ := onesS_mem hb'
       have hf := (h3 i hi (live1 hx).1).1
       unfold fitsS at hf
       rw [if_neg (by simp [(live1 hx).2])] at hf
       have hs := slotS1_live (tableS_slot ht i hi) (live1 hx).1
       exact ⟨hf.1, needS_pos (by omega), hf.2.2, hf.2.1, needS_quad (by omega)⟩
     · rw [spansS, List.pairwise_map]
       refine ((stS_perm (lt := ltB) (onesR s.slots)).pairwise_iff (fun h => disjI_symm h)).2 ?_
       rw [onesR_pair]
       intro i j hij hj hx hy
       exact (h4 i j hij hj (live1 hx).1 (live1 hy).1).2 (live1 hx).2 (live1 hy).2
   · unfold modeOk
     split
     · rename_i hm
       rw [decide_eq_true_eq]
       have : ∀ o ∈ twosO s.slots, False := by
        rw [twos_all (R := fun _ => False)]
        intro i hi hx
        have := (h3 i hi (live2 hx).1).2.1 hm
        rw [(live2 hx).2] at this; cases this
       cases hq : twosO s.slots with
       | nil => rfl
       | cons o t => exact (this o (by simp [hq])).elim
     · split
       · rename_i hm
         rw [decide_eq_true_eq]
         have : ∀ o ∈ onesR s.slots, False := by
          rw [onesR_all (R := fun _ => False)]
          intro i hi hx
          have := (h3 i hi (live1 hx).1).2.2 hm
          rw [(live1 hx).2] at this; cases this
         have h0 : onesR s.slots = [] := by
          cases hq : onesR s.slots with
          | nil => rfl
          | cons o t => exact (this o (by simp [hq])).elim
         rw [spansS, List.length_map, onesS, nodup_of_stS, h0]; rfl
       · rfl
open Go.Awp
def openT (x : Slot) : Bool := !x.live && decide (x.gen ≠ 65535)
def sizedN (n : Int) : Bool := decide (1 ≤ n ∧ n ≤ 2048)
def nextF (l : List Slot) : Nat → Nat → Option Nat
 | 0, _ => none
 | f + 1, i => if openT (nth l i) = true then some i else nextF l f (i + 1)
def nextS (l : List Slot) : Option Nat := (List.range l.length).find? fun i => openT (nth l i)
theorem nextS_some {l : List Slot} {k : Nat} (hk : k < l.length) (h : openT (nth l k) = true) (hn : ∀ j, j < k → openT (nth l j) = false) : nextS l = some k := by
 unfold nextS
 rw [List.find?_eq_some_iff_getElem]
 refine ⟨h, k, by simpa using hk, by simp, fun j hj => by simp [hn j hj]⟩
theorem nextS_none {l : List Slot} (hn : ∀ j, j < l.length → openT (nth l j) = false) : nextS l = none := by
 unfold nextS
 rw [List.find?_eq_none]
 intro x hx
 simp at hx
 simp [hn x hx]
theorem nextS_spec {l : List Slot} {k : Nat} (h : nextS l = some k) : k < l.length ∧ openT (nth l k) = true ∧ ∀ j, j < k → openT (nth l j) = false := by
 unfold nextS at h
 rw [List.find?_eq_some_iff_getElem] at h
 obtain ⟨h1, i, hi, h2, h3⟩ := h
 simp at hi h2; subst h2
 exact ⟨hi, h1, fun j hj => by have := h3 j hj; simpa using this⟩
@[simp high] theorem slice_rows3 {α : Type} {P : Program} {objs : List Awp.Obj} {t : TypeId} {k : Nat} {f : α → D} {l : List α} {lo : Option Int} {q : Int} : sliceA P objs t (.d (rows k f l)) lo (some q) (some q) = (match ty P t with
    | some { k := .slice e, .. } => match ty P e with
      | some T => if k = T.size ∧ 0 ≤ lo.getD 0 ∧ lo.getD 0 ≤ q ∧ q ≤ l.length then some (.cut k (((l.drop (lo.getD 0).toNat).take (q.toNat - (lo.getD 0).toNat)).map f)) else none
      | none => none
    | _ => none) := by
 unfold rows sliceA
 cases ty P t with
 | none => rfl
 | some T =>
  obtain ⟨sz, by', K, z⟩ := T
  cases K with
  | slice e =>
   simp only
   cases ty P e with
   | none => rfl
   | some T => simp
  | _ => rfl
set_option maxRecDepth 4000
open Go.Awp
theorem ct160 (g : Gl) (s : Slot) : CtAt Tryz.prog g 160 [eSlot s] (.v (.bool (openT s))) := by
 refine xA Tryz.func160 fun B S => ?_
 simp only [eSlot, List.map, argD_agg]
 refine xU ?_
 refine xO2 ?_
 refine xG [1] ?_
 refine xO4 ?_
 iterate 3 refine xI ?_
 refine xP ?_
 refine xB ?_
 refine xF [2] ?_
 refine W_ret (xR (by simp [Tryz.f160]; exact .mk) ?_)
 first | (simp [Tryz.f160, openT] at *; grind) | simp [Tryz.f160, openT, *]

theorem ct102 (g : Gl) (n : Int) : CtAt Tryz.prog g 102 [vI n] (.v (.bool (sizedN n))) := by
 refine xA Tryz.func102 fun B S => ?_
 refine xU ?_
 refine xO ?_
 refine xG [0] ?_
 refine xO3 ?_
 iterate 2 refine xI ?_
 refine xP ?_
 refine xB ?_
 refine xF [2] ?_
 refine W_ret (xR (by simp [Tryz.f102]; exact .mk) ?_)
 first | (simp [Tryz.f102, sizedN] at *; grind) | simp [Tryz.f102, sizedN, *]

theorem ct109 (g : Gl) (l : List Slot) (hl : l.length ≤ 2^40) : CtAt Tryz.prog g 109 [rSl l] (.tup [vI (((nextS l).getD 0 : Nat) : Int), .v (.bool (nextS l).isSome)]) := by
 refine xA Tryz.func109 fun B S => ?_
 refine xU ?_
 refine xH2 [0] ?_
 refine W_seq (xU ?_)
 refine xH3 [6,7,8] ?_
 refine W_block (W_rounds (fun m σ o => ∃ i : Nat, m = l.length - i ∧ i ≤ l.length ∧ (∀ j, j < i → openT (nth l j) = false) ∧ σ = slots [(6, .d (rSl l)), (7, .d (vI l.length)), (8, .d (vI i))] ∧ o = []) l.length .refl ⟨0, by simp, by simp, by simp, rfl, rfl⟩ ?_)
 rintro m σ o ⟨i, rfl, hi, hinv, rfl, rfl⟩ _
 refine xU ?_
 refine xH [6,7,8,9] ?_
 refine W_seq (W_cond rfl ?_ ?_)
 · intro h9
   have hi2 : i < l.length := by simpa using h9
   refine W_skip fun _ => ?_
   refine W_seq (W_block ?_)
   refine xU ?_
   refine xO ?_
   refine xO ?_ (h := by simp [eSlot, *]; exact .mk)
   refine xOl ?_
   refine xO2 ?_
   refine xOs ?_
   refine xG [4,5,6,7,8] ?_
   refine xOl ?_
   refine xC (ct160 g (nth l i)) ?_
   refine xQ [4,6,7,8,14] ?_ ?_
   · intro h14
     have hr : nextS l = some i := nextS_some hi2 h14 hinv
     refine xU ?_
     refine xH3 [2,3] ?_
     refine W_ret (xR (by simp [Tryz.f109]; exact .mk) ?_)
     simp [Tryz.f109, hr]
   intro h14
   refine W_skip fun _ => ?_
   refine xY ?_
   refine xO2 ?_
   refine xE [6,7,8] ?_
   refine rounds_drop 0 [6,7,8] (by simp) (by simp [boxA, AV.cells, AV.isCell]) (by simp [boxA, AV.cells, AV.isCell]) ?_
   refine rounds_next (m' := l.length - (i+1)) (by omega) ⟨i+1, rfl, by omega, ?_, ?_, rfl⟩
   · intro j hj
     rcases Nat.lt_succ_iff_lt_or_eq.1 hj with hj | rfl
     · exact hinv j hj
     exact h14
   rw [wrap64 (by omega) (by omega)]; rfl
 intro h9
 have hr : nextS l = none := nextS_none (fun j hj => hinv j (by simp at h9; omega))
 refine W_exit (xT ?_)
 refine xH2 [2,3] ?_
 refine W_ret (xR (by simp [Tryz.f109]; exact .mk) ?_)
 simp [Tryz.f109, hr]

theorem ct162 (g : Gl) (l : List Slot) (k : Nat) (x : Slot) (hl : l.length ≤ 2^40) (hk : k < l.length) : CtAt Tryz.prog g 162 [rSl l, vI k, eSlot x] (oSl (l.set k x)) := by
 refine xA Tryz.func162 fun B S => ?_
 simp only [eSlot, List.map, argD_agg]
 have e1 : IntKind.i64.wrap ((k : Int) + 1) = k + 1 := wrap64 (by omega) (by omega)
 have e2 : (0 : Int) ≤ (k : Int) + 1 := by omega
 have e3 : (k : Int) + 1 ≤ l.length := by omega
 have em : min k l.length = k := by omega
 have e4 : (k + 1) * 32 ≤ 140737488355328 := by omega
 have e5 : k ≤ 140737488355327 := by omega
 have e6 : k + 1 + (l.length - (k + 1)) = l.length := by omega
 have e7 : l.length * 32 ≤ 140737488355328 := by omega
 have e8 : l.length ≤ 140737488355328 := by omega
 have e9 := eq_true (show l.length = min k l.length + (l.length - (k + 1) + 1) by omega)
 refine xU ?_
 refine xH2 [0,1,5] ?_
 refine W_seq ?_
 refine W_regDT (hard := []) [3,5,6,10] (keepOk_lt (by decide)) (by kernel_rfl) 4 [[0,1,2,3,4,7,8,9,5,6,10,11,12], [0,1,2,3,4,7,8,9,5,10,6,11,12], [0,1,2,3,4,7,8,9,10,5,6,11,12], [0,1,2,4,7,8,9,5,3,6,10,11,12], [0,1,2,4,7,8,9,5,3,10,6,11,12], [0,1,2,4,7,8,9,5,10,3,6,11,12], [0,1,2,4,7,8,9,10,3,5,6,11,12], [0,1,2,4,7,8,9,10,5,3,6,11,12]] (by decide +kernel) ⟨?_, ?_, ?_, ?_, ?_, ?_, ?_, ?_, trivial⟩
 · skip
   refine xO3 ?_
   refine xO ?_ (h := by simp [optA, hk, Nat.le_of_lt hk]; exact .mk)
   refine xOl ?_
   refine xO2 ?_
   refine xO ?_ (h := by simp [e1]; exact .mk)
   refine xO ?_
   refine xO ?_ (h := by simp [rows, em, e4, e5]; exact .mk)
   refine xO ?_ (h := by simp [optA, e1, e2, e3]; exact .mk)
   refine xO ?_ (h := by simp [rows, em, e4, e5, e6, e7, e8]; exact .mk)
   refine xH [6] ?_
   refine W_ret (end_ret (by simp [Tryz.f162]; exact .mk) (by simp [e9]; exact .mk) ?_ (by simp))
   simp [Tryz.f162, ownR, List.set_eq_take_append_cons_drop, hk, eSlot]
   try (rw [List.take_of_length_le (by simp)])
 · skip
   refine xO3 ?_
   refine xO ?_ (h := by simp [optA, hk, Nat.le_of_lt hk]; exact .mk)
   refine xOl ?_
   refine xO2 ?_
   refine xO ?_ (h := by simp [e1]; exact .mk)
   refine xO ?_
   refine xO ?_ (h := by simp [optA, e1, e2, e3]; exact .mk)
   refine xO ?_ (h := by simp [rows, em, e4, e5]; exact .mk)
   refine xO ?_ (h := by simp [rows, em, e4, e5, e6, e7, e8]; exact .mk)
   refine xH [6] ?_
   refine W_ret (end_ret (by simp [Tryz.f162]; exact .mk) (by simp [e9]; exact .mk) ?_ (by simp))
   simp [Tryz.f162, ownR, List.set_eq_take_append_cons_drop, hk, eSlot]
   try (rw [List.take_of_length_le (by simp)])
 · skip
   refine xO3 ?_
   refine xO ?_ (h := by simp [optA, hk, Nat.le_of_lt hk]; exact .mk)
   refine xOl ?_
   refine xO2 ?_
   refine xO ?_ (h := by simp [e1]; exact .mk)
   refine xO ?_ (h := by simp [optA, e1, e2, e3]; exact .mk)
   refine xO ?_
   refine xO ?_ (h := by simp [rows, em, e4, e5]; exact .mk)
   refine xO ?_ (h := by simp [rows, em, e4, e5, e6, e7, e8]; exact .mk)
   refine xH [6] ?_
   refine W_ret (end_ret (by simp [Tryz.f162]; exact .mk) (by simp [e9]; exact .mk) ?_ (by simp))
   simp [Tryz.f162, ownR, List.set_eq_take_append_cons_drop, hk, eSlot]
   try (rw [List.take_of_length_le (by simp)])
 · skip
   refine xO3 ?_
   refine xOl ?_
   refine xO2 ?_
   refine xO ?_ (h := by simp [e1]; exact .mk)
   refine xO ?_
   refine xO ?_ (h := by simp [optA, hk, Nat.le_of_lt hk]; exact .mk)
   refine xO ?_ (h := by simp [rows, em, e4, e5]; exact .mk)
   refine xO ?_ (h := by simp [optA, e1, e2, e3]; exact .mk)
   refine xO ?_ (h := by simp [rows, em, e4, e5, e6, e7, e8]; exact .mk)
   refine xH [6] ?_
   refine W_ret (end_ret (by simp [Tryz.f162]; exact .mk) (by simp [e9]; exact .mk) ?_ (by simp))
   simp [Tryz.f162, ownR, List.set_eq_take_append_cons_drop, hk, eSlot]
   try (rw [List.take_of_length_le (by simp)])
 · skip
   refine xO3 ?_
   refine xOl ?_
   refine xO2 ?_
   refine xO ?_ (h := by simp [e1]; exact .mk)
   refine xO ?_
   refine xO ?_ (h := by simp [optA, hk, Nat.le_of_lt hk]; exact .mk)
   refine xO ?_ (h := by simp [optA, e1, e2, e3]; exact .mk)
   refine xO ?_ (h := by simp [rows, em, e4, e5]; exact .mk)
   refine xO ?_ (h := by simp [rows, em, e4, e5, e6, e7, e8]; exact .mk)
   refine xH [6] ?_
   refine W_ret (end_ret (by simp [Tryz.f162]; exact .mk) (by simp [e9]; exact .mk) ?_ (by simp))
   simp [Tryz.f162, ownR, List.set_eq_take_append_cons_drop, hk, eSlot]
   try (rw [List.take_of_length_le (by simp)])
 · skip
   refine xO3 ?_
   refine xOl ?_
   refine xO2 ?_
   refine xO ?_ (h := by simp [e1]; exact .mk)
   refine xO ?_
   refine xO ?_ (h := by simp [optA, e1, e2, e3]; exact .mk)
   refine xO ?_ (h := by simp [optA, hk, Nat.le_of_lt hk]; exact .mk)
   refine xO ?_ (h := by simp [rows, em, e4, e5]; exact .mk)
   refine xO ?_ (h := by simp [rows, em, e4, e5, e6, e7, e8]; exact .mk)
   refine xH [6] ?_
   refine W_ret (end_ret (by simp [Tryz.f162]; exact .mk) (by simp [e9]; exact .mk) ?_ (by simp))
   simp [Tryz.f162, ownR, List.set_eq_take_append_cons_drop, hk, eSlot]
   try (rw [List.take_of_length_le (by simp)])
 · skip
   refine xO3 ?_
   refine xOl ?_
   refine xO2 ?_
   refine xO ?_ (h := by simp [e1]; exact .mk)
   refine xO ?_ (h := by simp [optA, e1, e2, e3]; exact .mk)
   refine xO ?_ (h := by simp [optA, hk, Nat.le_of_lt hk]; exact .mk)
   refine xO ?_
   refine xO ?_ (h := by simp [rows, em, e4, e5]; exact .mk)
   refine xO ?_ (h := by simp [rows, em, e4, e5, e6, e7, e8]; exact .mk)
   refine xH [6] ?_
   refine W_ret (end_ret (by simp [Tryz.f162]; exact .mk) (by simp [e9]; exact .mk) ?_ (by simp))
   simp [Tryz.f162, ownR, List.set_eq_take_append_cons_drop, hk, eSlot]
   try (rw [List.take_of_length_le (by simp)])
 skip
 refine xO3 ?_
 refine xOl ?_
 refine xO2 ?_
 refine xO ?_ (h := by simp [e1]; exact .mk)
 refine xO ?_ (h := by simp [optA, e1, e2, e3]; exact .mk)
 refine xO ?_
 refine xO ?_ (h := by simp [optA, hk, Nat.le_of_lt hk]; exact .mk)
 refine xO ?_ (h := by simp [rows, em, e4, e5]; exact .mk)
 refine xO ?_ (h := by simp [rows, em, e4, e5, e6, e7, e8]; exact .mk)
 refine xH [6] ?_
 refine W_ret (end_ret (by simp [Tryz.f162]; exact .mk) (by simp [e9]; exact .mk) ?_ (by simp))
 simp [Tryz.f162, ownR, List.set_eq_take_append_cons_drop, hk, eSlot]
 try (rw [List.take_of_length_le (by simp)])

open Go.Awp
theorem ct82 (g : Gl) (x y : List (List UInt8)) (hx : x.length ≤ 2^40) : CtAt Tryz.prog g 82 [rBB x, rBB y] (.v (.bool (sameL (fun a b => (str a).toList == (str b).toList) x y))) := by
 refine xA Tryz.func82 fun B S => ?_
 refine xU ?_
 refine xH [0,1] ?_
 refine W_seq (xU ?_)
 refine xO5 ?_
 refine xQ [0,1,10] ?_ ?_
 · intro h10
   have hr : sameL (fun a b => (str a).toList == (str b).toList) x y = false := sameL_len (by simp at h10; omega)
   refine xU ?_
   refine xH [4] ?_
   refine W_ret (xR (by simp [Tryz.f82]; exact .mk) ?_)
   simp [Tryz.f82, hr]
 intro h10
 have hxy : x.length = y.length := by simp at h10; omega
 refine W_skip fun _ => ?_
 refine W_seq (xU ?_)
 refine xH [0,1,5] ?_
 refine W_block (W_rounds (fun m σ o => ∃ i : Nat, m = x.length - i ∧ i ≤ x.length ∧ (∀ j, j < i → (fun a b => (str a).toList == (str b).toList) (nth x j) (nth y j) = true) ∧ σ = slots [(0, .d (rBB x)), (1, .d (rBB y)), (5, .d (vI i))] ∧ o = []) x.length .refl ⟨0, by simp, by simp, by simp, rfl, rfl⟩ ?_)
 rintro m σ o ⟨i, rfl, hi, hinv, rfl, rfl⟩ _
 refine W_seq (xU ?_)
 refine xO4 ?_
 refine xQ [0,1,5,14] ?_ ?_
 · intro h14
   have h2 : i < x.length := by simpa using h14
   have h3 : i < y.length := by omega
   refine W_skip fun _ => ?_
   refine W_seq (W_block ?_)
   refine W_seq ?_
   refine W_regD (by kernel_rfl) [] 4 [0,1,2,3,5,6,7,8,4,9,10] (by decide +kernel) ?_
   refine xO2 ?_
   refine xO ?_ (h := by simp [*]; exact .mk)
   refine xO3 ?_
   refine xO ?_ (h := by simp [*]; exact .mk)
   refine xO ?_
   iterate 2 (refine xO ?_ (h := by simp [conv_rB]; exact .mk))
   refine xO ?_
   refine xQ [0,1,5,27] ?_ ?_
   · intro h27
     have hr : sameL (fun a b => (str a).toList == (str b).toList) x y = false := sameL_bad h2 (by simpa using h27)
     refine xU ?_
     refine xH [4] ?_
     refine W_ret (xR (by simp [Tryz.f82]; exact .mk) ?_)
     simp [Tryz.f82, hr]
   intro h27
   refine W_skip fun _ => ?_
   refine xY ?_
   refine xO3 ?_
   refine xE [0,1,5] ?_
   refine rounds_kill [0,1,5] ?_
   refine rounds_next (m' := x.length - (i+1)) (by omega) ⟨i+1, rfl, by omega, ?_, ?_, rfl⟩
   · intro j hj
     rcases Nat.lt_succ_iff_lt_or_eq.1 hj with hj | rfl
     · exact hinv j hj
     simpa using h27
   rw [wrap64 (by omega) (by omega)]; rfl
 intro h14
 have hr : sameL (fun a b => (str a).toList == (str b).toList) x y = true := sameL_good hxy (fun j hj => hinv j (by simp at h14; omega))
 refine W_exit (xT ?_)
 refine xH [4] ?_
 refine W_ret (xR (by simp [Tryz.f82]; exact .mk) ?_)
 simp [Tryz.f82, hr]

theorem ct81 (g : Gl) (x y : List Root) (hx : x.length ≤ 2^40) : CtAt Tryz.prog g 81 [rR x, rR y] (.v (.bool (sameL sameRoot x y))) := by
 refine xA Tryz.func81 fun B S => ?_
 refine xU ?_
 refine xH [0,1] ?_
 refine W_seq (xU ?_)
 refine xO5 ?_
 refine xQ [0,1,10] ?_ ?_
 · intro h10
   have hr : sameL sameRoot x y = false := sameL_len (by simp at h10; omega)
   refine xU ?_
   refine xH [4] ?_
   refine W_ret (xR (by simp [Tryz.f81]; exact .mk) ?_)
   simp [Tryz.f81, hr]
 intro h10
 have hxy : x.length = y.length := by simp at h10; omega
 refine W_skip fun _ => ?_
 refine W_seq (xU ?_)
 refine xH [0,1,5] ?_
 refine W_block (W_rounds (fun m σ o => ∃ i : Nat, m = x.length - i ∧ i ≤ x.length ∧ (∀ j, j < i → sameRoot (nth x j) (nth y j) = true) ∧ σ = slots [(0, .d (rR x)), (1, .d (rR y)), (5, .d (vI i))] ∧ o = []) x.length .refl ⟨0, by simp, by simp, by simp, rfl, rfl⟩ ?_)
 rintro m σ o ⟨i, rfl, hi, hinv, rfl, rfl⟩ _
 refine W_seq (xU ?_)
 refine xO4 ?_
 refine xQ [0,1,5,14] ?_ ?_
 · intro h14
   have h2 : i < x.length := by simpa using h14
   have h3 : i < y.length := by omega
   refine W_skip fun _ => ?_
   refine W_seq (W_block ?_)
   refine W_seq ?_
   refine W_regD (by kernel_rfl) [] 4 [0,1,2,3,4,5,6,7,8] (by decide +kernel) ?_
   refine xO2 ?_
   refine xO ?_ (h := by simp [eRoot, *]; exact .mk)
   refine xO ?_ (h := by simp [eRoot]; exact .mk)
   refine xO2 ?_
   refine xO ?_ (h := by simp [eRoot, *]; exact .mk)
   refine xO ?_ (h := by simp [eRoot]; exact .mk)
   refine xO ?_
   refine xQ [0,1,5,25] ?_ ?_
   · intro h25
     have hr : sameL sameRoot x y = false := sameL_bad h2 (and3_f h25)
     refine xU ?_
     refine xH [4] ?_
     refine W_ret (xR (by simp [Tryz.f81]; exact .mk) ?_)
     simp [Tryz.f81, hr]
   intro h25
   refine W_skip fun _ => ?_
   refine xY ?_
   refine xO3 ?_
   refine xE [0,1,5] ?_
   refine rounds_kill [0,1,5] ?_
   refine rounds_next (m' := x.length - (i+1)) (by omega) ⟨i+1, rfl, by omega, ?_, ?_, rfl⟩
   · intro j hj
     rcases Nat.lt_succ_iff_lt_or_eq.1 hj with hj | rfl
     · exact hinv j hj
     exact and3_t h25
   rw [wrap64 (by omega) (by omega)]; rfl
 intro h14
 have hr : sameL sameRoot x y = true := sameL_good hxy (fun j hj => hinv j (by simp at h14; omega))
 refine W_exit (xT ?_)
 refine xH [4] ?_
 refine W_ret (xR (by simp [Tryz.f81]; exact .mk) ?_)
 simp [Tryz.f81, hr]

open Go.Awp
open Go.Awp
theorem ct77 (g : Gl) (l : List Root) (hl : l.length ≤ 2^40) : CtAt Tryz.prog g 77 [rR l] (oR l) := by
 refine xA Tryz.func77 fun B S => ?_
 refine xU ?_
 refine xH [0] ?_
 refine W_seq (W_seq ?_)
 refine W_region rfl (WR_cut (hard := []) [0] [1] ?_)
 refine xO ?_
 refine xE [0,3] ?_
 refine WR_nilcmp rfl rfl rfl (.inl rfl) rfl ⟨_, Tryz.underlying25⟩ (by simp; rfl) ?_
 intro nb hnb
 refine WR_run (hard := []) ?_
 refine xQ [0,4] ?_ ?_
 · intro h4
   have hl0 : l = [] := List.eq_nil_of_length_eq_zero (hnb (by simpa using h4))
   subst hl0
   refine xU ?_
   refine xH [2] ?_
   refine W_ret (xR (by simp [Tryz.f77]; exact .mk) ?_)
   simp [Tryz.f77, ownR]
 intro h4
 refine W_skip fun _ => ?_
 refine W_seq ?_
 have e1 : l.length * 32 ≤ 140737488355328 := by omega
 have e2 : l.length ≤ 140737488355328 := by omega
 have e3 : l.length * 8 ≤ 140737488355328 := by omega
 refine xY ?_
 refine xO2 ?_
 refine xO ?_ (h := by simp [rows, e1, e2, e3]; exact .mk)
 refine xH [2] ?_
 refine W_ret (xR (by simp [Tryz.f77]; exact .mk) ?_)
 simp [Tryz.f77, ownR]

theorem ct79 (g : Gl) (l : List UInt8) (hl : l.length ≤ 2^40) : CtAt Tryz.prog g 79 [rB l] (oB l) := by
 refine xA Tryz.func79 fun B S => ?_
 refine xU ?_
 refine xH [0] ?_
 refine W_seq (W_seq ?_)
 refine W_region rfl (WR_cut (hard := []) [0] [1] ?_)
 refine xO ?_
 refine xE [0,3] ?_
 refine WR_nilcmp rfl rfl rfl (.inl rfl) rfl ⟨_, Tryz.underlying71⟩ (by simp; rfl) ?_
 intro nb hnb
 refine WR_run (hard := []) ?_
 refine xQ [0,4] ?_ ?_
 · intro h4
   have hl0 : l = [] := List.eq_nil_of_length_eq_zero (hnb (by simpa using h4))
   subst hl0
   refine xU ?_
   refine xH [2] ?_
   refine W_ret (xR (by simp [Tryz.f79]; exact .mk) ?_)
   simp [Tryz.f79, ownR]
 intro h4
 refine W_skip fun _ => ?_
 refine W_seq ?_
 have e1 : l.length * 32 ≤ 140737488355328 := by omega
 have e2 : l.length ≤ 140737488355328 := by omega
 have e3 : l.length * 8 ≤ 140737488355328 := by omega
 refine xY ?_
 refine xO2 ?_
 refine xO ?_ (h := by simp [rows, e1, e2, e3]; exact .mk)
 refine xH [2] ?_
 refine W_ret (xR (by simp [Tryz.f79]; exact .mk) ?_)
 simp [Tryz.f79, ownR]

open Go.Awp
open Go.Awp
open Go.Awp
open Go.Awp
@[simp] theorem eqOk23 : eqOk Tryz.prog 23 = true := by kernel_rfl
def sameShape (a b : Shape) : Bool := a.pages == b.pages && (a.slots == b.slots && (a.roots == b.roots && a.room == b.room))
def sameSlot (a b : Slot) : Bool := a.gen == b.gen && (a.live == b.live && (a.two == b.two && (a.at_ == b.at_ && a.len == b.len)))
def sameB (x y : List (List UInt8)) : Bool := sameL (fun x y => (str x).toList == (str y).toList) x y
def sameStt (a b : Stt) : Bool := sameShape a.sh b.sh && (a.mode == b.mode && (a.base == b.base && (sameL sameSlot a.slots b.slots && (sameL sameRoot a.roots b.roots && sameB a.data b.data))))

theorem sameStt_refl (a : Stt) : sameStt a a = true := by
 simp only [sameStt, sameB, sameShape]
 rw [sameL_refl (fun s => by simp [sameSlot]), sameL_refl (fun s => by simp [sameRoot]), sameL_refl (fun s => by simp)]
 simp
def okMode (mode : Int) : Bool := decide (mode = 1 ∨ mode = 2)
def newR (sh : Shape) (mode : Int) : Stt × Int := if shapeS sh && okMode mode then (firstStt sh mode, 0) else (zStt, 1)
open Go.Awp
theorem ct76 (g : Gl) (l : List Slot) (hl : l.length ≤ 2^40) : CtAt Tryz.prog g 76 [rSl l] (oSl l) := by
 refine xA Tryz.func76 fun B S => ?_
 refine xU ?_
 refine xH [0] ?_
 refine W_seq (W_seq ?_)
 refine W_region rfl (WR_cut (hard := []) [0] [1] ?_)
 refine xO ?_
 refine xE [0,3] ?_
 refine WR_nilcmp rfl rfl rfl (.inl rfl) rfl ⟨_, Tryz.underlying24⟩ (by simp; rfl) ?_
 intro nb hnb
 refine WR_run (hard := []) ?_
 refine xQ [0,4] ?_ ?_
 · intro h4
   have hl0 : l = [] := List.eq_nil_of_length_eq_zero (hnb (by simpa using h4))
   subst hl0
   refine xU ?_
   refine xH [2] ?_
   refine W_ret (xR (by simp [Tryz.f76]; exact .mk) ?_)
   simp [Tryz.f76, ownR]
 intro h4
 refine W_skip fun _ => ?_
 refine W_seq ?_
 have e1 : l.length * 32 ≤ 140737488355328 := by omega
 have e2 : l.length ≤ 140737488355328 := by omega
 refine xY ?_
 refine xO2 ?_
 refine xO ?_ (h := by simp [rows, e1, e2]; exact .mk)
 refine xH [2] ?_
 refine W_ret (xR (by simp [Tryz.f76]; exact .mk) ?_)
 simp [Tryz.f76, ownR]

theorem in78q (g : Gl) (o0 o1 o2 o3 : Awp.Obj) (l : List (List UInt8)) (hl : l.length ≤ 2^40) : ∀ B S, CallsA Tryz.prog g B S ⟨4, true⟩ 78 [.d (rBB l)] [o0, o1, o2, o3]
    (fun x r => x = .hdr 5 0 l.length ∧ r = [o0, o1, o2, o3, .dead, .row 1 (l.map rB)]) := by
 refine callsA_at Tryz.func78 rfl (Nat.le_of_ble_eq_true rfl) fun B S => ?_
 refine xU ?_
 refine xH [0] ?_
 refine W_seq (W_seq ?_)
 refine W_region rfl (WR_cut (hard := []) [0] [1] ?_)
 refine xO ?_
 refine xE [0,3] ?_
 refine WR_nilcmp rfl rfl rfl (.inl rfl) rfl ⟨_, Tryz.underlying26⟩ (by simp; rfl) ?_
 intro nb hnb
 refine WR_run (hard := []) ?_
 refine xQ [0,4] ?_ ?_
 · intro h4
   have hl0 : l = [] := List.eq_nil_of_length_eq_zero (hnb (by simpa using h4))
   subst hl0
   refine xU ?_
   refine xO ?_
   refine xE [2] ?_
   refine then_weak Weak.pad ?_
   refine then_weak (s2 := slots [(2, .hdr 5 0 0), (2, .d (.v (.slice none 0 0)))]) (objs2 := [o0, o1, o2, o3, .dead, .row 1 []]) (Weak.nilRow 2 1 rfl) ?_
   rintro -
   refine W_ret (endAt_ret (by simp [Tryz.f78]; exact .mk) ?_ ?_)
   · simp
   simp
 intro h4
 refine W_skip fun _ => ?_
 refine W_seq ?_
 have e1 : l.length * 24 ≤ 140737488355328 := by omega
 have e2 : l.length ≤ 140737488355328 := by omega
 refine xY ?_
 refine xO2 ?_
 refine xO ?_ (h := by simp [rows, e1, e2]; exact .mk)
 refine xH [2] ?_
 refine W_ret (endAt_ret (by simp [Tryz.f78]; exact .mk) ?_ ?_)
 · simp
 simp

theorem ct24 (g : Gl) (s : Stt) (hs : s.Ok) : CtAt Tryz.prog g 24 [eStt s] (oStt s) := by
 refine xA Tryz.func24 fun B S => ?_
 simp only [eStt, List.map, argD_agg]
 refine xU ?_
 refine xH2 [1,2] ?_
 refine W_seq ?_
 refine W_regD (by kernel_rfl) [] 4 [0,1,3,4,6,7,2,9,5,8,10,11,12,13,14] (by decide +kernel) ?_
 iterate 6 refine xO ?_
 refine xC (ct76 g _ hs.h1) ?_
 refine xO ?_
 refine xC (ct77 g _ hs.h2) ?_
 refine run_inl0 rfl rfl rfl rfl (by simp; exact .mk) ⟨_, Tryz.func78, rfl, rfl⟩ (in78q g _ _ _ _ s.data hs.h3) (.inr ⟨_, rfl⟩) ?_
 refine xOs ?_
 refine xO ?_
 refine xOs ?_
 refine xO ?_
 refine xOs ?_
 refine xF [1,2] ?_
 refine W_seq (xU ?_)
 refine xO4 ?_
 refine xF [1,2,18,19] ?_
 refine W_block (W_rounds (fun m σ r => ∃ i : Nat, m = s.data.length - i ∧ i ≤ s.data.length ∧ σ = slots [(1, .ptr 0 0 0), (2, .ptr 1 0 0), (18, .d (vI s.data.length)), (19, .d (vI i))] ∧ r = [.var 28 [.d (vI s.sh.pages), .d (vI s.sh.slots), .d (vI s.sh.roots), .d (vI s.sh.room), .d (vI s.mode), .d (vI s.base), .hdr 2 0 s.slots.length, .hdr 3 0 s.roots.length, .hdr 5 0 s.data.length], .var 28 [.d (vI 0), .d (vI 0), .d (vI 0), .d (vI 0), .d (vI 0), .d (vI 0), .d (.v (.slice none 0 0)), .d (.v (.slice none 0 0)), .d (.v (.slice none 0 0))], .row 5 (s.slots.map eSlot), .row 3 (s.roots.map eRoot), .dead, .row 1 (mixB i s.data)]) s.data.length .refl ⟨0, by simp, by simp, rfl, by rw [mixB_zero]⟩ ?_)
 have q2 := hs.h3
 rintro m σ r ⟨i, rfl, hi, rfl, rfl⟩ _
 refine xU ?_
 refine xH [1,2,18,19,20] ?_
 refine W_seq (W_cond rfl ?_ ?_)
 · intro h20
   have hi2 : i < s.data.length := by simpa using h20
   refine W_skip fun _ => ?_
   refine W_seq (W_block ?_)
   refine xU ?_
   refine xH2 [1,2,3,18,19] ?_
   refine W_regD (by kernel_rfl) [] 4 [0,1,2,3,4,5,6,7,8,9,10] (by decide +kernel) ?_
   iterate 6 refine xO ?_
   refine xO ?_ (h := by simp [hi2]; exact .mk)
   refine xO ?_ (h := by simp [-List.getElem?_map, mixB_get hi2]; exact .mk)
   refine xC (ct79 g _ (hs.h4 i hi2)) ?_
   refine xO ?_ (h := by simp [hi2]; exact .mk)
   refine xO ?_ (h := by simp [splice, -List.getElem?_map, mixB_get hi2, nrmL, nrm, putC]; exact .mk)
   refine xF [1,2,18,19] ?_
   refine xY ?_
   refine xO2 ?_
   refine xE [1,2,18,19] ?_
   refine rounds_drop 6 [1,2,18,19] (by simp) (by simp [boxA, AV.cells, AV.isCell]) (by simp [boxA, AV.cells, AV.isCell]) ?_
   refine rounds_next (m' := s.data.length - (i+1)) (by omega) ⟨i+1, rfl, by omega, ?_, ?_⟩
   · rw [wrap64 (by omega) (by omega)]; rfl
   rw [← mixB_set hi2]; simp; rfl
 intro h20
 obtain rfl : i = s.data.length := by simp at h20; omega
 rw [mixB_all]
 refine W_exit (xT ?_)
 refine xO ?_
 refine xOs ?_
 refine xF [2] ?_
 refine W_ret (end_ret (by simp [Tryz.f24]; exact .mk) (by simp; exact .mk) ?_ (by simp [oStt]))
 simp [Tryz.f24, oStt, ownR]

open Go.Awp
def liveT (l : List Slot) (k : Int) : Bool := decide (0 ≤ k) && (decide (k < l.length) && (nth l k.toNat).live)
def liveS (s : Stt) (k : Int) : Bool := sttS s && liveT s.slots k
def goneS (x : Slot) : Slot := ⟨if 65535 < x.gen + 1 then 65535 else x.gen + 1, false, false, 0, 0⟩
def freeT (l : List Slot) (k : Int) : List Slot × Int := if tableS l = true ∧ liveT l k = true then (l.set k.toNat (goneS (nth l k.toNat)), 0) else ([], 1)
def atS (x : Slot) (two : Bool) (at_ : Int) : Slot := { x with two := two, at_ := at_ }
def layAt (s : Stt) (k : Nat) (two : Bool) (at_ : Int) : Stt := { s with slots := s.slots.set k (atS (nth s.slots k) two at_) }
theorem liveT_nat {l : List Slot} {k : Int} (h : liveT l k = true) : ∃ n : Nat, k = n ∧ n < l.length ∧ (nth l n).live = true := by
 simp only [liveT, Bool.and_eq_true, decide_eq_true_eq] at h
 obtain ⟨h1, h2, h3⟩ := h
 exact ⟨k.toNat, by omega, by omega, h3⟩
theorem rowsS_len {s : Stt} (h : rowsS s = true) : s.data.length = s.slots.length := by
 simp only [rowsS, Bool.and_eq_true, decide_eq_true_eq] at h; exact h.1.2.2
theorem sttS_rowsS {s : Stt} (h : sttS s = true) : rowsS s = true := (sttS_iff.1 h).2.1
theorem liveS_nat {s : Stt} {k : Int} (h : liveS s k = true) : ∃ n : Nat, k = n ∧ n < s.slots.length ∧ (nth s.slots n).live = true ∧ n < s.data.length ∧ ∀ i, i < s.slots.length → -2^40 ≤ (nth s.slots i).gen ∧ (nth s.slots i).gen ≤ 2^40 := by
 simp only [liveS, Bool.and_eq_true] at h
 obtain ⟨n, h1, h2, h3⟩ := liveT_nat h.2
 have hr := sttS_rowsS h.1
 refine ⟨n, h1, h2, h3, by rw [rowsS_len hr]; exact h2, fun i hi => ?_⟩
 have := tableS_slot (rowsS_t hr) i hi
 unfold slotS1 at this
 split at this
 · cases this
 · omega
def takeAt (s : Stt) (n : Nat) : Stt := { s with slots := s.slots.set n (goneS (nth s.slots n)), data := s.data.set n [] }
def takeS (s : Stt) (k : Int) : Stt × Int := if liveS s k = true then (takeAt s k.toNat, 0) else (zStt, 1)
def moveS (s : Stt) (k : Int) (two : Bool) (at_ : Int) : Stt × Int := if liveS s k = true then (if sttS (layAt s k.toNat two at_) = true then (layAt s k.toNat two at_, 0) else (zStt, 10)) else (zStt, 1)
theorem layAt_ok {s : Stt} {n : Nat} {two : Bool} {at_ : Int} (h : s.Ok) : (layAt s n two at_).Ok := ⟨by simpa [layAt] using h.h1, h.h2, h.h3, h.h4, h.h5⟩
def tookS (x : Slot) (gen : Int) : Slot := { x with live := true, gen := gen }
def takeT (l : List Slot) (x : Slot) : List Slot × (Int × Int) × Int := if tableS l = true then (match nextS l with
  | none => ([], (0, 0), 9)
  | some k => if slotS1 (tookS x (nth l k).gen) = true then (l.set k (tookS x (nth l k).gen), ((k : Int), (nth l k).gen), 0) else ([], (0, 0), 1)) else ([], (0, 0), 1)
open Go.Awp
theorem ct111 (g : Gl) (s : Stt) (hs : s.Ok) (k : Int) : CtAt Tryz.prog g 111 [eStt s, vI k] (.v (.bool (liveS s k))) := by
 refine xA Tryz.func111 fun B S => ?_
 simp only [eStt, List.map, argD_agg, argD_v]
 refine xU ?_
 refine xO2 ?_
 refine xG [1,2] ?_
 refine xOl ?_
 refine xC (ct32 g s hs) ?_
 refine xO ?_
 iterate 2 refine xI ?_
 refine xP ?_
 refine xB ?_
 iterate 2 refine xI ?_
 refine xI ?_ (h := fun hb => by simp [eSlot]; exact .mk)
 iterate 2 refine xI ?_
 refine xP ?_
 refine xB ?_
 refine xI ?_
 refine xI ?_ (h := fun hb => by simp [eSlot]; exact .mk)
 refine xI ?_
 refine run_if rfl (by simp; exact .mk) rfl (by simp <;> first | omega | grind) (fun hb => by simp at hb; simp [show 0 ≤ k ∧ k < s.slots.length from by omega]; exact .mk) ?_
 refine xI ?_
 refine xI ?_ (h := fun hb => by simp [eSlot]; exact .mk)
 refine xP ?_
 refine xB ?_
 refine xF [4] ?_
 refine W_ret (xR (by simp [Tryz.f111]; exact .mk) ?_)
 simp [Tryz.f111, liveS, liveT, Bool.and_assoc]

theorem ct113 (g : Gl) (s : Stt) (hs : s.Ok) (k : Nat) (two : Bool) (at_ : Int) (hk : k < s.slots.length) : CtAt Tryz.prog g 113 [eStt s, vI k, vT two, vI at_] (oStt (layAt s k two at_)) := by
 refine xA Tryz.func113 fun B S => ?_
 simp only [eStt, List.map, argD_agg, argD_v]
 refine xU ?_
 refine xO2 ?_
 refine xG [1,2,3,4,8] ?_
 refine xOl ?_
 refine xC (ct24 g s hs) ?_ (hi := by simp [oStt]; exact .mk)
 refine xO ?_
 refine xOs ?_
 refine xF [1,2,3,8,9] ?_
 refine W_seq ?_
 refine W_regD2 (hard := []) 4 10 (keepOk_lt (by decide)) (by kernel_rfl) 4 [0,1,2,3,4,5,6,7,8,9,10,11,12,13] [0,1,2,3,5,6,7,8,9,10,4,11,12,13] (by decide +kernel) (by decide +kernel) ?_ ?_
 · skip
   refine xO ?_
   refine xOl ?_
   refine xO2 ?_
   refine xOl ?_
   refine xO3 ?_
   refine xO ?_ (h := by simp [eSlot, hk]; exact .mk)
   refine xO ?_
   refine xO ?_ (h := by simp [splice, hk, nrmL, nrm, putC, eSlot, splice]; exact .mk)
   refine xO ?_ (h := by simp [eSlot, hk]; exact .mk)
   refine xO ?_
   refine xO ?_ (h := by simp [splice, hk, nrmL, nrm, putC, eSlot, splice]; exact .mk)
   refine xG [8,9] ?_
   refine xOl ?_
   refine xOs ?_
   refine xF [8] ?_
   refine W_ret (end_ret (by simp [Tryz.f113]; exact .mk) (by simp; exact .mk) ?_ (by simp [oStt]))
   simp [Tryz.f113, oStt, ownR, layAt, List.map_set]
   rw [nth_eq hk]; rfl
 skip
 refine xO ?_
 refine xOl ?_
 refine xO5 ?_
 refine xO ?_ (h := by simp [eSlot, hk]; exact .mk)
 refine xO ?_
 refine xO ?_ (h := by simp [splice, hk, nrmL, nrm, putC, eSlot, splice]; exact .mk)
 refine xOl ?_
 refine xO ?_ (h := by simp [eSlot, hk]; exact .mk)
 refine xO ?_
 refine xO ?_ (h := by simp [splice, hk, nrmL, nrm, putC, eSlot, splice]; exact .mk)
 refine xG [8,9] ?_
 refine xOl ?_
 refine xOs ?_
 refine xF [8] ?_
 refine W_ret (end_ret (by simp [Tryz.f113]; exact .mk) (by simp; exact .mk) ?_ (by simp [oStt]))
 simp [Tryz.f113, oStt, ownR, layAt, List.map_set]
 rw [nth_eq hk]; rfl

theorem ct45 (g : Gl) (s : Stt) (hs : s.Ok) (k : Int) (two : Bool) (at_ : Int) : CtAt Tryz.prog g 45 [eStt s, vI k, vT two, vI at_] (.tup [oStt (moveS s k two at_).1, vI (moveS s k two at_).2]) := by
 refine xA Tryz.func45 fun B S => ?_
 simp only [eStt, List.map, argD_agg, argD_v]
 refine xU ?_
 refine xH3 [1,2,3,4,8] ?_
 refine W_seq (xU ?_)
 refine xOl ?_
 refine xO ?_
 refine xC (ct111 g s hs k) ?_ (he := by simp [row_rows, Function.comp_def]; exact .mk) (hi := by simp [oStt]; exact .mk)
 refine xO ?_
 refine xQ [1,2,3,4,8,14] ?_ ?_
 · intro h14
   have hr : moveS s k two at_ = (zStt, 1) := by unfold moveS; rw [if_neg (by simpa using h14)]
   refine xU ?_
   iterate 2 (refine xOs ?_)
   refine xH [8,9] ?_
   refine W_ret (end_ret (by simp [Tryz.f45]; exact .mk) (by simp; exact .mk) ?_ (by simp [oStt]))
   simp [Tryz.f45, hr, oStt, zStt, ownR, layAt, List.map_set]
 intro h14
 have hlv : liveS s k = true := by simpa using h14
 obtain ⟨n, rfl, hn, hnl, hnd, hg⟩ := liveS_nat hlv
 refine W_skip ?_
 refine xT ?_
 refine xOl ?_
 refine xO3 ?_
 refine xC (ct113 g s hs n two at_ hn) ?_ (he := by simp [row_rows, Function.comp_def]; exact .mk) (hi := by simp [oStt]; exact .mk)
 refine xO ?_
 refine xOs ?_
 refine xF [8,10] ?_
 refine W_seq (xU ?_)
 refine xOl ?_
 refine run_call0 rfl rfl rfl rfl (by simp; exact .mk) (by simp [row_rows, Function.comp_def]; exact .mk) (by have := ct32 g (layAt s n two at_) (layAt_ok hs); exact this) (by simp) (by simp [oStt]; exact .mk) ?_
 refine xO ?_
 refine xQ [8,10,23] ?_ ?_
 · intro h23
   have hr : moveS s n two at_ = (zStt, 10) := by unfold moveS; rw [if_pos hlv, if_neg (by simpa using h23)]
   refine xU ?_
   iterate 2 (refine xOs ?_)
   refine xH [8,9] ?_
   refine W_ret (end_ret (by simp [Tryz.f45]; exact .mk) (by simp; exact .mk) ?_ (by simp [oStt]))
   simp [Tryz.f45, hr, oStt, zStt, ownR, layAt, List.map_set]
 intro h23
 have hr : moveS s n two at_ = (layAt s n two at_, 0) := by unfold moveS; rw [if_pos hlv, if_pos (by simpa using h23)]; rfl
 refine W_skip ?_
 refine xT ?_
 refine xOl ?_
 refine xOs ?_
 refine xH [8,9] ?_
 refine W_ret (end_ret (by simp [Tryz.f45]; exact .mk) (by simp; exact .mk) ?_ (by simp [oStt]))
 simp [Tryz.f45, hr, oStt, zStt, ownR, layAt, List.map_set]

open Go.Awp
theorem ct110 (g : Gl) (l : List Slot) (hl : l.length ≤ 2^40) (x : Slot) : CtAt Tryz.prog g 110 [rSl l, eSlot x] (.tup [oSl (takeT l x).1, .agg [vI (takeT l x).2.1.1, vI (takeT l x).2.1.2], vI (takeT l x).2.2]) := by
 refine xA Tryz.func110 fun B S => ?_
 simp only [eSlot, List.map, argD_agg]
 refine xU ?_
 refine xO4 ?_
 refine xF [0,3,5] ?_
 refine W_seq (xU ?_)
 refine xO ?_
 refine xC (ct139 g l hl) ?_
 refine xO ?_
 refine xQ [0,3,5,11] ?_ ?_
 · intro h11
   have hr : takeT l x = ([], (0, 0), 1) := by unfold takeT; rw [if_neg (by simpa using h11)]
   refine xU ?_
   refine xOs ?_
   refine xO ?_
   refine xOs ?_
   refine xH [4,5,6] ?_
   refine W_ret (xR (by simp [Tryz.f110]; exact .mk) ?_)
   first | (simp [Tryz.f110, hr, ownR, List.map_set]; done) | simp [Tryz.f110, hr, ownR, List.map_set, hk]
 intro h11
 have ht : tableS l = true := by simpa using h11
 refine W_skip ?_
 refine xT ?_
 refine xO ?_
 refine xC (ct109 g l hl) ?_
 refine xO5 ?_
 refine xF [0,3,5,7,8] ?_
 refine W_seq (xU ?_)
 refine xO2 ?_
 refine xQ [0,3,5,7,19] ?_ ?_
 · intro h19
   have hn : nextS l = none := by simpa using h19
   have hr : takeT l x = ([], (0, 0), 9) := by unfold takeT; rw [if_pos ht, hn]
   refine xU ?_
   refine xOs ?_
   refine xO ?_
   refine xOs ?_
   refine xH [4,5,6] ?_
   refine W_ret (xR (by simp [Tryz.f110]; exact .mk) ?_)
   first | (simp [Tryz.f110, hr, ownR, List.map_set]; done) | simp [Tryz.f110, hr, ownR, List.map_set, hk]
 intro h19
 obtain ⟨k, hk⟩ : ∃ k, nextS l = some k := Option.isSome_iff_exists.1 (by simpa using h19)
 obtain ⟨hkl, _, _⟩ := nextS_spec hk
 have hkk : (((nextS l).getD 0 : Nat) : Int) = k := by rw [hk]; rfl
 refine W_skip fun _ => ?_
 refine W_seq ?_
 refine W_regDT (hard := []) [2,3,4,6] (keepOk_lt (by decide)) (by kernel_rfl) 4 [[0,1,2,3,4,5,6,7,8], [0,1,2,3,5,6,4,7,8], [0,1,2,5,6,3,4,7,8], [0,1,5,6,2,3,4,7,8]] (by decide +kernel) ⟨?_, ?_, ?_, ?_, trivial⟩
 · skip
   refine xO2 ?_
   refine xO ?_ (h := by simp [eSlot, hk, hkl]; exact .mk)
   refine xO ?_
   refine xOl ?_
   refine xO ?_
   refine xO ?_ (h := by simp [splice, nrmL, nrm, putC, splice]; exact .mk)
   refine xO ?_
   refine xO ?_ (h := by simp [splice, nrmL, nrm, putC, splice]; exact .mk)
   refine xF [0,3,5,7] ?_
   refine W_seq (xU ?_)
   refine xOl ?_
   refine run_call0 rfl rfl rfl rfl (by simp; exact .mk) (by simp; exact .mk) (by have := ct161 g (tookS x (nth l k).gen); exact this) (by simp) (by simp; exact .mk) ?_
   refine xO ?_
   refine xQ [0,3,5,7,30] ?_ ?_
   · intro h30
     have hr : takeT l x = ([], (0, 0), 1) := by unfold takeT; rw [if_pos ht, hk]; simp only; rw [if_neg (by simpa using h30)]
     refine xU ?_
     refine xOs ?_
     refine xO ?_
     refine xOs ?_
     refine xH [4,5,6] ?_
     refine W_ret (xR (by simp [Tryz.f110]; exact .mk) ?_)
     first | (simp [Tryz.f110, hr, ownR, List.map_set]; done) | simp [Tryz.f110, hr, ownR, List.map_set, hk]
   intro h30
   have hr : takeT l x = (l.set k (tookS x (nth l k).gen), ((k : Int), (nth l k).gen), 0) := by unfold takeT; rw [if_pos ht, hk]; simp only; rw [if_pos (by simpa using h30)]
   refine W_skip fun _ => ?_
   refine W_seq ?_
   refine W_regD (by kernel_rfl) [] 4 [0,1,2,4,5,6,7,3,8,9,10] (by decide +kernel) ?_
   refine xO2 ?_
   refine xOl ?_
   refine xO2 ?_
   refine xOl ?_
   refine xOs ?_
   refine run_call0 rfl rfl rfl rfl (by simp; exact .mk) (by simp; exact .mk) (by have := ct162 g l k (tookS x (nth l k).gen) hl hkl; rw [← hkk] at this; exact this) (by simp) (by simp; exact .mk) ?_
   refine xO ?_
   refine xOs ?_
   refine xH [4,5,6] ?_
   refine W_ret (xR (by simp [Tryz.f110]; exact .mk) ?_)
   first | (simp [Tryz.f110, hr, ownR, List.map_set]; done) | simp [Tryz.f110, hr, ownR, List.map_set, hk]
 · skip
   refine xO2 ?_
   refine xO ?_ (h := by simp [eSlot, hk, hkl]; exact .mk)
   refine xO2 ?_
   refine xO ?_ (h := by simp [splice, nrmL, nrm, putC, splice]; exact .mk)
   refine xOl ?_
   refine xO ?_
   refine xO ?_ (h := by simp [splice, nrmL, nrm, putC, splice]; exact .mk)
   refine xF [0,3,5,7] ?_
   refine W_seq (xU ?_)
   refine xOl ?_
   refine run_call0 rfl rfl rfl rfl (by simp; exact .mk) (by simp; exact .mk) (by have := ct161 g (tookS x (nth l k).gen); exact this) (by simp) (by simp; exact .mk) ?_
   refine xO ?_
   refine xQ [0,3,5,7,30] ?_ ?_
   · intro h30
     have hr : takeT l x = ([], (0, 0), 1) := by unfold takeT; rw [if_pos ht, hk]; simp only; rw [if_neg (by simpa using h30)]
     refine xU ?_
     refine xOs ?_
     refine xO ?_
     refine xOs ?_
     refine xH [4,5,6] ?_
     refine W_ret (xR (by simp [Tryz.f110]; exact .mk) ?_)
     first | (simp [Tryz.f110, hr, ownR, List.map_set]; done) | simp [Tryz.f110, hr, ownR, List.map_set, hk]
   intro h30
   have hr : takeT l x = (l.set k (tookS x (nth l k).gen), ((k : Int), (nth l k).gen), 0) := by unfold takeT; rw [if_pos ht, hk]; simp only; rw [if_pos (by simpa using h30)]
   refine W_skip fun _ => ?_
   refine W_seq ?_
   refine W_regD (by kernel_rfl) [] 4 [0,1,2,4,5,6,7,3,8,9,10] (by decide +kernel) ?_
   refine xO2 ?_
   refine xOl ?_
   refine xO2 ?_
   refine xOl ?_
   refine xOs ?_
   refine run_call0 rfl rfl rfl rfl (by simp; exact .mk) (by simp; exact .mk) (by have := ct162 g l k (tookS x (nth l k).gen) hl hkl; rw [← hkk] at this; exact this) (by simp) (by simp; exact .mk) ?_
   refine xO ?_
   refine xOs ?_
   refine xH [4,5,6] ?_
   refine W_ret (xR (by simp [Tryz.f110]; exact .mk) ?_)
   first | (simp [Tryz.f110, hr, ownR, List.map_set]; done) | simp [Tryz.f110, hr, ownR, List.map_set, hk]
 · skip
   refine xO2 ?_
   refine xO ?_ (h := by simp [eSlot, hk, hkl]; exact .mk)
   refine xO ?_
   refine xO ?_ (h := by simp [splice, nrmL, nrm, putC, splice]; exact .mk)
   refine xO ?_
   refine xOl ?_
   refine xO ?_
   refine xO ?_ (h := by simp [splice, nrmL, nrm, putC, splice]; exact .mk)
   refine xF [0,3,5,7] ?_
   refine W_seq (xU ?_)
   refine xOl ?_
   refine run_call0 rfl rfl rfl rfl (by simp; exact .mk) (by simp; exact .mk) (by have := ct161 g (tookS x (nth l k).gen); exact this) (by simp) (by simp; exact .mk) ?_
   refine xO ?_
   refine xQ [0,3,5,7,30] ?_ ?_
   · intro h30
     have hr : takeT l x = ([], (0, 0), 1) := by unfold takeT; rw [if_pos ht, hk]; simp only; rw [if_neg (by simpa using h30)]
     refine xU ?_
     refine xOs ?_
     refine xO ?_
     refine xOs ?_
     refine xH [4,5,6] ?_
     refine W_ret (xR (by simp [Tryz.f110]; exact .mk) ?_)
     first | (simp [Tryz.f110, hr, ownR, List.map_set]; done) | simp [Tryz.f110, hr, ownR, List.map_set, hk]
   intro h30
   have hr : takeT l x = (l.set k (tookS x (nth l k).gen), ((k : Int), (nth l k).gen), 0) := by unfold takeT; rw [if_pos ht, hk]; simp only; rw [if_pos (by simpa using h30)]
   refine W_skip fun _ => ?_
   refine W_seq ?_
   refine W_regD (by kernel_rfl) [] 4 [0,1,2,4,5,6,7,3,8,9,10] (by decide +kernel) ?_
   refine xO2 ?_
   refine xOl ?_
   refine xO2 ?_
   refine xOl ?_
   refine xOs ?_
   refine run_call0 rfl rfl rfl rfl (by simp; exact .mk) (by simp; exact .mk) (by have := ct162 g l k (tookS x (nth l k).gen) hl hkl; rw [← hkk] at this; exact this) (by simp) (by simp; exact .mk) ?_
   refine xO ?_
   refine xOs ?_
   refine xH [4,5,6] ?_
   refine W_ret (xR (by simp [Tryz.f110]; exact .mk) ?_)
   first | (simp [Tryz.f110, hr, ownR, List.map_set]; done) | simp [Tryz.f110, hr, ownR, List.map_set, hk]
 skip
 refine xO3 ?_
 refine xO ?_ (h := by simp [splice, nrmL, nrm, putC, splice]; exact .mk)
 refine xO ?_ (h := by simp [eSlot, hk, hkl]; exact .mk)
 refine xO ?_
 refine xOl ?_
 refine xO ?_
 refine xO ?_ (h := by simp [splice, nrmL, nrm, putC, splice]; exact .mk)
 refine xF [0,3,5,7] ?_
 refine W_seq (xU ?_)
 refine xOl ?_
 refine run_call0 rfl rfl rfl rfl (by simp; exact .mk) (by simp; exact .mk) (by have := ct161 g (tookS x (nth l k).gen); exact this) (by simp) (by simp; exact .mk) ?_
 refine xO ?_
 refine xQ [0,3,5,7,30] ?_ ?_
 · intro h30
   have hr : takeT l x = ([], (0, 0), 1) := by unfold takeT; rw [if_pos ht, hk]; simp only; rw [if_neg (by simpa using h30)]
   refine xU ?_
   refine xOs ?_
   refine xO ?_
   refine xOs ?_
   refine xH [4,5,6] ?_
   refine W_ret (xR (by simp [Tryz.f110]; exact .mk) ?_)
   first | (simp [Tryz.f110, hr, ownR, List.map_set]; done) | simp [Tryz.f110, hr, ownR, List.map_set, hk]
 intro h30
 have hr : takeT l x = (l.set k (tookS x (nth l k).gen), ((k : Int), (nth l k).gen), 0) := by unfold takeT; rw [if_pos ht, hk]; simp only; rw [if_pos (by simpa using h30)]
 refine W_skip fun _ => ?_
 refine W_seq ?_
 refine W_regD (by kernel_rfl) [] 4 [0,1,2,4,5,6,7,3,8,9,10] (by decide +kernel) ?_
 refine xO2 ?_
 refine xOl ?_
 refine xO2 ?_
 refine xOl ?_
 refine xOs ?_
 refine run_call0 rfl rfl rfl rfl (by simp; exact .mk) (by simp; exact .mk) (by have := ct162 g l k (tookS x (nth l k).gen) hl hkl; rw [← hkk] at this; exact this) (by simp) (by simp; exact .mk) ?_
 refine xO ?_
 refine xOs ?_
 refine xH [4,5,6] ?_
 refine W_ret (xR (by simp [Tryz.f110]; exact .mk) ?_)
 first | (simp [Tryz.f110, hr, ownR, List.map_set]; done) | simp [Tryz.f110, hr, ownR, List.map_set, hk]

theorem ct108 (g : Gl) (e : Int) : CtAt Tryz.prog g 108 [vI e] (.tup [oStt zStt, .agg [vI 0, vI 0], vI e]) := by
 refine xA Tryz.func108 fun B S => ?_
 refine xU ?_
 refine xO3 ?_
 refine xG [0,2,3] ?_
 iterate 2 (refine xOs ?_)
 refine xO ?_
 iterate 2 (refine xOs ?_)
 refine xH [2,3,4] ?_
 refine W_ret (xR (by simp [Tryz.f108]; exact .mk) ?_)
 simp [Tryz.f108, oStt, zStt, ownR]

open Go.Awp
def betterS (p q : Int × Int) : Bool := decide (p.2 < q.2) || (decide (p.2 = q.2) && decide (p.1 < q.1))
def bestStep (size : Int) (o : Option (Int × Int)) (p : Int × Int) : Option (Int × Int) := if decide (size ≤ p.2) && (!o.isSome || betterS p (o.getD (0, 0))) then some p else o
def bestS (l : List (Int × Int)) (size : Int) : Option (Int × Int) := l.foldl (bestStep size) none
theorem bestS_step {l : List (Int × Int)} {size : Int} {i : Nat} (h : i < l.length) : bestS (l.take (i + 1)) size = bestStep size (bestS (l.take i) size) (nth l i) := by
 rw [take_succ h, bestS, List.foldl_append]; rfl
open Go.Awp
theorem ct235 (g : Gl) (p q : Int × Int) : CtAt Tryz.prog g 235 [eObj p, eObj q] (.v (.bool (betterS p q))) := by
 refine xA Tryz.func235 fun B S => ?_
 simp only [eObj, List.map, argD_agg]
 refine xU ?_
 refine xO3 ?_
 refine xG [2,3] ?_
 iterate 6 refine xO ?_
 iterate 11 refine xI ?_
 iterate 2 refine xP ?_
 refine xB ?_
 refine xF [4] ?_
 refine W_ret (xR (by simp [Tryz.f235]; exact .mk) ?_)
 first | (simp [Tryz.f235, betterS]; done) | (simp [Tryz.f235, betterS] at *; grind)

theorem ct206 (g : Gl) (l : List (Int × Int)) (hl : l.length ≤ 2^40) (size : Int) : CtAt Tryz.prog g 206 [rO l, vI size] (.tup [eObj ((bestS l size).getD (0, 0)), .v (.bool (bestS l size).isSome)]) := by
 refine xA Tryz.func206 fun B S => ?_
 refine xU ?_
 refine xH2 [0,1,4,5] ?_
 refine W_seq (xU ?_)
 refine xH3 [1,4,5,8,9,10] ?_
 refine W_block (W_rounds (fun m σ o => ∃ i : Nat, m = l.length - i ∧ i ≤ l.length ∧ σ = slots [(1, .d (vI size)), (4, .ptr 0 0 0), (5, .d (vT (bestS (l.take i) size).isSome)), (8, .d (rO l)), (9, .d (vI l.length)), (10, .d (vI i))] ∧ o = [.var 115 [.d (vI ((bestS (l.take i) size).getD (0, 0)).1), .d (vI ((bestS (l.take i) size).getD (0, 0)).2)]]) l.length .refl ⟨0, by simp, by simp, by simp; rfl, rfl⟩ ?_)
 rintro m σ o ⟨i, rfl, hi, rfl, rfl⟩ _
 refine xU ?_
 refine xH [1,4,5,8,9,10,11] ?_
 refine W_seq (W_cond rfl ?_ ?_)
 · intro h11
   have hi2 : i < l.length := by simpa using h11
   have hst := bestS_step (size := size) hi2
   refine W_skip fun _ => ?_
   refine W_seq (W_block ?_)
   refine xU ?_
   refine xO ?_ (h := by simp [eObj, *]; exact .mk)
   refine xO ?_ (h := by simp [eObj]; exact .mk)
   refine xO ?_
   refine xOs ?_
   refine xF [1,4,5,7,8,9,10] ?_
   refine W_seq ?_
   rcases hb : bestS (l.take i) size with _ | b
   · skip
     rw [hb] at hst
     refine xY ?_
     refine xO ?_
     refine xO ?_ (h := by simp [eObj]; exact .mk)
     refine xO3 ?_
     iterate 3 refine xI ?_
     iterate 2 (refine xI ?_ (h := fun hb => by simp [eObj]; exact .mk))
     refine run_call rfl (by simp; exact .mk) rfl rfl (by simp) (by simp; exact .mk) (by simp; exact .mk) (fun hb => by have := ct235 g (nth l i) (0, 0); exact this) (by simp) (by simp; exact .mk) (by simp) ?_
     iterate 2 refine xP ?_
     refine xQ [1,4,5,7,8,9,10,26] ?_ ?_
     · intro h26
       have hs : bestS (l.take (i + 1)) size = some (nth l i) := by rw [hst, bestStep, if_pos (by simp at h26 ⊢; grind)]
       refine xY ?_
       refine xO ?_ (h := by simp [eObj]; exact .mk)
       refine xOs ?_
       refine xH [1,4,5,8,9,10] ?_
       refine xY ?_
       refine xO2 ?_
       refine xE [1,4,5,8,9,10] ?_
       refine rounds_drop 1 [1,4,5,8,9,10] (by simp) (by simp [boxA, AV.cells, AV.isCell]) (by simp [boxA, AV.cells, AV.isCell]) ?_
       refine rounds_next (m' := l.length - (i+1)) (by omega) ⟨i+1, rfl, by omega, ?_, ?_⟩
       · rw [wrap64 (by omega) (by omega), hs]; first | rfl | (rw [hb]; rfl)
       rw [hs]; first | rfl | (rw [hb]; rfl)
     intro h26
     have hs : bestS (l.take (i + 1)) size = (bestS (l.take i) size) := by rw [hb, hst, bestStep, if_neg (by simp at h26 ⊢; grind)]
     refine W_skip fun _ => ?_
     refine xY ?_
     refine xO2 ?_
     refine xE [1,4,5,8,9,10] ?_
     refine rounds_drop 1 [1,4,5,8,9,10] (by simp) (by simp [boxA, AV.cells, AV.isCell]) (by simp [boxA, AV.cells, AV.isCell]) ?_
     refine rounds_next (m' := l.length - (i+1)) (by omega) ⟨i+1, rfl, by omega, ?_, ?_⟩
     · rw [wrap64 (by omega) (by omega), hs]; first | rfl | (rw [hb]; rfl)
     rw [hs]; first | rfl | (rw [hb]; rfl)
   skip
   rw [hb] at hst
   refine xY ?_
   refine xO ?_
   refine xO ?_ (h := by simp [eObj]; exact .mk)
   refine xO3 ?_
   iterate 3 refine xI ?_
   iterate 2 (refine xI ?_ (h := fun hb => by simp [eObj]; exact .mk))
   refine run_call rfl (by simp; exact .mk) rfl rfl (by simp) (by simp; exact .mk) (by simp; exact .mk) (fun hb => by have := ct235 g (nth l i) b; exact this) (by simp) (by simp; exact .mk) (by simp) ?_
   iterate 2 refine xP ?_
   refine xQ [1,4,5,7,8,9,10,26] ?_ ?_
   · intro h26
     have hs : bestS (l.take (i + 1)) size = some (nth l i) := by rw [hst, bestStep, if_pos (by simp at h26 ⊢; grind)]
     refine xY ?_
     refine xO ?_ (h := by simp [eObj]; exact .mk)
     refine xOs ?_
     refine xH [1,4,5,8,9,10] ?_
     refine xY ?_
     refine xO2 ?_
     refine xE [1,4,5,8,9,10] ?_
     refine rounds_drop 1 [1,4,5,8,9,10] (by simp) (by simp [boxA, AV.cells, AV.isCell]) (by simp [boxA, AV.cells, AV.isCell]) ?_
     refine rounds_next (m' := l.length - (i+1)) (by omega) ⟨i+1, rfl, by omega, ?_, ?_⟩
     · rw [wrap64 (by omega) (by omega), hs]; first | rfl | (rw [hb]; rfl)
     rw [hs]; first | rfl | (rw [hb]; rfl)
   intro h26
   have hs : bestS (l.take (i + 1)) size = (bestS (l.take i) size) := by rw [hb, hst, bestStep, if_neg (by simp at h26 ⊢; grind)]
   refine W_skip fun _ => ?_
   refine xY ?_
   refine xO2 ?_
   refine xE [1,4,5,8,9,10] ?_
   refine rounds_drop 1 [1,4,5,8,9,10] (by simp) (by simp [boxA, AV.cells, AV.isCell]) (by simp [boxA, AV.cells, AV.isCell]) ?_
   refine rounds_next (m' := l.length - (i+1)) (by omega) ⟨i+1, rfl, by omega, ?_, ?_⟩
   · rw [wrap64 (by omega) (by omega), hs]; first | rfl | (rw [hb]; rfl)
   rw [hs]; first | rfl | (rw [hb]; rfl)
 intro h11
 obtain rfl : i = l.length := by simp at h11; omega
 rw [List.take_length]
 refine W_exit (xT ?_)
 refine xO ?_ (h := by simp [eObj]; exact .mk)
 refine xO ?_
 refine xOs ?_
 refine xH [4,5] ?_
 refine W_ret (xR (by simp [Tryz.f206]; exact .mk) ?_)
 simp [Tryz.f206, eObj]

open Go.Awp
def cellsS (c : Int) : Int × Int := if c < 0 ∨ 6 ≤ c then (0, 1) else ((28 : Int).tdiv (nth wordsL c.toNat), 0)
def cellS (c k : Int) : Int × Int := if c < 0 ∨ 6 ≤ c ∨ k < 0 ∨ (cellsS c).1 ≤ k then (0, 1) else (4 + k * nth wordsL c.toNat, 0)
theorem wordsL_b {k : Nat} (h : k < 6) : nth wordsL k = 2 ∨ nth wordsL k = 3 ∨ nth wordsL k = 5 ∨ nth wordsL k = 7 ∨ nth wordsL k = 10 ∨ nth wordsL k = 15 := wordsL_k h
def gapE (a b : Int) : List (Int × Int) := if a < b then [(a, b - a)] else []
def gapsF (to : Int) : Int → List (Int × Int) → List (Int × Int)
 | a, [] => gapE a to
 | a, p :: l => gapE a p.1 ++ gapsF to (p.1 + p.2) l
theorem gapE_len {a b : Int} : (gapE a b).length ≤ 1 := by unfold gapE; split <;> simp
theorem gapsF_drop {to a : Int} {l : List (Int × Int)} {i : Nat} (h : i < l.length) : gapsF to a (l.drop i) = gapE a (nth l i).1 ++ gapsF to ((nth l i).1 + (nth l i).2) (l.drop (i + 1)) := by
 rw [List.drop_eq_getElem_cons h, nth_eq h]; rfl
open Go.Awp
theorem gapsF_mem {to : Int} : ∀ {l : List (Int × Int)} {a : Int}, gapsOk to a l = true → ∀ g ∈ gapsF to a l, a ≤ g.1 ∧ 0 < g.2 ∧ g.1 + g.2 ≤ to ∧ (∀ p ∈ l, disjI g p)
 | [], a, _, g, hg => by
  simp only [gapsF, gapE] at hg
  split at hg
  · rcases List.mem_singleton.1 hg with rfl
    exact ⟨by simp, by simp; omega, by show a + (to - a) ≤ to; omega, fun p hp => by cases hp⟩
  · cases hg
 | p :: l, a, h, g, hg => by
  have hp := gapsOk_pair h
  obtain ⟨h1, h2, h3⟩ := hp.2 p (by simp)
  have hh := h
  simp only [gapsOk, Bool.and_eq_true] at hh
  have hl := (gapsOk_pair hh.2).2
  simp only [gapsF, List.mem_append] at hg
  rcases hg with hg | hg
  · simp only [gapE] at hg
    split at hg
    · rcases List.mem_singleton.1 hg with rfl
      refine ⟨by simp, by simp; omega, by show a + (p.1 - a) ≤ to; omega, fun q hq => ?_⟩
      rcases List.mem_cons.1 hq with rfl | hq
      · exact .inl (by show a + (q.1 - a) ≤ q.1; omega)
      · exact .inl (by have := hl q hq; show a + (p.1 - a) ≤ q.1; omega)
    · cases hg
  · obtain ⟨g1, g2, g3, g4⟩ := gapsF_mem hh.2 g hg
    refine ⟨by omega, g2, g3, fun q hq => ?_⟩
    rcases List.mem_cons.1 hq with rfl | hq
    · exact .inr (by omega)
    · exact g4 q hq
theorem quad_iff {a : Int} (h : 0 ≤ a) : a.tmod 4 = 0 ↔ a % 4 = 0 := by rw [Int.tmod_eq_emod_of_nonneg h]
theorem gapBad_f {to a : Int} {p : Int × Int} (h : gapBad to a p = false) : a ≤ p.1 ∧ p.1 ≤ to ∧ 4 ≤ p.2 ∧ p.2 ≤ to - p.1 ∧ p.1.tmod 4 = 0 ∧ p.2.tmod 4 = 0 := by
 simp only [gapBad, decide_eq_false_iff_not, not_or, Decidable.not_not] at h
 omega
theorem gapsF_quad {to : Int} : ∀ {l : List (Int × Int)} {a : Int}, gapsOk to a l = true → 0 ≤ a → a % 4 = 0 → ∀ g ∈ gapsF to a l, g.1 % 4 = 0
 | [], a, _, _, h4, g, hg => by
  simp only [gapsF, gapE] at hg
  split at hg
  · rcases List.mem_singleton.1 hg with rfl; exact h4
  · cases hg
 | p :: l, a, h, h0, h4, g, hg => by
  simp only [gapsOk, Bool.and_eq_true, Bool.not_eq_true'] at h
  obtain ⟨b1, b2, b3, b4, b5, b6⟩ := gapBad_f h.1
  rw [quad_iff (by omega)] at b5 b6
  simp only [gapsF, List.mem_append] at hg
  rcases hg with hg | hg
  · simp only [gapE] at hg
    split at hg
    · rcases List.mem_singleton.1 hg with rfl; exact h4
    · cases hg
  · exact gapsF_quad h.2 (by omega) (by omega) g hg
theorem bestS_fold {size : Int} : ∀ (l : List (Int × Int)) (o : Option (Int × Int)), (∀ b, o = some b → size ≤ b.2) →
    (∀ b, l.foldl (bestStep size) o = some b → (b ∈ l ∨ o = some b) ∧ size ≤ b.2) ∧ (l.foldl (bestStep size) o = none → o = none ∧ ∀ p ∈ l, p.2 < size)
 | [], o, h => ⟨fun b hb => ⟨.inr hb, h b hb⟩, fun hn => ⟨hn, fun p hp => by cases hp⟩⟩
 | p :: l, o, h => by
  have hs : ∀ b, bestStep size o p = some b → size ≤ b.2 := by
   intro b hb
   unfold bestStep at hb
   split at hb
   · rename_i hc; cases hb; simp at hc; exact hc.1
   · exact h b hb
  obtain ⟨i1, i2⟩ := bestS_fold l (bestStep size o p) hs
  refine ⟨fun b hb => ?_, fun hn => ?_⟩
  · obtain ⟨j1, j2⟩ := i1 b hb
    refine ⟨?_, j2⟩
    rcases j1 with j1 | j1
    · exact .inl (List.mem_cons_of_mem _ j1)
    · unfold bestStep at j1
      split at j1
      · cases j1; exact .inl (by simp)
      · exact .inr j1
  · obtain ⟨j1, j2⟩ := i2 hn
    unfold bestStep at j1
    split at j1
    · cases j1
    · rename_i hc
      refine ⟨j1, fun q hq => ?_⟩
      rcases List.mem_cons.1 hq with rfl | hq
      · subst j1; simp at hc; exact hc
      · exact j2 q hq
theorem bestS_some {l : List (Int × Int)} {size : Int} {b : Int × Int} (h : bestS l size = some b) : b ∈ l ∧ size ≤ b.2 := by
 obtain ⟨h1, h2⟩ := (bestS_fold l none (by simp)).1 b h
 exact ⟨by simpa using h1, h2⟩
theorem spans_all {R : Int × Int → Prop} {l : List Slot} : (∀ p ∈ spansS l, R p) ↔ ∀ i, i < l.length → isOne (nth l i) = true → R ((nth l i).at_, (needS (nth l i).len).1) := by
 rw [show (∀ i, i < l.length → isOne (nth l i) = true → R ((nth l i).at_, (needS (nth l i).len).1)) ↔ ∀ b ∈ onesR l, R (spanOf b) from (onesR_all (R := fun b => R (spanOf b))).symm]
 simp only [spansS, onesS, List.mem_map]
 constructor
 · intro h b hb; exact h _ ⟨b, (stS_perm (lt := ltB) _).mem_iff.2 hb, rfl⟩
 · rintro h p ⟨b, hb, rfl⟩; exact h b ((stS_perm (lt := ltB) _).mem_iff.1 hb)
def oneS (s : Stt) (n : Int) : Option Int := if (needS n).2 ≠ 0 then none else (bestS (gapsF (s.sh.pages * 32) (s.base * 32) (spansS s.slots)) (needS n).1).map (·.1)
theorem needS_ok {n : Int} (h : 1 ≤ n ∧ n ≤ 2048) : (needS n).2 = 0 := by unfold needS; rw [if_neg (by omega)]
theorem one_some {s : Stt} {n a : Int} (h : sttS s = true) (hn : 1 ≤ n ∧ n ≤ 2048) (ho : oneS s n = some a) : s.base * 32 ≤ a ∧ a.tmod 4 = 0 ∧ a + (needS n).1 ≤ s.sh.pages * 32 ∧
    ∀ i, i < s.slots.length → isOne (nth s.slots i) = true → disjI (a, (needS n).1) ((nth s.slots i).at_, (needS (nth s.slots i).len).1) := by
 unfold oneS at ho
 rw [if_neg (by simp [needS_ok hn])] at ho
 obtain ⟨g, hg, rfl⟩ := Option.map_eq_some_iff.1 ho
 obtain ⟨h1, h2⟩ := bestS_some hg
 have hG := sttS_gaps h
 simp only [gapsS, Bool.and_eq_true] at hG
 have hb := superS_b (sttS_super h)
 obtain ⟨g1, g2, g3, g4⟩ := gapsF_mem hG.2 g h1
 have q := gapsF_quad hG.2 (by omega) (by omega) g h1
 refine ⟨g1, (quad_iff (by omega)).2 q, by omega, ?_⟩
 refine (spans_all (R := fun p => disjI (g.1, (needS n).1) p)).1 fun p hp => ?_
 rcases g4 p hp with r | r
 · exact .inl (by show g.1 + (needS n).1 ≤ p.1; omega)
 · exact .inr r
open Go.Awp
def bumpR (l : List (Int × Int)) : List (Int × Int) := l.set (l.length - 1) ((nth l (l.length - 1)).1, (nth l (l.length - 1)).2 + 1)
def runsI (ks : List Int) : Nat → List (Int × Int) × Bool
 | 0 => ([], false)
 | i + 1 => if nth ks i = -1 then (if (runsI ks i).2 = true then (bumpR (runsI ks i).1, true) else ((runsI ks i).1 ++ [((i : Int), 1)], true)) else ((runsI ks i).1, false)
def runsS (ks : List Int) : List (Int × Int) := (runsI ks ks.length).1
theorem bumpR_last {l : List (Int × Int)} {g : Int × Int} : bumpR (l ++ [g]) = l ++ [(g.1, g.2 + 1)] := by
 have e : (l ++ [g]).length - 1 = l.length := by simp
 have e2 : nth (l ++ [g]) l.length = g := by rw [nth_eq (by simp)]; simp
 unfold bumpR
 rw [e, e2, List.set_append_right _ _ (Nat.le_refl _)]
 simp
structure RunOk (ks : List Int) (i : Nat) (g : Int × Int) : Prop where
 h0 : 0 ≤ g.1
 h1 : 1 ≤ g.2
 h2 : g.1 + g.2 ≤ i
 h3 : ∀ x : Nat, g.1 ≤ x → (x : Int) < g.1 + g.2 → nth ks x = -1
def ShutR (ks : List Int) (i : Nat) (g : Int × Int) : Prop := g.1 + g.2 < (i : Int) ∧ nth ks (g.1 + g.2).toNat ≠ -1
structure RunInv (ks : List Int) (i : Nat) (st : List (Int × Int) × Bool) : Prop where
 ok : ∀ g ∈ st.1, RunOk ks i g
 cov : ∀ x : Nat, x < i → nth ks x = -1 → ∃ g ∈ st.1, g.1 ≤ x ∧ (x : Int) < g.1 + g.2
 op : st.2 = true → ∃ (l : List (Int × Int)) (g : Int × Int), st.1 = l ++ [g] ∧ g.1 + g.2 = (i : Int) ∧ ∀ h ∈ l, ShutR ks i h
 cl : st.2 = false → ∀ g ∈ st.1, ShutR ks i g
theorem runInv {ks : List Int} : ∀ i : Nat, RunInv ks i (runsI ks i)
 | 0 => ⟨fun g hg => by simp [runsI] at hg, fun x hx => by omega, fun h => by simp [runsI] at h, fun _ g hg => by simp [runsI] at hg⟩
 | i + 1 => by
  obtain ⟨h1, h2, h3, h4⟩ := runInv (ks := ks) i
  have up : ∀ {g}, RunOk ks i g → RunOk ks (i + 1) g := fun h => ⟨h.h0, h.h1, by have := h.h2; omega, h.h3⟩
  have us : ∀ {g}, ShutR ks i g → ShutR ks (i + 1) g := fun h => ⟨by have := h.1; omega, h.2⟩
  unfold runsI
  by_cases hk : nth ks i = -1
  · rw [if_pos hk]
    by_cases ho : (runsI ks i).2 = true
    · rw [if_pos ho]
      obtain ⟨l, g, e, g1, g2⟩ := h3 ho
      rw [e] at h1 h2 ⊢
      simp only [bumpR_last]
      have hg := h1 g (by simp)
      refine ⟨fun q hq => ?_, fun x hx hxk => ?_, fun _ => ⟨l, (g.1, g.2 + 1), rfl, by simp only; omega, fun q hq => us (g2 q hq)⟩, fun h => by cases h⟩
      · rcases List.mem_append.1 hq with hq | hq
        · exact up (h1 q (by simp [hq]))
        · rcases List.mem_singleton.1 hq with rfl
          refine ⟨hg.h0, by have := hg.h1; show 1 ≤ g.2 + 1; omega, by show g.1 + (g.2 + 1) ≤ _; omega, fun x q1 q2 => ?_⟩
          simp only at q1 q2
          by_cases e2 : x = i
          · subst e2; exact hk
          · exact hg.h3 x q1 (by omega)
      · by_cases e2 : x = i
        · subst e2; exact ⟨_, List.mem_append_right _ (List.mem_singleton.2 rfl), by simp only; have := hg.h1; omega, by simp only; omega⟩
        · obtain ⟨q, hq, q1, q2⟩ := h2 x (by omega) hxk
          rcases List.mem_append.1 hq with hq | hq
          · exact ⟨q, List.mem_append_left _ hq, q1, q2⟩
          · rcases List.mem_singleton.1 hq with rfl
            exact ⟨_, List.mem_append_right _ (List.mem_singleton.2 rfl), q1, by simp only; omega⟩
    · rw [if_neg ho]
      have ho' : (runsI ks i).2 = false := by simpa using ho
      have hs := h4 ho'
      refine ⟨fun q hq => ?_, fun x hx hxk => ?_, fun _ => ⟨(runsI ks i).1, ((i : Int), 1), rfl, by simp, fun q hq => us (hs q hq)⟩, fun h => by cases h⟩
      · rcases List.mem_append.1 hq with hq | hq
        · exact up (h1 q hq)
        · rcases List.mem_singleton.1 hq with rfl
          refine ⟨by simp, by simp, by simp, fun x q1 q2 => ?_⟩
          simp only at q1 q2
          obtain rfl : x = i := by omega
          exact hk
      · by_cases e2 : x = i
        · subst e2; exact ⟨_, List.mem_append_right _ (List.mem_singleton.2 rfl), by simp, by simp only; omega⟩
        · obtain ⟨q, hq, q1, q2⟩ := h2 x (by omega) hxk
          exact ⟨q, List.mem_append_left _ hq, q1, q2⟩
  · rw [if_neg hk]
    refine ⟨fun q hq => up (h1 q hq), fun x hx hxk => ?_, (fun h => by cases h), fun _ q hq => ?_⟩
    · by_cases e2 : x = i
      · subst e2; exact absurd hxk hk
      · exact h2 x (by omega) hxk
    · by_cases ho : (runsI ks i).2 = true
      · obtain ⟨l, g, e, g1, g2⟩ := h3 ho
        simp only at hq
        rw [e] at hq
        rcases List.mem_append.1 hq with hq | hq
        · exact us (g2 q hq)
        · rcases List.mem_singleton.1 hq with rfl
          exact ⟨by omega, by rw [g1]; simpa using hk⟩
      · exact us (h4 (by simpa using ho) q hq)
def bestRStep (n : Int) (o : Option (Int × Int)) (g : Int × Int) : Option (Int × Int) := if decide (1 ≤ n) && (decide (n ≤ g.2) && (!o.isSome || decide (g.2 < (o.getD (0, 0)).2))) then some g else o
def bestR (ks : List Int) (n : Int) : Option (Int × Int) := (runsS ks).foldl (bestRStep n) none
theorem bestR_fold {n : Int} (hn : 1 ≤ n) : ∀ (l : List (Int × Int)) (o : Option (Int × Int)), (∀ b, o = some b → n ≤ b.2) →
    (∀ b, l.foldl (bestRStep n) o = some b → (b ∈ l ∨ o = some b) ∧ n ≤ b.2) ∧ (l.foldl (bestRStep n) o = none → o = none ∧ ∀ p ∈ l, p.2 < n)
 | [], o, h => ⟨fun b hb => ⟨.inr hb, h b hb⟩, fun hn => ⟨hn, fun p hp => by cases hp⟩⟩
 | p :: l, o, h => by
  have hs : ∀ b, bestRStep n o p = some b → n ≤ b.2 := by
   intro b hb
   unfold bestRStep at hb
   split at hb
   · rename_i hc; cases hb; simp at hc; exact hc.2.1
   · exact h b hb
  obtain ⟨i1, i2⟩ := bestR_fold hn l (bestRStep n o p) hs
  refine ⟨fun b hb => ?_, fun hn => ?_⟩
  · obtain ⟨j1, j2⟩ := i1 b hb
    refine ⟨?_, j2⟩
    rcases j1 with j1 | j1
    · exact .inl (List.mem_cons_of_mem _ j1)
    · unfold bestRStep at j1
      split at j1
      · cases j1; exact .inl (by simp)
      · exact .inr j1
  · obtain ⟨j1, j2⟩ := i2 hn
    unfold bestRStep at j1
    split at j1
    · cases j1
    · rename_i hc
      refine ⟨j1, fun q hq => ?_⟩
      rcases List.mem_cons.1 hq with rfl | hq
      · subst j1; simp at hc; omega
      · exact j2 q hq
theorem bestR_some {ks : List Int} {n : Int} {b : Int × Int} (hn : 1 ≤ n) (h : bestR ks n = some b) : b ∈ runsS ks ∧ n ≤ b.2 := by
 obtain ⟨h1, h2⟩ := (bestR_fold hn (runsS ks) none (by simp)).1 b h
 exact ⟨by simpa using h1, h2⟩
def openC (ks : List Int) (ms : List Nat) (of : Int) (m : Nat) (p : Nat) : Option Nat := if nth ks p = of then (List.range m).find? (fun k => !(nth ms p).testBit k) else none
def slabR (ks : List Int) (ms : List Nat) (of : Int) : Option Nat := (List.range ks.length).find? fun p => (openC ks ms of (cellsS of).1.toNat p).isSome
def freeR (ks : List Int) : Option Nat := (List.range ks.length).find? fun p => decide (nth ks p = -1)
def cellR (ks : List Int) (ms : List Nat) (of : Int) : Option Int := match slabR ks ms of with
 | some p => some ((p : Int) * 32 + (cellS of ((openC ks ms of (cellsS of).1.toNat p).getD 0 : Nat)).1)
 | none => (freeR ks).map fun (p : Nat) => (p : Int) * 32 + 4
def placeS (pages : Int) (l : List (Int × Int)) (n : Int) : Option Int := match laidS pages l with
 | none => none
 | some st => if (classS n).2 = true then cellR st.1 st.2 (classS n).1 else if (pagesS n).2 ≠ 0 then none else (bestR st.1 (pagesS n).1).map fun g => g.1 * 32
theorem laidS_some {pages : Int} {l : List (Int × Int)} {st} (h : laidS pages l = some st) : (0 ≤ pages ∧ pages ≤ 64) ∧ (∀ j, j < l.length → okI pages l j = true) ∧ st = stI pages l l.length := by
 unfold laidS at h
 split at h
 · rename_i h2
   simp only [Bool.and_eq_true, decide_eq_true_eq, List.all_eq_true, List.mem_range] at h2
   cases h
   exact ⟨h2.1, h2.2, rfl⟩
 · cases h
structure LaidP (pages : Int) (l : List (Int × Int)) (ks : List Int) (ms : List Nat) : Prop where
 p0 : 0 ≤ pages ∧ pages ≤ 64
 len : ks.length = pages.toNat
 len2 : ms.length = 64
 good : ∀ j, j < l.length → GoodSpot pages (spotI pages l j)
 free : ∀ x : Nat, (x : Int) < pages → (∀ j, j < l.length → ¬ covers (spotI pages l j) x) → nth ks x = -1
 sm : ∀ j, j < l.length → (spotI pages l j).small = true → nth ks (spotI pages l j).page.toNat = (spotI pages l j).cls ∧ (nth ms (spotI pages l j).page.toNat).testBit (spotI pages l j).cell.toNat = true
 lg : ∀ j, j < l.length → (spotI pages l j).small = false → ∀ x : Nat, covers (spotI pages l j) x → nth ks x = 7 ∨ nth ks x = 6
 bit : ∀ x c : Nat, x < 64 → (nth ms x).testBit c = true → ∃ j, j < l.length ∧ (spotI pages l j).small = true ∧ (spotI pages l j).page = x ∧ (spotI pages l j).cell = c
theorem laidP {pages : Int} {l : List (Int × Int)} {st} (h : laidS pages l = some st) : LaidP pages l st.1 st.2 := by
 obtain ⟨h0, h1, rfl⟩ := laidS_some h
 obtain ⟨_, l2, l3⟩ := laid_iff.1 (show (laidS pages l).isSome = true by rw [h]; rfl)
 obtain ⟨_, hF⟩ := lay_all h0.1 h0.2 l2 l3 l.length (Nat.le_refl _)
 obtain ⟨e1, e2⟩ := stI_len (pages := pages) (l := l) (i := l.length)
 have hg : ∀ j, j < l.length → GoodSpot pages (spotI pages l j) := fun j hj => (spot_words (l2 j hj)).good
 have hold := laid_holds h0.2 h1
 refine ⟨h0, e1, e2, hg, hF.k, fun j hj hs => (hold j hj).1 hs, fun j hj hs x hx => ?_, hF.b⟩
 have g := hg j hj
 have := (hold j hj).2 hs (x - (spotI pages l j).page.toNat) (by have := hx.1; have := hx.2; have := g.p0; show ((x - (spotI pages l j).page.toNat : Nat) : Int) < (spotI pages l j).count; omega)
 rw [show (spotS pages (nth l j)).1.page.toNat + (x - (spotI pages l j).page.toNat) = x by have := hx.1; have := g.p0; show (spotI pages l j).page.toNat + (x - (spotI pages l j).page.toNat) = x; omega] at this
 exact this
theorem covers_k {pages : Int} {l : List (Int × Int)} {ks ms} (h : LaidP pages l ks ms) {j x : Nat} (hj : j < l.length) (hc : covers (spotI pages l j) x) :
    ((spotI pages l j).small = true ∧ (spotI pages l j).page = x ∧ nth ks x = (spotI pages l j).cls ∧ 0 ≤ nth ks x ∧ nth ks x < 6 ∧ (nth ms x).testBit (spotI pages l j).cell.toNat = true ∧ 0 ≤ (spotI pages l j).cell) ∨ ((spotI pages l j).small = false ∧ (nth ks x = 7 ∨ nth ks x = 6)) := by
 have g := h.good j hj
 cases hs : (spotI pages l j).small with
 | true =>
  obtain ⟨s1, s2, s3, s4, s5⟩ := g.s1 hs
  obtain ⟨a1, a2⟩ := h.sm j hj hs
  have e : (spotI pages l j).page = x := by have := hc.1; have := hc.2; omega
  have e2 : (spotI pages l j).page.toNat = x := by omega
  rw [e2] at a1 a2
  exact .inl ⟨rfl, e, a1, by omega, by omega, a2, s4⟩
 | false => exact .inr ⟨rfl, h.lg j hj hs x hc⟩
theorem free_not {pages : Int} {l : List (Int × Int)} {ks ms} (h : LaidP pages l ks ms) {j x : Nat} (hj : j < l.length) (hk : nth ks x = -1) : ¬ covers (spotI pages l j) x := fun hc => by
 rcases covers_k h hj hc with q | q <;> omega
theorem apart_of_pages {a b : Spot} (ha : 1 ≤ a.count) (hb : 1 ≤ b.count) (h0 : 0 ≤ a.page) (h1 : 0 ≤ b.page) (h : ∀ x : Nat, covers a x → ¬ covers b x) : a.page + a.count ≤ b.page ∨ b.page + b.count ≤ a.page := by
 apply Classical.byContradiction
 intro hc
 by_cases q : a.page ≤ b.page
 · exact h b.page.toNat ⟨by omega, by omega⟩ ⟨by omega, by omega⟩
 · exact h a.page.toNat ⟨by omega, by omega⟩ ⟨by omega, by omega⟩
theorem cells_tab : ∀ c : Nat, c < 6 → ∀ k : Nat, k < 14 → (k : Int) < (cellsS c).1 → whichS c (cellS c k).1 = ((k : Int), true) ∧ 4 ≤ (cellS c k).1 ∧ (cellS c k).1 < 32 := by decide +kernel
theorem cells_max : ∀ c : Nat, c < 6 → (cellsS c).1 ≤ 14 ∧ 1 ≤ (cellsS c).1 := by decide +kernel
theorem which_four : ∀ c : Nat, c < 6 → whichS c 4 = (0, true) := by decide +kernel
theorem spot_small {pages n a p : Int} {o : Int} {k : Int} (hc : (classS n).2 = true) (ha : a = p * 32 + o) (hp : 0 ≤ p) (hpp : p < pages) (ho : 0 ≤ o ∧ o < 32) (hw : whichS (classS n).1 o = (k, true)) :
    spotS pages (a, n) = (⟨p, 1, true, (classS n).1, k⟩, true) := by
 have e1 : a.tdiv 32 = p := by rw [Int.tdiv_eq_ediv_of_nonneg (by omega)]; omega
 have e2 : a.tmod 32 = o := by rw [Int.tmod_eq_emod_of_nonneg (by omega)]; omega
 unfold spotS
 simp only
 rw [if_neg (by omega), if_pos hc, e1, e2, hw]
 simp [hpp]
theorem spot_large {pages n a p : Int} (hc : (classS n).2 = false) (he : (pagesS n).2 = 0) (ha : a = p * 32) (hp : 0 ≤ p) (hpp : p + (pagesS n).1 ≤ pages) (h1 : 1 ≤ (pagesS n).1) :
    spotS pages (a, n) = (⟨p, (pagesS n).1, false, (classS n).1, 0⟩, true) := by
 have e1 : a.tdiv 32 = p := by rw [Int.tdiv_eq_ediv_of_nonneg (by omega)]; omega
 have e2 : a.tmod 32 = 0 := by rw [Int.tmod_eq_emod_of_nonneg (by omega)]; omega
 unfold spotS
 simp only
 rw [if_neg (by omega), if_neg (by simp [hc]), e1, e2]
 simp [he]; omega
theorem pagesS_b {n : Int} (h : (pagesS n).2 = 0) : 1 ≤ (pagesS n).1 := by
 unfold pagesS at h ⊢
 split
 · rename_i q; rw [if_pos q] at h; cases h
 · rename_i q
   show 1 ≤ (n + 256 - 1).tdiv 256
   rw [Int.tdiv_eq_ediv_of_nonneg (by omega)]; omega
theorem classS_c {n : Int} (h : (classS n).2 = true) : ∃ c : Nat, c < 6 ∧ (classS n).1 = c := by
 obtain ⟨_, k, h1, h2, _⟩ := classS_spec h
 exact ⟨k, h1, h2⟩
theorem find_range {n p : Nat} {f : Nat → Bool} (h : (List.range n).find? f = some p) : p < n ∧ f p = true ∧ ∀ j, j < p → f j = false := by
 rw [List.find?_eq_some_iff_getElem] at h
 obtain ⟨h1, i, hi, h2, h3⟩ := h
 simp at hi h2; subst h2
 exact ⟨hi, h1, fun j hj => by have := h3 j hj; simpa using this⟩
theorem place_some {pages n a : Int} {l : List (Int × Int)} (h : placeS pages l n = some a) : (spotS pages (a, n)).2 = true ∧ ∀ j, j < l.length → apartS (spotI pages l j) (spotS pages (a, n)).1 := by
 unfold placeS at h
 cases hl : laidS pages l with
 | none => rw [hl] at h; cases h
 | some st =>
  rw [hl] at h; simp only at h
  have L := laidP hl
  split at h
  · rename_i hc
    obtain ⟨c, hc6, hcn⟩ := classS_c hc
    obtain ⟨m1, m2⟩ := cells_max c hc6
    unfold cellR at h
    rw [hcn] at h
    cases hs : slabR st.1 st.2 c with
    | some p =>
     rw [hs] at h; simp only at h
     obtain ⟨p1, p2, _⟩ := find_range hs
     obtain ⟨k, hk⟩ := Option.isSome_iff_exists.1 p2
     rw [hk] at h
     simp only [Option.getD_some, Option.some.injEq] at h
     unfold openC at hk
     split at hk
     · rename_i hof
       obtain ⟨k1, k2, _⟩ := find_range hk
       obtain ⟨w1, w2, w3⟩ := cells_tab c hc6 k (by omega) (by omega)
       have hpl := L.len
       have e := spot_small (pages := pages) (a := a) (p := p) (k := k) hc h.symm (by omega) (by omega) ⟨by omega, w3⟩ (by rw [hcn]; exact w1)
       rw [e]
       refine ⟨rfl, fun j hj => ?_⟩
       have g := L.good j hj
       by_cases hcv : covers (spotI pages l j) p
       · rcases covers_k L hj hcv with ⟨q1, q2, q3, q4, q5, q6, q7⟩ | ⟨_, q⟩
         · refine .inl ⟨q1, rfl, by simp only; rw [hcn]; omega, fun e2 => ?_⟩
           simp only at e2
           rw [e2, Int.toNat_natCast] at q6
           simp [q6] at k2
         · omega
       · unfold covers at hcv
         simp only [apartS]
         right; omega
     · cases hk
    | none =>
     rw [hs] at h; simp only at h
     obtain ⟨p, hp, rfl⟩ := Option.map_eq_some_iff.1 h
     obtain ⟨p1, p2, _⟩ := find_range hp
     have hpl := L.len
     have e := spot_small (pages := pages) (a := (p : Int) * 32 + 4) (p := p) (k := 0) hc rfl (by omega) (by omega) ⟨by omega, by omega⟩ (by rw [hcn]; exact which_four c hc6)
     rw [e]
     refine ⟨rfl, fun j hj => ?_⟩
     have hcv := free_not L hj (by simpa using p2 : nth st.1 p = -1)
     unfold covers at hcv
     have g := L.good j hj
     have := g.c1
     simp only [apartS]
     right; omega
  · rename_i hc
    split at h
    · cases h
    · rename_i he
      have he : (pagesS n).2 = 0 := by simpa using he
      have h1 := pagesS_b he
      obtain ⟨g, hg, rfl⟩ := Option.map_eq_some_iff.1 h
      obtain ⟨b1, b2⟩ := bestR_some h1 hg
      obtain ⟨r0, r1, r2, r3⟩ := (runInv (ks := st.1) st.1.length).ok g b1
      have hpl := L.len
      have hp0 := L.p0
      have e := spot_large (pages := pages) (a := g.1 * 32) (p := g.1) (by simpa using hc) he rfl r0 (by omega) h1
      rw [e]
      refine ⟨rfl, fun j hj => .inr ?_⟩
      have gd := L.good j hj
      refine apart_of_pages gd.c1 h1 gd.p0 r0 fun x c1 c2 => free_not L hj (r3 x c2.1 ?_) c1
      have := c2.2
      simp only at this; omega
open Go.Awp
def roomW (s : Stt) (two : Bool) (n : Int) : Option Int := if two = true then placeS s.base (twosO s.slots) n else oneS s n
theorem gapsF_len {to : Int} : ∀ {l : List (Int × Int)} {a : Int}, (gapsF to a l).length ≤ l.length + 1
 | [], a => by simp only [gapsF]; have := gapE_len (a := a) (b := to); simpa using this
 | p :: l, a => by
  have := gapE_len (a := a) (b := p.1)
  have := gapsF_len (to := to) (l := l) (a := p.1 + p.2)
  simp only [gapsF, List.length_append, List.length_cons]; omega
theorem runsI_len {ks : List Int} : ∀ {i : Nat}, (runsI ks i).1.length ≤ i
 | 0 => by simp [runsI]
 | i + 1 => by
  have := runsI_len (ks := ks) (i := i)
  unfold runsI
  split
  · split
    · simp only [bumpR, List.length_set]; omega
    · simp only [List.length_append, List.length_singleton]; omega
  · simp only; omega
theorem runsI_pos {ks : List Int} {i : Nat} (h : (runsI ks i).2 = true) : ∃ m, (runsI ks i).1.length = m + 1 ∧ 1 ≤ (nth (runsI ks i).1 m).2 ∧ (nth (runsI ks i).1 m).2 ≤ i := by
 have I := runInv (ks := ks) i
 obtain ⟨l, g, e, _⟩ := I.op h
 have hg := I.ok g (by rw [e]; simp)
 refine ⟨l.length, by rw [e]; simp, ?_⟩
 have : nth (runsI ks i).1 l.length = g := by rw [e, nth_eq (by simp)]; simp
 rw [this]
 have := hg.h0; have := hg.h1; have := hg.h2
 omega
theorem bestR_mem {n : Int} : ∀ (l : List (Int × Int)) (o : Option (Int × Int)) (b), l.foldl (bestRStep n) o = some b → b ∈ l ∨ o = some b
 | [], o, b, h => .inr h
 | p :: l, o, b, h => by
  rcases bestR_mem l _ b h with h | h
  · exact .inl (List.mem_cons_of_mem _ h)
  · unfold bestRStep at h
    split at h
    · cases h; exact .inl (by simp)
    · exact .inr h
theorem bestR_b {ks : List Int} {n : Int} : 0 ≤ ((bestR ks n).getD (0, 0)).1 ∧ ((bestR ks n).getD (0, 0)).1 ≤ ks.length := by
 cases h : bestR ks n with
 | none => simp
 | some b =>
  rcases bestR_mem _ _ _ h with q | q
  · have r := (runInv (ks := ks) ks.length).ok b q
    have := r.h0; have := r.h1; have := r.h2
    simp only [Option.getD_some]; omega
  · cases q
theorem find_at {n p : Nat} {f : Nat → Bool} (hp : p < n) (h : f p = true) (hj : ∀ j, j < p → f j = false) : (List.range n).find? f = some p := by
 rw [List.find?_eq_some_iff_getElem]
 exact ⟨h, p, by simpa using hp, by simp, fun j hj2 => by simp [hj j hj2]⟩
theorem find_no {n : Nat} {f : Nat → Bool} (hj : ∀ j, j < n → f j = false) : (List.range n).find? f = none := by
 rw [List.find?_eq_none]
 intro x hx
 simp at hx
 simp [hj x hx]
theorem openC_some {ks : List Int} {ms : List Nat} {of : Int} {m p k : Nat} (h1 : nth ks p = of) (hk : k < m) (hb : ∀ j, j < k → (nth ms p).testBit j = true) (h : (nth ms p).testBit k = false) : openC ks ms of m p = some k := by
 unfold openC; rw [if_pos h1]
 exact find_at hk (by simp [h]) fun j hj => by simp [hb j hj]
theorem openC_none {ks : List Int} {ms : List Nat} {of : Int} {m p : Nat} (h : nth ks p = of → ∀ j, j < m → (nth ms p).testBit j = true) : (openC ks ms of m p).isSome = false := by
 unfold openC
 split
 · rename_i e; rw [find_no fun j hj => by simp [h e j hj]]; rfl
 · rfl
theorem slabR_some {ks : List Int} {ms : List Nat} {of : Int} {m p k : Nat} (hm : (cellsS of).1.toNat = m) (hp : p < ks.length) (hj : ∀ q, q < p → (openC ks ms of m q).isSome = false) (h : openC ks ms of m p = some k) : slabR ks ms of = some p := by
 unfold slabR; rw [hm]
 exact find_at hp (by rw [h]; rfl) hj
theorem slabR_none {ks : List Int} {ms : List Nat} {of : Int} {m : Nat} (hm : (cellsS of).1.toNat = m) (hj : ∀ q, q < ks.length → (openC ks ms of m q).isSome = false) : slabR ks ms of = none := by
 unfold slabR; rw [hm]
 exact find_no hj
theorem freeR_some {ks : List Int} {p : Nat} (hp : p < ks.length) (h : nth ks p = -1) (hj : ∀ q, q < p → nth ks q ≠ -1) : freeR ks = some p := find_at hp (by simp [h]) fun j hq => by simp [hj j hq]
theorem freeR_none {ks : List Int} (hj : ∀ q, q < ks.length → nth ks q ≠ -1) : freeR ks = none := find_no fun j hq => by simp [hj j hq]
theorem shrO {m k : Nat} (h : k < 64) : shOp .shr .u64 (m : Int) (k : Int) = some (.int .u64 ((m >>> k : Nat) : Int)) := by
 have e : min (k : Int).toNat IntKind.u64.bits = k := by show min k 64 = k; omega
 unfold shOp
 rw [if_neg (by omega)]
 simp only [e]
 have e2 : ((2 : Int) ^ k) = ((2 ^ k : Nat) : Int) := by push_cast; rfl
 rw [e2, Int.fdiv_eq_ediv_of_nonneg _ (Int.natCast_nonneg _), Nat.shiftRight_eq_div_pow]
 rfl
theorem bit2 {m k z : Nat} (hz : z = m >>> k) : m.testBit k = (z % 2 != 0) := by
 subst hz
 unfold Nat.testBit
 rw [Nat.one_and_eq_mod_two]
@[simp high] theorem cells_ownR {α : Type} {k : Nat} {f : α → D} {l : List α} : (ownR k f l).cells = [ownR k f l] := rfl
@[simp high] theorem nrmL_ownR {α : Type} {k k' : Nat} {f : α → D} {l : List α} {m : M} {xs : List D} : nrmL [ownR k f l] [D.row m k' xs] = [D.row m k' xs] := rfl
@[simp high] theorem putC_ownR {α : Type} {k : Nat} {f : α → D} {l : List α} {d : D} : putC (ownR k f l) 0 [d] = d := rfl
@[simp] theorem roedc_eObj : D.roed ∘ eObj = eObj := funext roed_eObj
@[simp] theorem roedc_eSlot : D.roed ∘ eSlot = eSlot := funext roed_eSlot
@[simp] theorem roedc_eRoot : D.roed ∘ eRoot = eRoot := funext roed_eRoot
@[simp] theorem roedc_eBlk : D.roed ∘ eBlk = eBlk := funext roed_eBlk
@[simp] theorem roedc_vI : D.roed ∘ vI = vI := funext fun _ => roed_v _
@[simp] theorem roedc_vB : D.roed ∘ vB = vB := funext fun _ => roed_v _
@[simp] theorem roedc_rB : D.roed ∘ rB = rB := funext roed_rB
@[simp] theorem roedc_oB : D.roed ∘ oB = rB := funext fun x => by simp
open Go.Awp
def roomS (s : Stt) (two : Bool) (n : Int) : Option Int := if (sttS s && sizedN n) = true then roomW s two n else none
theorem sizedN_iff {n : Int} : sizedN n = true ↔ 1 ≤ n ∧ n ≤ 2048 := by simp [sizedN]
theorem twos_nth {R : Int × Int → Prop} {l : List Slot} : (∀ j, j < (twosO l).length → R (nth (twosO l) j)) ↔ ∀ i, i < l.length → isTwo (nth l i) = true → R ((nth l i).at_, (nth l i).len) := by
 rw [nth_all (R := R), twos_all]
theorem room_fits {s : Stt} {two : Bool} {n a gen : Int} (h : roomS s two n = some a) : fitsS s ⟨gen, true, two, a, n⟩ ∧ ∀ i, i < s.slots.length → (nth s.slots i).live = true → clearS s.base (nth s.slots i) ⟨gen, true, two, a, n⟩ := by
 unfold roomS roomW at h
 split at h
 · rename_i hr
   simp only [Bool.and_eq_true] at hr
   obtain ⟨h1, h2⟩ := hr
   rw [sizedN_iff] at h2
   cases two with
   | true =>
    rw [if_pos rfl] at h
    obtain ⟨p1, p2⟩ := place_some h
    have p3 := (twos_nth (R := fun o => apartS (spotS s.base o).1 (spotS s.base (a, n)).1)).1 p2
    refine ⟨by unfold fitsS; rw [if_pos rfl]; exact p1, fun i hi hl => ⟨fun t _ => p3 i hi (by simp [isTwo, hl, t]), fun _ t => by cases t⟩⟩
   | false =>
    rw [if_neg (by simp)] at h
    obtain ⟨p1, p2, p3, p4⟩ := one_some h1 h2 h
    refine ⟨by unfold fitsS; rw [if_neg (by simp)]; exact ⟨p1, p2, p3⟩, fun i hi hl => ⟨fun _ t => by (cases t), fun t _ => (p4 i hi (by simp [isOne, hl, t])).symm⟩⟩
 · cases h
def tryR (s : Stt) (n : Int) (two : Bool) : Option (Bool × Int) := (roomS s two n).map fun a => (two, a)
def firstP (s : Stt) (n : Int) : Option (Bool × Int) := if s.mode = 1 then tryR s n false else if s.mode = 2 then tryR s n true else if s.mode = 3 then (tryR s n true).or (tryR s n false) else if s.mode = 4 then (tryR s n false).or (tryR s n true) else none
def modeB (mode : Int) (two : Bool) : Prop := (mode = 1 → two = false) ∧ (mode = 2 → two = true)
theorem tryR_some {s : Stt} {n : Int} {b two : Bool} {a : Int} (h : tryR s n b = some (two, a)) : b = two ∧ roomS s two n = some a := by
 unfold tryR at h
 obtain ⟨x, h1, h2⟩ := Option.map_eq_some_iff.1 h
 cases h2; exact ⟨rfl, h1⟩
theorem first_some {s : Stt} {n a : Int} {two : Bool} (h : firstP s n = some (two, a)) : roomS s two n = some a ∧ modeB s.mode two := by
 unfold firstP at h
 unfold modeB
 split at h
 · obtain ⟨rfl, q⟩ := tryR_some h; exact ⟨q, fun _ => rfl, fun e => by omega⟩
 · split at h
   · obtain ⟨rfl, q⟩ := tryR_some h; exact ⟨q, fun e => by omega, fun _ => rfl⟩
   · split at h
     · refine ⟨?_, fun e => by omega, fun e => by omega⟩
       rcases Option.or_eq_some_iff.1 h with h | h
       · exact (tryR_some h).2
       · exact (tryR_some h.2).2
     · split at h
       · refine ⟨?_, fun e => by omega, fun e => by omega⟩
         rcases Option.or_eq_some_iff.1 h with h | h
         · exact (tryR_some h).2
         · exact (tryR_some h.2).2
       · cases h
def putAt (s : Stt) (k : Nat) (y : Slot) (d : List UInt8) : Stt := { s with slots := s.slots.set k y, data := s.data.set k d }
theorem rowsS_iff {s : Stt} : rowsS s = true ↔ ((s.slots.length : Int) = s.sh.slots ∧ (s.roots.length : Int) = s.sh.roots ∧ s.data.length = s.slots.length) ∧ (∀ i, i < s.slots.length → slotS1 (nth s.slots i) = true) ∧ tnewOk s.slots.length = true ∧ rootsS s.roots = true ∧ ∀ i, i < s.slots.length → ((nth s.data i).length : Int) = (nth s.slots i).len := by
 simp only [rowsS, tableS, lenOk, Bool.and_eq_true, decide_eq_true_eq, List.all_eq_true, List.mem_range]
 constructor
 · rintro ⟨h1, ⟨h2, h3⟩, h4, h5⟩; exact ⟨h1, h2, h3, h4, h5⟩
 · rintro ⟨h1, h2, h3, h4, h5⟩; exact ⟨h1, ⟨h2, h3⟩, h4, h5⟩
theorem fits_at {s : Stt} (h : sttS s = true) {x : Slot} (hf : fitsS s x) (hx : 1 ≤ x.len ∧ x.len ≤ 2048) : 0 ≤ x.at_ ∧ x.at_ ≤ 2048 := by
 have hb := superS_b (sttS_super h)
 unfold fitsS at hf
 split at hf
 · have W := spot_range (spot_words hf)
   simp only at W
   have : 0 ≤ (x.len + 7).tdiv 8 := Int.tdiv_nonneg (by omega) (by omega)
   omega
 · have := needS_pos hx
   omega
def newSlot (gen n : Int) (two : Bool) (a : Int) : Slot := ⟨gen, true, two, a, n⟩
def zerosB (n : Int) : List UInt8 := List.replicate n.toNat 0
def putS (s : Stt) (n : Int) : Stt × (Int × Int) × Int := if (sttS s && sizedN n) = true then (match nextS s.slots with
  | none => (zStt, (0, 0), 9)
  | some k => match firstP s n with
    | none => (zStt, (0, 0), 10)
    | some p => (putAt s k (newSlot (nth s.slots k).gen n p.1 p.2) (zerosB n), ((k : Int), (nth s.slots k).gen), 0)) else (zStt, (0, 0), 1)
theorem slot_gen {s : Stt} (h : sttS s = true) {i : Nat} (hi : i < s.slots.length) : 0 ≤ (nth s.slots i).gen ∧ (nth s.slots i).gen ≤ 65535 := by
 have := tableS_slot (rowsS_t (sttS_rowsS h)) i hi
 unfold slotS1 at this
 split at this
 · cases this
 · omega
theorem new_slot {s : Stt} {n a : Int} {two : Bool} {k : Nat} (h : sttS s = true) (hn : sizedN n = true) (hk : k < s.slots.length) (hf : fitsS s (newSlot (nth s.slots k).gen n two a)) : slotS1 (newSlot (nth s.slots k).gen n two a) = true := by
 have hg := slot_gen h hk
 have hn := sizedN_iff.1 hn
 have ha := fits_at h hf hn
 simp only [newSlot] at ha
 show (if (nth s.slots k).gen < 0 ∨ 65535 < (nth s.slots k).gen then false else if true = false then (two == false && a == 0 && n == 0) else decide (0 ≤ a ∧ a ≤ 2048 ∧ 1 ≤ n ∧ n ≤ 2048)) = true
 rw [if_neg (by omega), if_neg (by simp)]
 simp; omega
def rszB (d : List UInt8) (n : Int) : List UInt8 := d.take n.toNat ++ List.replicate (n.toNat - d.length) 0
def lenS (x : Slot) (n : Int) : Slot := { x with len := n }
def sizeAt (s : Stt) (k : Nat) (n : Int) : Stt := putAt s k (lenS (nth s.slots k) n) (rszB (nth s.data k) n)
def rszS (s : Stt) (k n : Int) : Stt × Int := if (liveS s k && sizedN n) = true then (if sttS (sizeAt s k.toNat n) = true then (sizeAt s k.toNat n, 0) else match firstP s n with
  | none => (zStt, 10)
  | some p => (layAt (sizeAt s k.toNat n) k.toNat p.1 p.2, 0)) else (zStt, 1)
def pickB (ok : Bool → Bool) (two : Bool) : Option Bool := if ok two = true then none else some two
def firstB (mode : Int) (ok : Bool → Bool) : Option Bool := if mode = 1 then pickB ok false else if mode = 2 then pickB ok true else if mode = 3 then (pickB ok true).or (pickB ok false) else if mode = 4 then (pickB ok false).or (pickB ok true) else none
theorem firstP_B {s : Stt} {n : Int} : firstP s n = (firstB s.mode (fun two => (roomS s two n).isNone)).map (fun two => (two, (roomS s two n).getD 0)) := by
 have key : ∀ b, tryR s n b = (pickB (fun two => (roomS s two n).isNone) b).map (fun two => (two, (roomS s two n).getD 0)) := fun b => by
  unfold tryR pickB
  cases h : roomS s b n <;> simp [h]
 unfold firstP firstB
 split
 · exact key _
 · split
   · exact key _
   · split
     · rw [Option.map_or, key, key]
     · split
       · rw [Option.map_or, key, key]
       · rfl
theorem put_take {s : Stt} {n a : Int} {two : Bool} {k : Nat} (hR : sttS s = true) (hn : sizedN n = true) (hk : nextS s.slots = some k) (hp : firstP s n = some (two, a)) :
    takeT s.slots ⟨0, false, two, a, n⟩ = (s.slots.set k (newSlot (nth s.slots k).gen n two a), ((k : Int), (nth s.slots k).gen), 0) := by
 obtain ⟨h1, _⟩ := first_some hp
 obtain ⟨hkl, _, _⟩ := nextS_spec hk
 have hf := (room_fits (gen := (nth s.slots k).gen) h1).1
 unfold takeT
 rw [if_pos (rowsS_t (sttS_rowsS hR)), hk]
 simp only
 rw [show tookS ⟨0, false, two, a, n⟩ (nth s.slots k).gen = newSlot (nth s.slots k).gen n two a from rfl, if_pos (new_slot hR hn hkl hf)]
end Go.Proofs
