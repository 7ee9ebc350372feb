/- Contracts of the program's functions, each against a plain function over lists and numbers (it answers what that one answers, for arguments of at most 2^40 elements where a lemma says so), and plain facts about these. -/
import Derived.Test.YtokgokbgidgfeaaGreatCF
import Derived.Test.YtokgokbgidgfeaaGreatCE
import Derived.Test.YtokgokbgidgfeaaGreatCC
import Derived.Test.YtokgokbgidgfeaaGreatAwpD
set_option linter.all false
set_option maxHeartbeats 1000000
namespace Go.Proofs
open Go.Awp
/-- A state in another mode, its border so far from where it was. -/
def turnS (s : Stt) (mode step : Int) : Stt := { s with mode := mode, base := s.base + step }
def clipG (fr : Int) (g : Int × Int) : Int × Int := if 0 < fr - g.1 then (fr, g.2 - (fr - g.1)) else g
def clipS (fr : Int) (l : List (Int × Int)) : List (Int × Int) := (l.map (clipG fr)).filter fun g => decide (0 < g.2)
def gapsOf (s : Stt) : List (Int × Int) := gapsF (s.sh.pages * 32) (s.base * 32) (spansS s.slots)
def behindS (s : Stt) (fr size : Int) : Option Int := (bestS (clipS fr (gapsOf s)) size).map (·.1)
def lenAt (s : Stt) (k : Int) : Int := (nth s.slots k.toNat).len
/-- A step up. -/
def upStep (s : Stt) : Stt × Int :=
  if s.base = s.sh.pages then (turnS s 2 0, 0)
  else if onesS s.slots = [] ∨ (s.base + 1) * 32 ≤ (nth (onesS s.slots) 0).at_ then (turnS s s.mode 1, 0)
  else match roomS s true (lenAt s (nth (onesS s.slots) 0).slot) with
    | some a => moveS s (nth (onesS s.slots) 0).slot true a
    | none => match behindS s ((s.base + 1) * 32) (nth (onesS s.slots) 0).len with
      | some a => moveS s (nth (onesS s.slots) 0).slot false a
      | none => (zStt, 10)
/-- What covers a page. -/
def coverB (pages : Int) (page : Int) (o : Int × Int) : Bool := decide ((spotS pages o).1.page ≤ page) && decide (page - (spotS pages o).1.page < (spotS pages o).1.count)
def matesS (pages : Int) (l : List (Int × Int)) (page : Int) : List Nat := (List.range l.length).filter fun i => coverB pages page (nth l i)
/-- Of some, the first with the least place. -/
def leastS (l : List (Int × Int)) : List Nat → Nat
  | [] => 0
  | i :: t => t.foldl (fun m j => if (nth l j).1 < (nth l m).1 then j else m) i
def restS (l : List (Int × Int)) (ms : List Nat) : List (Int × Int) := ((List.range l.length).filter fun i => !ms.contains i).map (nth l)
/-- A step down. -/
def downStep (s : Stt) : Stt × Int :=
  if s.base = 0 then (turnS s 1 0, 0)
  else if matesS s.base (twosO s.slots) (s.base - 1) = [] then (turnS s s.mode (-1), 0)
  else match roomS s false (nth (twosO s.slots) (leastS (twosO s.slots) (matesS s.base (twosO s.slots) (s.base - 1)))).2 with
    | some a => moveS s (nth (twosI s.slots) (leastS (twosO s.slots) (matesS s.base (twosO s.slots) (s.base - 1)))) false a
    | none => match placeS (s.base - 1) (restS (twosO s.slots) (matesS s.base (twosO s.slots) (s.base - 1))) (nth (twosO s.slots) (leastS (twosO s.slots) (matesS s.base (twosO s.slots) (s.base - 1)))).2 with
      | some a => moveS s (nth (twosI s.slots) (leastS (twosO s.slots) (matesS s.base (twosO s.slots) (s.base - 1)))) true a
      | none => (zStt, 10)
def stepS (s : Stt) : Stt × Int := if sttS s = true then (if s.mode = 3 then upStep s else if s.mode = 4 then downStep s else (zStt, 12)) else (zStt, 1)
/-- How many blocks begin on the page at the border. -/
def frontB (s : Stt) (x : Slot) : Bool := isOne x && decide (x.at_ < (s.base + 1) * 32)
def frontN (s : Stt) : Nat := ((List.range s.slots.length).filter fun i => frontB s (nth s.slots i)).length
/-- The greatest number of steps that there may still be, up. -/
def leftU (s : Stt) : Nat := if s.base = s.sh.pages then 1 else 9 * (s.sh.pages - s.base - 1).toNat + frontN s + 2
theorem ones_nil {l : List Slot} (h : onesS l = []) : ∀ i, i < l.length → isOne (nth l i) = false := by
  have h2 : onesR l = [] := by
    have := (stS_perm (lt := ltB) (onesR l)).length_eq
    rw [← onesS, h] at this
    exact List.length_eq_zero_iff.1 this.symm
  intro i hi
  cases hx : isOne (nth l i) with
  | false => rfl
  | true =>
    exfalso
    have hm : blkAt l i ∈ onesR l := by
      rw [onesR]; exact List.mem_map_of_mem (by simp only [oneIx, List.mem_filter, List.mem_range]; exact ⟨hi, hx⟩)
    rw [h2] at hm; cases hm
/-- The first block is the one that begins first. -/
theorem ones_first {l : List Slot} (h : onesS l ≠ []) : ∀ i, i < l.length → isOne (nth l i) = true → (nth (onesS l) 0).at_ ≤ (nth l i).at_ := by
  intro i hi hx
  have hm : blkAt l i ∈ onesS l := (stS_perm (lt := ltB) _).mem_iff.2 (by
    rw [onesR]; exact List.mem_map_of_mem (by simp only [oneIx, List.mem_filter, List.mem_range]; exact ⟨hi, hx⟩))
  cases hl : onesS l with
  | nil => exact absurd hl h
  | cons b t =>
    rw [hl] at hm
    show b.at_ ≤ (nth l i).at_
    rcases List.mem_cons.1 hm with e | hm
    · rw [← e]; exact Int.le_refl _
    · have hs := onesS_sorted (l := l)
      rw [hl] at hs
      have := (List.pairwise_cons.1 hs).1 _ hm
      unfold beforeB at this
      show b.at_ ≤ (blkAt l i).at_
      omega
theorem ones_head {l : List Slot} (h : onesS l ≠ []) : ∃ k : Nat, k < l.length ∧ isOne (nth l k) = true ∧ nth (onesS l) 0 = blkAt l k := by
  have h0 : 0 < (onesS l).length := by cases hl : onesS l with
    | nil => exact absurd hl h
    | cons => simp
  exact onesS_mem (nth_mem h0)
theorem spot_page {p q : Int} (o : Int × Int) : (spotS p o).1 = (spotS q o).1 := by
  unfold spotS
  split
  · rfl
  · split <;> rfl
theorem spot_more {p q : Int} {o : Int × Int} (h : (spotS p o).2 = true) (hpq : (spotS p o).1.page + (spotS p o).1.count ≤ q) : (spotS q o).2 = true := by
  unfold spotS at h hpq ⊢
  split
  · rename_i h0; rw [if_pos h0] at h; cases h
  · rename_i h0
    rw [if_neg h0] at h hpq
    split
    · rename_i hc
      rw [if_pos hc] at h hpq
      simp only [Bool.and_eq_true, decide_eq_true_eq] at h ⊢
      simp only at hpq
      exact ⟨h.1, by omega⟩
    · rename_i hc
      rw [if_neg hc] at h hpq
      simp only [Bool.and_eq_true, decide_eq_true_eq] at h ⊢
      simp only at hpq
      have := pagesS_b h.1.1.1
      exact ⟨⟨h.1.1, by omega⟩, by omega⟩
/-- A state whose border is moved is right, where what lies about fits. -/
theorem turn_right {s : Stt} {mode step : Int} (h : sttS s = true) (hb : superS s.sh mode (s.base + step) = true) (hf : ∀ i, i < s.slots.length → (nth s.slots i).live = true → fitsS (turnS s mode step) (nth s.slots i) ∧ modeP mode (nth s.slots i)) : sttS (turnS s mode step) = true := by
  obtain ⟨h1, h2, h3, h4⟩ := sttS_iff.1 h
  refine sttS_iff.2 ⟨hb, h2, hf, fun i j hij hj l1 l2 => ?_⟩
  have := h4 i j hij hj l1 l2
  refine ⟨fun t1 t2 => ?_, this.2⟩
  have := this.1 t1 t2
  rw [spot_page (p := s.base) (q := s.base + step), spot_page (p := s.base) (q := s.base + step)] at this
  exact this
theorem super_with {sh : Shape} {mode base mode' base' : Int} (h : superS sh mode base = true) (hb : 0 ≤ base' ∧ base' ≤ sh.pages) (hm : (mode' = 1 ∧ base' = 0) ∨ (mode' = 2 ∧ base' = sh.pages) ∨ mode' = 3 ∨ mode' = 4) : superS sh mode' base' = true := by
  simp only [superS, Bool.and_eq_true] at h ⊢
  refine ⟨⟨h.1.1, by simpa using hb⟩, ?_⟩
  rcases hm with ⟨rfl, rfl⟩ | ⟨rfl, rfl⟩ | rfl | rfl <;> simp
/-- At the last border: format 2. -/
theorem up_last {s : Stt} (h : sttS s = true) (hb : s.base = s.sh.pages) : sttS (turnS s 2 0) = true := by
  have hsu := sttS_super h
  have hsb := superS_b hsu
  have two : ∀ i, i < s.slots.length → (nth s.slots i).live = true → (nth s.slots i).two = true := fun i hi hl => by
    cases ht : (nth s.slots i).two with
    | true => rfl
    | false =>
      exfalso
      have hf := ((sttS_iff.1 h).2.2.1 i hi hl).1
      unfold fitsS at hf
      rw [if_neg (by simp [ht])] at hf
      have hx := slotS1_live (tableS_slot (sttS_rows h) i hi) hl
      have := needS_pos hx.2.2
      omega
  refine turn_right h (super_with hsu (by omega) (.inr (.inl ⟨rfl, by omega⟩))) fun i hi hl => ⟨?_, ?_⟩
  · have hf := ((sttS_iff.1 h).2.2.1 i hi hl).1
    unfold fitsS at hf ⊢
    rw [if_pos (two i hi hl)] at hf ⊢
    show (spotS (s.base + 0) _).2 = true
    rw [Int.add_zero]; exact hf
  · exact ⟨fun e => by omega, fun _ => two i hi hl⟩
/-- The border moves on. -/
theorem up_turn {s : Stt} (h : sttS s = true) (hm : s.mode = 3) (hb : s.base ≠ s.sh.pages) (hc : onesS s.slots = [] ∨ (s.base + 1) * 32 ≤ (nth (onesS s.slots) 0).at_) : sttS (turnS s s.mode 1) = true := by
  have hsu := sttS_super h
  have hsb := superS_b hsu
  refine turn_right h (super_with hsu (by omega) (.inr (.inr (.inl hm)))) fun i hi hl => ⟨?_, ⟨fun e => by omega, fun e => by omega⟩⟩
  have hf := ((sttS_iff.1 h).2.2.1 i hi hl).1
  unfold fitsS at hf ⊢
  cases ht : (nth s.slots i).two with
  | true =>
    rw [if_pos ht] at hf
    rw [if_pos rfl]
    have g := (spot_words hf).good
    exact spot_more hf (by have := g.p1; show _ ≤ s.base + 1; omega)
  | false =>
    rw [if_neg (by simp [ht])] at hf
    rw [if_neg (by simp)]
    have hone : isOne (nth s.slots i) = true := by simp [isOne, hl, ht]
    refine ⟨?_, hf.2.1, hf.2.2⟩
    rcases hc with hc | hc
    · rw [ones_nil hc i hi] at hone; cases hone
    · by_cases hn : onesS s.slots = []
      · rw [ones_nil hn i hi] at hone; cases hone
      · have := ones_first hn i hi hone
        show (s.base + 1) * 32 ≤ _
        omega
end Go.Proofs

set_option maxHeartbeats 1000000
namespace Go.Proofs
open Go.Awp
def cntIx (f : Nat → Bool) (n : Nat) : Nat := ((List.range n).filter f).length
theorem cnt_s {f : Nat → Bool} {n : Nat} : cntIx f (n + 1) = cntIx f n + (if f n = true then 1 else 0) := by
  unfold cntIx
  rw [List.range_succ, List.filter_append, List.length_append]
  cases h : f n <;> simp [h]
theorem cnt_congr {f g : Nat → Bool} : ∀ {n : Nat}, (∀ i, i < n → f i = g i) → cntIx f n = cntIx g n
  | 0, _ => rfl
  | n + 1, h => by rw [cnt_s, cnt_s, cnt_congr (fun i hi => h i (by omega)), h n (by omega)]
theorem cnt_less {f g : Nat → Bool} {m : Nat} (hf : f m = true) (hg : g m = false) : ∀ {n : Nat}, m < n → (∀ i, i < n → i ≠ m → f i = g i) → cntIx g n + 1 = cntIx f n
  | 0, h, _ => by omega
  | n + 1, h, he => by
    rw [cnt_s, cnt_s]
    by_cases e : n = m
    · subst e
      rw [hf, hg, cnt_congr (fun i hi => (he i (by omega) (by omega)).symm)]; simp
    · rw [he n (by omega) e]
      have := cnt_less hf hg (n := n) (by omega) (fun i hi hne => he i (by omega) hne)
      omega
theorem nodup_le : ∀ {n : Nat} {l : List Nat}, l.Nodup → (∀ x ∈ l, x < n) → l.length ≤ n
  | 0, l, _, h => by
    cases l with
    | nil => simp
    | cons a t => have := h a (by simp); omega
  | n + 1, l, hd, h => by
    by_cases hm : n ∈ l
    · have h1 : (l.erase n).Nodup := hd.erase n
      have h2 : ∀ x ∈ l.erase n, x < n := fun x hx => by
        have q := (List.Nodup.mem_erase_iff hd).1 hx
        have := h x q.2
        omega
      have := nodup_le h1 h2
      rw [List.length_erase_of_mem hm] at this
      omega
    · have := nodup_le hd (fun x hx => by have := h x hx; have : x ≠ n := fun e => hm (e ▸ hx); omega : ∀ x ∈ l, x < n)
      omega
/-- Numbers that differ are as many at most as there is room. -/
theorem cnt_le {f : Nat → Bool} {n m : Nat} (v : Nat → Nat) (hv : ∀ i, i < n → f i = true → v i < m) (hd : ∀ i j, i < j → j < n → f i = true → f j = true → v i ≠ v j) : cntIx f n ≤ m := by
  have h1 : (((List.range n).filter f).map v).Nodup := by
    rw [List.Nodup, List.pairwise_map, List.pairwise_filter, range_pair]
    exact fun i j hij hj a b => hd i j hij hj a b
  have h2 : ∀ x ∈ ((List.range n).filter f).map v, x < m := by
    simp only [List.mem_map, List.mem_filter, List.mem_range]
    rintro x ⟨i, ⟨hi, hf⟩, rfl⟩
    exact hv i hi hf
  have := nodup_le h1 h2
  simpa [cntIx] using this
theorem one_fits {s : Stt} (h : sttS s = true) {i : Nat} (hi : i < s.slots.length) (h1 : isOne (nth s.slots i) = true) : s.base * 32 ≤ (nth s.slots i).at_ ∧ (nth s.slots i).at_.tmod 4 = 0 ∧ 4 ≤ (needS (nth s.slots i).len).1 ∧ (nth s.slots i).at_ + (needS (nth s.slots i).len).1 ≤ s.sh.pages * 32 := by
  simp only [isOne, Bool.and_eq_true, Bool.not_eq_true'] at h1
  have hf := ((sttS_iff.1 h).2.2.1 i hi h1.1).1
  unfold fitsS at hf
  rw [if_neg (by simp [h1.2])] at hf
  have hx := slotS1_live (tableS_slot (sttS_rows h) i hi) h1.1
  exact ⟨hf.1, hf.2.1, needS_pos hx.2.2, hf.2.2⟩
theorem front_le {s : Stt} (h : sttS s = true) : frontN s ≤ 8 := by
  have hsb := superS_b (sttS_super h)
  have key : ∀ i, i < s.slots.length → frontB s (nth s.slots i) = true → isOne (nth s.slots i) = true ∧ (nth s.slots i).at_ < (s.base + 1) * 32 := fun i _ hf => by
    simpa [frontB] using hf
  refine cnt_le (fun i => ((nth s.slots i).at_ / 4 - s.base * 8).toNat) (fun i hi hf => ?_) fun i j hij hj hf hg => ?_
  · obtain ⟨k1, k2⟩ := key i hi hf
    have := one_fits h hi k1
    show ((nth s.slots i).at_ / 4 - s.base * 8).toNat < 8
    omega
  · obtain ⟨k1, k2⟩ := key i (by omega) hf
    obtain ⟨k3, k4⟩ := key j hj hg
    have f1 := one_fits h (by omega) k1
    have f2 := one_fits h hj k3
    have q1 := f1.2.1
    have q2 := f2.2.1
    rw [quad_iff (by omega)] at q1 q2
    simp only [isOne, Bool.and_eq_true, Bool.not_eq_true'] at k1 k3
    have hc := ((sttS_iff.1 h).2.2.2 i j hij hj k1.1 k3.1).2 k1.2 k3.2
    unfold disjI at hc
    simp only at hc
    show ((nth s.slots i).at_ / 4 - s.base * 8).toNat ≠ ((nth s.slots j).at_ / 4 - s.base * 8).toNat
    omega
/-- What a step leaves as it was. -/
structure Kept (s t : Stt) : Prop where
  sh : t.sh = s.sh
  len : t.slots.length = s.slots.length
  slot : ∀ i, i < s.slots.length → (nth t.slots i).gen = (nth s.slots i).gen ∧ (nth t.slots i).live = (nth s.slots i).live ∧ (nth t.slots i).len = (nth s.slots i).len
  roots : t.roots = s.roots
  data : t.data = s.data
theorem Kept.refl (s : Stt) : Kept s s := ⟨rfl, rfl, fun _ _ => ⟨rfl, rfl, rfl⟩, rfl, rfl⟩
theorem Kept.trans {s t u : Stt} (h : Kept s t) (k : Kept t u) : Kept s u := ⟨k.sh.trans h.sh, k.len.trans h.len, fun i hi => by
  have a := h.slot i hi
  have b := k.slot i (by rw [h.len]; exact hi)
  exact ⟨b.1.trans a.1, b.2.1.trans a.2.1, b.2.2.trans a.2.2⟩, k.roots.trans h.roots, k.data.trans h.data⟩
theorem kept_turn {s : Stt} {m b : Int} : Kept s (turnS s m b) := ⟨rfl, rfl, fun _ _ => ⟨rfl, rfl, rfl⟩, rfl, rfl⟩
theorem kept_lay {s : Stt} {m : Nat} {two : Bool} {a : Int} (hm : m < s.slots.length) : Kept s (layAt s m two a) := ⟨rfl, by simp [layAt], fun i hi => by
  show (nth (s.slots.set m _) i).gen = _ ∧ (nth (s.slots.set m _) i).live = _ ∧ (nth (s.slots.set m _) i).len = _
  rw [nth_set2 hm]
  split
  · rename_i e; subst e; exact ⟨rfl, rfl, rfl⟩
  · exact ⟨rfl, rfl, rfl⟩, rfl, rfl⟩
theorem clip_mem {fr : Int} {l : List (Int × Int)} {g : Int × Int} (h : g ∈ clipS fr l) : fr ≤ g.1 ∧ ∃ p ∈ l, p.1 ≤ g.1 ∧ g.1 + g.2 = p.1 + p.2 := by
  simp only [clipS, List.mem_filter, List.mem_map] at h
  obtain ⟨⟨p, hp, rfl⟩, _⟩ := h
  unfold clipG
  split
  · exact ⟨by simp, p, hp, by simp only; omega, by simp only; omega⟩
  · exact ⟨by omega, p, hp, by omega, rfl⟩
theorem behind_ge {s : Stt} {fr size a : Int} (h : behindS s fr size = some a) : fr ≤ a := by
  unfold behindS at h
  obtain ⟨g, hg, rfl⟩ := Option.map_eq_some_iff.1 h
  exact (clip_mem (bestS_some hg).1).1
/-- A STEP UP. -/
theorem up_ok {s : Stt} (h : sttS s = true) (hm : s.mode = 3) (he : (upStep s).2 = 0) : sttS (upStep s).1 = true ∧ Kept s (upStep s).1 ∧ s.base ≤ (upStep s).1.base ∧ ((upStep s).1.mode = 2 ∨ ((upStep s).1.mode = 3 ∧ leftU (upStep s).1 < leftU s)) := by
  have hsb := superS_b (sttS_super h)
  unfold upStep at he ⊢
  by_cases hb : s.base = s.sh.pages
  · rw [if_pos hb] at he ⊢
    exact ⟨up_last h hb, kept_turn, by show s.base ≤ s.base + 0; omega, .inl rfl⟩
  rw [if_neg hb] at he ⊢
  by_cases hc : onesS s.slots = [] ∨ (s.base + 1) * 32 ≤ (nth (onesS s.slots) 0).at_
  · rw [if_pos hc] at he ⊢
    have hr := up_turn h hm hb hc
    refine ⟨hr, kept_turn, by show s.base ≤ s.base + 1; omega, .inr ⟨hm, ?_⟩⟩
    have hf := front_le hr
    show (if s.base + 1 = s.sh.pages then 1 else 9 * (s.sh.pages - (s.base + 1) - 1).toNat + frontN (turnS s s.mode 1) + 2) < leftU s
    unfold leftU
    rw [if_neg hb]
    split <;> omega
  rw [if_neg hc] at he ⊢
  have hne : onesS s.slots ≠ [] := fun e => hc (.inl e)
  obtain ⟨k, hk, hk1, hk2⟩ := ones_head hne
  have hat : (nth s.slots k).at_ < (s.base + 1) * 32 := by
    have : (nth (onesS s.slots) 0).at_ = (nth s.slots k).at_ := by rw [hk2]; rfl
    omega
  have hsl : (nth (onesS s.slots) 0).slot = (k : Int) := by rw [hk2]; rfl
  rw [hsl] at he ⊢
  have main : ∀ {two : Bool} {a : Int}, (two = true ∨ (s.base + 1) * 32 ≤ a) → (moveS s k two a).2 = 0 → sttS (moveS s k two a).1 = true ∧ Kept s (moveS s k two a).1 ∧ s.base ≤ (moveS s k two a).1.base ∧ ((moveS s k two a).1.mode = 2 ∨ ((moveS s k two a).1.mode = 3 ∧ leftU (moveS s k two a).1 < leftU s)) := by
    intro two a ha hz
    obtain ⟨m, hkm, _, h1, h2, h3, e, hr⟩ := moveS_cases hz
    obtain rfl : k = m := by omega
    rw [e]
    refine ⟨hr, kept_lay h1, Int.le_refl _, .inr ⟨hm, ?_⟩⟩
    have hcnt : frontN (layAt s k two a) + 1 = frontN s := by
      unfold frontN
      rw [show (layAt s k two a).slots.length = s.slots.length by simp [layAt]]
      refine cnt_less (m := k) ?_ ?_ hk fun i hi hne => ?_
      · simp [frontB, hk1, hat]
      · show frontB (layAt s k two a) (nth (s.slots.set k (atS (nth s.slots k) two a)) k) = false
        rw [nth_set2 hk, if_pos rfl]
        unfold frontB isOne atS
        rcases ha with rfl | ha
        · simp
        · have : ¬ a < ((layAt s k two a).base + 1) * 32 := by show ¬ a < (s.base + 1) * 32; omega
          simp [this]
      · show frontB s (nth s.slots i) = frontB (layAt s k two a) (nth (s.slots.set k (atS (nth s.slots k) two a)) i)
        rw [nth_set2 hk, if_neg (by omega)]
        rfl
    show (if s.base = s.sh.pages then 1 else 9 * (s.sh.pages - s.base - 1).toNat + frontN (layAt s k two a) + 2) < leftU s
    unfold leftU
    rw [if_neg hb, if_neg hb]
    omega
  cases hr : roomS s true (lenAt s k) with
  | some a => rw [hr] at he; exact main (.inl rfl) he
  | none =>
    rw [hr] at he
    simp only at he ⊢
    cases hq : behindS s ((s.base + 1) * 32) (nth (onesS s.slots) 0).len with
    | some a => rw [hq] at he; exact main (.inr (behind_ge hq)) he
    | none => rw [hq] at he; cases he
theorem up_err {s : Stt} (h : sttS s = true) (hm : s.mode = 3) (he : (upStep s).2 ≠ 0) : upStep s = (zStt, 10) := by
  unfold upStep at he ⊢
  by_cases hb : s.base = s.sh.pages
  · rw [if_pos hb] at he; exact absurd rfl he
  rw [if_neg hb] at he ⊢
  by_cases hc : onesS s.slots = [] ∨ (s.base + 1) * 32 ≤ (nth (onesS s.slots) 0).at_
  · rw [if_pos hc] at he; exact absurd rfl he
  rw [if_neg hc] at he ⊢
  have hne : onesS s.slots ≠ [] := fun e => hc (.inl e)
  obtain ⟨k, hk, hk1, hk2⟩ := ones_head hne
  have hsl : (nth (onesS s.slots) 0).slot = (k : Int) := by rw [hk2]; rfl
  rw [hsl] at he ⊢
  have hlive : liveS s k = true := by
    simp only [isOne, Bool.and_eq_true] at hk1
    simp only [liveS, h, Bool.true_and, liveT, Bool.and_eq_true, decide_eq_true_eq]
    exact ⟨by omega, by omega, hk1.1⟩
  have main : ∀ {two : Bool} {a : Int}, (moveS s k two a).2 ≠ 0 → moveS s k two a = (zStt, 10) := by
    intro two a hz
    unfold moveS at hz ⊢
    rw [if_pos hlive] at hz ⊢
    split
    · rename_i hq; rw [if_pos hq] at hz; exact absurd rfl hz
    · rfl
  cases hr : roomS s true (lenAt s k) with
  | some a => rw [hr] at he; exact main he
  | none =>
    rw [hr] at he
    simp only at he ⊢
    cases hq : behindS s ((s.base + 1) * 32) (nth (onesS s.slots) 0).len with
    | some a => rw [hq] at he; exact main he
    | none => rfl
end Go.Proofs

set_option maxHeartbeats 1000000
namespace Go.Proofs
open Go.Awp
def backB (s : Stt) (x : Slot) : Bool := isTwo x && coverB s.base (s.base - 1) (x.at_, x.len)
def backN (s : Stt) : Nat := cntIx (fun i => backB s (nth s.slots i)) s.slots.length
/-- The greatest number of steps that there may still be, down. -/
def leftD (s : Stt) : Nat := if s.base = 0 then 1 else 15 * (s.base - 1).toNat + backN s + 2
theorem two_fits {s : Stt} (h : sttS s = true) {i : Nat} (hi : i < s.slots.length) (h1 : isTwo (nth s.slots i) = true) : (spotS s.base ((nth s.slots i).at_, (nth s.slots i).len)).2 = true := by
  simp only [isTwo, Bool.and_eq_true] at h1
  have hf := ((sttS_iff.1 h).2.2.1 i hi h1.1).1
  unfold fitsS at hf
  rwa [if_pos h1.2] at hf
theorem cell_lt {pages : Int} {o : Int × Int} (h : (spotS pages o).2 = true) (hs : (spotS pages o).1.small = true) : 0 ≤ (spotS pages o).1.cell ∧ (spotS pages o).1.cell < 14 := by
  have W := spot_words h
  obtain ⟨k, hk, _, _, _, h5⟩ := W.sm hs
  have g := W.good.s1 hs
  rcases wordsL_k hk with e | e | e | e | e | e <;> rw [e] at h5 <;> omega
theorem back_le {s : Stt} (h : sttS s = true) : backN s ≤ 14 := by
  have key : ∀ i, i < s.slots.length → backB s (nth s.slots i) = true → isTwo (nth s.slots i) = true ∧ (spotS s.base ((nth s.slots i).at_, (nth s.slots i).len)).1.page ≤ s.base - 1 ∧ s.base - 1 - (spotS s.base ((nth s.slots i).at_, (nth s.slots i).len)).1.page < (spotS s.base ((nth s.slots i).at_, (nth s.slots i).len)).1.count := fun i _ hf => by
    simpa [backB, coverB] using hf
  refine cnt_le (fun i => if (spotS s.base ((nth s.slots i).at_, (nth s.slots i).len)).1.small = true then (spotS s.base ((nth s.slots i).at_, (nth s.slots i).len)).1.cell.toNat else 0) (fun i hi hf => ?_) fun i j hij hj hf hg => ?_
  · obtain ⟨k1, _⟩ := key i hi hf
    show (if _ then _ else _) < 14
    split
    · rename_i hs
      have := cell_lt (two_fits h hi k1) hs
      show (spotS s.base ((nth s.slots i).at_, (nth s.slots i).len)).1.cell.toNat < 14
      omega
    · omega
  · obtain ⟨k1, k2, k3⟩ := key i (by omega) hf
    obtain ⟨k4, k5, k6⟩ := key j hj hg
    have f1 := two_fits h (by omega) k1
    have f2 := two_fits h hj k4
    simp only [isTwo, Bool.and_eq_true] at k1 k4
    have hc := ((sttS_iff.1 h).2.2.2 i j hij hj k1.1 k4.1).1 k1.2 k4.2
    rcases hc with ⟨c1, c2, c3, c4⟩ | hc | hc
    · have q1 := cell_lt f1 c1
      have q2 := cell_lt f2 c2
      show (if _ then _ else _) ≠ (if _ then _ else _)
      rw [if_pos c1, if_pos c2]
      omega
    · omega
    · omega
theorem mates_nil {s : Stt} (h : matesS s.base (twosO s.slots) (s.base - 1) = []) : ∀ i, i < s.slots.length → isTwo (nth s.slots i) = true → coverB s.base (s.base - 1) ((nth s.slots i).at_, (nth s.slots i).len) = false := by
  refine (twos_nth (R := fun o => coverB s.base (s.base - 1) o = false)).1 fun j hj => ?_
  cases hc : coverB s.base (s.base - 1) (nth (twosO s.slots) j) with
  | false => rfl
  | true =>
    have : j ∈ matesS s.base (twosO s.slots) (s.base - 1) := by simp only [matesS, List.mem_filter, List.mem_range]; exact ⟨hj, hc⟩
    rw [h] at this; cases this
theorem least_mem {l : List (Int × Int)} : ∀ {ms : List Nat}, ms ≠ [] → leastS l ms ∈ ms := by
  have key : ∀ (t : List Nat) (i : Nat), t.foldl (fun m j => if (nth l j).1 < (nth l m).1 then j else m) i = i ∨ t.foldl (fun m j => if (nth l j).1 < (nth l m).1 then j else m) i ∈ t := by
    intro t
    induction t with
    | nil => exact fun i => .inl rfl
    | cons a t ih =>
      intro i
      simp only [List.foldl_cons]
      rcases ih (if (nth l a).1 < (nth l i).1 then a else i) with e | e
      · rw [e]
        split
        · exact .inr (by simp)
        · exact .inl rfl
      · exact .inr (List.mem_cons_of_mem _ e)
  intro ms h
  cases ms with
  | nil => exact absurd rfl h
  | cons i t =>
    rcases key t i with e | e
    · show t.foldl _ i ∈ _; rw [e]; simp
    · exact List.mem_cons_of_mem _ e
theorem mate_slot {s : Stt} (hne : matesS s.base (twosO s.slots) (s.base - 1) ≠ []) : ∃ (j k : Nat), leastS (twosO s.slots) (matesS s.base (twosO s.slots) (s.base - 1)) = j ∧ j < (twosO s.slots).length ∧ k < s.slots.length ∧ nth (twosI s.slots) j = k ∧ nth (twosO s.slots) j = ((nth s.slots k).at_, (nth s.slots k).len) ∧
    isTwo (nth s.slots k) = true ∧ coverB s.base (s.base - 1) ((nth s.slots k).at_, (nth s.slots k).len) = true := by
  have hm := least_mem (l := twosO s.slots) hne
  obtain ⟨j, hj⟩ : ∃ j, j = leastS (twosO s.slots) (matesS s.base (twosO s.slots) (s.base - 1)) := ⟨_, rfl⟩
  rw [← hj] at hm
  simp only [matesS, List.mem_filter, List.mem_range] at hm
  obtain ⟨h1, h2⟩ := hm
  have hl : j < (twoIx s.slots s.slots.length).length := by simpa [twosO] using h1
  have hmem := twoIx_mem (nth_mem hl)
  refine ⟨j, nth (twoIx s.slots s.slots.length) j, hj.symm, h1, hmem.1, ?_, ?_, hmem.2, ?_⟩
  · rw [twosI, nth_map hl]
  · rw [twosO, nth_map hl]; rfl
  · rw [twosO, nth_map hl] at h2; exact h2
theorem down_last {s : Stt} (h : sttS s = true) (hb : s.base = 0) : sttS (turnS s 1 0) = true := by
  have hsu := sttS_super h
  have hsb := superS_b hsu
  have one : ∀ i, i < s.slots.length → (nth s.slots i).live = true → (nth s.slots i).two = false := fun i hi hl => by
    cases ht : (nth s.slots i).two with
    | false => rfl
    | true =>
      exfalso
      have hf := two_fits h hi (by simp [isTwo, hl, ht])
      have g := (spot_words hf).good
      have := g.p0; have := g.p1; have := g.c1
      omega
  refine turn_right h (super_with hsu (by omega) (.inl ⟨rfl, by omega⟩)) fun i hi hl => ⟨?_, ?_⟩
  · have hf := ((sttS_iff.1 h).2.2.1 i hi hl).1
    unfold fitsS at hf ⊢
    rw [if_neg (by simp [one i hi hl])] at hf ⊢
    refine ⟨?_, hf.2⟩
    show (s.base + 0) * 32 ≤ _
    omega
  · exact ⟨fun _ => one i hi hl, fun e => by omega⟩
theorem down_turn {s : Stt} (h : sttS s = true) (hm : s.mode = 4) (hb : s.base ≠ 0) (hc : matesS s.base (twosO s.slots) (s.base - 1) = []) : sttS (turnS s s.mode (-1)) = true := by
  have hsu := sttS_super h
  have hsb := superS_b hsu
  refine turn_right h (super_with hsu (by omega) (.inr (.inr (.inr hm)))) fun i hi hl => ⟨?_, ⟨fun e => by omega, fun e => by omega⟩⟩
  have hf := ((sttS_iff.1 h).2.2.1 i hi hl).1
  unfold fitsS at hf ⊢
  cases ht : (nth s.slots i).two with
  | true =>
    rw [if_pos ht] at hf
    rw [if_pos rfl]
    have g := (spot_words hf).good
    have hn := mates_nil hc i hi (by simp [isTwo, hl, ht])
    simp only [coverB, Bool.and_eq_false_iff, decide_eq_false_iff_not] at hn
    have := g.p1; have := g.c1
    exact spot_more hf (by show _ ≤ s.base + -1; omega)
  | false =>
    rw [if_neg (by simp [ht])] at hf
    rw [if_neg (by simp)]
    refine ⟨?_, hf.2.1, hf.2.2⟩
    show (s.base + -1) * 32 ≤ _
    omega
/-- A STEP DOWN. -/
theorem down_ok {s : Stt} (h : sttS s = true) (hm : s.mode = 4) (he : (downStep s).2 = 0) : sttS (downStep s).1 = true ∧ Kept s (downStep s).1 ∧ (downStep s).1.base ≤ s.base ∧ ((downStep s).1.mode = 1 ∨ ((downStep s).1.mode = 4 ∧ leftD (downStep s).1 < leftD s)) := by
  have hsb := superS_b (sttS_super h)
  unfold downStep at he ⊢
  by_cases hb : s.base = 0
  · rw [if_pos hb] at he ⊢
    exact ⟨down_last h hb, kept_turn, by show s.base + 0 ≤ s.base; omega, .inl rfl⟩
  rw [if_neg hb] at he ⊢
  by_cases hc : matesS s.base (twosO s.slots) (s.base - 1) = []
  · rw [if_pos hc] at he ⊢
    have hr := down_turn h hm hb hc
    refine ⟨hr, kept_turn, by show s.base + -1 ≤ s.base; omega, .inr ⟨hm, ?_⟩⟩
    have hf := back_le hr
    show (if s.base + -1 = 0 then 1 else 15 * (s.base + -1 - 1).toNat + backN (turnS s s.mode (-1)) + 2) < leftD s
    unfold leftD
    rw [if_neg hb]
    split <;> omega
  rw [if_neg hc] at he ⊢
  obtain ⟨j, k, e1, hj, hk, e2, e3, ht, hcv⟩ := mate_slot hc
  rw [e1, e2, e3] at he ⊢
  have main : ∀ {two : Bool} {a : Int}, (two = false ∨ coverB s.base (s.base - 1) (a, (nth s.slots k).len) = false) → (moveS s k two a).2 = 0 → sttS (moveS s k two a).1 = true ∧ Kept s (moveS s k two a).1 ∧ (moveS s k two a).1.base ≤ s.base ∧ ((moveS s k two a).1.mode = 1 ∨ ((moveS s k two a).1.mode = 4 ∧ leftD (moveS s k two a).1 < leftD s)) := by
    intro two a ha hz
    obtain ⟨m, hkm, _, h1, h2, h3, e, hr⟩ := moveS_cases hz
    obtain rfl : k = m := by omega
    rw [e]
    refine ⟨hr, kept_lay h1, Int.le_refl _, .inr ⟨hm, ?_⟩⟩
    have hcnt : backN (layAt s k two a) + 1 = backN s := by
      unfold backN
      rw [show (layAt s k two a).slots.length = s.slots.length by simp [layAt]]
      refine cnt_less (m := k) ?_ ?_ hk fun i hi hne => ?_
      · simp [backB, ht, hcv]
      · show backB (layAt s k two a) (nth (s.slots.set k (atS (nth s.slots k) two a)) k) = false
        rw [nth_set2 hk, if_pos rfl]
        unfold backB isTwo atS
        rcases ha with rfl | ha
        · simp
        · show (_ && coverB s.base (s.base - 1) (a, (nth s.slots k).len)) = false
          rw [ha]; simp
      · show backB s (nth s.slots i) = backB (layAt s k two a) (nth (s.slots.set k (atS (nth s.slots k) two a)) i)
        rw [nth_set2 hk, if_neg (by omega)]
        rfl
    show (if s.base = 0 then 1 else 15 * (s.base - 1).toNat + backN (layAt s k two a) + 2) < leftD s
    unfold leftD
    rw [if_neg hb, if_neg hb]
    omega
  simp only at he ⊢
  cases hr : roomS s false (nth s.slots k).len with
  | some a => rw [hr] at he; exact main (.inl rfl) he
  | none =>
    rw [hr] at he
    simp only at he ⊢
    cases hq : placeS (s.base - 1) (restS (twosO s.slots) (matesS s.base (twosO s.slots) (s.base - 1))) (nth s.slots k).len with
    | some a =>
      rw [hq] at he
      refine main (.inr ?_) he
      obtain ⟨p1, _⟩ := place_some hq
      have g := (spot_words p1).good
      rw [spot_page (p := s.base - 1) (q := s.base)] at g
      have := g.p1; have := g.c1
      simp only [coverB, Bool.and_eq_false_iff, decide_eq_false_iff_not]
      omega
    | none => rw [hq] at he; cases he
theorem down_err {s : Stt} (h : sttS s = true) (he : (downStep s).2 ≠ 0) : downStep s = (zStt, 10) := by
  unfold downStep at he ⊢
  by_cases hb : s.base = 0
  · rw [if_pos hb] at he; exact absurd rfl he
  rw [if_neg hb] at he ⊢
  by_cases hc : matesS s.base (twosO s.slots) (s.base - 1) = []
  · rw [if_pos hc] at he; exact absurd rfl he
  rw [if_neg hc] at he ⊢
  obtain ⟨j, k, e1, hj, hk, e2, e3, ht, hcv⟩ := mate_slot hc
  rw [e1, e2, e3] at he ⊢
  have hlive : liveS s k = true := by
    simp only [isTwo, Bool.and_eq_true] at ht
    simp only [liveS, h, Bool.true_and, liveT, Bool.and_eq_true, decide_eq_true_eq]
    exact ⟨by omega, by omega, ht.1⟩
  have main : ∀ {two : Bool} {a : Int}, (moveS s k two a).2 ≠ 0 → moveS s k two a = (zStt, 10) := by
    intro two a hz
    unfold moveS at hz ⊢
    rw [if_pos hlive] at hz ⊢
    split
    · rename_i hq; rw [if_pos hq] at hz; exact absurd rfl hz
    · rfl
  simp only at he ⊢
  cases hr : roomS s false (nth s.slots k).len with
  | some a => rw [hr] at he; exact main he
  | none =>
    rw [hr] at he
    simp only at he ⊢
    cases hq : placeS (s.base - 1) (restS (twosO s.slots) (matesS s.base (twosO s.slots) (s.base - 1))) (nth s.slots k).len with
    | some a => rw [hq] at he; exact main he
    | none => rfl
/-- A STEP. -/
def movingS (s : Stt) : Bool := decide (s.mode = 3) || decide (s.mode = 4)
def leftS (s : Stt) : Nat := if s.mode = 3 then leftU s else leftD s
theorem step_err {s : Stt} (he : (stepS s).2 ≠ 0) : (stepS s).1 = zStt ∧ ((sttS s = false ∧ (stepS s).2 = 1) ∨ (sttS s = true ∧ movingS s = false ∧ (stepS s).2 = 12) ∨ (sttS s = true ∧ movingS s = true ∧ (stepS s).2 = 10)) := by
  unfold stepS at he ⊢
  by_cases h : sttS s = true
  · rw [if_pos h] at he ⊢
    by_cases h3 : s.mode = 3
    · rw [if_pos h3] at he ⊢
      rw [up_err h h3 he]
      exact ⟨rfl, .inr (.inr ⟨h, by simp [movingS, h3], rfl⟩)⟩
    · rw [if_neg h3] at he ⊢
      by_cases h4 : s.mode = 4
      · rw [if_pos h4] at he ⊢
        rw [down_err h he]
        exact ⟨rfl, .inr (.inr ⟨h, by simp [movingS, h4], rfl⟩)⟩
      · rw [if_neg h4]
        exact ⟨rfl, .inr (.inl ⟨h, by simp [movingS, h3, h4], rfl⟩)⟩
  · rw [if_neg h]
    exact ⟨rfl, .inl ⟨by simpa using h, rfl⟩⟩
theorem step_ok {s : Stt} (he : (stepS s).2 = 0) : sttS s = true ∧ movingS s = true ∧ sttS (stepS s).1 = true ∧ Kept s (stepS s).1 ∧ (s.mode = 3 → s.base ≤ (stepS s).1.base ∧ ((stepS s).1.mode = 2 ∨ (stepS s).1.mode = 3)) ∧ (s.mode = 4 → (stepS s).1.base ≤ s.base ∧ ((stepS s).1.mode = 1 ∨ (stepS s).1.mode = 4)) ∧ (movingS (stepS s).1 = true → leftS (stepS s).1 < leftS s) := by
  unfold stepS at he ⊢
  by_cases h : sttS s = true
  · rw [if_pos h] at he ⊢
    by_cases h3 : s.mode = 3
    · rw [if_pos h3] at he ⊢
      obtain ⟨u1, u2, u3, u4⟩ := up_ok h h3 he
      refine ⟨h, by simp [movingS, h3], u1, u2, fun _ => ⟨u3, ?_⟩, fun e => by omega, fun hv => ?_⟩
      · rcases u4 with u4 | u4
        · exact .inl u4
        · exact .inr u4.1
      · rcases u4 with u4 | ⟨u4, u5⟩
        · simp [movingS, u4] at hv
        · unfold leftS; rw [if_pos h3, if_pos u4]; exact u5
    · rw [if_neg h3] at he ⊢
      by_cases h4 : s.mode = 4
      · rw [if_pos h4] at he ⊢
        obtain ⟨u1, u2, u3, u4⟩ := down_ok h h4 he
        refine ⟨h, by simp [movingS, h4], u1, u2, fun e => by omega, fun _ => ⟨u3, ?_⟩, fun hv => ?_⟩
        · rcases u4 with u4 | u4
          · exact .inl u4
          · exact .inr u4.1
        · rcases u4 with u4 | ⟨u4, u5⟩
          · simp [movingS, u4] at hv
          · unfold leftS; rw [if_neg h3, if_neg (by omega)]; exact u5
      · rw [if_neg h4] at he; cases he
  · rw [if_neg h] at he; cases he
end Go.Proofs

set_option maxHeartbeats 1000000
namespace Go.Proofs
open Go.Awp
/-- All steps. -/
def endF : Nat → Nat → Stt → Stt × Nat × Int
  | 0, n, _ => (zStt, n, 1)
  | f + 1, n, s => if 0 < n ∧ movingS s = false then (s, n, 0) else if (stepS s).2 ≠ 0 then (zStt, n, (stepS s).2) else endF f (n + 1) (stepS s).1
def needE (n : Nat) (s : Stt) : Nat := if movingS s = true then leftS s + 1 else 1
def endS (s : Stt) : Stt × Nat × Int := endF (needE 0 s) 0 s
theorem leftS_pos {s : Stt} : 1 ≤ leftS s := by
  unfold leftS leftU leftD
  split <;> split <;> omega
/-- With as much as is needed, more makes no difference. -/
theorem endF_more : ∀ {f : Nat} {n : Nat} {s : Stt}, needE n s ≤ f → endF f n s = endF (needE n s) n s
  | 0, n, s, h => by
    have : needE n s = 0 := by omega
    rw [this]
  | f + 1, n, s, h => by
    obtain ⟨k, hk⟩ : ∃ k, needE n s = k + 1 := ⟨needE n s - 1, by unfold needE; split <;> omega⟩
    rw [hk]
    show (if 0 < n ∧ movingS s = false then (s, n, 0) else if (stepS s).2 ≠ 0 then (zStt, n, (stepS s).2) else endF f (n + 1) (stepS s).1) = (if 0 < n ∧ movingS s = false then (s, n, 0) else if (stepS s).2 ≠ 0 then (zStt, n, (stepS s).2) else endF k (n + 1) (stepS s).1)
    split
    · rfl
    · split
      · rfl
      · rename_i he
        have he : (stepS s).2 = 0 := by omega
        obtain ⟨_, hm, _, _, _, _, hd⟩ := step_ok he
        have hn : needE n s = leftS s + 1 := by unfold needE; rw [if_pos hm]
        have hp := leftS_pos (s := s)
        have hn2 : needE (n + 1) (stepS s).1 ≤ leftS s := by
          unfold needE
          split
          · rename_i h2; have := hd h2; omega
          · omega
        rw [endF_more (f := f) (by omega), endF_more (f := k) (by omega)]
theorem endF_stop {f n : Nat} {s : Stt} (h : 0 < n ∧ movingS s = false) : endF (f + 1) n s = (s, n, 0) := by
  show (if _ then _ else _) = _
  rw [if_pos h]
theorem endF_err {f n : Nat} {s : Stt} (h : ¬ (0 < n ∧ movingS s = false)) (he : (stepS s).2 ≠ 0) : endF (f + 1) n s = (zStt, n, (stepS s).2) := by
  show (if _ then _ else _) = _
  rw [if_neg h, if_pos he]
theorem endF_step {f n : Nat} {s : Stt} (h : ¬ (0 < n ∧ movingS s = false)) (he : (stepS s).2 = 0) : endF (f + 1) n s = endF f (n + 1) (stepS s).1 := by
  show (if _ then _ else _) = _
  rw [if_neg h, if_neg (by omega)]
/-- What the end is, step by step. -/
theorem end_next {n : Nat} {s : Stt} (h : ¬ (0 < n ∧ movingS s = false)) (he : (stepS s).2 = 0) : endF (needE n s) n s = endF (needE (n + 1) (stepS s).1) (n + 1) (stepS s).1 ∧ needE (n + 1) (stepS s).1 < needE n s := by
  obtain ⟨_, hm, _, _, _, _, hd⟩ := step_ok he
  have hn : needE n s = leftS s + 1 := by unfold needE; rw [if_pos hm]
  have hp := leftS_pos (s := s)
  have hn2 : needE (n + 1) (stepS s).1 ≤ leftS s := by
    unfold needE
    split
    · rename_i h2; have := hd h2; omega
    · omega
  refine ⟨?_, by omega⟩
  rw [hn, endF_step h he]
  exact endF_more hn2
theorem need_pos {n : Nat} {s : Stt} : 0 < needE n s := by unfold needE; split <;> omega
/-- What the steps keep, and how many they are. -/
structure Went (s t : Stt) (n k : Nat) : Prop where
  right : sttS t = true
  kept : Kept s t
  mode : (s.mode = 3 → t.mode = 2 ∨ t.mode = 3) ∧ (s.mode = 4 → t.mode = 1 ∨ t.mode = 4)
  left : movingS t = true → k + leftS t ≤ n + leftS s
  few : k ≤ n + leftS s
theorem end_went : ∀ {f : Nat} {n : Nat} {s : Stt}, sttS s = true → movingS s = true → needE n s ≤ f → (endF f n s).2.2 = 0 → n < (endF f n s).2.1 ∧ (endF f n s).2.1 ≤ n + leftS s ∧ sttS (endF f n s).1 = true ∧ Kept s (endF f n s).1 ∧ (s.mode = 3 → (endF f n s).1.mode = 2) ∧ (s.mode = 4 → (endF f n s).1.mode = 1)
  | 0, n, s, _, _, hf, _ => by have := need_pos (n := n) (s := s); omega
  | f + 1, n, s, hs, hm, hf, he => by
    have hnot : ¬ (0 < n ∧ movingS s = false) := fun q => by rw [hm] at q; cases q.2
    by_cases hz : (stepS s).2 = 0
    · rw [endF_step hnot hz] at he ⊢
      obtain ⟨_, _, r1, r2, r3, r4, hd⟩ := step_ok hz
      have hn : needE n s = leftS s + 1 := by unfold needE; rw [if_pos hm]
      have hp := leftS_pos (s := s)
      have hn2 : needE (n + 1) (stepS s).1 ≤ leftS s := by
        unfold needE
        split
        · rename_i h2; have := hd h2; omega
        · omega
      by_cases hv : movingS (stepS s).1 = true
      · obtain ⟨q1, q2, q3, q4, q5, q6⟩ := end_went r1 hv (f := f) (n := n + 1) (by omega) he
        have := hd hv
        refine ⟨by omega, by omega, q3, r2.trans q4, fun e => ?_, fun e => ?_⟩
        · rcases (r3 e).2 with w | w
          · simp [movingS, w] at hv
          · exact q5 w
        · rcases (r4 e).2 with w | w
          · simp [movingS, w] at hv
          · exact q6 w
      · have hv' : movingS (stepS s).1 = false := by simpa using hv
        obtain ⟨k, rfl⟩ : ∃ k, f = k + 1 := ⟨f - 1, by have := need_pos (n := n + 1) (s := (stepS s).1); omega⟩
        rw [endF_stop ⟨by omega, hv'⟩]
        refine ⟨by show n < n + 1; omega, by show n + 1 ≤ n + leftS s; omega, r1, r2, fun e => ?_, fun e => ?_⟩
        · rcases (r3 e).2 with w | w
          · exact w
          · simp [movingS, w] at hv'
        · rcases (r4 e).2 with w | w
          · exact w
          · simp [movingS, w] at hv'
    · rw [endF_err hnot hz] at he
      exact absurd he hz
def boundS (s : Stt) : Int := if s.mode = 3 then 9 * s.sh.pages + 1 else if s.mode = 4 then 15 * s.sh.pages + 1 else 0
theorem left_bound {s : Stt} (h : sttS s = true) (hm : movingS s = true) : (leftS s : Int) ≤ boundS s := by
  have hsb := superS_b (sttS_super h)
  have f1 := front_le h
  have f2 := back_le h
  simp only [movingS, Bool.or_eq_true, decide_eq_true_eq] at hm
  unfold leftS boundS
  rcases hm with e | e
  · rw [if_pos e, if_pos e]
    unfold leftU
    split <;> omega
  · rw [if_neg (by omega), if_neg (by omega), if_pos e]
    unfold leftD
    split <;> omega
/-- A start. -/
def fromM (up : Bool) : Int := if up = true then 1 else 2
def toM (up : Bool) : Int := if up = true then 3 else 4
def startS (s : Stt) (up : Bool) : Stt × Int := if sttS s = false then (zStt, 1) else if s.mode ≠ fromM up then (zStt, 12) else if (endS (turnS s (toM up) 0)).2.2 ≠ 0 then (zStt, (endS (turnS s (toM up) 0)).2.2) else (turnS s (toM up) 0, 0)
theorem start_right {s : Stt} {up : Bool} (h : sttS s = true) : sttS (turnS s (toM up) 0) = true := by
  have hsu := sttS_super h
  have hsb := superS_b hsu
  have ht : toM up = 3 ∨ toM up = 4 := by cases up <;> simp [toM]
  refine turn_right h (super_with hsu (by omega) (.inr (.inr ht))) fun i hi hl => ⟨?_, ⟨fun e => by omega, fun e => by omega⟩⟩
  have hf := ((sttS_iff.1 h).2.2.1 i hi hl).1
  unfold fitsS at hf ⊢
  show (if _ then (spotS (s.base + 0) _).2 = true else (s.base + 0) * 32 ≤ _ ∧ _)
  rw [Int.add_zero]; exact hf
theorem start_ok {s : Stt} {up : Bool} (he : (startS s up).2 = 0) : sttS s = true ∧ s.mode = fromM up ∧ startS s up = (turnS s (toM up) 0, 0) ∧ (endS (turnS s (toM up) 0)).2.2 = 0 := by
  unfold startS at he ⊢
  by_cases h : sttS s = false
  · rw [if_pos h] at he; cases he
  · rw [if_neg h] at he ⊢
    by_cases hm : s.mode = fromM up
    · rw [if_neg (by simpa using hm)] at he ⊢
      by_cases hz : (endS (turnS s (toM up) 0)).2.2 = 0
      · rw [if_neg (by simpa using hz)]
        exact ⟨by simpa using h, hm, rfl, hz⟩
      · rw [if_pos hz] at he; exact absurd he hz
    · rw [if_pos hm] at he; cases he
end Go.Proofs

set_option maxHeartbeats 1000000
namespace Go.Proofs
open Go.Awp
theorem clip_step {fr : Int} {l : List (Int × Int)} {i : Nat} (h : i < l.length) : clipS fr (l.take (i + 1)) = clipS fr (l.take i) ++ (if 0 < (clipG fr (nth l i)).2 then [clipG fr (nth l i)] else []) := by
  rw [take_succ h]
  unfold clipS
  rw [List.map_append, List.filter_append]
  congr 1
  simp only [List.map_cons, List.map_nil, List.filter_cons, List.filter_nil]
  split <;> rename_i q <;> simp at q
  · rw [if_pos q]
  · rw [if_neg (by omega)]
theorem clip_len {fr : Int} {l : List (Int × Int)} : (clipS fr l).length ≤ l.length := by
  unfold clipS
  exact Nat.le_trans (List.length_filter_le _ _) (by simp)
theorem gapsF_b {s : Stt} (h : sttS s = true) : ∀ g ∈ gapsOf s, 0 ≤ g.1 ∧ g.1 ≤ 2048 ∧ 0 < g.2 ∧ g.2 ≤ 2048 := by
  intro g hg
  have hG := sttS_gaps h
  simp only [gapsS, Bool.and_eq_true] at hG
  have hb := superS_b (sttS_super h)
  obtain ⟨h1, h2, h3, _⟩ := gapsF_mem hG.2 g hg
  omega
theorem turn_ok {s : Stt} {m b : Int} (h : s.Ok) : (turnS s m b).Ok := ⟨h.h1, h.h2, h.h3, h.h4, h.h5⟩
theorem stepS_Ok {s : Stt} (h : s.Ok) : (stepS s).1.Ok := by
  have hup : (upStep s).1.Ok := by
    unfold upStep
    split
    · exact turn_ok h
    · split
      · exact turn_ok h
      · split
        · exact moveS_ok h
        · split
          · exact moveS_ok h
          · exact zStt_ok
  have hdn : (downStep s).1.Ok := by
    unfold downStep
    split
    · exact turn_ok h
    · split
      · exact turn_ok h
      · split
        · exact moveS_ok h
        · split
          · exact moveS_ok h
          · exact zStt_ok
  unfold stepS
  split
  · split
    · exact hup
    · split
      · exact hdn
      · exact zStt_ok
  · exact zStt_ok
theorem need_le {n : Nat} {s : Stt} (h : sttS s = true) : needE n s ≤ 1000 := by
  have hsb := superS_b (sttS_super h)
  unfold needE
  split
  · rename_i hm
    have := left_bound h hm
    unfold boundS at this
    split at this
    · omega
    · split at this <;> omega
  · omega
end Go.Proofs

set_option maxHeartbeats 1000000
namespace Go.Proofs
open Go.Awp
/-- Where a number first stands in a list, or -1. -/
def ixN (l : List Int) (x : Int) : Int := if l.contains x = true then (l.idxOf x : Int) else -1
theorem ixN_at {l : List Int} {x : Int} {i : Nat} (hi : i < l.length) (h : ∀ j, j < i → nth l j ≠ x) (hx : nth l i = x) : ixN l x = i := by
  have hm : x ∈ l := by rw [← hx]; exact nth_mem hi
  have hle : l.idxOf x = i := by
    have hlt := List.idxOf_lt_length_of_mem hm
    have hg : l[l.idxOf x] = x := List.getElem_idxOf hlt
    rcases Nat.lt_trichotomy (l.idxOf x) i with q | q | q
    · exact absurd (by rw [nth_eq hlt]; exact hg) (h _ q)
    · exact q
    · have := List.not_of_lt_findIdx (p := (· == x)) (xs := l) q
      rw [nth_eq hi] at hx
      simp [hx] at this
  unfold ixN
  rw [if_pos (by simpa using hm), hle]
theorem ixN_none {l : List Int} {x : Int} (h : ∀ j, j < l.length → nth l j ≠ x) : ixN l x = -1 := by
  unfold ixN
  rw [if_neg]
  intro hc
  have hm : x ∈ l := by simpa using hc
  obtain ⟨j, hj, e⟩ := List.mem_iff_getElem.1 hm
  exact h j hj (by rw [nth_eq hj]; exact e)
theorem ixN_nonneg {l : List Int} {x : Int} : decide (0 ≤ ixN l x) = l.contains x := by
  unfold ixN
  cases h : l.contains x <;> simp
theorem leastS_one {l : List (Int × Int)} {ms : List Nat} (h : ms ≠ []) : leastS l (ms.take 1) = nth ms 0 := by
  cases ms with
  | nil => exact absurd rfl h
  | cons a t => rfl
theorem leastS_step (l : List (Int × Int)) {ms : List Nat} {i : Nat} (h1 : 1 ≤ i) (h2 : i < ms.length) : leastS l (ms.take (i + 1)) = if (nth l (nth ms i)).1 < (nth l (leastS l (ms.take i))).1 then nth ms i else leastS l (ms.take i) := by
  cases ms with
  | nil => simp at h2
  | cons a t =>
    obtain ⟨k, rfl⟩ : ∃ k, i = k + 1 := ⟨i - 1, by omega⟩
    have hk : k < t.length := by simpa using h2
    rw [List.take_succ_cons, List.take_succ_cons, take_succ hk]
    simp only [leastS, List.foldl_append, List.foldl_cons, List.foldl_nil]
    rfl
theorem leastS_in {l : List (Int × Int)} {ms : List Nat} {i : Nat} (hne : ms ≠ []) (h : ∀ i, i < ms.length → nth ms i < l.length) (h1 : 1 ≤ i) : leastS l (ms.take i) < l.length := by
  have key : ∀ (t : List Nat) (a : Nat), a < l.length → (∀ x ∈ t, x < l.length) → t.foldl (fun m j => if (nth l j).1 < (nth l m).1 then j else m) a < l.length := by
    intro t
    induction t with
    | nil => intro a ha _; exact ha
    | cons x t ih =>
      intro a ha hx
      simp only [List.foldl_cons]
      refine ih _ ?_ (fun y hy => hx y (by simp [hy]))
      split
      · exact hx x (by simp)
      · exact ha
  have hmem : ∀ x ∈ ms, x < l.length := fun x hx => by
    obtain ⟨j, hj, e⟩ := List.mem_iff_getElem.1 hx
    have := h j hj
    rw [nth_eq hj, e] at this; exact this
  cases ms with
  | nil => exact absurd rfl hne
  | cons a t =>
    obtain ⟨k, rfl⟩ : ∃ k, i = k + 1 := ⟨i - 1, by omega⟩
    rw [List.take_succ_cons]
    exact key _ _ (hmem a (by simp)) (fun x hx => hmem x (by simp [List.mem_of_mem_take hx]))
theorem castN_contains {ms : List Nat} {k : Nat} : (ms.map fun (k : Nat) => (k : Int)).contains (k : Int) = ms.contains k := by
  rw [Bool.eq_iff_iff]
  simp only [List.contains_iff_mem, List.mem_map]
  exact ⟨fun ⟨a, h, e⟩ => by rw [← Int.ofNat_inj.1 e]; exact h, fun h => ⟨k, h, rfl⟩⟩
theorem down_facts {s : Stt} (hs : s.Ok) (hR : sttS s = true) : (twosO s.slots).length ≤ 2^40 ∧ (twosI s.slots).length = (twosO s.slots).length ∧ (laidS s.base (twosO s.slots)).isSome = true ∧ ∀ i, i < (twosO s.slots).length → 0 ≤ (nth (twosO s.slots) i).1 ∧ (nth (twosO s.slots) i).1 ≤ 2^40 := by
  refine ⟨Nat.le_trans twosO_len hs.h1, twosI_len, ?_, fun i hi => ⟨?_, twosO_le (sttS_rows hR) i hi⟩⟩
  · have h1 := hR
    simp only [sttS, Bool.and_eq_true] at h1
    exact h1.2.2.1
  · have hk := sttS_laid hR i hi
    have hsp : (spotS s.base (nth (twosO s.slots) i)).2 = true := by
      cases hq : (spotS s.base (nth (twosO s.slots) i)).2 with
      | true => rfl
      | false => simp only [okI, layO] at hk; rw [if_neg (by simp [hq])] at hk; cases hk
    unfold spotS at hsp
    split at hsp
    · cases hsp
    · omega
theorem rest_b {l : List (Int × Int)} {ms : List Nat} {b : Int} (h : ∀ k, k < l.length → (nth l k).1 ≤ b) : ∀ k, k < (restS l ms).length → (nth (restS l ms) k).1 ≤ b := fun k hk => by
  have hm := nth_mem hk
  simp only [restS, List.mem_map, List.mem_filter, List.mem_range] at hm
  obtain ⟨a, ⟨ha, _⟩, e⟩ := hm
  rw [restS, ← e]
  exact h a ha
end Go.Proofs

set_option maxHeartbeats 1000000
namespace Go.Proofs
open Go.Awp
def sh0 : Shape := ⟨4, 2, 2, 30⟩
/-- The two small examples, worked out. -/
theorem small_facts : ∃ A B C D E F : Stt, ∃ id : Int × Int, newS sh0 1 = (A, 0) ∧ startS A true = (B, 0) ∧ endS B = (C, 5, 0) ∧ C.mode = 2 ∧ putS A 16 = (D, id, 0) ∧ startS D true = (E, 0) ∧ endS E = (F, 7, 0) ∧ F.mode = 2 ∧ F.slots.length = 2 ∧ (nth F.slots 0).two = true ∧ (stepS A).2 = 12 ∧ fewStt A = true := by
  refine ⟨(newS sh0 1).1, (startS (newS sh0 1).1 true).1, (endS (startS (newS sh0 1).1 true).1).1, (putS (newS sh0 1).1 16).1, (startS (putS (newS sh0 1).1 16).1 true).1, (endS (startS (putS (newS sh0 1).1 16).1 true).1).1, (putS (newS sh0 1).1 16).2.1, ?_, ?_, ?_, ?_, ?_, ?_, ?_, ?_, ?_, ?_, ?_, ?_⟩
  · exact Prod.ext rfl (by decide +kernel)
  · exact Prod.ext rfl (by decide +kernel)
  · exact Prod.ext rfl (Prod.ext (by decide +kernel) (by decide +kernel))
  · decide +kernel
  · exact Prod.ext rfl (Prod.ext rfl (by decide +kernel))
  · exact Prod.ext rfl (by decide +kernel)
  · exact Prod.ext rfl (Prod.ext (by decide +kernel) (by decide +kernel))
  all_goals decide +kernel
theorem endS_Ok {s : Stt} (h : s.Ok) : (endS s).1.Ok := by
  have key : ∀ (f n : Nat) (s : Stt), s.Ok → (endF f n s).1.Ok := by
    intro f
    induction f with
    | zero => intro n s _; exact zStt_ok
    | succ f ih =>
      intro n s h
      unfold endF
      split
      · exact h
      · split
        · exact zStt_ok
        · exact ih _ _ (stepS_Ok h)
  exact key _ _ _ h
theorem startS_Ok {s : Stt} {up : Bool} (h : s.Ok) : (startS s up).1.Ok := by
  unfold startS
  split
  · exact zStt_ok
  · split
    · exact zStt_ok
    · split
      · exact zStt_ok
      · exact turn_ok h
end Go.Proofs

set_option maxHeartbeats 1000000
namespace Go.Proofs
open Go.Awp
theorem endF_err10 : ∀ {f n : Nat} {s : Stt}, sttS s = true → movingS s = true ∨ 0 < n → needE n s ≤ f → (endF f n s).2.2 ≠ 0 → (endF f n s).2.2 = 10
  | 0, n, s, _, _, hf, _ => by have := need_pos (n := n) (s := s); omega
  | f + 1, n, s, h, hm, hf, he => by
    by_cases h0 : 0 < n ∧ movingS s = false
    · rw [endF_stop h0] at he; exact absurd rfl he
    · have hmv : movingS s = true := by
        rcases hm with hm | hm
        · exact hm
        · cases hq : movingS s with
          | true => rfl
          | false => exact absurd ⟨hm, hq⟩ h0
      by_cases hs : (stepS s).2 = 0
      · obtain ⟨_, n2⟩ := end_next h0 hs
        rw [endF_step h0 hs] at he ⊢
        exact endF_err10 (step_ok hs).2.2.1 (.inr (by omega)) (by omega) he
      · rw [endF_err h0 hs] at he ⊢
        rcases (step_err hs).2 with q | q | q
        · rw [q.1] at h; cases h
        · rw [q.2.1] at hmv; cases hmv
        · exact q.2.2
theorem moving_to {s : Stt} {up : Bool} : movingS (turnS s (toM up) 0) = true := by cases up <;> rfl
theorem start_err {s : Stt} {up : Bool} (h : sttS s = true) (he : (startS s up).2 ≠ 0) : (startS s up).1 = zStt ∧ (startS s up).2 = if s.mode = fromM up then 10 else 12 := by
  unfold startS at he ⊢
  rw [if_neg (by rw [h]; simp)] at he ⊢
  by_cases hm : s.mode = fromM up
  · rw [if_neg (by simpa using hm)] at he ⊢
    by_cases hz : (endS (turnS s (toM up) 0)).2.2 = 0
    · rw [if_neg (by simpa using hz)] at he; exact absurd rfl he
    · rw [if_pos hz, if_pos hm]
      exact ⟨rfl, endF_err10 (start_right h) (.inl moving_to) (Nat.le_refl _) hz⟩
  · rw [if_pos hm, if_neg hm]; exact ⟨rfl, rfl⟩
/-- Where a move from here to there ends. -/
theorem end_of {s : Stt} {up : Bool} (he : (startS s up).2 = 0) : ∃ E n, endS (turnS s (toM up) 0) = (E, n, 0) ∧ 0 < n ∧ (n : Int) ≤ boundS (turnS s (toM up) 0) ∧ sttS E = true ∧ Kept s E ∧ E.mode = (if up = true then 2 else 1) := by
  obtain ⟨h, hm, _, hz⟩ := start_ok he
  obtain ⟨w1, w2, w3, w4, w5, w6⟩ := end_went (f := needE 0 (turnS s (toM up) 0)) (n := 0) (start_right (up := up) h) moving_to (Nat.le_refl _) hz
  have hb := left_bound (start_right (up := up) h) moving_to
  refine ⟨(endS (turnS s (toM up) 0)).1, (endS (turnS s (toM up) 0)).2.1, Prod.ext rfl (Prod.ext rfl hz), w1, ?_, w3, kept_turn.trans w4, ?_⟩
  · have : (endS (turnS s (toM up) 0)).2.1 ≤ 0 + leftS (turnS s (toM up) 0) := w2
    omega
  · cases up with
    | true => exact w5 rfl
    | false => exact w6 rfl
end Go.Proofs

set_option maxHeartbeats 1000000
namespace Go.Proofs
open Go.Awp
theorem start_z {s : Stt} {up : Bool} (he : (startS s up).2 ≠ 0) : (startS s up).1 = zStt := by
  cases h : sttS s with
  | true => exact (start_err h he).1
  | false => unfold startS; rw [if_pos h]
theorem kept_of {s t : Stt} (h : Kept s t) : ofS t = ofS s := by
  have e : ∀ i, i < s.slots.length → ofB t i = ofB s i := fun i hi => by
    have := h.slot i hi
    unfold ofB
    rw [h.data, this.2.1]
  have e2 : ofD t s.slots.length = ofD s s.slots.length := List.map_congr_left fun i hi => e i (List.mem_range.1 hi)
  have e3 : ofG t s.slots.length = ofG s s.slots.length := List.map_congr_left fun i hi => (h.slot i (List.mem_range.1 hi)).1
  unfold ofS
  rw [h.len, h.roots, e2, e3]
theorem ofS_ok {s : Stt} (h : s.Ok) : (ofS s).Ok := by
  refine ⟨by simpa [ofS] using h.h1, by simpa [ofS] using h.h1, h.h2, fun i hi => ?_, h.h5⟩
  have hi2 : i < s.slots.length := by simpa [ofS] using hi
  show (nth (ofD s s.slots.length) i).length ≤ _
  rw [ofD, nth_map (by simpa using hi2), nth_eq (by simpa using hi2)]
  simp only [List.getElem_range]
  unfold ofB
  split
  · rename_i q
    simp only [Bool.and_eq_true, decide_eq_true_eq] at q
    exact h.h4 i q.2
  · simp
end Go.Proofs

set_option maxHeartbeats 1000000
namespace Go.Proofs
open Go.Awp
theorem kept_live {s t : Stt} (h : Kept s t) : ∀ n, n ≤ s.slots.length → liveIx t.slots n = liveIx s.slots n
  | 0, _ => rfl
  | n + 1, hn => by
    have e := (h.slot n (by omega)).2.1
    rw [liveIx_s, liveIx_s, kept_live h n (by omega), e]
theorem kept_live' {s t : Stt} (h : Kept s t) : liveIx t.slots t.slots.length = liveIx s.slots s.slots.length := by
  rw [h.len]; exact kept_live h _ (Nat.le_refl _)
theorem still_mode {s : Stt} (h : sttS s = true) (hm : movingS s = false) : s.mode = 1 ∨ s.mode = 2 := by
  have hs := sttS_super h
  simp only [superS, Bool.and_eq_true] at hs
  simp only [movingS, Bool.or_eq_false_iff, decide_eq_false_iff_not] at hm
  by_cases h1 : s.mode = 1
  · exact .inl h1
  · by_cases h2 : s.mode = 2
    · exact .inr h2
    · have := hs.2
      rw [if_neg h1, if_neg h2] at this
      simp only [decide_eq_true_eq] at this
      omega
/-- What a step of a state that is right answers. -/
theorem step_law {s : Stt} (h : sttS s = true) : ((stepS s).2 = 0 ∧ sttS (stepS s).1 = true ∧ Kept s (stepS s).1 ∧ (s.mode = 3 → s.base ≤ (stepS s).1.base) ∧ (s.mode = 4 → (stepS s).1.base ≤ s.base)) ∨ ((stepS s).1 = zStt ∧ ((stepS s).2 = 10 ∨ ((stepS s).2 = 12 ∧ (s.mode = 1 ∨ s.mode = 2)))) := by
  by_cases he : (stepS s).2 = 0
  · obtain ⟨_, _, a, b, c, d, _⟩ := step_ok he
    exact .inl ⟨he, a, b, fun hm => (c hm).1, fun hm => (d hm).1⟩
  · obtain ⟨a, b⟩ := step_err he
    refine .inr ⟨a, ?_⟩
    rcases b with q | q | q
    · rw [q.1] at h; cases h
    · exact .inr ⟨q.2.2, still_mode q.1 q.2.1⟩
    · exact .inl q.2.2
end Go.Proofs

set_option maxHeartbeats 4000000
set_option maxRecDepth 4000
namespace Go.Proofs
open Go.Awp
theorem in199m (g : Gl) (o0 o1 o2 : Awp.Obj) (pages : Int) (l : List (Int × Int)) : ∀ B S, CallsA Tryz.prog g B S ⟨3, true⟩ 199 [.d (vI pages), .d (rO l)] [o0, o1, o2]
    (fun x r => x = .fn (.func 231) [] [.ptr 4 0 0, .ptr 3 0 0] ∧ r = [o0, o1, o2, .var 3 [.d (vI pages)], .var 32 [.d (rO l)]]) := by
  refine callsA_at Tryz.func199 rfl (Nat.le_of_ble_eq_true rfl) fun B S => ?_
  refine xU ?_
  iterate 3 refine xO ?_
  refine xE [2, 3] ?_
  refine xT ?_
  iterate 2 refine xO ?_
  refine xE [4] ?_
  rintro -
  refine W_ret ?_
  refine endAt_ret (by simp [Tryz.f199]; exact .mk) ?_ ?_
  · simp
  simp
theorem in231m (g : Gl) (pages page : Int) (l : List (Int × Int)) (hp : 0 ≤ pages ∧ pages ≤ 64) (hl : l.length ≤ 2^40) (ho : ∀ i, i < l.length → (nth l i).1 ≤ 2^40) (b lb : Nat) (c : LoopC) (L : List (Nat × AV)) (hc1 : c.params.size = 2) (hc2 : ∀ p ∈ c.params.toList, p < c.n)
    (U : Nat → List Nat) (hU : U 0 = []) (zL : (L.all fun p => p.2.lt 7) = true) (zK : (L.all fun p => p.2.lt 8) = true) (zR : (L.map fun p => (p.1, p.2.ren (swapB 7 11 1))) = L)
    (hround : ∀ i, i < l.length → ∀ B S, RoundI Tryz.prog g B S lb 6 c L [.agg [.d (vI (spotS pages (nth l i)).1.page), .d (vI (spotS pages (nth l i)).1.count), .d (vT (spotS pages (nth l i)).1.small), .d (vI (spotS pages (nth l i)).1.cls), .d (vI (spotS pages (nth l i)).1.cell)], .d (vT (spotS pages (nth l i)).2)] [.var 3 [.d (vI page)], .var 33 [.hdr 7 0 (U (i)).length], .var 3 [.d (vI (i : Nat))], .var 3 [.d (vI pages)], .var 32 [.d (rO l)], .blk b, .lp lb c L .ready none, .row 1 ((U (i)).map fun (k : Nat) => vI k), .var 98 [.d (vI (nth l i).1), .d (vI (nth l i).2)]] (fun bb o => bb = true ∧ ((∃ Y : Awp.Obj, o = [.var 3 [.d (vI page)], .var 33 [.hdr 7 0 (U (i + 1)).length], .var 3 [.d (vI (i + 1 : Nat))], .var 3 [.d (vI pages)], .var 32 [.d (rO l)], .blk b, .lp lb c L .ready none, .row 1 ((U (i + 1)).map fun (k : Nat) => vI k), .var 98 [.d (vI (nth l i).1), .d (vI (nth l i).2)], Y]) ∨ ∃ X Y Y2 : Awp.Obj, o = [.var 3 [.d (vI page)], .var 33 [.hdr 11 0 (U (i + 1)).length], .var 3 [.d (vI (i + 1 : Nat))], .var 3 [.d (vI pages)], .var 32 [.d (rO l)], .blk b, .lp lb c L .ready none, X, .var 98 [.d (vI (nth l i).1), .d (vI (nth l i).2)], Y, Y2, .row 1 ((U (i + 1)).map fun (k : Nat) => vI k)]))) :
    ∀ B S, CallsA Tryz.prog g B S ⟨7, true⟩ 231 [.fn (.yield lb) [] [], .ptr 4 0 0, .ptr 3 0 0] [.var 3 [.d (vI page)], .var 33 [.d (.v (.slice none 0 0))], .var 3 [.d (vI 0)], .var 3 [.d (vI pages)], .var 32 [.d (rO l)], .blk b, .lp lb c L .ready none] (fun x r => x = .tup [] ∧ r = [.var 3 [.d (vI page)], .var 33 [.hdr 7 0 (U (l.length)).length], .var 3 [.d (vI (l.length : Nat))], .var 3 [.d (vI pages)], .var 32 [.d (rO l)], .blk b, .lp lb c L .ready none, .row 1 ((U (l.length)).map fun (k : Nat) => vI k)]) := by
  refine callsA_WI Tryz.func231 rfl (Nat.le_of_ble_eq_true rfl) fun B S => ?_
  refine WI_seq ?_
  refine WI_reg rfl ?_ (by decide +kernel)
  refine run_op rfl rfl rfl (by simp [zL, eObj]; exact .mk) ?_
  iterate 2 (refine run_op rfl rfl rfl (by simp [zL]; exact .mk) ?_)
  refine xE [0, 2, 6, 7, 8] ?_
  rintro -
  refine WI_block ?_
  refine WI_weak (Weak.nilCell 1 0 1 rfl rfl) ?_
  refine WI_rounds (fun m σ o => ∃ i : Nat, m = l.length - i ∧ i ≤ l.length ∧ σ = slots [(0, .fn (.yield lb) [] []), (2, .ptr 3 0 0), (6, .d (rO l)), (7, .d (vI l.length)), (8, .d (vI i))] ∧ o = [.var 3 [.d (vI page)], .var 33 [.hdr 7 0 (U (i)).length], .var 3 [.d (vI (i : Nat))], .var 3 [.d (vI pages)], .var 32 [.d (rO l)], .blk b, .lp lb c L .ready none, .row 1 ((U (i)).map fun (k : Nat) => vI k)]) l.length .refl ⟨0, by simp, by simp, by simp, by simp [hU]⟩ ?_
  rintro m σ o ⟨i, rfl, hi, rfl, rfl⟩ _
  refine WI_seq ?_
  refine WI_reg rfl ?_ (by decide +kernel)
  refine run_op rfl rfl rfl (by simp [zL]; exact .mk) ?_
  refine xE [0, 2, 6, 7, 8, 9] ?_
  rintro -
  refine WI_seq ?_
  refine WI_cond rfl ?_ ?_
  · intro h9
    have hi2 : i < l.length := by simpa using h9
    refine WI_skip ?_
    rintro -
    refine WI_seq ?_
    refine WI_block ?_
    refine WI_seq ?_
    refine WI_reg rfl ?_ (by decide +kernel)
    refine run_op rfl rfl rfl (by simp [zL, zK, eObj, *]; exact .mk) ?_
    refine run_op rfl rfl rfl (by simp [zL, zK, eObj]; exact .mk) ?_
    refine run_op rfl rfl rfl (by simp [zL, zK]; exact .mk) ?_
    refine run_op rfl rfl rfl (by simp [zL, zK, splice]; exact .mk) ?_
    refine xE [0, 2, 5, 6, 7, 8] ?_
    rintro -
    refine WI_seq ?_
    refine WI_regY [0, 1, 2, 3, 4, 5] 6 [7] rfl ?_ (by decide +kernel)
    refine run_op rfl rfl rfl (by simp [zL, zK]; exact .mk) ?_
    iterate 2 (refine run_op rfl rfl rfl (by simp [zL, zK, eObj]; exact .mk) ?_)
    refine run_call0 rfl rfl rfl rfl (by simp [zL, zK]; exact .mk) (by simp [zL, zK]; exact .mk) (ct232 g pages (nth l i) hp (ho i hi2)) (by simp [zL, zK]) (by simp [zL, zK]; exact .mk) ?_
    iterate 2 (refine run_op rfl rfl rfl (by simp [zL, zK]; exact .mk) ?_)
    refine run_yieldA (fun bb o => bb = true ∧ ((∃ Y : Awp.Obj, o = [.var 3 [.d (vI page)], .var 33 [.hdr 7 0 (U (i + 1)).length], .var 3 [.d (vI (i + 1 : Nat))], .var 3 [.d (vI pages)], .var 32 [.d (rO l)], .blk b, .lp lb c L .ready none, .row 1 ((U (i + 1)).map fun (k : Nat) => vI k), .var 98 [.d (vI (nth l i).1), .d (vI (nth l i).2)], Y]) ∨ ∃ X Y Y2 : Awp.Obj, o = [.var 3 [.d (vI page)], .var 33 [.hdr 11 0 (U (i + 1)).length], .var 3 [.d (vI (i + 1 : Nat))], .var 3 [.d (vI pages)], .var 32 [.d (rO l)], .blk b, .lp lb c L .ready none, X, .var 98 [.d (vI (nth l i).1), .d (vI (nth l i).2)], Y, Y2, .row 1 ((U (i + 1)).map fun (k : Nat) => vI k)])) rfl rfl rfl rfl rfl (by simp) (by simp; exact .mk) (by simp [eSpot]; exact .mk) rfl hc1 hc2 (hround i hi2) ?_
    rintro bb o2 ⟨rfl, ⟨Y, rfl⟩ | ⟨X, Y, Y2, rfl⟩⟩
    · refine run_op rfl rfl rfl (by simp [zL, zK]; exact .mk) ?_
      refine xE [0, 2, 6, 7, 8, 19] ?_
      rintro -
      refine WI_cond rfl ?_ ?_
      · intro h19
        simp at h19
      intro h19
      refine WI_skip ?_
      rintro -
      refine WI_reg rfl ?_ (by decide +kernel)
      iterate 2 (refine run_op rfl rfl rfl (by simp [zL, zK]; exact .mk) ?_)
      refine xE [0, 2, 6, 7, 8] ?_
      refine roundsI_of ?_
      refine rounds_drop 8 [0, 2, 6, 7, 8] (by simp) (by simp [boxA, AV.cells, AV.isCell, zL, zK]) (by simp [boxA, AV.cells, AV.isCell, zL, zK]) ?_
      exact rounds_next (m' := l.length - (i + 1)) (by omega) ⟨i + 1, rfl, by omega, by rw [wrap64 (by omega) (by omega)]; rfl, rfl⟩
    refine run_op rfl rfl rfl (by simp [zL, zK]; exact .mk) ?_
    refine xE [0, 2, 6, 7, 8, 19] ?_
    rintro -
    refine WI_cond rfl ?_ ?_
    · intro h19
      simp at h19
    intro h19
    refine WI_skip ?_
    rintro -
    refine WI_reg rfl ?_ (by decide +kernel)
    iterate 2 (refine run_op rfl rfl rfl (by simp [zL, zK]; exact .mk) ?_)
    refine xE [0, 2, 6, 7, 8] ?_
    refine roundsI_of ?_
    refine rounds_kills [0, 2, 6, 7, 8] rfl ?_
    have hlp : Obj.ren (swapB 7 11 1) (.lp lb c L .ready none) = .lp lb c L .ready none := by
      show Obj.lp _ _ (L.map _) _ _ = _
      rw [zR]
    refine rounds_swap 7 11 1 (objs2 := [.var 3 [.d (vI page)], .var 33 [.hdr 7 0 (U (i + 1)).length], .var 3 [.d (vI (i + 1 : Nat))], .var 3 [.d (vI pages)], .var 32 [.d (rO l)], .blk b, .lp lb c L .ready none, .row 1 ((U (i + 1)).map fun (k : Nat) => vI k), .var 98 [.d (vI (nth l i).1), .d (vI (nth l i).2)], Y.ren (swapB 7 11 1), Y2.ren (swapB 7 11 1), X.ren (swapB 7 11 1)]) (by decide) (by simp) (by simp) (by show _ = [_, _, _, _, _, _, Obj.ren (swapB 7 11 1) (.lp lb c L .ready none), _, _, _, _, _]; rw [hlp]; rfl) rfl ?_
    refine rounds_drop 8 [0, 2, 6, 7, 8] (by simp) (by rfl) (by simp [zL, zK]) ?_
    exact rounds_next (m' := l.length - (i + 1)) (by omega) ⟨i + 1, rfl, by omega, by rw [wrap64 (by omega) (by omega)]; rfl, rfl⟩
  intro h9
  obtain rfl : i = l.length := by simp at h9; omega
  refine WI_exit ?_
  try simp only [thenI_ret, roundsI_ret, inBlkI_ret, thenI_exit, roundsI_exit, inBlkI_exit, if_true]
  refine endInM_normal (fn := Tryz.f231) (rs := []) 8 .nil ?_ (by simp) ?_ ?_ ?_
  · simp [Tryz.f231]; exact .mk
  · rfl
  · simp [zL, zK]
  exact ⟨rfl, rfl⟩
end Go.Proofs

set_option maxHeartbeats 4000000
set_option maxRecDepth 4000
namespace Go.Proofs
open Go.Awp
theorem in165 (g : Gl) (pages page : Int) (l : List (Int × Int)) (hl : l.length ≤ 2^40) (ho : ∀ i, i < l.length → (nth l i).1 ≤ 2^40) (hL : (laidS pages l).isSome = true) (hpg : -2^40 ≤ page ∧ page ≤ 2^40) : ∀ B S, CallsA Tryz.prog g B S ⟨0, true⟩ 165 ([vI pages, rO l, vI page].map argD) [] (fun x r => x = .hdr 7 0 (matesS pages l page).length ∧ r = [.var 3 [.d (vI page)], .var 33 [.hdr 7 0 (matesS pages l page).length], .var 3 [.d (vI (l.length : Nat))], .var 3 [.d (vI pages)], .var 32 [.d (rO l)], .dead, .dead, .row 1 ((matesS pages l page).map fun (k : Nat) => vI k)]) := by
  refine callsA_WI Tryz.func165 rfl (Nat.le_of_ble_eq_true rfl) fun B S => ?_
  obtain ⟨y, hls⟩ := Option.isSome_iff_exists.1 hL
  obtain ⟨hp, hokk, hy⟩ := laidS_some hls
  have hcl : ∀ B S, CallsA Tryz.prog g B S ⟨0, true⟩ 141 ([vI pages, rO l].map AV.d) [] (fun x r => ∃ y, x = .tup [y, .d (.v (.bool true))]) := fun B S vs w gs om a b c d e => (in141 g pages l hl ho B S vs w gs om a b c d e).mono fun e w' ⟨v, av, o', g', m', h1, h2, h3⟩ => ⟨v, av, o', g', m', h1, by rw [hls] at h2; exact ⟨_, h2.1⟩, h3⟩
  simp only [List.map, argD_agg, argD_v]
  refine WI_seq ?_
  refine WI_reg rfl ?_ (by decide +kernel)
  iterate 2 refine xO ?_
  refine xE [0, 1, 5] ?_
  rintro -
  refine WI_seq ?_
  refine WI_seq ?_
  refine WI_reg rfl ?_ (by decide +kernel)
  iterate 2 refine xO ?_
  refine run_inl0 rfl rfl rfl rfl (by simp; exact .mk) ⟨_, Tryz.func141, rfl, rfl⟩ (calls_dead (by simp) hcl _) (.inl (by simp)) ?_
  iterate 5 refine xO ?_
  refine xE [0, 1, 5, 8] ?_
  rintro -
  refine WI_seq ?_
  refine WI_reg rfl ?_ (by decide +kernel)
  iterate 2 refine xO ?_
  refine xE [0, 1, 5, 19] ?_
  rintro -
  refine WI_cond rfl ?_ ?_
  · intro h19
    simp at h19
  intro h19
  refine WI_skip ?_
  rintro -
  refine WI_seq ?_
  refine WI_reg rfl ?_ (by decide +kernel)
  refine xO ?_
  refine xE [0, 1, 5, 9] ?_
  rintro -
  refine WI_seq ?_
  refine WI_reg rfl ?_ (by decide +kernel)
  refine xO ?_
  refine run_op rfl rfl rfl (by simp [splice]; exact .mk) ?_
  refine xE [0, 1, 5, 9, 10] ?_
  rintro -
  refine WI_seq ?_
  refine WI_seq ?_
  refine WI_reg rfl ?_ (by decide +kernel)
  iterate 2 refine xO ?_
  refine run_inl0 rfl rfl rfl rfl (by simp; exact .mk) ⟨_, Tryz.func199, rfl, rfl⟩ (in199m g _ _ _ pages l) (.inl (by simp)) ?_
  refine xE [5, 9, 10, 22] ?_
  rintro -
  refine WI_block ?_
  obtain ⟨U, hU⟩ : ∃ U : Nat → List Nat, U = (fun i => (List.range i).filter fun j => coverB pages page (nth l j)) := ⟨_, rfl⟩
  have hU0 : U 0 = [] := by rw [hU]; rfl
  have hUl : U l.length = matesS pages l page := by rw [hU]; rfl
  have hU1 : ∀ i, U (i + 1) = U i ++ (if coverB pages page (nth l i) = true then [i] else []) := fun i => by
    rw [hU]; simp only [List.range_succ, List.filter_append]; congr 1; simp only [List.filter_cons, List.filter_nil]
  have hUn : ∀ i, (U i).length ≤ i := fun i => by rw [hU]; exact Nat.le_trans (List.length_filter_le _ _) (by simp)
  refine WI_rangeFunc [5, 9, 10] (by simp; exact .mk) ⟨_, Tryz.func231, rfl, rfl⟩ (by simp; exact .mk) _ (fun fn b lb B S => in231m g pages page l hp hl ho b lb _ _ rfl ?_ U hU0 rfl rfl rfl (fun i hi B S => ?_) B S) ?_
  · intro p hp2
    have hp3 : p = 23 ∨ p = 24 := by simpa using hp2
    show p < 45
    rcases hp3 with rfl | rfl <;> decide
  · skip
    have hsp : (spotS pages (nth l i)).2 = true := by
      have hk := hokk i hi
      cases hq : (spotS pages (nth l i)).2 with
      | true => rfl
      | false => simp only [okI, layO] at hk; rw [if_neg (by simp [hq])] at hk; cases hk
    have hsw := spot_words hsp
    have hgd := hsw.good
    have g0 := hgd.p0
    have g1 := hgd.p1
    have g2 := hgd.c1
    have g3 := hUn i
    have e1 : IntKind.i64.wrap (page - (spotS pages (nth l i)).1.page) = page - (spotS pages (nth l i)).1.page := wrap64 (by omega) (by omega)
    have e3 : IntKind.i64.wrap ((i : Int) + 1) = (i : Int) + 1 := wrap64 (by omega) (by omega)
    have e4 : ((U i).length + 1) * 8 ≤ 140737488355328 := by omega
    have e5 : (U i).length ≤ 140737488355327 := by omega
    unfold RoundI
    refine WI_weak (Weak.kills [5, 9, 10, 23, 24] rfl) ?_
    refine WI_reg rfl ?_ (by decide +kernel)
    refine xO ?_
    refine run_op rfl rfl rfl (by simp [splice]; exact .mk) ?_
    refine xE [5, 9, 10, 11] ?_
    refine ⟨rfl, rfl, rfl, fun _ => ?_⟩
    refine WI_block ?_
    refine WI_seq ?_
    refine WI_seq ?_
    refine WI_reg rfl ?_ (by decide +kernel)
    iterate 5 refine xO ?_
    iterate 3 refine xI ?_
    refine run_if rfl (by simp; exact .mk) rfl (by simp <;> first | omega | grind) (fun hb => by simp [e1]; exact .mk) ?_
    iterate 3 refine xI ?_
    refine xP ?_
    refine xE [9, 10, 37] ?_
    rintro -
    refine WI_cond rfl ?_ ?_
    · intro h37
      have hc : coverB pages page (nth l i) = true := by simpa [coverB] using h37
      have hUe := hU1 i
      rw [if_pos hc] at hUe
      refine WI_reg rfl ?_ (by decide +kernel)
      iterate 3 refine xO ?_
      refine run_op rfl rfl rfl (by simp [rows, e4, e5]; exact .mk) ?_
      refine run_op rfl rfl rfl (by simp [splice]; exact .mk) ?_
      refine xE [10] ?_
      rintro -
      refine WI_reg rfl ?_ (by decide +kernel)
      refine xO ?_
      refine run_op rfl rfl rfl (by simp [e3]; exact .mk) ?_
      refine run_op rfl rfl rfl (by simp [splice]; exact .mk) ?_
      refine xE [] ?_
      simp only [inBlkI_normal]
      refine ⟨by first | trivial | rfl, by first | trivial | rfl, ?_⟩
      rw [hUe]
      try simp only [List.length_append, List.map_append, List.length_cons, List.length_nil, List.map_cons, List.map_nil, Nat.zero_add]
      first
      | exact .inl ⟨_, rfl⟩
      | exact .inr ⟨_, _, _, rfl⟩
    intro h37
    have hc : ¬ coverB pages page (nth l i) = true := by simpa [coverB] using h37
    have hUe := hU1 i
    rw [if_neg hc, List.append_nil] at hUe
    refine WI_skip ?_
    rintro -
    refine WI_reg rfl ?_ (by decide +kernel)
    refine xO ?_
    refine run_op rfl rfl rfl (by simp [e3]; exact .mk) ?_
    refine run_op rfl rfl rfl (by simp [splice]; exact .mk) ?_
    refine xE [] ?_
    simp only [inBlkI_normal]
    refine ⟨by first | trivial | rfl, by first | trivial | rfl, ?_⟩
    rw [hUe]
    try simp only [List.length_append, List.map_append, List.length_cons, List.length_nil, List.map_cons, List.map_nil, Nat.zero_add]
    first
    | exact .inl ⟨_, rfl⟩
    | exact .inr ⟨_, _, _, rfl⟩
  rintro fn b lb av o ⟨rfl, rfl⟩
  refine ⟨_, _, rfl, by simp, ?_⟩
  rw [hUl]
  simp only [pending_none, inBlkI_normal]
  rintro -
  refine WI_seq ?_
  refine WI_reg rfl ?_ (by decide +kernel)
  iterate 2 refine xO ?_
  refine xE [6] ?_
  rintro -
  refine WI_ret ?_
  try simp only [thenI_ret, roundsI_ret, inBlkI_ret, thenI_exit, roundsI_exit, inBlkI_exit, inBlkI_normal, if_true]
  refine endInM_ret (fn := Tryz.f165) (rs := [.hdr 7 0 (matesS pages l page).length]) 8 (.cons (r := 5) rfl .nil) ?_ (Nat.zero_le _) ?_ ?_ ?_
  · simp [Tryz.f165]; exact .mk
  · rfl
  · rfl
  exact ⟨rfl, rfl⟩
theorem ct165 (g : Gl) (pages page : Int) (l : List (Int × Int)) (hl : l.length ≤ 2^40) (ho : ∀ i, i < l.length → (nth l i).1 ≤ 2^40) (hL : (laidS pages l).isSome = true) (hpg : -2^40 ≤ page ∧ page ≤ 2^40) : CtAt Tryz.prog g 165 [vI pages, rO l, vI page] (oI ((matesS pages l page).map fun (k : Nat) => (k : Int))) :=
  ctAt_of_callsO Tryz.func165 rfl rfl (in165 g pages page l hl ho hL hpg) (by simp [cl, cls]; exact ⟨by simp [ownR, Function.comp_def], rfl⟩) (by simp)


end Go.Proofs

set_option maxHeartbeats 4000000
set_option maxRecDepth 4000
namespace Go.Proofs
open Go.Awp
theorem ct214 (g : Gl) (ms : List Int) (x : Int) (hl : ms.length ≤ 2^40) : CtAt Tryz.prog g 214 [rI ms, vI x] (vI (ixN ms x)) := by
  refine ctAt_of_W Tryz.func214 rfl rfl (Nat.le_of_ble_eq_true rfl) fun B S => ?_
  simp only [List.map, argD_v]
  refine xU ?_
  refine xO ?_
  refine xE [0, 1] ?_
  rintro -
  refine W_seq ?_
  refine xU ?_
  iterate 3 refine xO ?_
  refine xE [0, 1, 7, 8] ?_
  rintro -
  refine W_block ?_
  refine W_rounds (fun m σ o => ∃ i : Nat, m = ms.length - i ∧ i ≤ ms.length ∧ (∀ j, j < i → nth ms j ≠ x) ∧ σ = slots [(0, .d (rI ms)), (1, .d (vI x)), (7, .d (vI ms.length)), (8, .d (vI i))] ∧ o = []) ms.length .refl ⟨0, by simp, by simp, by simp, by simp, rfl⟩ ?_
  rintro m σ o ⟨i, rfl, hi, hinv, rfl, rfl⟩ _
  refine xU ?_
  refine xO ?_
  refine xE [0, 1, 7, 8, 9] ?_
  rintro -
  refine W_seq ?_
  refine W_cond rfl ?_ ?_
  · intro h9
    have hi2 : i < ms.length := by simpa using h9
    refine W_skip ?_
    rintro -
    refine W_seq ?_
    refine W_block ?_
    refine xU ?_
    iterate 2 refine xO ?_
    refine xE [0, 1, 5, 7, 8] ?_
    refine xT ?_
    iterate 3 refine xO ?_
    refine run_op rfl rfl rfl (by simp [hi2]; exact .mk) ?_
    refine run_op rfl rfl rfl (by simp [-List.getElem?_map, map_get hi2]; exact .mk) ?_
    refine xO ?_
    refine xE [0, 1, 5, 7, 8, 16] ?_
    rintro -
    refine W_cond rfl ?_ ?_
    · intro h16
      have hx : nth ms i = x := by simp at h16; omega
      have hr : ixN ms x = i := ixN_at hi2 hinv hx
      refine xU ?_
      iterate 2 refine xO ?_
      refine xE [4] ?_
      rintro -
      refine W_ret ?_
      refine xR (by simp [Tryz.f214]; exact .mk) ?_
      simp [nrmR, nrmRs, nrmK, kindsOf, kinds, Tryz.f214, hr]
    intro h16
    have hx : nth ms i ≠ x := by simp at h16; omega
    refine W_skip ?_
    rintro -
    refine W_reg rfl ?_
    iterate 2 refine xO ?_
    refine xE [0, 1, 7, 8] ?_
    refine rounds_kill [0, 1, 7, 8] ?_
    refine rounds_next (m' := ms.length - (i+1)) (by omega) ⟨i+1, rfl, by omega, fun j hj => ?_, ?_, rfl⟩
    · rcases Nat.lt_succ_iff_lt_or_eq.1 hj with hj | rfl
      · exact hinv j hj
      exact hx
    rw [wrap64 (by omega) (by omega)]; rfl
  intro h9
  have hr : ixN ms x = -1 := ixN_none (fun j hj => hinv j (by simp at h9; omega))
  refine W_exit ?_
  refine xT ?_
  refine xO ?_
  refine xE [4] ?_
  rintro -
  refine W_ret ?_
  refine xR (by simp [Tryz.f214]; exact .mk) ?_
  simp [nrmR, nrmRs, nrmK, kindsOf, kinds, Tryz.f214, hr]

theorem ct168 (g : Gl) (ms : List Int) (x : Int) (hl : ms.length ≤ 2^40) : CtAt Tryz.prog g 168 [rI ms, vI x] (.v (.bool (ms.contains x))) := by
  refine ctAt_of_W Tryz.func168 rfl rfl (Nat.le_of_ble_eq_true rfl) fun B S => ?_
  simp only [List.map, argD_v]
  refine xU ?_
  refine xO ?_
  refine xE [0, 1] ?_
  refine xT ?_
  iterate 2 refine xO ?_
  refine run_call0 rfl rfl rfl rfl (by simp; exact .mk) (by simp; exact .mk) (ct214 g ms x hl) (by simp) (by simp; exact .mk) ?_
  iterate 2 refine xO ?_
  refine xE [4] ?_
  rintro -
  refine W_ret ?_
  refine xR (by simp [Tryz.f168]; exact .mk) ?_
  simp [nrmR, nrmRs, nrmK, kindsOf, kinds, Tryz.f168, ixN_nonneg]

end Go.Proofs

set_option maxHeartbeats 4000000
set_option maxRecDepth 4000
namespace Go.Proofs
open Go.Awp
theorem in167 (g : Gl) (o0 o1 o2 o4 : Awp.Obj) (l : List (Int × Int)) (ms : List Nat) (i j : Nat) (hl : l.length ≤ 2^40) (hi : i < l.length) (hj : j < l.length) (hb : ∀ k, k < l.length → -2^40 ≤ (nth l k).1 ∧ (nth l k).1 ≤ 2^40) : ∀ B S, CallsA Tryz.prog g B S ⟨7, true⟩ 167 [.d (vI i), .d (vI j), .ptr 5 0 0] [o0, o1, o2, .row 2 (l.map eObj), o4, .var 32 [.hdr 3 0 l.length], .row 1 (ms.map fun (k : Nat) => vI k)] (fun x r => x = .d (vI ((nth l i).1 - (nth l j).1)) ∧ r = [o0, o1, o2, .row 2 (l.map eObj), o4, .var 32 [.hdr 3 0 l.length], .row 1 (ms.map fun (k : Nat) => vI k)]) := by
  refine callsA_at Tryz.func167 rfl (Nat.le_of_ble_eq_true rfl) fun B S => ?_
  have e1 : IntKind.i64.wrap ((nth l i).1 - (nth l j).1) = (nth l i).1 - (nth l j).1 := wrap64 (by have := hb i hi; have := hb j hj; omega) (by have := hb i hi; have := hb j hj; omega)
  refine xU ?_
  refine xO ?_
  refine xE [0, 1, 2] ?_
  rintro -
  refine W_seq ?_
  refine W_regD (by kernel_rfl) [] 4 [0, 1, 2, 3, 4, 5, 6, 7, 8, 9, 10, 11] (by decide +kernel) ?_
  iterate 2 refine xO ?_
  refine run_op rfl rfl rfl (by simp [hi]; exact .mk) ?_
  refine xO ?_
  refine run_op rfl rfl rfl (by simp [-List.getElem?_map, map_get hi, eObj]; exact .mk) ?_
  iterate 2 refine xO ?_
  refine run_op rfl rfl rfl (by simp [hj]; exact .mk) ?_
  refine xO ?_
  refine run_op rfl rfl rfl (by simp [-List.getElem?_map, map_get hj, eObj]; exact .mk) ?_
  refine run_op rfl rfl rfl (by simp [e1]; exact .mk) ?_
  refine xO ?_
  refine xE [5] ?_
  rintro -
  refine W_ret ?_
  refine endAt_ret (by simp [Tryz.f167]; exact .mk) ?_ ?_
  · simp
  simp

theorem in166 (g : Gl) (o0 o1 o2 o4 : Awp.Obj) (l : List (Int × Int)) (ms : List Nat) (hl : l.length ≤ 2^40) (hm : ms.length ≤ 2^40) (hne : ms ≠ []) (hmm : ∀ i, i < ms.length → nth ms i < l.length) (hb : ∀ k, k < l.length → -2^40 ≤ (nth l k).1 ∧ (nth l k).1 ≤ 2^40) : ∀ B S, CallsA Tryz.prog g B S ⟨7, true⟩ 166 [.hdr 6 0 ms.length, .fn (.func 167) [] [.ptr 5 0 0]] [o0, o1, o2, .row 2 (l.map eObj), o4, .var 32 [.hdr 3 0 l.length], .row 1 (ms.map fun (k : Nat) => vI k)] (fun x r => x = .d (vI (leastS l ms : Nat)) ∧ r = [o0, o1, o2, .row 2 (l.map eObj), o4, .var 32 [.hdr 3 0 l.length], .row 1 (ms.map fun (k : Nat) => vI k)]) := by
  refine callsA_at Tryz.func166 rfl (Nat.le_of_ble_eq_true rfl) fun B S => ?_
  have hm0 : 0 < ms.length := List.length_pos_iff.2 hne
  refine xU ?_
  refine xO ?_
  refine xE [0, 1] ?_
  rintro -
  refine W_seq ?_
  refine xU ?_
  iterate 3 refine xO ?_
  refine xE [0, 1, 9] ?_
  rintro -
  refine W_cond rfl ?_ ?_
  · intro h9
    simp at h9; omega
  intro h9
  refine W_skip ?_
  refine xT ?_
  refine xO ?_
  refine run_op rfl rfl rfl (by simp [hm0]; exact .mk) ?_
  refine run_op rfl rfl rfl (by simp [-List.getElem?_map, map_get hm0]; exact .mk) ?_
  refine xO ?_
  refine xE [0, 1, 5] ?_
  rintro -
  refine W_seq ?_
  refine xU ?_
  refine xO ?_
  refine xE [0, 1, 5, 6] ?_
  rintro -
  refine W_block ?_
  refine W_rounds (fun m σ o => ∃ i : Nat, m = ms.length - i ∧ 1 ≤ i ∧ i ≤ ms.length ∧ σ = slots [(0, .hdr 6 0 ms.length), (1, .fn (.func 167) [] [.ptr 5 0 0]), (5, .d (vI (leastS l (ms.take i) : Nat))), (6, .d (vI i))] ∧ o = [o0, o1, o2, .row 2 (l.map eObj), o4, .var 32 [.hdr 3 0 l.length], .row 1 (ms.map fun (k : Nat) => vI k)]) (ms.length - 1) .refl ⟨1, by simp, by simp, by omega, by rw [leastS_one hne]; simp, rfl⟩ ?_
  rintro m σ o ⟨i, rfl, hi1, hi, rfl, rfl⟩ _
  refine W_seq ?_
  refine xU ?_
  iterate 4 refine xO ?_
  refine xE [0, 1, 5, 6, 17] ?_
  rintro -
  refine W_cond rfl ?_ ?_
  · intro h17
    have hi2 : i < ms.length := by simpa using h17
    have hle := leastS_in hne hmm hi1
    have hst := leastS_step l hi1 hi2
    refine W_skip ?_
    rintro -
    refine W_seq ?_
    refine W_block ?_
    refine xU ?_
    iterate 3 refine xO ?_
    refine run_op rfl rfl rfl (by simp [hi2]; exact .mk) ?_
    refine run_op rfl rfl rfl (by simp [-List.getElem?_map, map_get hi2]; exact .mk) ?_
    refine xO ?_
    refine run_inl0 rfl rfl rfl rfl (by simp; exact .mk) ⟨_, Tryz.func167, rfl, rfl⟩ (in167 g o0 o1 o2 o4 l ms (nth ms i) (leastS l (ms.take i)) hl (hmm i hi2) hle hb) (.inl (by simp)) ?_
    refine xO ?_
    refine xE [0, 1, 5, 6, 27] ?_
    rintro -
    refine W_cond rfl ?_ ?_
    · intro h27
      have hlt : (nth l (nth ms i)).1 < (nth l (leastS l (ms.take i))).1 := by simp at h27; omega
      rw [if_pos hlt] at hst
      refine W_reg rfl ?_
      iterate 2 refine xO ?_
      refine run_op rfl rfl rfl (by simp [hi2]; exact .mk) ?_
      refine run_op rfl rfl rfl (by simp [-List.getElem?_map, map_get hi2]; exact .mk) ?_
      refine xO ?_
      refine xE [0, 1, 5, 6] ?_
      rintro -
      refine W_reg rfl ?_
      iterate 3 refine xO ?_
      refine xE [0, 1, 5, 6] ?_
      refine rounds_kill [0, 1, 5, 6] ?_
      refine rounds_next (m' := ms.length - (i+1)) (by omega) ⟨i+1, rfl, by omega, by omega, ?_, rfl⟩
      rw [wrap64 (by omega) (by omega), hst]; rfl
    intro h27
    have hlt : ¬ (nth l (nth ms i)).1 < (nth l (leastS l (ms.take i))).1 := by simp at h27; omega
    rw [if_neg hlt] at hst
    refine W_skip ?_
    rintro -
    refine W_reg rfl ?_
    iterate 3 refine xO ?_
    refine xE [0, 1, 5, 6] ?_
    refine rounds_kill [0, 1, 5, 6] ?_
    refine rounds_next (m' := ms.length - (i+1)) (by omega) ⟨i+1, rfl, by omega, by omega, ?_, rfl⟩
    rw [wrap64 (by omega) (by omega), hst]; rfl
  intro h17
  obtain rfl : i = ms.length := by simp at h17; omega
  rw [List.take_length]
  refine W_exit ?_
  refine xT ?_
  iterate 2 refine xO ?_
  refine xE [4] ?_
  rintro -
  refine W_ret ?_
  refine endAt_ret (by simp [Tryz.f166]; exact .mk) ?_ ?_
  · simp
  simp

end Go.Proofs

set_option maxHeartbeats 4000000
set_option maxRecDepth 4000
namespace Go.Proofs
open Go.Awp
theorem ct122 (g : Gl) (s : Stt) (hs : s.Ok) (mode step : Int) (hb : -2^60 ≤ s.base + step ∧ s.base + step ≤ 2^60) : CtAt Tryz.prog g 122 [eStt s, vI mode, vI step] (.tup [oStt (turnS s mode step), vI 0]) := by
  refine ctAt_of_W Tryz.func122 rfl rfl (Nat.le_of_ble_eq_true rfl) fun B S => ?_
  simp only [eStt, List.map, argD_agg, argD_v]
  have e1 : IntKind.i64.wrap (s.base + step) = s.base + step := wrap64 (by omega) (by omega)
  refine xU ?_
  iterate 3 refine xO ?_
  refine xE [1, 2, 3, 6] ?_
  refine xT ?_
  refine xO ?_
  refine run_op rfl rfl rfl (by simp [eSlot]; exact .mk) ?_
  refine run_call0 rfl rfl rfl rfl (by simp; exact .mk) (by simp; exact .mk) (ct24 g s hs) (by simp) (by simp [oStt]; exact .mk) ?_
  refine xO ?_
  refine run_op rfl rfl rfl (by simp [splice]; exact .mk) ?_
  refine xE [1, 2, 6, 8] ?_
  refine xT ?_
  iterate 2 refine xO ?_
  refine run_op rfl rfl rfl (by simp [eSlot]; exact .mk) ?_
  refine xO ?_
  refine run_op rfl rfl rfl (by simp [e1]; exact .mk) ?_
  refine xO ?_
  refine run_op rfl rfl rfl (by simp [splice]; exact .mk) ?_
  refine xO ?_
  refine run_op rfl rfl rfl (by simp [splice]; exact .mk) ?_
  refine xE [6, 8] ?_
  refine xT ?_
  refine run_op rfl rfl rfl (by simp [eSlot]; exact .mk) ?_
  refine run_op rfl rfl rfl (by simp [splice]; exact .mk) ?_
  refine xO ?_
  refine xE [6, 7] ?_
  rintro -
  refine W_ret ?_
  refine end_ret (by simp [Tryz.f122]; exact .mk) (by simp; exact .mk) ?_ (by simp [oStt])
  simp [nrmR, nrmRs, nrmK, kindsOf, kinds, Tryz.f122, oStt, ownR, turnS]

theorem ct164 (g : Gl) (s : Stt) (hs : s.Ok) (hR : sttS s = true) (fr size : Int) (hfr : 0 ≤ fr ∧ fr ≤ 2^20) : CtAt Tryz.prog g 164 [eStt s, vI fr, vI size] (.tup [vI ((behindS s fr size).getD 0), .v (.bool (behindS s fr size).isSome)]) := by
  refine ctAt_of_W Tryz.func164 rfl rfl (Nat.le_of_ble_eq_true rfl) fun B S => ?_
  simp only [eStt, List.map, argD_agg, argD_v]
  have q0 := hs.h1
  have hb := superS_b (sttS_super hR)
  have hol := onesS_len (l := s.slots)
  have hT := tableS_len (sttS_rows hR)
  refine xU ?_
  iterate 3 refine xO ?_
  refine xE [1, 2, 3] ?_
  refine xT ?_
  refine xO ?_
  refine xE [1, 2, 3, 8] ?_
  rintro -
  refine W_seq ?_
  refine xU ?_
  refine xO ?_
  refine run_op rfl rfl rfl (by simp [eBlk]; exact .mk) ?_
  refine run_call0 rfl rfl rfl rfl (by simp; exact .mk) (by simp; exact .mk) (ct28 g s hs) (by simp) (by simp; exact .mk) ?_
  iterate 2 refine xO ?_
  refine xE [1, 2, 3, 8, 21, 22, 23] ?_
  rintro -
  refine W_block ?_
  refine W_rounds (fun m σ o => ∃ i : Nat, m = (onesS s.slots).length - i ∧ i ≤ (onesS s.slots).length ∧ σ = slots [(1, .d (vI fr)), (2, .d (vI size)), (3, .ptr 0 0 0), (8, .hdr 2 0 i), (21, .hdr 1 0 (onesS s.slots).length), (22, .d (vI (onesS s.slots).length)), (23, .d (vI i))] ∧ o = [.var 144 [.d (vI s.sh.pages), .d (vI s.sh.slots), .d (vI s.sh.roots), .d (vI s.sh.room), .d (vI s.mode), .d (vI s.base), .d (rSl s.slots), .d (rR s.roots), .d (rBB s.data)], .row 3 ((onesS s.slots).map eBlk), .row 2 (((onesS s.slots).take i).map fun b => eObj (spanOf b))]) (onesS s.slots).length
    (Weak.trans (Weak.nilRow 8 2 rfl) (Weak.kills [1, 2, 3, 8, 21, 22, 23] rfl) (fun _ _ _ h1 h2 => by rw [← h1.len]; exact h2)) ⟨0, by simp, by simp, by simp, by simp⟩ ?_
  rintro m σ o ⟨i, rfl, hi, rfl, rfl⟩ _
  refine xU ?_
  refine xO ?_
  refine xE [1, 2, 3, 8, 21, 22, 23, 24] ?_
  rintro -
  refine W_seq ?_
  refine W_cond rfl ?_ ?_
  · intro h24
    have hi2 : i < (onesS s.slots).length := by simpa using h24
    have e1 : (i + 1) * 16 ≤ 140737488355328 := by omega
    have e2 : i ≤ 140737488355327 := by omega
    have htk : ((onesS s.slots).take i).length = i := by simp; omega
    refine W_skip ?_
    rintro -
    refine W_seq ?_
    refine W_block ?_
    refine xU ?_
    refine run_op rfl rfl rfl (by simp [eBlk, hi2]; exact .mk) ?_
    refine run_op rfl rfl rfl (by simp [-List.getElem?_map, map_get hi2, eBlk]; exact .mk) ?_
    refine xO ?_
    refine run_op rfl rfl rfl (by simp [splice]; exact .mk) ?_
    refine xE [1, 2, 3, 8, 10, 21, 22, 23] ?_
    rintro -
    refine W_reg rfl ?_
    iterate 2 refine xO ?_
    refine run_op rfl rfl rfl (by simp [eBlk]; exact .mk) ?_
    refine xO ?_
    refine run_op rfl rfl rfl (by simp [eBlk]; exact .mk) ?_
    refine run_op rfl rfl rfl (by simp [splice]; exact .mk) ?_
    refine xO ?_
    refine run_op rfl rfl rfl (by simp [rows, e1, e2, htk, Nat.min_eq_left hi]; exact .mk) ?_
    refine xO ?_
    refine xE [1, 2, 3, 8, 21, 22, 23] ?_
    rintro -
    refine W_reg rfl ?_
    iterate 2 refine xO ?_
    refine xE [1, 2, 3, 8, 21, 22, 23] ?_
    refine rounds_kill [1, 2, 3, 8, 21, 22, 23] ?_
    refine rounds_kills [1, 2, 3, 8, 21, 22, 23] rfl ?_
    refine rounds_swap 2 5 1 (by decide) (by simp) (by decide) rfl rfl ?_
    refine rounds_drop 3 [1, 2, 3, 8, 21, 22, 23] (by decide) (by rfl) (by rfl) ?_
    refine rounds_next (m' := (onesS s.slots).length - (i+1)) (by omega) ⟨i+1, rfl, by omega, ?_, ?_⟩
    · rw [wrap64 (by omega) (by omega)]; simp; try rfl
    rw [take_succ hi2]; simp [eObj, spanOf, eBlk]; try rfl
  intro h24
  obtain rfl : i = (onesS s.slots).length := by simp at h24; omega
  obtain ⟨U, hU⟩ : ∃ U, U = spansS s.slots := ⟨_, rfl⟩
  have hm : List.take (onesS s.slots).length (List.map (fun b => eObj (spanOf b)) (onesS s.slots)) = U.map eObj := by rw [hU, spansS, ← List.map_take, List.take_length, List.map_map]; rfl
  have hm2 : (onesS s.slots).length = U.length := by rw [hU, spansS, List.length_map]
  rw [hm, hm2]
  have e4 : IntKind.i64.wrap (s.base * 32) = s.base * 32 := wrap64 (by omega) (by omega)
  have e5 : IntKind.i64.wrap (s.sh.pages * 32) = s.sh.pages * 32 := wrap64 (by omega) (by omega)
  have hG := sttS_gaps hR
  rw [← hU] at hG
  have c205 := ct205 g (s.base * 32) (s.sh.pages * 32) U (by omega) hG
  have hgl := gapsF_len (to := s.sh.pages * 32) (l := U) (a := s.base * 32)
  have hgm := gapsF_b hR
  obtain ⟨G, hGG⟩ : ∃ G, G = gapsF (s.sh.pages * 32) (s.base * 32) U := ⟨_, rfl⟩
  have hr : behindS s fr size = (bestS (clipS fr G) size).map (·.1) := by rw [hGG, hU]; rfl
  have hgo : gapsOf s = G := by rw [hGG, hU]; rfl
  rw [hgo] at hgm
  rw [← hGG] at c205 hgl
  refine W_exit ?_
  refine xT ?_
  iterate 2 refine xO ?_
  refine run_op rfl rfl rfl (by simp [eBlk]; exact .mk) ?_
  refine run_op rfl rfl rfl (by simp [e4]; exact .mk) ?_
  iterate 3 refine xO ?_
  refine run_op rfl rfl rfl (by simp [eBlk]; exact .mk) ?_
  refine run_op rfl rfl rfl (by simp [e5]; exact .mk) ?_
  refine xO ?_
  refine run_call0 rfl rfl rfl rfl (by simp; exact .mk) (by simp; exact .mk) (c205) (by simp) (by simp; exact .mk) ?_
  iterate 5 refine xO ?_
  refine xE [1, 2, 11] ?_
  refine xT ?_
  refine xO ?_
  refine xE [1, 2, 11, 13] ?_
  rintro -
  refine W_seq ?_
  refine xU ?_
  iterate 3 refine xO ?_
  refine xE [1, 2, 13, 50, 51, 52] ?_
  rintro -
  refine W_block ?_
  refine W_rounds (fun m σ o => ∃ i : Nat, m = G.length - i ∧ i ≤ G.length ∧ σ = slots [(1, .d (vI fr)), (2, .d (vI size)), (13, .hdr 4 0 (clipS fr (G.take i)).length), (50, .hdr 3 0 G.length), (51, .d (vI G.length)), (52, .d (vI i))] ∧ o = [.var 144 [.d (vI s.sh.pages), .d (vI s.sh.slots), .d (vI s.sh.roots), .d (vI s.sh.room), .d (vI s.mode), .d (vI s.base), .d (rSl s.slots), .d (rR s.roots), .d (rBB s.data)], .row 3 ((onesS s.slots).map eBlk), .row 2 (U.map eObj), .row 2 (G.map eObj), .row 2 ((clipS fr (G.take i)).map eObj)]) G.length
    (Weak.trans (Weak.nilRow 13 2 rfl) (Weak.kills [1, 2, 13, 50, 51, 52] rfl) (fun _ _ _ h1 h2 => by rw [← h1.len]; exact h2)) ⟨0, by simp, by simp, by simp [clipS], by simp [clipS]⟩ ?_
  rintro m σ o ⟨i, rfl, hi3, rfl, rfl⟩ _
  refine xU ?_
  refine xO ?_
  refine xE [1, 2, 13, 50, 51, 52, 53] ?_
  rintro -
  refine W_seq ?_
  refine W_cond rfl ?_ ?_
  · intro h53
    have hi4 : i < G.length := by simpa using h53
    have hst := clip_step (fr := fr) hi4
    have hcl := clip_len (fr := fr) (l := G.take i)
    have f1 : ((clipS fr (G.take i)).length + 1) * 16 ≤ 140737488355328 := by simp at hcl; omega
    have f2 : (clipS fr (G.take i)).length ≤ 140737488355327 := by simp at hcl; omega
    have hgi := hgm _ (nth_mem hi4)
    have w1 : IntKind.i64.wrap (fr - (nth G i).1) = fr - (nth G i).1 := wrap64 (by omega) (by omega)
    have w2 : IntKind.i64.wrap ((nth G i).2 - (fr - (nth G i).1)) = (nth G i).2 - (fr - (nth G i).1) := wrap64 (by omega) (by omega)
    refine W_skip ?_
    rintro -
    refine W_seq ?_
    refine W_block ?_
    refine xU ?_
    refine run_op rfl rfl rfl (by simp [eBlk, hi4]; exact .mk) ?_
    refine run_op rfl rfl rfl (by simp [-List.getElem?_map, map_get hi4, eObj]; exact .mk) ?_
    refine xO ?_
    refine run_op rfl rfl rfl (by simp [splice]; exact .mk) ?_
    refine xE [1, 2, 13, 15, 50, 51, 52] ?_
    rintro -
    refine W_seq ?_
    refine xU ?_
    iterate 2 refine xO ?_
    refine run_op rfl rfl rfl (by simp [eBlk]; exact .mk) ?_
    refine run_op rfl rfl rfl (by simp [w1]; exact .mk) ?_
    refine xO ?_
    refine xE [1, 2, 13, 15, 16, 50, 51, 52] ?_
    refine xT ?_
    iterate 2 refine xO ?_
    refine xE [1, 2, 13, 15, 16, 50, 51, 52, 61] ?_
    rintro -
    refine W_cond rfl ?_ ?_
    · intro h61
      have hcg : clipG fr (nth G i) = (fr, (nth G i).2 - (fr - (nth G i).1)) := by unfold clipG; rw [if_pos (by simpa using h61)]
      rw [hcg] at hst
      refine W_reg rfl ?_
      iterate 2 refine xO ?_
      refine run_op rfl rfl rfl (by simp [eBlk]; exact .mk) ?_
      refine xO ?_
      refine run_op rfl rfl rfl (by simp [w2]; exact .mk) ?_
      refine xO ?_
      refine run_op rfl rfl rfl (by simp [splice]; exact .mk) ?_
      refine xO ?_
      refine run_op rfl rfl rfl (by simp [splice]; exact .mk) ?_
      refine xE [1, 2, 13, 15, 50, 51, 52] ?_
      refine xT ?_
      refine xO ?_
      refine run_op rfl rfl rfl (by simp [eBlk]; exact .mk) ?_
      refine xO ?_
      refine xE [1, 2, 13, 15, 50, 51, 52, 71] ?_
      rintro -
      refine W_cond rfl ?_ ?_
      · intro h71
        rw [if_pos (by simpa using h71)] at hst
        refine W_reg rfl ?_
        refine xO ?_
        refine run_op rfl rfl rfl (by simp [eBlk]; exact .mk) ?_
        refine xO ?_
        refine run_op rfl rfl rfl (by simp [rows, f1, f2]; exact .mk) ?_
        refine xO ?_
        refine xE [1, 2, 13, 50, 51, 52] ?_
        rintro -
        refine W_reg rfl ?_
        iterate 2 refine xO ?_
        refine xE [1, 2, 13, 50, 51, 52] ?_
        refine rounds_kill [1, 2, 13, 50, 51, 52] ?_
        first
        | (refine rounds_drop 5 [1, 2, 13, 50, 51, 52] (by decide) (by rfl) (by rfl) ?_
           refine rounds_next (m' := G.length - (i+1)) (by omega) ⟨i+1, rfl, by omega, ?_, ?_⟩
           · rw [wrap64 (by omega) (by omega), hst]; rfl
           rw [hst]; rfl)
        | (refine rounds_kills [1, 2, 13, 50, 51, 52] rfl ?_
           refine rounds_swap 4 7 1 (by decide) (by simp) (by decide) rfl rfl ?_
           refine rounds_drop 5 [1, 2, 13, 50, 51, 52] (by decide) (by rfl) (by rfl) ?_
           refine rounds_next (m' := G.length - (i+1)) (by omega) ⟨i+1, rfl, by omega, ?_, ?_⟩
           · rw [wrap64 (by omega) (by omega), hst]; simp; try rfl
           rw [hst]; simp [eObj]; try rfl)
      intro h71
      rw [if_neg (by simpa using h71)] at hst
      rw [List.append_nil] at hst
      refine W_skip ?_
      rintro -
      refine W_reg rfl ?_
      iterate 2 refine xO ?_
      refine xE [1, 2, 13, 50, 51, 52] ?_
      refine rounds_kill [1, 2, 13, 50, 51, 52] ?_
      first
      | (refine rounds_drop 5 [1, 2, 13, 50, 51, 52] (by decide) (by rfl) (by rfl) ?_
         refine rounds_next (m' := G.length - (i+1)) (by omega) ⟨i+1, rfl, by omega, ?_, ?_⟩
         · rw [wrap64 (by omega) (by omega), hst]; rfl
         rw [hst]; rfl)
      | (refine rounds_kills [1, 2, 13, 50, 51, 52] rfl ?_
         refine rounds_swap 4 7 1 (by decide) (by simp) (by decide) rfl rfl ?_
         refine rounds_drop 5 [1, 2, 13, 50, 51, 52] (by decide) (by rfl) (by rfl) ?_
         refine rounds_next (m' := G.length - (i+1)) (by omega) ⟨i+1, rfl, by omega, ?_, ?_⟩
         · rw [wrap64 (by omega) (by omega), hst]; simp; try rfl
         rw [hst]; simp [eObj]; try rfl)
    intro h61
    have hcg : clipG fr (nth G i) = nth G i := by unfold clipG; rw [if_neg (by simpa using h61)]
    rw [hcg] at hst
    refine W_skip ?_
    refine xT ?_
    refine xO ?_
    refine run_op rfl rfl rfl (by simp [eBlk]; exact .mk) ?_
    refine xO ?_
    refine xE [1, 2, 13, 15, 50, 51, 52, 71] ?_
    rintro -
    refine W_cond rfl ?_ ?_
    · intro h71
      rw [if_pos (by simpa using h71)] at hst
      refine W_reg rfl ?_
      refine xO ?_
      refine run_op rfl rfl rfl (by simp [eBlk]; exact .mk) ?_
      refine xO ?_
      refine run_op rfl rfl rfl (by simp [rows, f1, f2]; exact .mk) ?_
      refine xO ?_
      refine xE [1, 2, 13, 50, 51, 52] ?_
      rintro -
      refine W_reg rfl ?_
      iterate 2 refine xO ?_
      refine xE [1, 2, 13, 50, 51, 52] ?_
      refine rounds_kill [1, 2, 13, 50, 51, 52] ?_
      first
      | (refine rounds_drop 5 [1, 2, 13, 50, 51, 52] (by decide) (by rfl) (by rfl) ?_
         refine rounds_next (m' := G.length - (i+1)) (by omega) ⟨i+1, rfl, by omega, ?_, ?_⟩
         · rw [wrap64 (by omega) (by omega), hst]; rfl
         rw [hst]; rfl)
      | (refine rounds_kills [1, 2, 13, 50, 51, 52] rfl ?_
         refine rounds_swap 4 7 1 (by decide) (by simp) (by decide) rfl rfl ?_
         refine rounds_drop 5 [1, 2, 13, 50, 51, 52] (by decide) (by rfl) (by rfl) ?_
         refine rounds_next (m' := G.length - (i+1)) (by omega) ⟨i+1, rfl, by omega, ?_, ?_⟩
         · rw [wrap64 (by omega) (by omega), hst]; simp; try rfl
         rw [hst]; simp [eObj]; try rfl)
    intro h71
    rw [if_neg (by simpa using h71)] at hst
    rw [List.append_nil] at hst
    refine W_skip ?_
    rintro -
    refine W_reg rfl ?_
    iterate 2 refine xO ?_
    refine xE [1, 2, 13, 50, 51, 52] ?_
    refine rounds_kill [1, 2, 13, 50, 51, 52] ?_
    first
    | (refine rounds_drop 5 [1, 2, 13, 50, 51, 52] (by decide) (by rfl) (by rfl) ?_
       refine rounds_next (m' := G.length - (i+1)) (by omega) ⟨i+1, rfl, by omega, ?_, ?_⟩
       · rw [wrap64 (by omega) (by omega), hst]; rfl
       rw [hst]; rfl)
    | (refine rounds_kills [1, 2, 13, 50, 51, 52] rfl ?_
       refine rounds_swap 4 7 1 (by decide) (by simp) (by decide) rfl rfl ?_
       refine rounds_drop 5 [1, 2, 13, 50, 51, 52] (by decide) (by rfl) (by rfl) ?_
       refine rounds_next (m' := G.length - (i+1)) (by omega) ⟨i+1, rfl, by omega, ?_, ?_⟩
       · rw [wrap64 (by omega) (by omega), hst]; simp; try rfl
       rw [hst]; simp [eObj]; try rfl)
  intro h53
  obtain rfl : i = G.length := by simp at h53; omega
  rw [List.take_length]
  have hcl := clip_len (fr := fr) (l := G)
  obtain ⟨V, hV⟩ : ∃ V, V = clipS fr G := ⟨_, rfl⟩
  rw [← hV] at hr hcl ⊢
  have c206 := ct206 g V (by omega) size
  obtain ⟨b, hbb⟩ : ∃ b, b = bestS V size := ⟨_, rfl⟩
  rw [← hbb] at hr c206
  refine W_exit ?_
  refine xT ?_
  iterate 2 refine xO ?_
  refine run_call0 rfl rfl rfl rfl (by simp; exact .mk) (by simp; exact .mk) (c206) (by simp) (by simp; exact .mk) ?_
  iterate 4 refine xO ?_
  refine run_op rfl rfl rfl (by simp [splice]; exact .mk) ?_
  refine xO ?_
  refine xE [17, 18] ?_
  refine xT ?_
  refine xO ?_
  refine run_op rfl rfl rfl (by simp [eBlk]; exact .mk) ?_
  iterate 3 refine xO ?_
  refine xE [6, 7] ?_
  rintro -
  refine W_ret ?_
  refine xR (by simp [Tryz.f164]; exact .mk) ?_
  first | (simp [nrmR, nrmRs, nrmK, kindsOf, kinds, Tryz.f164, hr]; done) | (simp [nrmR, nrmRs, nrmK, kindsOf, kinds, Tryz.f164, hr]; cases b <;> simp [eObj])

end Go.Proofs
