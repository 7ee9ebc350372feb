/- Contracts of the program's functions and plain facts, for arguments as each lemma says. -/
import Derived.Test.YtokgokbgidgfeaaGreatAwpD
import Derived.Test.YtokgokbgidgfeaaGreatCE
import Derived.Test.YtokgokbgidgfeaaGreatCD
set_option linter.all false
set_option maxHeartbeats 4000000
namespace Go.Proofs
open Go.Awp
def turnS (s : Stt) (mode step : Int) : Stt := { s with mode := mode, base := s.base + step }
def clipG (fr : Int) (g : Int × Int) : Int × Int := if 0 < fr - g.1 then (fr, g.2 - (fr - g.1)) else g
def clipS (fr : Int) (l : List (Int × Int)) : List (Int × Int) := (l.map (clipG fr)).filter fun g => decide (0 < g.2)
def gapsOf (s : Stt) : List (Int × Int) := gapsF (s.sh.pages * 32) (s.base * 32) (spansS s.slots)
def behindS (s : Stt) (fr size : Int) : Option Int := (bestS (clipS fr (gapsOf s)) size).map (·.1)
def lenAt (s : Stt) (k : Int) : Int := (nth s.slots k.toNat).len
def upStep (s : Stt) : Stt × Int :=
 if s.base = s.sh.pages then (turnS s 2 0, 0)
 else if onesS s.slots = [] ∨ (s.base + 1) * 32 ≤ (nth (onesS s.slots) 0).at_ then (turnS s s.mode 1, 0)
 else match roomS s true (lenAt s (nth (onesS s.slots) 0).slot) with
  | some a => moveS s (nth (onesS s.slots) 0).slot true a
  | none => match behindS s ((s.base + 1) * 32) (nth (onesS s.slots) 0).len with
   | some a => moveS s (nth (onesS s.slots) 0).slot false a
   | none => (zStt, 10)
def coverB (pages : Int) (page : Int) (o : Int × Int) : Bool := decide ((spotS pages o).1.page ≤ page) && decide (page - (spotS pages o).1.page < (spotS pages o).1.count)
def matesS (pages : Int) (l : List (Int × Int)) (page : Int) : List Nat := (List.range l.length).filter fun i => coverB pages page (nth l i)
def leastS (l : List (Int × Int)) : List Nat → Nat
 | [] => 0
 | i :: t => t.foldl (fun m j => if (nth l j).1 < (nth l m).1 then j else m) i
def restS (l : List (Int × Int)) (ms : List Nat) : List (Int × Int) := ((List.range l.length).filter fun i => !ms.contains i).map (nth l)
def downStep (s : Stt) : Stt × Int :=
 if s.base = 0 then (turnS s 1 0, 0)
 else if matesS s.base (twosO s.slots) (s.base - 1) = [] then (turnS s s.mode (-1), 0)
 else match roomS s false (nth (twosO s.slots) (leastS (twosO s.slots) (matesS s.base (twosO s.slots) (s.base - 1)))).2 with
  | some a => moveS s (nth (twosI s.slots) (leastS (twosO s.slots) (matesS s.base (twosO s.slots) (s.base - 1)))) false a
  | none => match placeS (s.base - 1) (restS (twosO s.slots) (matesS s.base (twosO s.slots) (s.base - 1))) (nth (twosO s.slots) (leastS (twosO s.slots) (matesS s.base (twosO s.slots) (s.base - 1)))).2 with
   | some a => moveS s (nth (twosI s.slots) (leastS (twosO s.slots) (matesS s.base (twosO s.slots) (s.base - 1)))) true a
   | none => (zStt, 10)
def stepS (s : Stt) : Stt × Int := if sttS s = true then (if s.mode = 3 then upStep s else if s.mode = 4 then downStep s else (zStt, 12)) else (zStt, 1)
def frontB (s : Stt) (x : Slot) : Bool := isOne x && decide (x.at_ < (s.base + 1) * 32)
def frontN (s : Stt) : Nat := ((List.range s.slots.length).filter fun i => frontB s (nth s.slots i)).length
def leftU (s : Stt) : Nat := if s.base = s.sh.pages then 1 else 9 * (s.sh.pages - s.base - 1).toNat + frontN s + 2
theorem ones_nil {l : List Slot} (h : onesS l = []) : ∀ i, i < l.length → isOne (nth l i) = false := by
 have h2 : onesR l = [] := by
  have := (stS_perm (lt := ltB) (onesR l)).length_eq
  rw [← onesS, h] at this
  exact List.length_eq_zero_iff.1 this.symm
 intro i hi
 cases hx : isOne (nth l i) with
 | false => rfl
 | true =>
  exfalso
  have hm : blkAt l i ∈ onesR l := by
   rw [onesR]; exact List.mem_map_of_mem (by simp only [oneIx, List.mem_filter, List.mem_range]; exact ⟨hi, hx⟩)
  rw [h2] at hm; cases hm
theorem ones_first {l : List Slot} (h : onesS l ≠ []) : ∀ i, i < l.length → isOne (nth l i) = true → (nth (onesS l) 0).at_ ≤ (nth l i).at_ := by
 intro i hi hx
 have hm : blkAt l i ∈ onesS l := (stS_perm (lt := ltB) _).mem_iff.2 (by
   rw [onesR]; exact List.mem_map_of_mem (by simp only [oneIx, List.mem_filter, List.mem_range]; exact ⟨hi, hx⟩))
 cases hl : onesS l with
 | nil => exact absurd hl h
 | cons b t =>
  rw [hl] at hm
  show b.at_ ≤ (nth l i).at_
  rcases List.mem_cons.1 hm with e | hm
  · rw [← e]; exact Int.le_refl _
  · have hs := onesS_sorted (l := l)
    rw [hl] at hs
    have := (List.pairwise_cons.1 hs).1 _ hm
    unfold beforeB at this
    show b.at_ ≤ (blkAt l i).at_
    omega
theorem ones_head {l : List Slot} (h : onesS l ≠ []) : ∃ k : Nat, k < l.length ∧ isOne (nth l k) = true ∧ nth (onesS l) 0 = blkAt l k := by
 have h0 : 0 < (onesS l).length := by cases hl : onesS l with
  | nil => exact absurd hl h
  | cons => simp
 exact onesS_mem (nth_mem h0)
theorem spot_page {p q : Int} (o : Int × Int) : (spotS p o).1 = (spotS q o).1 := by
 unfold spotS
 split
 · rfl
 · split <;> rfl
theorem spot_more {p q : Int} {o : Int × Int} (h : (spotS p o).2 = true) (hpq : (spotS p o).1.page + (spotS p o).1.count ≤ q) : (spotS q o).2 = true := by
 unfold spotS at h hpq ⊢
 split
 · rename_i h0; rw [if_pos h0] at h; cases h
 · rename_i h0
   rw [if_neg h0] at h hpq
   split
   · rename_i hc
     rw [if_pos hc] at h hpq
     simp only [Bool.and_eq_true, decide_eq_true_eq] at h ⊢
     simp only at hpq
     exact ⟨h.1, by omega⟩
   · rename_i hc
     rw [if_neg hc] at h hpq
     simp only [Bool.and_eq_true, decide_eq_true_eq] at h ⊢
     simp only at hpq
     have := pagesS_b h.1.1.1
     exact ⟨⟨h.1.1, by omega⟩, by omega⟩
theorem turn_right {s : Stt} {mode step : Int} (h : sttS s = true) (hb : superS s.sh mode (s.base + step) = true) (hf : ∀ i, i < s.slots.length → (nth s.slots i).live = true → fitsS (turnS s mode step) (nth s.slots i) ∧ modeP mode (nth s.slots i)) : sttS (turnS s mode step) = true := by
 obtain ⟨h1, h2, h3, h4⟩ := sttS_iff.1 h
 refine sttS_iff.2 ⟨hb, h2, hf, fun i j hij hj l1 l2 => ?_⟩
 have := h4 i j hij hj l1 l2
 refine ⟨fun t1 t2 => ?_, this.2⟩
 have := this.1 t1 t2
 rw [spot_page (p := s.base) (q := s.base + step), spot_page (p := s.base) (q := s.base + step)] at this
 exact this
theorem super_with {sh : Shape} {mode base mode' base' : Int} (h : superS sh mode base = true) (hb : 0 ≤ base' ∧ base' ≤ sh.pages) (hm : (mode' = 1 ∧ base' = 0) ∨ (mode' = 2 ∧ base' = sh.pages) ∨ mode' = 3 ∨ mode' = 4) : superS sh mode' base' = true := by
 simp only [superS, Bool.and_eq_true] at h ⊢
 refine ⟨⟨h.1.1, by simpa using hb⟩, ?_⟩
 rcases hm with ⟨rfl, rfl⟩ | ⟨rfl, rfl⟩ | rfl | rfl <;> simp
theorem up_last {s : Stt} (h : sttS s = true) (hb : s.base = s.sh.pages) : sttS (turnS s 2 0) = true := by
 have hsu := sttS_super h
 have hsb := superS_b hsu
 have two : ∀ i, i < s.slots.length → (nth s.slots i).live = true → (nth s.slots i).two = true := fun i hi hl => by
  cases ht : (nth s.slots i).two with
  | true => rfl
  | false =>
   exfalso
   have hf := ((sttS_iff.1 h).2.2.1 i hi hl).1
   unfold fitsS at hf
   rw [if_neg (by simp [ht])] at hf
   have hx := slotS1_live (tableS_slot (sttS_rows h) i hi) hl
   have := needS_pos hx.2.2
   omega
 refine turn_right h (super_with hsu (by omega) (.inr (.inl ⟨rfl, by omega⟩))) fun i hi hl => ⟨?_, ?_⟩
 · have hf := ((sttS_iff.1 h).2.2.1 i hi hl).1
   unfold fitsS at hf ⊢
   rw [if_pos (two i hi hl)] at hf ⊢
   show (spotS (s.base + 0) _).2 = true
   rw [Int.add_zero]; exact hf
 · exact ⟨fun e => by omega, fun _ => two i hi hl⟩
theorem up_turn {s : Stt} (h : sttS s = true) (hm : s.mode = 3) (hb : s.base ≠ s.sh.pages) (hc : onesS s.slots = [] ∨ (s.base + 1) * 32 ≤ (nth (onesS s.slots) 0).at_) : sttS (turnS s s.mode 1) = true := by
 have hsu := sttS_super h
 have hsb := superS_b hsu
 refine turn_right h (super_with hsu (by omega) (.inr (.inr (.inl hm)))) fun i hi hl => ⟨?_, ⟨fun e => by omega, fun e => by omega⟩⟩
 have hf := ((sttS_iff.1 h).2.2.1 i hi hl).1
 unfold fitsS at hf ⊢
 cases ht : (nth s.slots i).two with
 | true =>
  rw [if_pos ht] at hf
  rw [if_pos rfl]
  have g := (spot_words hf).good
  exact spot_more hf (by have := g.p1; show _ ≤ s.base + 1; omega)
 | false =>
  rw [if_neg (by simp [ht])] at hf
  rw [if_neg (by simp)]
  have hone : isOne (nth s.slots i) = true := by simp [isOne, hl, ht]
  refine ⟨?_, hf.2.1, hf.2.2⟩
  rcases hc with hc | hc
  · rw [ones_nil hc i hi] at hone; cases hone
  · by_cases hn : onesS s.slots = []
    · rw [ones_nil hn i hi] at hone; cases hone
    · have := ones_first hn i hi hone
      show (s.base + 1) * 32 ≤ _
      omega
open Go.Awp
/- The document's answers, in plain Lean: blocks in order, rows of free pages. -/
def insR : List Blk → Blk → List Blk
 | [], b => [b]
 | x :: l, b => if b.at_ < x.at_ then b :: x :: l else x :: insR l b
theorem insR_at {b : Blk} : ∀ {l : List Blk} {k : Nat}, k ≤ l.length → (∀ j, j < k → (nth l j).at_ ≤ b.at_) → (k < l.length → b.at_ < (nth l k).at_) → insR l b = l.take k ++ b :: l.drop k
 | [], k, h, _, _ => by
  obtain rfl : k = 0 := by simpa using h
  rfl
 | x :: l, 0, _, _, h2 => by
  have := h2 (by simp)
  unfold insR; rw [if_pos (by simpa [nth] using this)]; rfl
 | x :: l, k + 1, h, h1, h2 => by
  have h0 := h1 0 (by omega)
  unfold insR; rw [if_neg (by have : x.at_ ≤ b.at_ := by simpa [nth] using h0
                              omega)]
  rw [insR_at (l := l) (k := k) (by simpa using h) (fun j hj => by have := h1 (j + 1) (by omega); simpa [nth] using this) (fun hk => by have := h2 (by simpa using hk); simpa [nth] using this)]
  rfl
theorem insR_perm {b : Blk} : ∀ {l : List Blk}, (insR l b).Perm (b :: l)
 | [] => .refl _
 | x :: l => by
  unfold insR; split
  · exact .refl _
  · exact (List.Perm.cons x (insR_perm (l := l))).trans (List.Perm.swap b x l)
theorem insR_sorted {b : Blk} : ∀ {l : List Blk}, l.Pairwise beforeB → (∀ y ∈ l, y.slot < b.slot) → (insR l b).Pairwise beforeB
 | [], _, _ => by simp [insR]
 | x :: l, h, h2 => by
  rw [List.pairwise_cons] at h
  unfold insR; split
  · rename_i hx
    rw [List.pairwise_cons]
    refine ⟨fun y hy => ?_, List.pairwise_cons.2 h⟩
    rcases List.mem_cons.1 hy with rfl | hy
    · exact .inl hx
    · have := h.1 y hy; unfold beforeB at *; omega
  · rename_i hx
    rw [List.pairwise_cons]
    refine ⟨fun y hy => ?_, insR_sorted h.2 fun y hy => h2 y (by simp [hy])⟩
    rcases List.mem_cons.1 (insR_perm.mem_iff.1 hy) with rfl | hy
    · have := h2 x (by simp); unfold beforeB; omega
    · exact h.1 y hy
theorem before_uniq : ∀ {l m : List Blk}, l.Perm m → l.Pairwise beforeB → m.Pairwise beforeB → l = m
 | [], m, h, _, _ => (List.nil_perm.1 h).symm
 | a :: l, [], h, _, _ => by simpa using h.length_eq
 | a :: l, b :: m, h, h1, h2 => by
  rw [List.pairwise_cons] at h1 h2
  by_cases e : a = b
  · subst e; rw [before_uniq (List.Perm.cons_inv h) h1.2 h2.2]
  · exfalso
    have q1 : a ∈ m := (List.mem_cons.1 (h.mem_iff.1 (by simp))).resolve_left e
    have q2 : b ∈ l := (List.mem_cons.1 (h.mem_iff.2 (by simp))).resolve_left fun q => e q.symm
    have := h1.1 b q2; have := h2.1 a q1
    unfold beforeB at *; omega
def insI (l : List Slot) : Nat → List Blk
 | 0 => []
 | i + 1 => if isOne (nth l i) = true then insR (insI l i) (blkAt l i) else insI l i
theorem insI_perm {l : List Slot} : ∀ {i : Nat}, (insI l i).Perm ((oneIx l i).map (blkAt l))
 | 0 => .refl _
 | i + 1 => by
  unfold insI; split
  · rename_i h
    rw [oneIx_t h, List.map_append]
    exact insR_perm.trans ((List.Perm.cons _ insI_perm).trans (List.perm_append_comm (l₁ := [blkAt l i])))
  · rename_i h; rw [oneIx_f (by simpa using h)]; exact insI_perm
theorem insI_slot {l : List Slot} {i : Nat} : ∀ b ∈ insI l i, b.slot < (i : Int) := fun b hb => by
 have := insI_perm.mem_iff.1 hb
 simp only [List.mem_map] at this
 obtain ⟨k, hk, rfl⟩ := this
 have := (oneIx_mem hk).1
 show (k : Int) < i; omega
theorem insI_sorted {l : List Slot} : ∀ {i : Nat}, (insI l i).Pairwise beforeB
 | 0 => List.Pairwise.nil
 | i + 1 => by
  unfold insI; split
  · exact insR_sorted insI_sorted fun y hy => insI_slot y hy
  · exact insI_sorted
theorem insI_len {l : List Slot} {i : Nat} : (insI l i).length ≤ i := by
 rw [insI_perm.length_eq, List.length_map]; exact oneIx_len
theorem insI_onesS {l : List Slot} : insI l l.length = onesS l := before_uniq (insI_perm.trans (stS_perm _).symm) insI_sorted onesS_sorted
theorem runsI_skip {ks : List Int} {i : Nat} (h : nth ks i ≠ -1) : runsI ks (i + 1) = ((runsI ks i).1, false) := by
 conv => lhs; unfold runsI
 rw [if_neg h]
theorem runsI_free {ks : List Int} {i : Nat} (hf : (runsI ks i).2 = false) : ∀ {n : Nat}, (∀ t, t < n + 1 → nth ks (i + t) = -1) → runsI ks (i + (n + 1)) = ((runsI ks i).1 ++ [((i : Int), ((n + 1 : Nat) : Int))], true)
 | 0, h => by
  show runsI ks (i + 1) = _
  conv => lhs; unfold runsI
  rw [if_pos (by simpa using h 0 (by omega)), if_neg (by simp [hf])]; rfl
 | n + 1, h => by
  have ih := runsI_free hf (n := n) fun t ht => h t (by omega)
  show runsI ks ((i + (n + 1)) + 1) = _
  conv => lhs; unfold runsI
  rw [if_pos (h (n + 1) (by omega)), ih]
  simp only [if_true]
  rw [bumpR_last]; rfl
def gapsR (fr to : Int) (l : List (Int × Int)) : List (Int × Int) × Int := if gapsS fr to l = true then (gapsF to fr l, 0) else ([], 1)
set_option maxRecDepth 4000
open Go.Awp
theorem ct233 (g : Gl) : CtAt Tryz.prog g 233 [vI 64] (vI 13) := by
 refine xA Tryz.func233 fun B S => ?_
 refine xU ?_
 refine xH [0] ?_
 refine W_seq (xU ?_)
 refine xO2 ?_
 refine xQ [0,5] ?_ ?_
 · intro h5
   simp at h5
 intro h5
 refine W_skip ?_
 refine xT ?_
 iterate 7 refine xO ?_
 refine xG [0] ?_
 refine xO3 ?_
 refine xG [0] ?_
 refine xH2 [0,3] ?_
 refine W_seq (W_block ?_)
 refine W_rounds (fun m σ o => ((m = 3 ∧ σ = slots [(0, .d (vI 10)), (3, .d (vI 10))]) ∨ (m = 2 ∧ σ = slots [(0, .d (vI 2)), (3, .d (vI 12))]) ∨ (m = 1 ∧ σ = slots [(0, .d (vI 1)), (3, .d (vI 13))])) ∧ o = []) 3 .refl ⟨.inl ⟨rfl, rfl⟩, rfl⟩ ?_
 rintro m σ o ⟨⟨rfl, rfl⟩ | ⟨rfl, rfl⟩ | ⟨rfl, rfl⟩, rfl⟩ _
 · skip
   skip
   refine W_seq (xU ?_)
   refine xO2 ?_
   refine xQ [0,3,16] ?_ ?_
   · intro h16
     refine W_skip fun _ => ?_
     refine W_block (xU ?_)
     iterate 7 refine xO ?_
     refine xF [0,3] ?_
     refine xY ?_
     refine xO4 ?_
     refine xE [0,3] ?_
     refine rounds_kill [0,3] ?_
     exact rounds_next (m' := 2) (by omega) ⟨.inr (.inl ⟨rfl, rfl⟩), rfl⟩
   intro h16
   simp at h16
 · skip
   skip
   refine W_seq (xU ?_)
   refine xO2 ?_
   refine xQ [0,3,16] ?_ ?_
   · intro h16
     refine W_skip fun _ => ?_
     refine W_block (xU ?_)
     iterate 7 refine xO ?_
     refine xF [0,3] ?_
     refine xY ?_
     refine xO4 ?_
     refine xE [0,3] ?_
     refine rounds_kill [0,3] ?_
     exact rounds_next (m' := 1) (by omega) ⟨.inr (.inr ⟨rfl, rfl⟩), rfl⟩
   intro h16
   simp at h16
 skip
 skip
 refine W_seq (xU ?_)
 refine xO2 ?_
 refine xQ [0,3,16] ?_ ?_
 · intro h16
   simp at h16
 intro h16
 refine W_exit (xT ?_)
 refine xH2 [2] ?_
 refine W_ret (xR (by simp [Tryz.f233]; exact .mk) ?_)
 simp [Tryz.f233]

theorem ct202 (g : Gl) (s : Shape) (hs : sizedSh s = true) : CtAt Tryz.prog g 202 [eShape s] (.agg [vI 1, vI 2, vI s.room, vI (headsS s), vI (tableA s), vI (rootsA s), vI (treeA s), vI (heapA s), vI (linesA s)]) := by
 refine xA Tryz.func202 fun B S => ?_
 simp only [eShape, List.map, argD_agg]
 have hb : 1 ≤ s.pages ∧ s.pages ≤ 64 ∧ 1 ≤ s.room ∧ s.room ≤ 4096 ∧ 2 ≤ s.slots ∧ s.slots ≤ 32 ∧ 2 ≤ s.roots ∧ s.roots ≤ 8 := by simp [sizedSh] at hs; omega
 have d1 : 0 ≤ s.slots.tdiv 2 ∧ s.slots.tdiv 2 ≤ 16 := by rw [Int.tdiv_eq_ediv_of_nonneg (by omega)]; omega
 have d2 : 0 ≤ s.roots.tdiv 2 ∧ s.roots.tdiv 2 ≤ 4 := by rw [Int.tdiv_eq_ediv_of_nonneg (by omega)]; omega
 have q1 : headsS s = 2 + s.room * 2 := rfl
 have q2 : tableA s = headsS s + 1 := rfl
 have q3 : rootsA s = tableA s + s.slots.tdiv 2 := rfl
 have q4 : treeA s = rootsA s + s.roots.tdiv 2 := rfl
 have q5 : heapA s = treeA s + 26 := rfl
 have q6 : linesA s = heapA s + s.pages * 4 := rfl
 have e1 : IntKind.i64.wrap (2 * s.room) = 2 * s.room := wrap64 (by omega) (by omega)
 have e2 : IntKind.i64.wrap (2 + 2 * s.room) = headsS s := (wrap64 (by omega) (by omega)).trans (by omega)
 have e3 : IntKind.i64.wrap (headsS s + 1) = tableA s := (wrap64 (by omega) (by omega)).trans (by omega)
 have e4 : IntKind.i64.wrap (s.slots.tdiv 2) = s.slots.tdiv 2 := wrap64 (by omega) (by omega)
 have e5 : IntKind.i64.wrap (tableA s + s.slots.tdiv 2) = rootsA s := (wrap64 (by omega) (by omega)).trans (by omega)
 have e6 : IntKind.i64.wrap (s.roots.tdiv 2) = s.roots.tdiv 2 := wrap64 (by omega) (by omega)
 have e7 : IntKind.i64.wrap (rootsA s + s.roots.tdiv 2) = treeA s := (wrap64 (by omega) (by omega)).trans (by omega)
 have e8 : IntKind.i64.wrap 26 = 26 := rfl
 have e9 : IntKind.i64.wrap (treeA s + 26) = heapA s := (wrap64 (by omega) (by omega)).trans (by omega)
 have e10 : IntKind.i64.wrap (4 * s.pages) = 4 * s.pages := wrap64 (by omega) (by omega)
 have e11 : IntKind.i64.wrap (heapA s + 4 * s.pages) = linesA s := (wrap64 (by omega) (by omega)).trans (by omega)
 refine xU ?_
 refine xO2 ?_
 refine xG [1,2] ?_
 refine xO2 ?_
 iterate 2 (refine xOs ?_)
 refine xO ?_
 refine xOs ?_
 refine xG [1,2,3] ?_
 refine xO2 ?_
 refine xO ?_ (h := by simp [e1]; exact .mk)
 refine xO ?_ (h := by simp [e2]; exact .mk)
 refine xO ?_
 refine xOs ?_
 refine xG [1,2,3] ?_
 refine xO2 ?_
 refine xO ?_ (h := by simp [e3]; exact .mk)
 refine xO ?_
 refine xOs ?_
 refine xG [1,2,3] ?_
 refine xO4 ?_
 refine xO ?_ (h := by simp [e4]; exact .mk)
 refine xO ?_ (h := by simp [e5]; exact .mk)
 refine xO ?_
 refine xOs ?_
 refine xG [1,2,3] ?_
 refine xO4 ?_
 refine xO ?_ (h := by simp [e6]; exact .mk)
 refine xO ?_ (h := by simp [e7]; exact .mk)
 refine xO ?_
 refine xOs ?_
 refine xF [1,2,3] ?_
 refine W_seq ?_
 refine W_regD (by kernel_rfl) [] 4 [0,1,2,3,4,5,6] (by decide +kernel) ?_
 refine xO2 ?_
 refine xC (ct233 g) ?_
 refine xO ?_ (h := by simp [e8]; exact .mk)
 refine xO ?_ (h := by simp [e9]; exact .mk)
 refine xO ?_
 refine xOs ?_
 refine xG [1,2,3] ?_
 refine xO4 ?_
 refine xO ?_ (h := by simp [e10]; exact .mk)
 refine xO ?_ (h := by simp [e11]; exact .mk)
 refine xO ?_
 refine xOs ?_
 refine xG [2,3] ?_
 refine xO ?_
 refine xOs ?_
 refine xF [2] ?_
 refine W_ret (xR (by simp [Tryz.f202]; exact .mk) ?_)
 simp [Tryz.f202]

theorem ct144 (g : Gl) (s : Shape) : CtAt Tryz.prog g 144 [eShape s] (.v (.bool (shapeS s))) := by
 refine xA Tryz.func144 fun B S => ?_
 simp only [eShape, List.map, argD_agg]
 have m1 : 2 ≤ s.slots → (s.slots.tmod 2 = 0 ∨ s.slots.tmod 2 = 1) := fun h => by rw [Int.tmod_eq_emod_of_nonneg (by omega)]; omega
 have m2 : 2 ≤ s.roots → (s.roots.tmod 2 = 0 ∨ s.roots.tmod 2 = 1) := fun h => by rw [Int.tmod_eq_emod_of_nonneg (by omega)]; omega
 refine xU ?_
 refine xH2 [1] ?_
 refine W_seq (xU ?_)
 refine xO4 ?_
 iterate 3 refine xI ?_
 refine xP ?_
 refine xB ?_
 iterate 3 refine xI ?_
 refine xP ?_
 refine xB ?_
 iterate 3 refine xI ?_
 refine xP ?_
 refine xB ?_
 iterate 4 refine xI ?_
 refine xP ?_
 refine xB ?_
 iterate 3 refine xI ?_
 refine xP ?_
 refine xB ?_
 iterate 3 refine xI ?_
 refine xP ?_
 refine xB ?_
 iterate 4 refine xI ?_
 refine xP ?_
 refine xB ?_
 iterate 3 refine xI ?_
 refine xP ?_
 refine xB ?_
 iterate 3 refine xI ?_
 refine xP ?_
 refine xQ [1,52] ?_ ?_
 · intro h52
   have hz : sizedSh s = false := by simp [sizedSh] at h52 ⊢; omega
   have hr : shapeS s = false := by simp [shapeS, hz]
   refine xU ?_
   refine xH [2] ?_
   refine W_ret (xR (by simp [Tryz.f144]; exact .mk) ?_)
   simp [Tryz.f144, hr]
 intro h52
 have hz : sizedSh s = true := by simp [sizedSh] at h52 ⊢; omega
 have hr : shapeS s = decide (linesA s ≤ 4096) := by simp [shapeS, hz]
 refine W_skip ?_
 refine xT ?_
 refine xO ?_
 refine xC (ct202 g s hz) ?_
 refine xH3 [2] ?_
 refine W_ret (xR (by simp [Tryz.f144]; exact .mk) ?_)
 simp [Tryz.f144, hr]

theorem ct92 (g : Gl) (s : Shape) (mode base : Int) : CtAt Tryz.prog g 92 [eShape s, vI mode, vI base] (.v (.bool (superS s mode base))) := by
 refine xA Tryz.func92 fun B S => ?_
 simp only [eShape, List.map, argD_agg, argD_v]
 refine xU ?_
 refine xO2 ?_
 refine xG [1,2,3] ?_
 refine xO ?_
 refine xC (ct144 g s) ?_
 refine xH [1,2,3,7] ?_
 refine W_seq (xU ?_)
 refine xO3 ?_
 iterate 2 refine xI ?_
 refine xP ?_
 refine xB ?_
 iterate 4 refine xI ?_
 refine xP ?_
 refine xQ [1,2,3,21] ?_ ?_
 · intro h21
   refine xU ?_
   refine xH [6] ?_
   refine W_ret (xR (by simp [Tryz.f92]; exact .mk) ?_)
   first | (simp [Tryz.f92, superS, *]; done) | (simp [Tryz.f92, superS] at *; grind)
 intro h21
 refine W_skip fun _ => ?_
 refine W_seq (xU ?_)
 refine xH [2,3,22] ?_
 refine W_block (xU ?_)
 refine xO2 ?_
 refine xQ [2,3,22,23] ?_ ?_
 · intro h23
   refine xU ?_
   refine xH3 [6] ?_
   refine W_ret (xR (by simp [Tryz.f92]; exact .mk) ?_)
   first | (simp [Tryz.f92, superS, *]; done) | (simp [Tryz.f92, superS] at *; grind)
 intro h23
 refine xU ?_
 refine xO2 ?_
 refine xQ [2,3,22,27] ?_ ?_
 · intro h27
   refine xU ?_
   refine xO5 ?_
   refine xF [6] ?_
   refine W_ret (xR (by simp [Tryz.f92]; exact .mk) ?_)
   first | (simp [Tryz.f92, superS, *]; done) | (simp [Tryz.f92, superS] at *; grind)
 intro h27
 refine W_seq (xU ?_)
 refine xO2 ?_
 refine xQ [22,33] ?_ ?_
 · intro h33
   refine W_skip fun _ => ?_
   refine W_cond rfl ?_ ?_
   · intro h33'
     refine xU ?_
     refine xH [6] ?_
     refine W_ret (xR (by simp [Tryz.f92]; exact .mk) ?_)
     first | (simp [Tryz.f92, superS, *]; done) | (simp [Tryz.f92, superS] at *; grind)
   intro hq
   cases h33.symm.trans hq
 intro h33
 refine xY ?_
 refine xO2 ?_
 refine xQ [33] ?_ ?_
 · intro h33'
   refine xU ?_
   refine xH [6] ?_
   refine W_ret (xR (by simp [Tryz.f92]; exact .mk) ?_)
   first | (simp [Tryz.f92, superS, *]; done) | (simp [Tryz.f92, superS] at *; grind)
 intro h33'
 refine W_skip ?_
 refine xT ?_
 refine xH [6] ?_
 refine W_ret (xR (by simp [Tryz.f92]; exact .mk) ?_)
 first | (simp [Tryz.f92, superS, *]; done) | (simp [Tryz.f92, superS] at *; grind)

theorem ct145 (g : Gl) (s : Slot) : CtAt Tryz.prog g 145 [eSlot s] (.v (.bool (slotS1 s))) := by
 refine xA Tryz.func145 fun B S => ?_
 simp only [eSlot, List.map, argD_agg]
 refine xU ?_
 refine xH2 [1] ?_
 refine W_seq (xU ?_)
 refine xO4 ?_
 iterate 3 refine xI ?_
 refine xP ?_
 refine xQ [1,10] ?_ ?_
 · intro h10
   refine xU ?_
   refine xH [2] ?_
   refine W_ret (xR (by simp [Tryz.f145]; exact .mk) ?_)
   simp [Tryz.f145, slotS1] at *; grind
 intro h10
 refine W_skip fun _ => ?_
 refine W_seq (xU ?_)
 refine xO3 ?_
 refine xQ [1,13] ?_ ?_
 · intro h13
   refine xU ?_
   refine xO4 ?_
   iterate 3 refine xI ?_
   refine xP ?_
   refine xB ?_
   iterate 3 refine xI ?_
   refine xP ?_
   refine xB ?_
   refine xF [2] ?_
   refine W_ret (xR (by simp [Tryz.f145]; exact .mk) ?_)
   simp [Tryz.f145, slotS1] at *; grind
 intro h13
 refine W_skip ?_
 refine xT ?_
 refine xO4 ?_
 iterate 3 refine xI ?_
 refine xP ?_
 refine xB ?_
 iterate 3 refine xI ?_
 refine xP ?_
 refine xB ?_
 iterate 3 refine xI ?_
 refine xP ?_
 refine xB ?_
 refine xF [2] ?_
 refine W_ret (xR (by simp [Tryz.f145]; exact .mk) ?_)
 simp [Tryz.f145, slotS1] at *; grind

theorem ct93 (g : Gl) (l : List Slot) (hl : l.length ≤ 2^40) : CtAt Tryz.prog g 93 [rSl l] (.v (.bool (tableS l))) := by
 refine xA Tryz.func93 fun B S => ?_
 refine xU ?_
 refine xH [0] ?_
 refine W_seq (xU ?_)
 refine xH [0,3] ?_
 refine W_block (W_rounds (fun m σ o => ∃ i : Nat, m = l.length - i ∧ i ≤ l.length ∧ (∀ j, j < i → slotS1 (nth l j) = true) ∧ σ = slots [(0, .d (rSl l)), (3, .d (vI i))] ∧ o = []) l.length .refl ⟨0, by simp, by simp, by simp, rfl, rfl⟩ ?_)
 rintro m σ o ⟨i, rfl, hi, hinv, rfl, rfl⟩ _
 refine W_seq (xU ?_)
 refine xO4 ?_
 refine xQ [0,3,8] ?_ ?_
 · intro h8
   have hi2 : i < l.length := by simpa using h8
   refine W_skip fun _ => ?_
   refine W_seq (W_block ?_)
   refine xU ?_
   refine xO2 ?_
   refine xO ?_ (h := by simp [eSlot, hi2]; exact .mk)
   refine xO ?_ (h := by simp [-List.getElem?_map, map_get hi2, eSlot]; exact .mk)
   refine xC (ct145 g (nth l i)) ?_
   refine xO ?_
   refine xG [0,3,4] ?_
   refine xO2 ?_
   refine xQ [0,3,17] ?_ ?_
   · intro h17
     have hr : tableS l = false := by unfold tableS; rw [all_bad hi2 (by simpa using h17)]; rfl
     refine xU ?_
     refine xH [2] ?_
     refine W_ret (xR (by simp [Tryz.f93]; exact .mk) ?_)
     first | (simp [Tryz.f93, hr]; done) | (simp [Tryz.f93, hr, tnewOk, Bool.and_assoc]; try (first | done | grind))
   intro h17
   refine W_skip fun _ => ?_
   refine xY ?_
   refine xO3 ?_
   refine xE [0,3] ?_
   refine rounds_drop 0 [0,3] (by simp) (by simp) (by simp) ?_
   refine rounds_next (m' := l.length - (i+1)) (by omega) ⟨i+1, rfl, by omega, ?_, ?_, rfl⟩
   · intro j hj
     rcases Nat.lt_succ_iff_lt_or_eq.1 hj with hj | rfl
     · exact hinv j hj
     simpa using h17
   rw [wrap64 (by omega) (by omega)]; rfl
 intro h8
 have hr : tableS l = tnewOk l.length := by unfold tableS; rw [all_good (fun j hj => hinv j (by simp at h8; omega))]; rfl
 refine W_exit (xT ?_)
 refine xO4 ?_
 iterate 3 refine xI ?_
 refine xP ?_
 refine xB ?_
 iterate 4 refine xI ?_
 refine xP ?_
 refine xB ?_
 refine xF [2] ?_
 refine W_ret (xR (by simp [Tryz.f93]; exact .mk) ?_)
 first | (simp [Tryz.f93, hr]; done) | (simp [Tryz.f93, hr, tnewOk, Bool.and_assoc]; try (first | done | grind))

open Go.Awp
theorem ct211 (g : Gl) : CtAt Tryz.prog g 211 [] (oI wordsL) := by
 refine xA Tryz.func211 fun B S => ?_
 refine xU ?_
 refine xO ?_
 refine xG [] ?_
 refine xH2 [0] ?_
 refine W_ret (xR (by simp [Tryz.f211]; exact .mk) ?_)
 simp [Tryz.f211, ownR, wordsL]

theorem ct153 (g : Gl) (n : Int) : CtAt Tryz.prog g 153 [vI n] (.tup [vI (classS n).1, .v (.bool (classS n).2)]) := by
 refine xA Tryz.func153 fun B S => ?_
 refine xU ?_
 refine xO2 ?_
 refine xG [0] ?_
 refine xC (ct211 g) ?_
 refine xH [0,4] ?_
 refine W_seq (xU ?_)
 refine xH [0,4,5] ?_
 refine W_block (W_rounds (fun m σ o => ∃ i : Nat, m = 6 - i ∧ i ≤ 6 ∧ (∀ j, j < i → ¬ (1 ≤ n ∧ n ≤ 8 * nth wordsL j)) ∧ σ = slots [(0, .d (vI n)), (4, .hdr 0 0 6), (5, .d (vI i))] ∧ o = [.row 1 (wordsL.map vI)]) 6 .refl ⟨0, by simp, by simp, by simp, rfl, rfl⟩ ?_)
 rintro m σ o ⟨i, rfl, hi, hinv, rfl, rfl⟩ _
 refine W_seq (xU ?_)
 refine xO4 ?_
 refine xQ [0,4,5,10] ?_ ?_
 · intro h10
   have hi2 : i < 6 := by simp at h10; omega
   have hi4 : (i : Int) < 6 := by omega
   have hi3 : i < wordsL.length := hi2
   have hw := wordsL_8 hi2
   have w1 : IntKind.i64.wrap (8 * nth wordsL i) = 8 * nth wordsL i := wrap64 (by omega) (by omega)
   refine W_skip fun _ => ?_
   refine W_seq (W_block ?_)
   refine xU ?_
   refine xO3 ?_
   iterate 3 refine xI ?_
   refine xI ?_ (h := fun hb => by simp [hi2, hi3, hi4]; exact .mk)
   refine xI ?_ (h := fun hb => by simp [-List.getElem?_map, hi2, map_get hi3]; exact .mk)
   refine xI ?_ (h := fun hb => by simp [w1]; exact .mk)
   refine xI ?_
   refine xP ?_
   refine xQ [0,4,5,23] ?_ ?_
   · intro h23
     have hr := classS_at hi2 (by simpa using h23) hinv
     refine xU ?_
     refine xH3 [2,3] ?_
     refine W_ret (xR (by simp [Tryz.f153]; exact .mk) ?_)
     simp [Tryz.f153, hr]
   intro h23
   have hno : ¬ (1 ≤ n ∧ n ≤ 8 * nth wordsL i) := by simpa using h23
   refine W_skip fun _ => ?_
   refine xY ?_
   refine xO3 ?_
   refine xE [0,4,5] ?_
   refine rounds_kill [0,4,5] ?_
   refine rounds_next (m' := 6 - (i+1)) (by omega) ⟨i+1, rfl, by omega, ?_, ?_, rfl⟩
   · intro j hj
     rcases Nat.lt_succ_iff_lt_or_eq.1 hj with hj | rfl
     · exact hinv j hj
     exact hno
   rw [wrap64 (by omega) (by omega)]; rfl
 intro h10
 have hr : classS n = (0, false) := classS_no (fun j hj => hinv j (by simp at h10; omega))
 refine W_exit (xT ?_)
 refine xH2 [2,3] ?_
 refine W_ret (xR (by simp [Tryz.f153]; exact .mk) ?_)
 simp [Tryz.f153, hr]

theorem ct213 (g : Gl) (c : Int) : CtAt Tryz.prog g 213 [vI c] (.tup [vI (if c < 0 ∨ 6 ≤ c then 0 else nth wordsL c.toNat), vI (if c < 0 ∨ 6 ≤ c then 1 else 0)]) := by
 refine xA Tryz.func213 fun B S => ?_
 refine xU ?_
 refine xO2 ?_
 refine xG [0] ?_
 refine xC (ct211 g) ?_
 refine xH [0,4] ?_
 refine W_seq (xU ?_)
 refine xO3 ?_
 iterate 4 refine xI ?_
 refine xP ?_
 refine xQ [0,4,13] ?_ ?_
 · intro h13
   have hr : c < 0 ∨ 6 ≤ c := by simpa [wordsL] using h13
   refine xU ?_
   refine xH2 [2,3] ?_
   refine W_ret (xR (by simp [Tryz.f213]; exact .mk) ?_)
   first | (simp [Tryz.f213, hr]; done) | simp [Tryz.f213, hr, nth_eq hc]
 intro h13
 have hr : ¬ (c < 0 ∨ 6 ≤ c) := by simp [wordsL] at h13 ⊢; omega
 have hc : c.toNat < wordsL.length := by show c.toNat < 6; omega
 have hc2 : 0 ≤ c ∧ c < 6 := by omega
 have hc3 : c < (wordsL.length : Int) := hc2.2
 refine W_skip ?_
 refine xT ?_
 refine xO2 ?_
 refine xO ?_ (h := by simp [hc, hc2, hc3]; exact .mk)
 refine xO ?_ (h := by simp [-List.getElem?_map, hc, map_get hc]; exact .mk)
 refine xH2 [2,3] ?_
 refine W_ret (xR (by simp [Tryz.f213]; exact .mk) ?_)
 first | (simp [Tryz.f213, hr]; done) | simp [Tryz.f213, hr, nth_eq hc]

theorem ct156 (g : Gl) (c : Int) : CtAt Tryz.prog g 156 [vI c] (.tup [vI (cellsS c).1, vI (cellsS c).2]) := by
 refine xA Tryz.func156 fun B S => ?_
 have c213 := ct213 g c
 obtain ⟨w, hw⟩ : ∃ w, w = (if c < 0 ∨ 6 ≤ c then 0 else nth wordsL c.toNat) := ⟨_, rfl⟩
 obtain ⟨e, he⟩ : ∃ e : Int, e = (if c < 0 ∨ 6 ≤ c then 1 else 0) := ⟨_, rfl⟩
 rw [← hw, ← he] at c213
 refine xU ?_
 refine xO2 ?_
 refine xG [0] ?_
 refine xO ?_
 refine xC (c213) ?_
 refine xO5 ?_
 refine xF [4,5] ?_
 refine W_seq (xU ?_)
 refine xO2 ?_
 refine xQ [4,5,12] ?_ ?_
 · intro h12
   have hz : e ≠ 0 := by simpa using h12
   have hc : c < 0 ∨ 6 ≤ c := Classical.byContradiction fun q => by rw [if_neg q] at he; exact hz he
   rw [if_pos hc] at he
   have hr : cellsS c = (0, 1) := by unfold cellsS; rw [if_pos hc]
   refine xU ?_
   refine xH3 [2,3] ?_
   refine W_ret (xR (by simp [Tryz.f156]; exact .mk) ?_)
   simp [Tryz.f156, hr, *]
 intro h12
 have hz : e = 0 := by simpa using h12
 have hc : ¬ (c < 0 ∨ 6 ≤ c) := fun q => by rw [if_pos q] at he; omega
 rw [if_neg hc] at hw
 have hw8 := wordsL_8 (j := c.toNat) (by omega)
 have hw0 : w ≠ 0 := by omega
 have hd : 0 ≤ (28 : Int).tdiv w ∧ (28 : Int).tdiv w ≤ 28 := ⟨Int.tdiv_nonneg (by omega) (by omega), by rw [Int.tdiv_eq_ediv_of_nonneg (by omega)]; exact Int.ediv_le_self _ (by omega)⟩
 have w1 : IntKind.i64.wrap ((28 : Int).tdiv w) = (28 : Int).tdiv w := wrap64 (by omega) (by omega)
 have hr : cellsS c = ((28 : Int).tdiv w, 0) := by unfold cellsS; rw [if_neg hc, hw]
 refine W_skip ?_
 refine xT ?_
 refine xO ?_
 refine xO ?_ (h := by simp [hw0, w1]; exact .mk)
 refine xH2 [2,3] ?_
 refine W_ret (xR (by simp [Tryz.f156]; exact .mk) ?_)
 simp [Tryz.f156, hr, *]

theorem ct157 (g : Gl) (c : Int) (k : Nat) (hc : 0 ≤ c ∧ c < 6) (hk : k ≤ 14) : CtAt Tryz.prog g 157 [vI c, vI k] (.tup [vI (cellS c k).1, vI (cellS c k).2]) := by
 refine xA Tryz.func157 fun B S => ?_
 have c156 := ct156 g c
 have c213 := ct213 g c
 obtain ⟨b1, b2, b3, b4⟩ := cellsS_b hc
 rw [b3] at c156
 rw [if_neg (by omega), if_neg (by omega)] at c213
 refine xU ?_
 refine xO2 ?_
 refine xG [0,1] ?_
 refine xO ?_
 refine xC (c156) ?_
 refine xO5 ?_
 refine xF [0,1,6,7] ?_
 refine W_seq (xU ?_)
 refine xO3 ?_
 iterate 2 refine xI ?_
 refine xP ?_
 refine xB ?_
 iterate 3 refine xI ?_
 refine xP ?_
 refine xQ [0,1,25] ?_ ?_
 · intro h25
   have hr : cellS c k = (0, 1) := by unfold cellS; rw [if_pos]; simp at h25; omega
   refine xU ?_
   refine xH2 [4,5] ?_
   refine W_ret (xR (by simp [Tryz.f157]; exact .mk) ?_)
   first | (simp [Tryz.f157, hr]; done) | simp [Tryz.f157, d1]
 intro h25
 have hkc : (k : Int) < (cellsS c).1 := by simp at h25; omega
 obtain ⟨d1, d2, d3⟩ := cellS_b hc hkc
 have w1 : IntKind.i64.wrap (nth wordsL c.toNat * (k : Int)) = (k : Int) * nth wordsL c.toNat := (wrap64 (by rw [Int.mul_comm]; omega) (by rw [Int.mul_comm]; omega)).trans (Int.mul_comm _ _)
 have w2 : IntKind.i64.wrap (4 + (k : Int) * nth wordsL c.toNat) = 4 + (k : Int) * nth wordsL c.toNat := wrap64 (by omega) (by omega)
 refine W_skip ?_
 refine xT ?_
 refine xO ?_
 refine xC (c213) ?_
 refine xO5 ?_
 refine xG [1,8] ?_
 refine xO2 ?_
 refine xO ?_ (h := by simp [w1]; exact .mk)
 refine xO ?_ (h := by simp [w2]; exact .mk)
 refine xH2 [4,5] ?_
 refine W_ret (xR (by simp [Tryz.f157]; exact .mk) ?_)
 first | (simp [Tryz.f157, hr]; done) | simp [Tryz.f157, d1]

theorem ct204 (g : Gl) (c off : Int) (hc : 0 ≤ c ∧ c < 6) (ho : 0 ≤ off ∧ off < 32) : CtAt Tryz.prog g 204 [vI c, vI off] (.tup [vI (whichS c off).1, .v (.bool (whichS c off).2)]) := by
 refine xA Tryz.func204 fun B S => ?_
 have c156 := ct156 g c
 obtain ⟨b1, b2, b3, b4⟩ := cellsS_b hc
 rw [b3] at c156
 obtain ⟨N, hN⟩ : ∃ N : Nat, (cellsS c).1 = N := ⟨(cellsS c).1.toNat, by omega⟩
 refine xU ?_
 refine xO2 ?_
 refine xG [0,1] ?_
 refine xO ?_
 refine xC (c156) ?_
 refine xO5 ?_
 refine xF [0,1,6] ?_
 refine W_seq (xU ?_)
 refine xH [0,1,6,8] ?_
 refine W_block (W_rounds (fun m σ o => ∃ i : Nat, m = N - i ∧ i ≤ N ∧ (∀ j, j < i → (cellS c j).1 ≠ off) ∧ σ = slots [(0, .d (vI c)), (1, .d (vI off)), (6, .d (vI (cellsS c).1)), (8, .d (vI i))] ∧ o = []) (N) .refl ⟨0, by simp, by simp, by simp, rfl, rfl⟩ ?_)
 rintro m σ o ⟨i, rfl, hi, hinv, rfl, rfl⟩ _
 refine W_seq (xU ?_)
 refine xO3 ?_
 refine xQ [0,1,6,8,18] ?_ ?_
 · intro h18
   have hi2 : i < N := by rw [hN] at h18; simpa using h18
   refine W_skip fun _ => ?_
   refine W_seq (W_block ?_)
   refine xU ?_
   refine xO2 ?_
   refine xC (ct157 g c i hc (by omega)) ?_
   refine xO5 ?_
   refine xG [0,1,6,8,9] ?_
   refine xO3 ?_
   refine xQ [0,1,6,8,29] ?_ ?_
   · intro h29
     have hr := which_at (k := i) hc (by omega) (by simpa using h29)
     refine xU ?_
     refine xH3 [4,5] ?_
     refine W_ret (xR (by simp [Tryz.f204]; exact .mk) ?_)
     simp [Tryz.f204, hr]
   intro h29
   have hno : (cellS c i).1 ≠ off := by simpa using h29
   refine W_skip fun _ => ?_
   refine xY ?_
   refine xO3 ?_
   refine xE [0,1,6,8] ?_
   refine rounds_kill [0,1,6,8] ?_
   refine rounds_next (m' := N - (i+1)) (by omega) ⟨i+1, rfl, by omega, ?_, ?_, rfl⟩
   · intro j hj
     rcases Nat.lt_succ_iff_lt_or_eq.1 hj with hj | rfl
     · exact hinv j hj
     exact hno
   rw [wrap64 (by omega) (by omega)]; rfl
 intro h18
 have hr : whichS c off = (0, false) := which_no hc ho (fun j hj => hinv j (by rw [hN] at h18; simp at h18; omega))
 refine W_exit (xT ?_)
 refine xH2 [4,5] ?_
 refine W_ret (xR (by simp [Tryz.f204]; exact .mk) ?_)
 simp [Tryz.f204, hr]

theorem ct154 (g : Gl) (n : Int) : CtAt Tryz.prog g 154 [vI n] (.tup [vI (pagesS n).1, vI (pagesS n).2]) := by
 refine xA Tryz.func154 fun B S => ?_
 refine xU ?_
 refine xH2 [0] ?_
 refine W_seq (xU ?_)
 refine xO3 ?_
 iterate 2 refine xI ?_
 refine xP ?_
 refine xQ [0,9] ?_ ?_
 · intro h9
   have hr : pagesS n = (0, 1) := by unfold pagesS; rw [if_pos]; simp at h9; omega
   refine xU ?_
   refine xH2 [2,3] ?_
   refine W_ret (xR (by simp [Tryz.f154]; exact .mk) ?_)
   simp [Tryz.f154, hr]
 intro h9
 have hn : ¬ (n ≤ 120 ∨ 2048 < n) := by simp at h9; omega
 have hr : pagesS n = ((n + 256 - 1).tdiv 256, 0) := by unfold pagesS; rw [if_neg hn]
 have w1 : IntKind.i64.wrap (n + 256) = n + 256 := wrap64 (by omega) (by omega)
 have w2 : IntKind.i64.wrap (n + 256 - 1) = n + 256 - 1 := wrap64 (by omega) (by omega)
 have w3 : IntKind.i64.wrap ((n + 256 - 1).tdiv 256) = (n + 256 - 1).tdiv 256 := wrap64 (by rw [Int.tdiv_eq_ediv_of_nonneg (by omega)]; omega) (by rw [Int.tdiv_eq_ediv_of_nonneg (by omega)]; omega)
 refine W_skip ?_
 refine xT ?_
 refine xO ?_
 refine xO ?_ (h := by simp [w1]; exact .mk)
 refine xO ?_ (h := by simp [w2]; exact .mk)
 refine xO ?_ (h := by simp [w3]; exact .mk)
 refine xH2 [2,3] ?_
 refine W_ret (xR (by simp [Tryz.f154]; exact .mk) ?_)
 simp [Tryz.f154, hr]

theorem ct150 (g : Gl) (o : Int × Int) (hb : o.1 ≤ 2^62) : CtAt Tryz.prog g 150 [eObj o] (.tup [vI (cellO o).1.1, vI (cellO o).1.2.1, vI (cellO o).1.2.2, .v (.bool (cellO o).2)]) := by
 refine xA Tryz.func150 fun B S => ?_
 simp only [eObj, List.map, argD_agg]
 refine xU ?_
 refine xO5 ?_
 refine xG [1] ?_
 refine xO2 ?_
 refine xC (ct153 g o.2) ?_
 refine xO5 ?_
 refine xF [1,6,7] ?_
 refine W_seq (xU ?_)
 refine xO3 ?_
 iterate 3 refine xI ?_
 refine xP ?_
 refine xQ [1,6,22] ?_ ?_
 · intro h22
   have hr : cellO o = ((0, 0, 0), false) := by unfold cellO; rw [if_pos]; simp at h22; grind
   refine xU ?_
   refine xO4 ?_
   refine xF [2,3,4,5] ?_
   refine W_ret (xR (by simp [Tryz.f150]; exact .mk) ?_)
   simp [Tryz.f150, hr]
 intro h22
 have hz : (classS o.2).2 = true ∧ ¬ o.1 < 0 := by simp at h22; grind
 have hr : cellO o = ((o.1.tdiv 32, (classS o.2).1, (whichS (classS o.2).1 (o.1.tmod 32)).1), (whichS (classS o.2).1 (o.1.tmod 32)).2) := by unfold cellO; rw [if_neg (by simp [hz])]
 obtain ⟨c, hc6, hcc⟩ := classS_c hz.1
 have hm : 0 ≤ o.1.tmod 32 ∧ o.1.tmod 32 < 32 := by rw [Int.tmod_eq_emod_of_nonneg (by omega)]; omega
 have w1 : IntKind.i64.wrap (o.1.tmod 32) = o.1.tmod 32 := wrap64 (by omega) (by omega)
 have hd : 0 ≤ o.1.tdiv 32 ∧ o.1.tdiv 32 ≤ o.1 := by rw [Int.tdiv_eq_ediv_of_nonneg (by omega)]; omega
 have w2 : IntKind.i64.wrap (o.1.tdiv 32) = o.1.tdiv 32 := wrap64 (by omega) (by omega)
 have cw := ct204 g (classS o.2).1 (o.1.tmod 32) (by omega) hm
 refine W_skip ?_
 refine xT ?_
 refine xO3 ?_
 refine xO ?_ (h := by simp [w1]; exact .mk)
 refine xC (cw) ?_
 refine xO5 ?_
 refine xG [1,6,8,9] ?_
 refine xO2 ?_
 refine xO ?_ (h := by simp [w2]; exact .mk)
 iterate 7 refine xO ?_
 refine xF [2,3,4,5] ?_
 refine W_ret (xR (by simp [Tryz.f150]; exact .mk) ?_)
 simp [Tryz.f150, hr]

theorem ct149 (g : Gl) (pages : Int) (o : Int × Int) (hp : 0 ≤ pages ∧ pages ≤ 64) (hb : o.1 ≤ 2^62) : CtAt Tryz.prog g 149 [vI pages, eObj o] (.tup [eObj (spanR pages o).1, .v (.bool (spanR pages o).2)]) := by
 refine xA Tryz.func149 fun B S => ?_
 simp only [eObj, List.map, argD_agg, argD_v]
 have c150 := ct150 g o hb
 simp only [eObj] at c150
 have c154 := ct154 g o.2
 refine xU ?_
 refine xO3 ?_
 refine xG [0,3,4] ?_
 refine xO ?_
 refine xC (c150) ?_ (he := by simp [eObj]; exact .mk)
 iterate 9 refine xO ?_
 refine xF [0,3,4,6,9] ?_
 refine W_seq (xU ?_)
 refine xO ?_
 refine xQ [0,3,4,6,20] ?_ ?_
 · intro h20
   have hz : (cellO o).2 = true := by simpa using h20
   have hr : spanR pages o = (((cellO o).1.1, 1), decide ((cellO o).1.1 < pages)) := by unfold spanR; rw [if_pos hz]
   refine xU ?_
   refine xO ?_
   refine xOs ?_
   refine xO3 ?_
   refine xOs ?_
   refine xH [4,5] ?_
   refine W_ret (xR (by simp [Tryz.f149]; exact .mk) ?_)
   simp [Tryz.f149, hr, eObj]
 intro h20
 have hz : (cellO o).2 = false := by simpa using h20
 refine W_skip ?_
 refine xT ?_
 refine xO2 ?_
 refine xC (c154) ?_ (he := by simp [eObj]; exact .mk)
 refine xO5 ?_
 refine xF [0,3,4,10,11] ?_
 refine W_seq (xU ?_)
 refine xO3 ?_
 iterate 3 refine xI ?_
 refine xP ?_
 refine xB ?_
 iterate 4 refine xI ?_
 refine xP ?_
 refine xQ [0,3,4,10,44] ?_ ?_
 · intro h44
   have hq : (pagesS o.2).2 ≠ 0 ∨ o.1 < 0 ∨ o.1.tmod 32 ≠ 0 := by simp at h44; grind
   have hr : spanR pages o = ((0, 0), false) := by unfold spanR; rw [if_neg (by simp [hz]), if_pos hq]
   refine xU ?_
   iterate 2 (refine xOs ?_)
   refine xH [4,5] ?_
   refine W_ret (xR (by simp [Tryz.f149]; exact .mk) ?_)
   simp [Tryz.f149, hr, eObj]
 intro h44
 have hq : ¬ ((pagesS o.2).2 ≠ 0 ∨ o.1 < 0 ∨ o.1.tmod 32 ≠ 0) := by simp at h44; grind
 have hr : spanR pages o = ((o.1.tdiv 32, (pagesS o.2).1), decide (o.1.tdiv 32 ≤ pages) && decide ((pagesS o.2).1 ≤ pages - o.1.tdiv 32)) := by unfold spanR; rw [if_neg (by simp [hz]), if_neg hq]
 have hd : 0 ≤ o.1.tdiv 32 ∧ o.1.tdiv 32 ≤ o.1 := by rw [Int.tdiv_eq_ediv_of_nonneg (by omega)]; omega
 have w2 : IntKind.i64.wrap (o.1.tdiv 32) = o.1.tdiv 32 := wrap64 (by omega) (by omega)
 have w3 : IntKind.i64.wrap (pages - o.1.tdiv 32) = pages - o.1.tdiv 32 := wrap64 (by omega) (by omega)
 refine W_skip ?_
 refine xT ?_
 refine xO2 ?_
 refine xO ?_ (h := by simp [w2]; exact .mk)
 refine xO ?_
 refine xOs ?_
 refine xO ?_
 refine xOs ?_
 refine xF [0,4,12] ?_
 refine W_seq ?_
 refine W_regDS (hard := []) [7,10,14] (keepOk_lt (by decide)) (by kernel_rfl) 4 [[0,1,2,3,4,5,6,7,8,9,10,11,12,13,14,15], [0,1,2,3,4,5,6,7,8,9,14,10,11,12,13,15], [0,1,2,3,4,5,6,8,9,10,7,11,12,13,14,15], [0,1,2,3,4,5,6,8,9,10,11,14,7,12,13,15], [0,1,2,3,4,5,6,8,9,14,7,10,11,12,13,15], [0,1,2,3,4,5,6,8,9,14,10,7,11,12,13,15]] (by decide +kernel) ⟨?_, ?_, ?_, ?_, ?_, ?_, trivial⟩
 · skip
   iterate 6 refine xO ?_
   iterate 5 refine xI ?_
   refine xI ?_ (h := fun hb => by simp [w3]; exact .mk)
   refine xI ?_
   refine xP ?_
   refine run_op1 rfl rfl rfl (by simp <;> first | omega | grind) (by simp [splice]; exact .mk) ?_
   refine xB ?_
   refine xF [4,5] ?_
   refine W_ret (xR (by simp [Tryz.f149]; exact .mk) ?_)
   simp [Tryz.f149, hr, eObj]
 · skip
   iterate 6 refine xO ?_
   iterate 4 refine xI ?_
   refine run_op1 rfl rfl rfl (by simp <;> first | omega | grind) (by simp [splice]; exact .mk) ?_
   refine xI ?_
   refine xI ?_ (h := fun hb => by simp [w3]; exact .mk)
   refine xI ?_
   refine xP ?_
   refine xB ?_
   refine xF [4,5] ?_
   refine W_ret (xR (by simp [Tryz.f149]; exact .mk) ?_)
   simp [Tryz.f149, hr, eObj]
 · skip
   iterate 6 refine xO ?_
   iterate 5 refine xI ?_
   refine xI ?_ (h := fun hb => by simp [w3]; exact .mk)
   refine xI ?_
   refine xP ?_
   refine run_op1 rfl rfl rfl (by simp <;> first | omega | grind) (by simp [splice]; exact .mk) ?_
   refine xB ?_
   refine xF [4,5] ?_
   refine W_ret (xR (by simp [Tryz.f149]; exact .mk) ?_)
   simp [Tryz.f149, hr, eObj]
 · skip
   iterate 6 refine xO ?_
   iterate 4 refine xI ?_
   refine xI ?_ (h := fun hb => by simp [w3]; exact .mk)
   refine run_op1 rfl rfl rfl (by simp <;> first | omega | grind) (by simp [splice]; exact .mk) ?_
   iterate 2 refine xI ?_
   refine xP ?_
   refine xB ?_
   refine xF [4,5] ?_
   refine W_ret (xR (by simp [Tryz.f149]; exact .mk) ?_)
   simp [Tryz.f149, hr, eObj]
 · skip
   iterate 6 refine xO ?_
   iterate 3 refine xI ?_
   refine run_op1 rfl rfl rfl (by simp <;> first | omega | grind) (by simp [splice]; exact .mk) ?_
   iterate 2 refine xI ?_
   refine xI ?_ (h := fun hb => by simp [w3]; exact .mk)
   refine xI ?_
   refine xP ?_
   refine xB ?_
   refine xF [4,5] ?_
   refine W_ret (xR (by simp [Tryz.f149]; exact .mk) ?_)
   simp [Tryz.f149, hr, eObj]
 skip
 iterate 6 refine xO ?_
 iterate 3 refine xI ?_
 refine run_op1 rfl rfl rfl (by simp <;> first | omega | grind) (by simp [splice]; exact .mk) ?_
 iterate 2 refine xI ?_
 refine xI ?_ (h := fun hb => by simp [w3]; exact .mk)
 refine xI ?_
 refine xP ?_
 refine xB ?_
 refine xF [4,5] ?_
 refine W_ret (xR (by simp [Tryz.f149]; exact .mk) ?_)
 simp [Tryz.f149, hr, eObj]

open Go.Awp
theorem ct97 (g : Gl) (pages : Int) (l : List (Int × Int)) (hl : l.length ≤ 2^40) (hb : ∀ i, i < l.length → (nth l i).1 ≤ 2^62) : CtAt Tryz.prog g 97 [vI pages, rO l] (.tup [oI (kindsR pages l).1, .v (.bool (kindsR pages l).2)]) := by
 refine xA Tryz.func97 fun B S => ?_
 refine xU ?_
 refine xH2 [0,1] ?_
 refine W_seq (xU ?_)
 refine xO3 ?_
 iterate 2 refine xI ?_
 refine xP ?_
 refine xQ [0,1,22] ?_ ?_
 · intro h22
   have hr : kindsR pages l = ([], false) := kindsR_out (by simp at h22; omega)
   refine xU ?_
   refine xH2 [4,5] ?_
   refine W_ret (xR (by simp [Tryz.f97]; exact .mk) ?_)
   simp [Tryz.f97, hr, ownR]
 intro h22
 have h0 : 0 ≤ pages ∧ pages ≤ 64 := by simp at h22; omega
 obtain ⟨N, rfl⟩ : ∃ N : Nat, pages = N := ⟨pages.toNat, by omega⟩
 have n1 : (N : Int) * 8 ≤ 140737488355328 := by omega
 have n2 : (N : Int) ≤ 140737488355328 := by omega
 have n3 : (8 : Int) * N ≤ 140737488355328 := by omega
 have n4 : 8 * N ≤ 140737488355328 := by omega
 have n5 : N ≤ 140737488355328 := by omega
 refine W_skip ?_
 refine xT ?_
 refine xO ?_
 refine xO ?_ (h := by simp [n1, n2, n3, n4, n5]; exact .mk)
 refine xH [0,1,6] ?_
 refine W_seq (xU ?_)
 refine xH [0,1,6,7] ?_
 refine W_block (W_rounds (fun m σ o => ∃ i : Nat, m = N - i ∧ i ≤ N ∧ σ = slots [(0, .d (vI N)), (1, .d (rO l)), (6, .hdr 0 0 N), (7, .d (vI i))] ∧ o = [.row 1 ((fillL N i).map vI)]) (N) .refl ⟨0, by simp, by simp, by simp, by rw [fillL_0]; simp⟩ ?_)
 rintro m σ o ⟨i, rfl, hi, rfl, rfl⟩ _
 refine W_seq (xU ?_)
 refine xO3 ?_
 refine xQ [0,1,6,7,27] ?_ ?_
 · intro h27
   have hi2 : i < N := by simp at h27; omega
   have r1 : i < (fillL N i).length := by rw [fillL_len hi]; exact hi2
   refine W_skip fun _ => ?_
   refine W_seq (W_block ?_)
   refine xY ?_
   refine xO2 ?_
   refine xO ?_ (h := by simp [eObj, hi2]; exact .mk)
   refine xO ?_ (h := by simp [splice, hi2, r1, nrmL, nrm, putC]; exact .mk)
   refine xF [0,1,6,7] ?_
   refine xY ?_
   refine xO3 ?_
   refine xE [0,1,6,7] ?_
   refine rounds_kill [0,1,6,7] ?_
   exact rounds_next (m' := N - (i + 1)) (by omega) ⟨i + 1, rfl, by omega, by rw [wrap64 (by omega) (by omega)]; rfl, by simp [fillL_set hi2]⟩
 intro h27
 obtain rfl : i = N := by simp at h27; omega
 rw [show fillL i i = (stI (i : Int) l 0).1 by rw [fillL_n]; simp [stI]]
 obtain ⟨N, rfl⟩ : ∃ N, N = i := ⟨_, rfl⟩
 refine W_exit ?_
 rintro -
 refine W_seq (xU ?_)
 refine xH [0,1,6,8] ?_
 refine W_block (W_rounds (fun m σ o => ∃ i : Nat, m = l.length - i ∧ i ≤ l.length ∧ (∀ j, j < i → okI (N : Int) l j = true) ∧ σ = slots [(0, .d (vI N)), (1, .d (rO l)), (6, .hdr 0 0 N), (8, .d (vI i))] ∧ o = [.row 1 ((stI (N : Int) l i).1.map vI)]) l.length .refl ⟨0, by simp, by simp, by simp, rfl, rfl⟩ ?_)
 rintro m σ o ⟨i, rfl, hi, hinv, rfl, rfl⟩ _
 have hkl : (stI (N : Int) l i).1.length = N := by rw [stI_len.1]; simp
 refine W_seq (xU ?_)
 refine xO4 ?_
 refine xQ [0,1,6,8,36] ?_ ?_
 · intro h36
   have hi2 : i < l.length := by simpa using h36
   obtain ⟨q1, q2⟩ := spanR_eq (pages := (N : Int)) (o := nth l i)
   refine W_skip fun _ => ?_
   refine W_seq (W_block ?_)
   refine xU ?_
   refine xO3 ?_
   refine xO ?_ (h := by simp [eObj, hi2]; exact .mk)
   refine xO ?_ (h := by simp [-List.getElem?_map, map_get hi2, eObj]; exact .mk)
   refine xC (ct149 g N (nth l i) h0 (hb i hi2)) ?_
   refine xO4 ?_
   refine xOs ?_
   refine xH [0,1,6,8,9,10] ?_
   refine W_seq (xU ?_)
   refine xO2 ?_
   refine xQ [0,1,6,8,9,49] ?_ ?_
   · intro h49
     have hr : kindsR (N : Int) l = ([], false) := kindsR_bad hi2 (okI_bad (by rw [← q1]; simpa using h49))
     refine xU ?_
     refine xH2 [4,5] ?_
     refine W_ret (xR (by simp [Tryz.f97]; exact .mk) ?_)
     simp [Tryz.f97, hr, ownR]
   intro h49
   have hs : (spotS (N : Int) (nth l i)).2 = true := by rw [← q1]; simpa using h49
   obtain ⟨q3, q4, q5⟩ := q2 hs
   rw [q3]
   refine W_skip ?_
   refine xT ?_
   refine xO2 ?_
   refine xO ?_ (h := by simp [eObj, hi2]; exact .mk)
   refine xO ?_ (h := by simp [-List.getElem?_map, map_get hi2, eObj]; exact .mk)
   refine xC (ct150 g (nth l i) (hb i hi2)) ?_
   iterate 9 refine xO ?_
   refine xF [0,1,6,8,9,11,12,14] ?_
   refine W_seq (xU ?_)
   refine xO ?_
   refine xQ [0,1,6,8,9,11,12,60] ?_ ?_
   · intro h60
     have hsm : (spotI (N : Int) l i).small = true := by show (spotS (N : Int) (nth l i)).1.small = true; rw [← q4]; simpa using h60
     have q6 := q5 hsm
     obtain ⟨p, c, k, e1, e2, e3, hc6, hpN, hk64, ha, hq⟩ := spot_cell hs hsm
     have hp2 : p < N := by omega
     have hpl : p < (stI (N : Int) l i).1.length := by omega
     have hpt : (spotI (N : Int) l i).page.toNat = p := by show (spotS (N : Int) (nth l i)).1.page.toNat = p; omega
     have hct : (spotI (N : Int) l i).cls = c := e2
     simp only [q6, e1, e2]
     refine W_seq (xU ?_)
     refine xO2 ?_
     refine xO ?_ (h := by simp [eObj, hp2]; exact .mk)
     refine xO ?_ (h := by simp [-List.getElem?_map, map_get hpl]; exact .mk)
     refine xO2 ?_
     iterate 2 refine xI ?_
     refine xI ?_ (h := fun hb => by simp [eObj, hp2]; exact .mk)
     refine xI ?_ (h := fun hb => by simp [-List.getElem?_map, map_get hpl]; exact .mk)
     iterate 2 refine xI ?_
     refine xP ?_
     refine xQ [0,1,6,8,11,12,73] ?_ ?_
     · intro h73
       have hr : kindsR (N : Int) l = ([], false) := kindsR_bad hi2 (small_kind hs hsm (by rw [hpt]; simp at h73; exact h73.1) (by rw [hpt, hct]; simp at h73; exact h73.2))
       refine xU ?_
       refine xH2 [4,5] ?_
       refine W_ret (xR (by simp [Tryz.f97]; exact .mk) ?_)
       simp [Tryz.f97, hr, ownR]
     intro h73
     have hk : nth (stI (N : Int) l i).1 p = -1 ∨ nth (stI (N : Int) l i).1 p = c := by simp at h73; grind
     refine W_skip fun _ => ?_
     refine W_seq (xU ?_)
     refine xH [0,1,6,8,11,12,15] ?_
     refine W_block (W_rounds (fun m σ o => ∃ j : Nat, m = i - j ∧ j ≤ i ∧ (∀ t, t < j → (nth l t).1 ≠ (nth l i).1) ∧ σ = slots [(0, .d (vI N)), (1, .d (rO l)), (6, .hdr 0 0 N), (8, .d (vI i)), (11, .d (vI p)), (12, .d (vI c)), (15, .d (vI j))] ∧ o = [.row 1 ((stI (N : Int) l i).1.map vI), .var 115 [.d (vI (p : Int)), .d (vI (spotS (N : Int) (nth l i)).1.count)]]) i .refl ⟨0, by simp, by simp, by simp, rfl, rfl⟩ ?_)
     rintro m σ o ⟨j, rfl, hj, hinv2, rfl, rfl⟩ _
     refine W_seq (xU ?_)
     refine xO3 ?_
     refine xQ [0,1,6,8,11,12,15,76] ?_ ?_
     · intro h76
       have hj2 : j < i := by simpa using h76
       have hj3 : j < l.length := by omega
       refine W_skip fun _ => ?_
       refine W_seq (W_block ?_)
       refine W_seq ?_
       refine W_regD (by kernel_rfl) [] 4 [0,1,2,3,4,5,6,7,8,9,10] (by decide +kernel) ?_
       refine xO2 ?_
       refine xO ?_ (h := by simp [eObj, hj3]; exact .mk)
       refine xO ?_
       refine xO ?_ (h := by simp [-List.getElem?_map, map_get hj3, eObj]; exact .mk)
       refine xO2 ?_
       refine xO ?_ (h := by simp [eObj, hi2]; exact .mk)
       refine xO ?_
       refine xO ?_ (h := by simp [-List.getElem?_map, map_get hi2, eObj]; exact .mk)
       refine xO ?_
       refine xQ [0,1,6,8,11,12,15,89] ?_ ?_
       · intro h89
         have hr : kindsR (N : Int) l = ([], false) := kindsR_bad hi2 (small_had h0 hi2 hinv hs hsm hj2 (by simpa using h89))
         refine xU ?_
         refine xH2 [4,5] ?_
         refine W_ret (xR (by simp [Tryz.f97]; exact .mk) ?_)
         simp [Tryz.f97, hr, ownR]
       intro h89
       have hne : (nth l j).1 ≠ (nth l i).1 := by simpa using h89
       refine W_skip fun _ => ?_
       refine xY ?_
       refine xO3 ?_
       refine xE [0,1,6,8,11,12,15] ?_
       refine rounds_kill [0,1,6,8,11,12,15] ?_
       refine rounds_next (m' := i - (j+1)) (by omega) ⟨j+1, rfl, by omega, ?_, ?_, rfl⟩
       · intro t ht
         rcases Nat.lt_succ_iff_lt_or_eq.1 ht with ht | rfl
         · exact hinv2 t ht
         exact hne
       rw [wrap64 (by omega) (by omega)]; rfl
     intro h76
     have hok := small_ok h0 hi2 hinv hs hsm (by rw [hpt, hct]; exact hk) (fun t ht => hinv2 t (by simp at h76; omega))
     rw [hpt, hct] at hok
     refine W_exit (xT ?_)
     refine xO3 ?_
     refine xO ?_ (h := by simp [eObj, hp2]; exact .mk)
     refine xO ?_ (h := by simp [splice, hp2, hpl]; exact .mk)
     refine xF [0,1,6,8] ?_
     refine W_exit ?_
     rintro -
     refine xY ?_
     refine xO3 ?_
     refine xE [0,1,6,8] ?_
     refine rounds_kill [0,1,6,8] ?_
     refine rounds_drop 1 [0,1,6,8] (by decide) (by rfl) (by rfl) ?_
     refine rounds_next (m' := l.length - (i+1)) (by omega) ⟨i+1, rfl, by omega, ?_, ?_, ?_⟩
     · intro j hj
       rcases Nat.lt_succ_iff_lt_or_eq.1 hj with hj | rfl
       · exact hinv j hj
       exact hok.1
     · rw [wrap64 (by omega) (by omega)]; rfl
     rw [hok.2, List.map_set]; rfl
   intro h60
   have hsm : (spotI (N : Int) l i).small = false := by show (spotS (N : Int) (nth l i)).1.small = false; rw [← q4]; simpa using h60
   obtain ⟨p, n, c, e0, hpN, hn1, hpn, _⟩ := spot_ok hs
   have e1 : (spotS (N : Int) (nth l i)).1.page = p := by rw [e0]
   have e2 : (spotS (N : Int) (nth l i)).1.count = n := by rw [e0]
   have hp2 : p < N := by omega
   obtain ⟨l1, l2⟩ := large_eq hs hsm
   have hpt : (spotI (N : Int) l i).page.toNat = p := by show (spotS (N : Int) (nth l i)).1.page.toNat = p; omega
   have hnt : (spotI (N : Int) l i).count.toNat = n := by show (spotS (N : Int) (nth l i)).1.count.toNat = n; omega
   rw [hpt, hnt] at l1 l2
   have w1 : IntKind.i64.wrap ((p : Int) + n) = p + n := wrap64 (by omega) (by omega)
   simp only [e1, e2]
   refine W_skip fun _ => ?_
   refine W_seq (xU ?_)
   refine xO ?_
   refine xO ?_ (h := by simp [eObj]; exact .mk)
   refine xH [0,1,6,8,9,16] ?_
   refine W_block (W_rounds (fun m σ o => ∃ (t : Nat) (cur : List Int), m = n - t ∧ t ≤ n ∧ cur.length = N ∧ fillF p (n - t) t cur = fillF p n 0 (stI (N : Int) l i).1 ∧ σ = slots [(0, .d (vI N)), (1, .d (rO l)), (6, .hdr 0 0 N), (8, .d (vI i)), (9, .ptr 1 0 0), (16, .d (vI ((p + t : Nat) : Int)))] ∧ o = [.row 1 (cur.map vI), .var 115 [.d (vI (p : Int)), .d (vI (n : Int))]]) n .refl ⟨0, _, by simp, by simp, hkl, rfl, rfl, rfl⟩ ?_)
   rintro m σ o ⟨t, cur, rfl, ht, hcl, hfl, rfl, rfl⟩ _
   refine W_seq (xU ?_)
   refine xO2 ?_
   refine xO ?_ (h := by simp [eObj]; exact .mk)
   refine xO ?_
   refine xO ?_ (h := by simp [eObj]; exact .mk)
   refine xO ?_ (h := by simp [w1]; exact .mk)
   refine xO ?_
   refine xQ [0,1,6,8,9,16,102] ?_ ?_
   · intro h102
     have ht2 : t < n := by simp at h102; omega
     have ht3 : p + t < N := by omega
     have ht4 : p + t < cur.length := by omega
     have ht5 : (p : Int) + t < N := by omega
     have ht6 : (0 : Int) ≤ (p : Int) + t := by omega
     have ht7 : ((p : Int) + t).toNat = p + t := by omega
     obtain ⟨f, hf⟩ : ∃ f, n - t = f + 1 := ⟨n - t - 1, by omega⟩
     rw [hf] at hfl
     refine W_skip fun _ => ?_
     refine W_seq (W_block ?_)
     refine W_seq (xU ?_)
     refine xO2 ?_
     refine xO ?_ (h := by simp [eObj, ht3, ht5, ht6, ht7]; exact .mk)
     refine xO ?_ (h := by simp [-List.getElem?_map, map_get ht4]; exact .mk)
     refine xO ?_
     refine xQ [0,1,6,8,9,16,109] ?_ ?_
     · intro h109
       have hr : kindsR (N : Int) l = ([], false) := kindsR_bad hi2 (by rw [l1, ← hfl, fillF_f (by simpa using h109)])
       refine xU ?_
       refine xH2 [4,5] ?_
       refine W_ret (xR (by simp [Tryz.f97]; exact .mk) ?_)
       simp [Tryz.f97, hr, ownR]
     intro h109
     rw [fillF_t (by simpa using h109)] at hfl
     refine W_skip fun _ => ?_
     refine xY ?_
     refine xO2 ?_
     refine xO ?_ (h := by simp [eObj, ht3, ht5, ht6, ht7]; exact .mk)
     refine xO ?_ (h := by simp [splice, ht3, ht4]; exact .mk)
     refine xF [0,1,6,8,9,16] ?_
     refine xY ?_
     refine xO3 ?_
     refine xE [0,1,6,8,9,16] ?_
     refine rounds_kill [0,1,6,8,9,16] ?_
     refine rounds_next (m' := n - (t+1)) (by omega) ⟨t+1, cur.set (p + t) 7, rfl, by omega, by simpa using hcl, by rw [← hfl, show n - (t + 1) = f by omega], ?_, ?_⟩
     · rw [wrap64 (by omega) (by omega)]; rfl
     rw [List.map_set]; rfl
   intro h102
   obtain rfl : t = n := by simp at h102; omega
   rw [Nat.sub_self] at hfl
   have hfl2 : (true, cur) = fillF p t 0 (stI (N : Int) l i).1 := hfl
   rw [← hfl2] at l1 l2
   have hok : okI (N : Int) l i = true ∧ (stI (N : Int) l (i + 1)).1 = cur.set p 6 := ⟨l1, l2 l1⟩
   have hpc : p < cur.length := by omega
   refine W_exit ?_
   rintro -
   refine xY ?_
   refine xO2 ?_
   refine xO ?_ (h := by simp [eObj]; exact .mk)
   refine xO ?_ (h := by simp [eObj, hp2]; exact .mk)
   refine xO ?_ (h := by simp [splice, hp2, hpc]; exact .mk)
   refine xF [0,1,6,8] ?_
   refine xY ?_
   refine xO3 ?_
   refine xE [0,1,6,8] ?_
   refine rounds_kill [0,1,6,8] ?_
   refine rounds_drop 1 [0,1,6,8] (by decide) (by rfl) (by rfl) ?_
   refine rounds_next (m' := l.length - (i+1)) (by omega) ⟨i+1, rfl, by omega, ?_, ?_, ?_⟩
   · intro j hj
     rcases Nat.lt_succ_iff_lt_or_eq.1 hj with hj | rfl
     · exact hinv j hj
     exact hok.1
   · rw [wrap64 (by omega) (by omega)]; rfl
   rw [hok.2, List.map_set]; rfl
 intro h36
 obtain rfl : i = l.length := by simp at h36; omega
 have hr := kindsR_good h0 hinv
 obtain ⟨K, hK⟩ : ∃ K, K = (stI (N : Int) l l.length).1 := ⟨_, rfl⟩
 rw [← hK] at hr hkl ⊢
 subst hkl
 refine W_exit (xT ?_)
 refine xH3 [4,5] ?_
 refine W_ret (xR (by simp [Tryz.f97]; exact .mk) ?_)
 simp [Tryz.f97, hr, ownR]

open Go.Awp
/- Facts for the document's walks: taken cells, places, mates. -/
def takenB (l : List (Int × Int)) (a : Int) : Bool := (List.range l.length).any fun j => (nth l j).1 == a
theorem takenB_t {l : List (Int × Int)} {a : Int} {j : Nat} (hj : j < l.length) (h : ((nth l j).1 == a) = true) : takenB l a = true := by
 unfold takenB; rw [List.any_eq_true]; exact ⟨j, by simpa using hj, h⟩
theorem takenB_f {l : List (Int × Int)} {a : Int} (h : ∀ j, j < l.length → ((nth l j).1 == a) = false) : takenB l a = false := by
 unfold takenB; rw [List.any_eq_false]; intro j hj; simpa using h j (by simpa using hj)
theorem takenB_iff {l : List (Int × Int)} {a : Int} : takenB l a = true ↔ ∃ j, j < l.length ∧ (nth l j).1 = a := by
 unfold takenB; simp [List.any_eq_true]
theorem bestR_neg {ks : List Int} {n : Int} (h : ¬ 1 ≤ n) : bestR ks n = none := by
 have : ∀ l : List (Int × Int), l.foldl (bestRStep n) none = none := by
  intro l
  induction l with
  | nil => rfl
  | cons a l ih => rw [List.foldl_cons, show bestRStep n none a = none by unfold bestRStep; simp [h], ih]
 exact this _
theorem place_no {pages n : Int} {l : List (Int × Int)} (h : laidS pages l = none) : placeS pages l n = none := by unfold placeS; rw [h]
theorem place_large {pages n : Int} {l : List (Int × Int)} {st} (h : laidS pages l = some st) (hc : (classS n).2 = false) :
    (placeS pages l n).getD 0 = ((bestR st.1 (pagesS n).1).getD (0, 0)).1 * 32 ∧ (placeS pages l n).isSome = ((bestR st.1 (pagesS n).1).isSome && decide ((pagesS n).2 = 0)) := by
 unfold placeS
 rw [h]
 simp only
 rw [if_neg (by simp [hc])]
 by_cases he : (pagesS n).2 = 0
 · rw [if_neg (by simp [he])]
   cases bestR st.1 (pagesS n).1 <;> simp [he]
 · have e0 : (pagesS n).1 = 0 := by unfold pagesS at he ⊢; split at he <;> simp_all
   rw [if_pos he, e0, bestR_neg (by omega)]; simp
theorem place_small {pages n : Int} {l : List (Int × Int)} {st} (h : laidS pages l = some st) (hc : (classS n).2 = true) : placeS pages l n = cellR st.1 st.2 (classS n).1 := by
 unfold placeS; rw [h]; simp only; rw [if_pos hc]
theorem kinds_none {pages : Int} {l : List (Int × Int)} (h : (kindsR pages l).2 = false) : laidS pages l = none := by
 unfold kindsR at h; split at h
 · cases h
 · assumption
theorem kinds_some {pages : Int} {l : List (Int × Int)} (h : (kindsR pages l).2 = true) : ∃ st, laidS pages l = some st ∧ kindsR pages l = (st.1, true) := by
 cases hl : laidS pages l with
 | none => unfold kindsR at h; rw [hl] at h; cases h
 | some st => exact ⟨st, rfl, by unfold kindsR; rw [hl]⟩
def mateIx (pages : Int) (l : List (Int × Int)) (page : Int) (i : Nat) : List Nat := (List.range i).filter fun j => coverB pages page (nth l j)
theorem mateIx_t {pages page : Int} {l : List (Int × Int)} {i : Nat} (h : coverB pages page (nth l i) = true) : mateIx pages l page (i + 1) = mateIx pages l page i ++ [i] := by simp [mateIx, List.range_succ, List.filter_append, h]
theorem mateIx_f {pages page : Int} {l : List (Int × Int)} {i : Nat} (h : coverB pages page (nth l i) = false) : mateIx pages l page (i + 1) = mateIx pages l page i := by simp [mateIx, List.range_succ, List.filter_append, h]
theorem mateIx_len {pages page : Int} {l : List (Int × Int)} {i : Nat} : (mateIx pages l page i).length ≤ i := by
 have := List.length_filter_le (fun j => coverB pages page (nth l j)) (List.range i)
 simpa [mateIx] using this
def matesR (pages : Int) (l : List (Int × Int)) (page : Int) : List Nat := if (laidS pages l).isSome = true then matesS pages l page else []
open Go.Awp
theorem ct158 (g : Gl) (l : List (Int × Int)) (hl : l.length ≤ 2^40) (a : Int) : CtAt Tryz.prog g 158 [rO l, vI a] (.v (.bool (takenB l a))) := by
 refine xA Tryz.func158 fun B S => ?_
 refine xU ?_
 refine xH [0,1] ?_
 refine W_seq (xU ?_)
 refine xH [0,1,5] ?_
 refine W_block (W_rounds (fun m σ o => ∃ i : Nat, m = l.length - i ∧ i ≤ l.length ∧ (∀ j, j < i → ((nth l j).1 == a) = false) ∧ σ = slots [(0, .d (rO l)), (1, .d (vI a)), (5, .d (vI i))] ∧ o = []) l.length .refl ⟨0, by simp, by simp, by simp, rfl, rfl⟩ ?_)
 rintro m σ o ⟨i, rfl, hi, hinv, rfl, rfl⟩ _
 refine W_seq (xU ?_)
 refine xO4 ?_
 refine xQ [0,1,5,9] ?_ ?_
 · intro h9
   have hi2 : i < l.length := by simpa using h9
   refine W_skip fun _ => ?_
   refine W_seq (W_block ?_)
   refine xU ?_
   refine xO2 ?_
   refine xO ?_ (h := by simp [eObj, hi2]; exact .mk)
   refine xO ?_
   refine xO ?_ (h := by simp [-List.getElem?_map, map_get hi2, eObj]; exact .mk)
   refine xO2 ?_
   refine xQ [0,1,5,18] ?_ ?_
   · intro h18
     have hr := takenB_t hi2 h18
     refine xU ?_
     refine xH [4] ?_
     refine W_ret (xR (by simp [Tryz.f158]; exact .mk) ?_)
     simp [Tryz.f158, hr]
   intro h18
   refine W_skip fun _ => ?_
   refine xY ?_
   refine xO3 ?_
   refine xE [0,1,5] ?_
   refine rounds_kill [0,1,5] ?_
   refine rounds_next (m' := l.length - (i+1)) (by omega) ⟨i+1, rfl, by omega, ?_, ?_, rfl⟩
   · intro j hj
     rcases Nat.lt_succ_iff_lt_or_eq.1 hj with hj | rfl
     · exact hinv j hj
     exact h18
   rw [wrap64 (by omega) (by omega)]; rfl
 intro h9
 have hr : takenB l a = false := takenB_f (fun j hj => hinv j (by simp at h9; omega))
 refine W_exit (xT ?_)
 refine xH [4] ?_
 refine W_ret (xR (by simp [Tryz.f158]; exact .mk) ?_)
 simp [Tryz.f158, hr]

theorem ct212 (g : Gl) (ks : List Int) (hl : ks.length ≤ 2^40) : CtAt Tryz.prog g 212 [rI ks] (oO (runsS ks)) := by
 refine xA Tryz.func212 fun B S => ?_
 refine xU ?_
 refine xO ?_
 refine xG [0] ?_
 refine xH [0,3] ?_
 refine W_seq (xU ?_)
 refine xH [0,3,4] ?_
 refine W_block ?_
 refine W_rounds (fun m σ o => ∃ (i : Nat) (out : List (Int × Int)), m = ks.length + 1 - i ∧ i ≤ ks.length + 1 ∧ out.length ≤ ks.length ∧ ((i ≤ ks.length ∧ runsI ks i = (out, false)) ∨ (i = ks.length + 1 ∧ out = runsS ks)) ∧ σ = slots [(0, .d (rI ks)), (3, .hdr 0 0 out.length), (4, .d (vI i))] ∧ o = [.row 2 (out.map eObj)]) (ks.length + 1)
  (Weak.trans (Weak.nilRow 3 2 rfl) (Weak.kills [0,3,4] rfl) (fun _ _ _ h1 h2 => by rw [← h1.len]; exact h2)) ⟨0, [], by simp, by simp, by simp, .inl ⟨by simp, rfl⟩, by simp, by simp⟩ ?_
 rintro m σ o ⟨i, out, rfl, hi, hol, hinv, rfl, rfl⟩ _
 refine W_seq (xU ?_)
 refine xO4 ?_
 refine xQ [0,3,4,9] ?_ ?_
 · intro h9
   have hi2 : i < ks.length := by simpa using h9
   have hri := (hinv.resolve_right (fun h => by omega)).2
   have hf : (runsI ks i).2 = false := by rw [hri]
   have hol2 := runsI_len (ks := ks) (i := i)
   rw [hri] at hol2
   simp only at hol2
   refine W_skip fun _ => ?_
   refine W_seq (W_block ?_)
   refine W_seq (xU ?_)
   refine xO2 ?_
   refine xO ?_ (h := by simp [hi2]; exact .mk)
   refine xO ?_ (h := by simp [-List.getElem?_map, map_get hi2]; exact .mk)
   refine xO ?_
   refine xQ [0,3,4,16] ?_ ?_
   · intro h16
     have hq : nth ks i ≠ -1 := by simpa using h16
     refine W_exit ?_
     rintro -
     refine xY ?_
     refine xO3 ?_
     refine xE [0,3,4] ?_
     refine rounds_kill [0,3,4] ?_
     first
     | (refine rounds_kills [0,3,4] rfl ?_
        refine rounds_next (m' := ks.length + 1 - (i+1)) (by omega) ⟨i+1, out, rfl, by omega, hol, .inl ⟨by omega, by rw [runsI_skip hq, hri]⟩, ?_, rfl⟩
        rw [wrap64 (by omega) (by omega)]; rfl)
     | (refine rounds_kills [0,3,4] rfl ?_
        refine rounds_swap 0 2 1 (by decide) (by simp) (by decide) rfl rfl ?_
        refine rounds_drop 1 [0,3,4] (by decide) (by rfl) (by rfl) ?_
        refine rounds_next (m' := ks.length + 1 - (i+(k+1)+1)) (by omega) ⟨i+(k+1)+1, out ++ [((i : Int), ((k + 1 : Nat) : Int))], rfl, by omega, by have := runsI_len (ks := ks) (i := i + (k + 1)); rw [hrun] at this; simp at this ⊢; omega, ?_, ?_, ?_⟩
        · by_cases hlast : i + (k + 1) = ks.length
          · right; refine ⟨by omega, ?_⟩; unfold runsS; rw [← hlast, hrun]
          left; refine ⟨by omega, ?_⟩; rw [runsI_skip (fun q => hz ⟨by omega, q⟩), hrun]
        · rw [wrap64 (by omega) (by omega)]; simp; try rfl
        simp [eObj]; try rfl)
   intro h16
   have hq : nth ks i = -1 := by simpa using h16
   refine W_skip ?_
   refine xT ?_
   refine xH [0,3,4,5] ?_
   refine W_seq (W_block ?_)
   refine W_rounds (fun m σ o => ∃ n : Nat, m = ks.length - (i + n) ∧ i + n ≤ ks.length ∧ (∀ t, t < n → nth ks (i + t) = -1) ∧ σ = slots [(0, .d (rI ks)), (3, .hdr 0 0 out.length), (4, .d (vI i)), (5, .d (vI n))] ∧ o = [.row 2 (out.map eObj)]) (ks.length - i) .refl ⟨0, by simp, by omega, by simp, rfl, rfl⟩ ?_
   rintro m σ o ⟨n, rfl, hn, hin, rfl, rfl⟩ _
   have w1 : IntKind.i64.wrap ((i : Int) + n) = i + n := wrap64 (by omega) (by omega)
   have w2 : (0 : Int) ≤ (i : Int) + n := by omega
   have w3 : ((i : Int) + n).toNat = i + n := by omega
   refine W_seq (xU ?_)
   refine xO2 ?_
   refine xO ?_ (h := by simp [w1]; exact .mk)
   refine xO4 ?_
   iterate 3 refine xI ?_
   refine xI ?_ (h := fun hb => by simp [w1]; exact .mk)
   refine run_if rfl (by simp; exact .mk) rfl (by simp <;> first | omega | grind) (fun hb => by simp [w1] at hb; simp [w2, w3, show (i : Int) + n < ks.length from by omega, show i + n < ks.length from by omega]; exact .mk) ?_
   refine run_if rfl (by simp; exact .mk) rfl (by simp <;> first | omega | grind) (fun hb => by simp [w1] at hb; have h5 : i + n < ks.length := (by omega); simp [-List.getElem?_map, map_get h5]; exact .mk) ?_
   refine xI ?_
   refine xP ?_
   refine xQ [0,3,4,5,31] ?_ ?_
   · intro h31
     have hz : i + n < ks.length ∧ nth ks (i + n) = -1 := by simp at h31; omega
     refine W_skip fun _ => ?_
     refine W_block ?_
     refine xY ?_
     refine xO3 ?_
     refine xE [0,3,4,5] ?_
     refine rounds_kill [0,3,4,5] ?_
     refine rounds_next (m' := ks.length - (i + (n + 1))) (by omega) ⟨n+1, rfl, by omega, ?_, ?_, rfl⟩
     · intro t ht
       rcases Nat.lt_succ_iff_lt_or_eq.1 ht with ht | rfl
       · exact hin t ht
       exact hz.2
     rw [wrap64 (by omega) (by omega)]; rfl
   intro h31
   have hz : ¬ (i + n < ks.length ∧ nth ks (i + n) = -1) := by simp at h31; omega
   have hn1 : 1 ≤ n := Nat.pos_of_ne_zero fun q => by subst q; exact hz ⟨by omega, hq⟩
   obtain ⟨k, rfl⟩ : ∃ k, n = k + 1 := ⟨n - 1, by omega⟩
   have hrun := runsI_free hf (n := k) hin
   rw [hri] at hrun
   simp only at hrun
   have e1 : (out.length + 1) * 16 ≤ 140737488355328 := by omega
   have e2 : out.length ≤ 140737488355327 := by omega
   have w4 : IntKind.i64.wrap ((i : Int) + ((k : Int) + 1)) = i + ((k : Int) + 1) := wrap64 (by omega) (by omega)
   refine W_exit (xT ?_)
   refine xO3 ?_
   refine xOs ?_
   refine xO ?_
   refine xO ?_ (h := by simp [rows, e1, e2]; exact .mk)
   refine xH [0,3,4,5] ?_
   refine xY ?_
   refine xO2 ?_
   refine xO ?_ (h := by simp [w4]; exact .mk)
   refine xH [0,3,4] ?_
   refine xY ?_
   refine xO3 ?_
   refine xE [0,3,4] ?_
   refine rounds_kill [0,3,4] ?_
   first
   | (refine rounds_kills [0,3,4] rfl ?_
      refine rounds_next (m' := ks.length + 1 - (i+1)) (by omega) ⟨i+1, out, rfl, by omega, hol, .inl ⟨by omega, by rw [runsI_skip hq, hri]⟩, ?_, rfl⟩
      rw [wrap64 (by omega) (by omega)]; rfl)
   | (refine rounds_kills [0,3,4] rfl ?_
      refine rounds_swap 0 2 1 (by decide) (by simp) (by decide) rfl rfl ?_
      refine rounds_drop 1 [0,3,4] (by decide) (by rfl) (by rfl) ?_
      refine rounds_next (m' := ks.length + 1 - (i+(k+1)+1)) (by omega) ⟨i+(k+1)+1, out ++ [((i : Int), ((k + 1 : Nat) : Int))], rfl, by omega, by have := runsI_len (ks := ks) (i := i + (k + 1)); rw [hrun] at this; simp at this ⊢; omega, ?_, ?_, ?_⟩
      · by_cases hlast : i + (k + 1) = ks.length
        · right; refine ⟨by omega, ?_⟩; unfold runsS; rw [← hlast, hrun]
        left; refine ⟨by omega, ?_⟩; rw [runsI_skip (fun q => hz ⟨by omega, q⟩), hrun]
      · rw [wrap64 (by omega) (by omega)]; simp; try rfl
      simp [eObj]; try rfl)
 intro h9
 have hi3 : ks.length ≤ i := by simp at h9; omega
 have hout : out = runsS ks := by
  rcases hinv with ⟨h1, h2⟩ | ⟨_, h2⟩
  · obtain rfl : i = ks.length := by omega
    unfold runsS; rw [h2]
  exact h2
 refine W_exit (xT ?_)
 refine xH2 [2] ?_
 refine W_ret (xR (by simp [Tryz.f212]; exact .mk) ?_)
 simp [Tryz.f212, ownR, ← hout]; try rfl

theorem ct155 (g : Gl) (ks : List Int) (n : Int) (hl : ks.length ≤ 2^40) : CtAt Tryz.prog g 155 [rI ks, vI n] (.tup [vI ((bestR ks n).getD (0, 0)).1, .v (.bool (bestR ks n).isSome)]) := by
 refine xA Tryz.func155 fun B S => ?_
 obtain ⟨L, hL⟩ : ∃ L, L = runsS ks := ⟨_, rfl⟩
 have c212 := ct212 g ks hl
 rw [← hL] at c212
 have hbr : bestR ks n = L.foldl (bestRStep n) none := by rw [hL]; rfl
 have hLn : L.length ≤ ks.length := by rw [hL]; exact runsI_len
 refine xU ?_
 refine xO2 ?_
 refine xG [0,1] ?_
 refine xO ?_
 refine xC (c212) ?_
 refine xO ?_
 refine xG [1,6] ?_
 refine xH [1,6,7] ?_
 refine W_seq (xU ?_)
 refine xH [1,6,7,8] ?_
 refine W_block (W_rounds (fun m σ o => ∃ (i : Nat) (k : Int), m = L.length - i ∧ i ≤ L.length ∧ ((k = -1 ∧ (L.take i).foldl (bestRStep n) none = none) ∨ ∃ q : Nat, k = q ∧ q < L.length ∧ (L.take i).foldl (bestRStep n) none = some (nth L q)) ∧ σ = slots [(1, .d (vI n)), (6, .hdr 0 0 L.length), (7, .d (vI k)), (8, .d (vI i))] ∧ o = [.row 2 (L.map eObj)]) L.length .refl ⟨0, -1, by simp, by simp, .inl ⟨rfl, rfl⟩, rfl, by simp [ownR]⟩ ?_)
 rintro m σ o ⟨i, k, rfl, hi, ⟨rfl, hfo⟩ | ⟨q, rfl, hq, hfo⟩, rfl, rfl⟩ _
 · skip
   skip
   refine W_seq (xU ?_)
   refine xO4 ?_
   refine xQ [1,6,7,8,14] ?_ ?_
   · intro h14
     have hi2 : i < L.length := by simpa using h14
     have hst : (L.take (i + 1)).foldl (bestRStep n) none = bestRStep n ((L.take i).foldl (bestRStep n) none) (nth L i) := by rw [take_succ hi2, List.foldl_append]; rfl
     rw [hfo] at hst
     refine W_skip fun _ => ?_
     refine W_seq (W_block ?_)
     refine W_seq ?_
     refine W_regD (by kernel_rfl) [] 4 [0,1,2,3,4,5,6,7,8,9,10,11,12,13,14,15,16,17,18,19,20,21,22,23,24,25,26,27] (by decide +kernel) ?_
     refine xO2 ?_
     refine xO ?_ (h := by simp [eObj, hi2]; exact .mk)
     refine xO ?_
     refine xO ?_ (h := by simp [-List.getElem?_map, map_get hi2, eObj]; exact .mk)
     refine xO3 ?_
     iterate 2 refine xI ?_
     refine xP ?_
     refine xB ?_
     iterate 3 refine xI ?_
     iterate 11 (refine run_not (av := .d (.v (.bool false))) rfl (by simp; exact .mk) rfl ?_)
     iterate 2 refine xP ?_
     refine xQ [1,6,7,8,44] ?_ ?_
     · intro h44
       have hst2 : (L.take (i + 1)).foldl (bestRStep n) none = some (nth L i) := by rw [hst]; unfold bestRStep; rw [if_pos]; simp at h44 ⊢; omega
       refine xY ?_
       refine xH2 [1,6,7,8] ?_
       refine xY ?_
       refine xO3 ?_
       refine xE [1,6,7,8] ?_
       refine rounds_kill [1,6,7,8] ?_
       first
       | exact rounds_next (m' := L.length - (i+1)) (by omega) ⟨i+1, i, rfl, by omega, .inr ⟨i, rfl, hi2, hst2⟩, by rw [wrap64 (by omega) (by omega)]; rfl, rfl⟩
       | exact rounds_next (m' := L.length - (i+1)) (by omega) ⟨i+1, -1, rfl, by omega, .inl ⟨rfl, hst2⟩, by rw [wrap64 (by omega) (by omega)]; rfl, rfl⟩
       | exact rounds_next (m' := L.length - (i+1)) (by omega) ⟨i+1, q, rfl, by omega, .inr ⟨q, rfl, hq, hst2⟩, by rw [wrap64 (by omega) (by omega)]; rfl, rfl⟩
     intro h44
     have hst2 : (L.take (i + 1)).foldl (bestRStep n) none = (L.take i).foldl (bestRStep n) none := by rw [hst, hfo]; unfold bestRStep; rw [if_neg]; simp at h44 ⊢; omega
     rw [hfo] at hst2
     refine W_skip fun _ => ?_
     refine xY ?_
     refine xO3 ?_
     refine xE [1,6,7,8] ?_
     refine rounds_kill [1,6,7,8] ?_
     first
     | exact rounds_next (m' := L.length - (i+1)) (by omega) ⟨i+1, i, rfl, by omega, .inr ⟨i, rfl, hi2, hst2⟩, by rw [wrap64 (by omega) (by omega)]; rfl, rfl⟩
     | exact rounds_next (m' := L.length - (i+1)) (by omega) ⟨i+1, -1, rfl, by omega, .inl ⟨rfl, hst2⟩, by rw [wrap64 (by omega) (by omega)]; rfl, rfl⟩
     | exact rounds_next (m' := L.length - (i+1)) (by omega) ⟨i+1, q, rfl, by omega, .inr ⟨q, rfl, hq, hst2⟩, by rw [wrap64 (by omega) (by omega)]; rfl, rfl⟩
   intro h14
   obtain rfl : i = L.length := by simp at h14; omega
   rw [List.take_length] at hfo
   rw [hfo] at hbr
   refine W_exit ?_
   rintro -
   refine W_seq (xU ?_)
   refine xO2 ?_
   refine xQ [6,7,47] ?_ ?_
   · intro h47
     refine xU ?_
     refine xH2 [4,5] ?_
     refine W_ret (xR (by simp [Tryz.f155]; exact .mk) ?_)
     simp [Tryz.f155, hbr]
   intro h47
   simp at h47
 skip
 skip
 refine W_seq (xU ?_)
 refine xO4 ?_
 refine xQ [1,6,7,8,14] ?_ ?_
 · intro h14
   have hi2 : i < L.length := by simpa using h14
   have hst : (L.take (i + 1)).foldl (bestRStep n) none = bestRStep n ((L.take i).foldl (bestRStep n) none) (nth L i) := by rw [take_succ hi2, List.foldl_append]; rfl
   rw [hfo] at hst
   refine W_skip fun _ => ?_
   refine W_seq (W_block ?_)
   refine W_seq ?_
   refine W_regD (by kernel_rfl) [] 4 [0,1,2,3,4,5,6,7,8,9,10,11,12,13,14,15,16,17,18,19,20,21,22,23,24,25,26,27] (by decide +kernel) ?_
   refine xO2 ?_
   refine xO ?_ (h := by simp [eObj, hi2]; exact .mk)
   refine xO ?_
   refine xO ?_ (h := by simp [-List.getElem?_map, map_get hi2, eObj]; exact .mk)
   refine xO3 ?_
   iterate 2 refine xI ?_
   refine xP ?_
   refine xB ?_
   iterate 5 refine xI ?_
   refine xI ?_ (h := fun hb => by simp [eObj, hi2]; exact .mk)
   refine xI ?_
   refine xI ?_ (h := fun hb => by simp [-List.getElem?_map, map_get hi2, eObj]; exact .mk)
   iterate 2 refine xI ?_
   refine xI ?_ (h := fun hb => by simp [eObj, hq]; exact .mk)
   refine xI ?_
   refine xI ?_ (h := fun hb => by simp [-List.getElem?_map, map_get hq, eObj]; exact .mk)
   refine xI ?_
   iterate 2 refine xP ?_
   refine xQ [1,6,7,8,44] ?_ ?_
   · intro h44
     have hst2 : (L.take (i + 1)).foldl (bestRStep n) none = some (nth L i) := by rw [hst]; unfold bestRStep; rw [if_pos]; simp at h44 ⊢; omega
     refine xY ?_
     refine xH2 [1,6,7,8] ?_
     refine xY ?_
     refine xO3 ?_
     refine xE [1,6,7,8] ?_
     refine rounds_kill [1,6,7,8] ?_
     first
     | exact rounds_next (m' := L.length - (i+1)) (by omega) ⟨i+1, i, rfl, by omega, .inr ⟨i, rfl, hi2, hst2⟩, by rw [wrap64 (by omega) (by omega)]; rfl, rfl⟩
     | exact rounds_next (m' := L.length - (i+1)) (by omega) ⟨i+1, -1, rfl, by omega, .inl ⟨rfl, hst2⟩, by rw [wrap64 (by omega) (by omega)]; rfl, rfl⟩
     | exact rounds_next (m' := L.length - (i+1)) (by omega) ⟨i+1, q, rfl, by omega, .inr ⟨q, rfl, hq, hst2⟩, by rw [wrap64 (by omega) (by omega)]; rfl, rfl⟩
   intro h44
   have hst2 : (L.take (i + 1)).foldl (bestRStep n) none = (L.take i).foldl (bestRStep n) none := by rw [hst, hfo]; unfold bestRStep; rw [if_neg]; simp at h44 ⊢; omega
   rw [hfo] at hst2
   refine W_skip fun _ => ?_
   refine xY ?_
   refine xO3 ?_
   refine xE [1,6,7,8] ?_
   refine rounds_kill [1,6,7,8] ?_
   first
   | exact rounds_next (m' := L.length - (i+1)) (by omega) ⟨i+1, i, rfl, by omega, .inr ⟨i, rfl, hi2, hst2⟩, by rw [wrap64 (by omega) (by omega)]; rfl, rfl⟩
   | exact rounds_next (m' := L.length - (i+1)) (by omega) ⟨i+1, -1, rfl, by omega, .inl ⟨rfl, hst2⟩, by rw [wrap64 (by omega) (by omega)]; rfl, rfl⟩
   | exact rounds_next (m' := L.length - (i+1)) (by omega) ⟨i+1, q, rfl, by omega, .inr ⟨q, rfl, hq, hst2⟩, by rw [wrap64 (by omega) (by omega)]; rfl, rfl⟩
 intro h14
 obtain rfl : i = L.length := by simp at h14; omega
 rw [List.take_length] at hfo
 rw [hfo] at hbr
 refine W_exit ?_
 rintro -
 refine W_seq (xU ?_)
 refine xO2 ?_
 refine xQ [6,7,47] ?_ ?_
 · intro h47
   simp at h47; omega
 intro h47
 refine W_skip ?_
 refine xT ?_
 refine xO2 ?_
 refine xO ?_ (h := by simp [eObj, hq]; exact .mk)
 refine xO ?_
 refine xO ?_ (h := by simp [-List.getElem?_map, map_get hq, eObj]; exact .mk)
 refine xH2 [4,5] ?_
 refine W_ret (xR (by simp [Tryz.f155]; exact .mk) ?_)
 simp [Tryz.f155, hbr]

open Go.Awp
theorem ct104 (g : Gl) (pages : Int) (l : List (Int × Int)) (n : Int) (hl : l.length ≤ 2^40) (hb : ∀ i, i < l.length → (nth l i).1 ≤ 2^62) : CtAt Tryz.prog g 104 [vI pages, rO l, vI n] (.tup [vI ((placeS pages l n).getD 0), .v (.bool (placeS pages l n).isSome)]) := by
 refine xA Tryz.func104 fun B S => ?_
 refine xU ?_
 refine xO2 ?_
 refine xG [0,1,2] ?_
 refine xO2 ?_
 refine xC (ct97 g pages l hl hb) ?_
 refine xO5 ?_
 refine xF [0,1,2,8,9] ?_
 refine W_seq (xU ?_)
 refine xO2 ?_
 refine xQ [0,1,2,8,33] ?_ ?_
 · intro h33
   have hr := place_no (n := n) (kinds_none (pages := pages) (l := l) (by simpa using h33))
   refine xU ?_
   refine xH2 [6,7] ?_
   refine W_ret (xR (by simp [Tryz.f104]; exact .mk) ?_)
   first | (simp [Tryz.f104, hr]; done) | (simp [Tryz.f104, hr1, hr2]; done) | (simp [Tryz.f104, hr1, hr2]; rw [Bool.beq_eq_decide_eq])
 intro h33
 obtain ⟨st, hst, hkr⟩ := kinds_some (pages := pages) (l := l) (by simpa using h33)
 simp only [hkr]
 have LP := laidP hst
 have hp0 := LP.p0
 have hlen := LP.len
 obtain ⟨N, rfl⟩ : ∃ N : Nat, pages = N := ⟨pages.toNat, by omega⟩
 have hlen2 : st.1.length = N := by rw [hlen]; simp
 refine W_skip ?_
 refine xT ?_
 refine xO ?_
 refine xC (ct153 g n) ?_
 refine xO5 ?_
 refine xF [0,1,2,8,10,11] ?_
 refine W_seq (xU ?_)
 refine xO2 ?_
 refine xQ [0,1,2,8,10,40] ?_ ?_
 · intro h40
   obtain ⟨hr1, hr2⟩ := place_large (n := n) hst (by simpa using h40)
   have hbb := bestR_b (ks := st.1) (n := (pagesS n).1)
   have w1 : IntKind.i64.wrap (32 * ((bestR st.1 (pagesS n).1).getD (0, 0)).1) = ((bestR st.1 (pagesS n).1).getD (0, 0)).1 * 32 := (wrap64 (by omega) (by omega)).trans (Int.mul_comm _ _)
   refine xU ?_
   refine xO ?_
   refine xC (ct154 g n) ?_
   refine xO5 ?_
   refine xG [8,12,13] ?_
   refine xO2 ?_
   refine xC (ct155 g st.1 (pagesS n).1 (by omega)) ?_
   refine xO5 ?_
   refine xG [13,14,15] ?_
   refine xO ?_
   refine xO ?_ (h := by simp [w1]; exact .mk)
   refine xO2 ?_
   iterate 2 refine xI ?_
   refine xP ?_
   iterate 2 refine xB ?_
   refine xF [6,7] ?_
   refine W_ret (xR (by simp [Tryz.f104]; exact .mk) ?_)
   first | (simp [Tryz.f104, hr]; done) | (simp [Tryz.f104, hr1, hr2]; done) | (simp [Tryz.f104, hr1, hr2]; rw [Bool.beq_eq_decide_eq])
 intro h40
 have hcs : (classS n).2 = true := by simpa using h40
 obtain ⟨c, hc6, hcc⟩ := classS_c hcs
 have hps := place_small (n := n) hst hcs
 rw [hcc] at hps
 simp only [hcc]
 obtain ⟨b1, b2, b3, b4⟩ := cellsS_b (c := (c : Int)) (by omega)
 obtain ⟨M, hM⟩ : ∃ M : Nat, (cellsS c).1 = M := ⟨(cellsS c).1.toNat, by omega⟩
 have hMt : (cellsS c).1.toNat = M := by omega
 have c156 := ct156 g c
 rw [hM] at c156
 refine W_skip ?_
 refine xT ?_
 refine xO ?_
 refine xC (c156) ?_
 refine xO5 ?_
 refine xF [0,1,8,10,16] ?_
 refine W_seq (xU ?_)
 refine xH [0,1,8,10,16,18] ?_
 refine W_block (W_rounds (fun m σ o => ∃ i : Nat, m = N - i ∧ i ≤ N ∧ (∀ p, p < i → (openC st.1 st.2 c M p).isSome = false) ∧ σ = slots [(0, .d (vI N)), (1, .d (rO l)), (8, .hdr 0 0 N), (10, .d (vI c)), (16, .d (vI M)), (18, .d (vI i))] ∧ o = [.row 1 (st.1.map vI)]) (N) .refl ⟨0, by simp, by simp, by simp, by simp [hlen2], by simp [ownR]⟩ ?_)
 rintro m σ o ⟨i, rfl, hi, hinv, rfl, rfl⟩ _
 refine W_seq (xU ?_)
 refine xO3 ?_
 refine xQ [0,1,8,10,16,18,66] ?_ ?_
 · intro h66
   have hi2 : i < N := by simpa using h66
   have hi3 : i < st.1.length := by omega
   refine W_skip fun _ => ?_
   refine W_seq (W_block ?_)
   refine xU ?_
   refine xH [0,1,8,10,16,18,19] ?_
   refine W_block (W_rounds (fun m σ o => ∃ k : Nat, m = M - k ∧ k ≤ M ∧ (∀ j, j < k → (nth st.2 i).testBit j = true) ∧ σ = slots [(0, .d (vI N)), (1, .d (rO l)), (8, .hdr 0 0 N), (10, .d (vI c)), (16, .d (vI M)), (18, .d (vI i)), (19, .d (vI k))] ∧ o = [.row 1 (st.1.map vI)]) M .refl ⟨0, by simp, by simp, by simp, rfl, rfl⟩ ?_)
   rintro m σ o ⟨k, rfl, hk, hinv2, rfl, rfl⟩ _
   refine W_seq (xU ?_)
   refine xO4 ?_
   iterate 2 refine xI ?_
   refine xI ?_ (h := fun hb => by simp [eObj, hi2]; exact .mk)
   refine xI ?_ (h := fun hb => by simp [-List.getElem?_map, map_get hi3]; exact .mk)
   iterate 2 refine xI ?_
   refine xP ?_
   refine xQ [0,1,8,10,16,18,19,79] ?_ ?_
   · intro h79
     have hkk : k < M ∧ nth st.1 i = c := by simpa using h79
     have hkc : (k : Int) < (cellsS c).1 := by omega
     obtain ⟨d1, d2, d3⟩ := cellS_b (c := (c : Int)) (by omega) hkc
     simp only [Int.toNat_natCast] at d1 d2 d3
     have c157 := ct157 g c k (by omega) (by omega)
     have hd : (cellS c k).1 = 4 + (k : Int) * nth wordsL c := by rw [d1]
     have w1 : IntKind.i64.wrap (32 * (i : Int)) = 32 * i := wrap64 (by omega) (by omega)
     have w2 : IntKind.i64.wrap (32 * (i : Int) + (cellS c k).1) = 32 * i + (cellS c k).1 := wrap64 (by omega) (by omega)
     have htk := taken_bit hst hc6 hi3 hkk.2 hkc
     refine W_skip fun _ => ?_
     refine W_seq (W_block ?_)
     refine xU ?_
     refine xO2 ?_
     refine xC (c157) ?_
     refine xO5 ?_
     refine xG [0,1,8,10,16,18,19,20] ?_
     refine xO2 ?_
     refine xO ?_ (h := by simp [w1]; exact .mk)
     refine xO ?_
     refine xO ?_ (h := by simp [w2]; exact .mk)
     refine xC (ct158 g l hl (32 * (i : Int) + (cellS c k).1)) ?_
     refine xO ?_
     refine xG [0,1,8,10,16,18,19,20,22] ?_
     refine xO2 ?_
     refine xQ [0,1,8,10,16,18,19,20,95] ?_ ?_
     · intro h95
       have hbt : (nth st.2 i).testBit k = false := by
        cases hz : (nth st.2 i).testBit k with
        | false => rfl
        | true => have := takenB_iff.2 (htk.2 hz); simp [this] at h95
       have ho := openC_some (ks := st.1) (ms := st.2) (of := (c : Int)) hkk.2 hkk.1 hinv2 hbt
       have hsl := slabR_some hMt hi3 hinv ho
       have hr : placeS (N : Int) l n = some (32 * (i : Int) + (cellS c k).1) := by rw [hps, cellR, hsl]; simp only; rw [hMt, ho]; simp; omega
       refine xU ?_
       refine xO ?_
       refine xO ?_ (h := by simp [w1]; exact .mk)
       refine xO ?_
       refine xO ?_ (h := by simp [w2]; exact .mk)
       refine xH2 [6,7] ?_
       refine W_ret (xR (by simp [Tryz.f104]; exact .mk) ?_)
       first | (simp [Tryz.f104, hr]; done) | (simp [Tryz.f104, hr1, hr2]; done) | (simp [Tryz.f104, hr1, hr2]; rw [Bool.beq_eq_decide_eq])
     intro h95
     have hbt : (nth st.2 i).testBit k = true := htk.1 (takenB_iff.1 (by simpa using h95))
     refine W_skip fun _ => ?_
     refine xY ?_
     refine xO3 ?_
     refine xE [0,1,8,10,16,18,19] ?_
     refine rounds_kill [0,1,8,10,16,18,19] ?_
     refine rounds_next (m' := M - (k+1)) (by omega) ⟨k+1, rfl, by omega, ?_, ?_, rfl⟩
     · intro j hj
       rcases Nat.lt_succ_iff_lt_or_eq.1 hj with hj | rfl
       · exact hinv2 j hj
       exact hbt
     rw [wrap64 (by omega) (by omega)]; rfl
   intro h79
   have hno : (openC st.1 st.2 c M i).isSome = false := openC_none (fun q j hj => hinv2 j (by simp at h79; omega))
   refine W_exit ?_
   rintro -
   refine xY ?_
   refine xO3 ?_
   refine xE [0,1,8,10,16,18] ?_
   refine rounds_kill [0,1,8,10,16,18] ?_
   refine rounds_next (m' := N - (i+1)) (by omega) ⟨i+1, rfl, by omega, ?_, ?_, rfl⟩
   · intro j hj
     rcases Nat.lt_succ_iff_lt_or_eq.1 hj with hj | rfl
     · exact hinv j hj
     exact hno
   rw [wrap64 (by omega) (by omega)]; rfl
 intro h66
 have hsl : slabR st.1 st.2 c = none := slabR_none hMt (fun q hq => hinv q (by simp at h66; omega))
 have hps2 : placeS (N : Int) l n = (freeR st.1).map fun (p : Nat) => (p : Int) * 32 + 4 := by rw [hps, cellR, hsl]
 have c157 := ct157 g c 0 (by omega) (by omega)
 obtain ⟨d1, d2, d3⟩ := cellS_b (c := (c : Int)) (k := 0) (by omega) (by omega)
 simp only [Int.toNat_natCast] at d1
 have hd : cellS c 0 = (4, 0) := by have := d1; simpa using this
 simp only [Int.natCast_zero] at c157
 rw [hd] at c157
 refine W_exit ?_
 rintro -
 refine W_seq (xU ?_)
 refine xH [0,8,10,23] ?_
 refine W_block (W_rounds (fun m σ o => ∃ i : Nat, m = N - i ∧ i ≤ N ∧ (∀ p, p < i → nth st.1 p ≠ -1) ∧ σ = slots [(0, .d (vI N)), (8, .hdr 0 0 N), (10, .d (vI c)), (23, .d (vI i))] ∧ o = [.row 1 (st.1.map vI)]) N .refl ⟨0, by simp, by simp, by simp, rfl, rfl⟩ ?_)
 rintro m σ o ⟨i, rfl, hi, hinv3, rfl, rfl⟩ _
 refine W_seq (xU ?_)
 refine xO3 ?_
 refine xQ [0,8,10,23,102] ?_ ?_
 · intro h102
   have hi2 : i < N := by simpa using h102
   have hi3 : i < st.1.length := by omega
   refine W_skip fun _ => ?_
   refine W_seq (W_block ?_)
   refine xU ?_
   refine xO2 ?_
   refine xO ?_ (h := by simp [eObj, hi2]; exact .mk)
   refine xO ?_ (h := by simp [-List.getElem?_map, map_get hi3]; exact .mk)
   refine xO ?_
   refine xQ [0,8,10,23,109] ?_ ?_
   · intro h109
     have hfr := freeR_some hi3 (by simpa using h109) hinv3
     have hr : placeS (N : Int) l n = some ((i : Int) * 32 + 4) := by rw [hps2, hfr]; rfl
     have w1 : IntKind.i64.wrap (32 * (i : Int)) = i * 32 := (wrap64 (by omega) (by omega)).trans (Int.mul_comm _ _)
     have w2 : IntKind.i64.wrap ((i : Int) * 32 + 4) = i * 32 + 4 := wrap64 (by omega) (by omega)
     refine xU ?_
     refine xO ?_
     refine xC (c157) ?_
     refine xO5 ?_
     refine xG [23,24] ?_
     refine xO ?_
     refine xO ?_ (h := by simp [w1]; exact .mk)
     refine xO ?_
     refine xO ?_ (h := by simp [w2]; exact .mk)
     refine xH2 [6,7] ?_
     refine W_ret (xR (by simp [Tryz.f104]; exact .mk) ?_)
     first | (simp [Tryz.f104, hr]; done) | (simp [Tryz.f104, hr1, hr2]; done) | (simp [Tryz.f104, hr1, hr2]; rw [Bool.beq_eq_decide_eq])
   intro h109
   have hno : nth st.1 i ≠ -1 := by simpa using h109
   refine W_skip fun _ => ?_
   refine xY ?_
   refine xO3 ?_
   refine xE [0,8,10,23] ?_
   refine rounds_kill [0,8,10,23] ?_
   refine rounds_next (m' := N - (i+1)) (by omega) ⟨i+1, rfl, by omega, ?_, ?_, rfl⟩
   · intro j hj
     rcases Nat.lt_succ_iff_lt_or_eq.1 hj with hj | rfl
     · exact hinv3 j hj
     exact hno
   rw [wrap64 (by omega) (by omega)]; rfl
 intro h102
 have hfr := freeR_none (ks := st.1) (fun q hq => hinv3 q (by simp at h102; omega))
 have hr : placeS (N : Int) l n = none := by rw [hps2, hfr]; rfl
 refine W_exit (xT ?_)
 refine xH2 [6,7] ?_
 refine W_ret (xR (by simp [Tryz.f104]; exact .mk) ?_)
 first | (simp [Tryz.f104, hr]; done) | (simp [Tryz.f104, hr1, hr2]; done) | (simp [Tryz.f104, hr1, hr2]; rw [Bool.beq_eq_decide_eq])

theorem ct170 (g : Gl) (pages : Int) (l : List (Int × Int)) (page : Int) (hpg : page ≤ 2^40) (hl : l.length ≤ 2^40) (hb : ∀ i, i < l.length → (nth l i).1 ≤ 2^62) : CtAt Tryz.prog g 170 [vI pages, rO l, vI page] (oI ((matesR pages l page).map fun (i : Nat) => (i : Int))) := by
 refine xA Tryz.func170 fun B S => ?_
 refine xU ?_
 refine xO ?_
 refine xG [0,1,2] ?_
 refine xO2 ?_
 refine xC (ct97 g pages l hl hb) ?_
 refine xO5 ?_
 refine xE [0,1,2,8] ?_
 obtain ⟨K, hK⟩ : ∃ K, K = kindsR pages l := ⟨_, rfl⟩
 rw [← hK]
 refine xT ?_
 refine xH [0,1,2,8,9] ?_
 refine W_seq (xU ?_)
 refine xH [0,1,2,8,9,10] ?_
 refine W_block (W_rounds (fun m σ o => ∃ i : Nat, m = l.length - i ∧ i ≤ l.length ∧ (K.2 = true ∨ i = 0) ∧ σ = slots [(0, .d (vI pages)), (1, .d (rO l)), (2, .d (vI page)), (8, .d (vT K.2)), (9, .hdr 1 0 (mateIx pages l page i).length), (10, .d (vI i))] ∧ o = [.row 1 (K.1.map vI), .row 1 ((mateIx pages l page i).map fun (j : Nat) => vI j)]) l.length (Weak.trans (Weak.nilRow 9 1 rfl) (Weak.kills [0,1,2,8,9,10] rfl) (fun _ _ _ h1 h2 => by rw [← h1.len]; exact h2)) ⟨0, by simp, by simp, .inr rfl, by simp [mateIx], by simp [mateIx, ownR]⟩ ?_)
 rintro m σ o ⟨i, rfl, hi, hinv, rfl, rfl⟩ _
 have hle := mateIx_len (pages := pages) (page := page) (l := l) (i := i)
 refine W_seq (xU ?_)
 refine xO5 ?_
 refine xI ?_
 refine xP ?_
 refine xQ [0,1,2,8,9,10,25] ?_ ?_
 · intro h25
   have hz : i < l.length ∧ K.2 = true := by simpa using h25
   have hi2 := hz.1
   obtain ⟨st, hst, hkr⟩ := kinds_some (pages := pages) (l := l) (by rw [← hK]; exact hz.2)
   obtain ⟨h0, hoks, _⟩ := laidS_some hst
   have hs := okI_spot (hoks i hi2)
   obtain ⟨q1, q2⟩ := spanR_eq (pages := pages) (o := nth l i)
   obtain ⟨q3, _, _⟩ := q2 hs
   have gd := (spot_words hs).good
   have g0 := gd.p0
   have g1 := gd.c1
   have g2 := gd.p1
   have e1 : ((mateIx pages l page i).length + 1) * 8 ≤ 140737488355328 := by omega
   have e2 : (mateIx pages l page i).length ≤ 140737488355327 := by omega
   have c149 := ct149 g pages (nth l i) h0 (hb i hi2)
   rw [q3, q1, hs] at c149
   refine W_skip fun _ => ?_
   refine W_seq (W_block ?_)
   refine xU ?_
   refine xO3 ?_
   refine xO ?_ (h := by simp [eObj, hi2]; exact .mk)
   refine xO ?_ (h := by simp [-List.getElem?_map, map_get hi2, eObj]; exact .mk)
   refine xC (c149) ?_
   refine xO4 ?_
   refine xOs ?_
   refine xO ?_
   refine xG [0,1,2,8,9,10,11] ?_
   refine xO2 ?_
   refine xO ?_ (h := by simp [eObj]; exact .mk)
   refine xO2 ?_
   iterate 2 refine xI ?_
   refine xI ?_ (h := fun hb => by simp [eObj]; exact .mk)
   refine run_if rfl (by simp; exact .mk) rfl (by simp <;> first | omega | grind) (fun hb => by simp at hb; have w := wrap64 (x := page - (spotS pages (nth l i)).1.page) (by omega) (by omega); simp [w]; exact .mk) ?_
   refine xI ?_
   refine xI ?_ (h := fun hb => by simp [eObj]; exact .mk)
   refine xI ?_
   refine xP ?_
   refine xQ [0,1,2,8,9,10,49] ?_ ?_
   · intro h49
     have h2 : coverB pages page (nth l i) = true := by simpa [coverB] using h49
     refine xY ?_
     refine xO3 ?_
     refine xO ?_ (h := by simp [rows, e1, e2]; exact .mk)
     refine xH [0,1,2,8,9,10] ?_
     refine xY ?_
     refine xO3 ?_
     refine xE [0,1,2,8,9,10] ?_
     refine rounds_kill [0,1,2,8,9,10] ?_
     first
     | (refine rounds_kills [0,1,2,8,9,10] rfl ?_
        refine rounds_drop 2 [0,1,2,8,9,10] (by decide) (by rfl) (by rfl) ?_
        refine rounds_next (m' := l.length - (i+1)) (by omega) ⟨i+1, rfl, by omega, .inl hz.2, ?_, ?_⟩
        · rw [wrap64 (by omega) (by omega), mateIx_f h2]; rfl
        rw [mateIx_f h2]; rfl)
     | (refine rounds_kills [0,1,2,8,9,10] rfl ?_
        refine rounds_swap 1 4 1 (by decide) (by simp) (by decide) rfl rfl ?_
        refine rounds_drop 2 [0,1,2,8,9,10] (by decide) (by rfl) (by rfl) ?_
        refine rounds_next (m' := l.length - (i+1)) (by omega) ⟨i+1, rfl, by omega, .inl hz.2, ?_, ?_⟩
        · rw [wrap64 (by omega) (by omega), mateIx_t h2]; simp; try rfl
        rw [mateIx_t h2]; simp; try rfl)
   intro h49
   have h2 : coverB pages page (nth l i) = false := by simpa [coverB] using h49
   refine W_skip fun _ => ?_
   refine xY ?_
   refine xO3 ?_
   refine xE [0,1,2,8,9,10] ?_
   refine rounds_kill [0,1,2,8,9,10] ?_
   first
   | (refine rounds_kills [0,1,2,8,9,10] rfl ?_
      refine rounds_drop 2 [0,1,2,8,9,10] (by decide) (by rfl) (by rfl) ?_
      refine rounds_next (m' := l.length - (i+1)) (by omega) ⟨i+1, rfl, by omega, .inl hz.2, ?_, ?_⟩
      · rw [wrap64 (by omega) (by omega), mateIx_f h2]; rfl
      rw [mateIx_f h2]; rfl)
   | (refine rounds_kills [0,1,2,8,9,10] rfl ?_
      refine rounds_swap 1 4 1 (by decide) (by simp) (by decide) rfl rfl ?_
      refine rounds_drop 2 [0,1,2,8,9,10] (by decide) (by rfl) (by rfl) ?_
      refine rounds_next (m' := l.length - (i+1)) (by omega) ⟨i+1, rfl, by omega, .inl hz.2, ?_, ?_⟩
      · rw [wrap64 (by omega) (by omega), mateIx_t h2]; simp; try rfl
      rw [mateIx_t h2]; simp; try rfl)
 intro h25
 have hout : matesR pages l page = mateIx pages l page i := by
  by_cases hk : K.2 = true
  · obtain ⟨st, hst, hkr⟩ := kinds_some (pages := pages) (l := l) (by rw [← hK]; exact hk)
    obtain rfl : i = l.length := by simp [hk] at h25; omega
    unfold matesR; rw [hst]; rfl
  have hn := kinds_none (pages := pages) (l := l) (by rw [← hK]; simpa using hk)
  obtain rfl := hinv.resolve_left hk
  unfold matesR; rw [hn]; rfl
 refine W_exit (xT ?_)
 refine xH2 [6] ?_
 refine W_ret (xR (by simp [Tryz.f170]; exact .mk) ?_)
 simp [Tryz.f170, ownR, hout]; try rfl

open Go.Awp
theorem ct95 (g : Gl) (fr to : Int) (l : List (Int × Int)) (hl : l.length ≤ 2^40) : CtAt Tryz.prog g 95 [vI fr, vI to, rO l] (.v (.bool (gapsS fr to l))) := by
 refine xA Tryz.func95 fun B S => ?_
 refine xU ?_
 refine xH [0,1,2] ?_
 refine W_seq (xU ?_)
 refine xO3 ?_
 iterate 3 refine xI ?_
 refine xP ?_
 refine xB ?_
 iterate 2 refine xI ?_
 refine xP ?_
 refine xB ?_
 iterate 3 refine xI ?_
 refine xP ?_
 refine xB ?_
 iterate 3 refine xI ?_
 refine xP ?_
 refine xQ [0,1,2,30] ?_ ?_
 · intro h30
   have hr : gapsS fr to l = false := by
    have : gapsHead fr to = false := by simp [gapsHead]; simp at h30; grind
    simp [gapsS, this]
   refine xU ?_
   refine xH [6] ?_
   refine W_ret (xR (by simp [Tryz.f95]; exact .mk) ?_)
   simp [Tryz.f95, hr]
 intro h30
 have hh : 0 ≤ fr ∧ fr ≤ to ∧ to ≤ 2048 ∧ fr.tmod 4 = 0 ∧ to.tmod 4 = 0 := by simp at h30; grind
 have hr0 : gapsS fr to l = gapsOk to fr l := by
  have : gapsHead fr to = true := by simp [gapsHead]; grind
  simp [gapsS, this]
 refine W_skip ?_
 refine xT ?_
 refine xH2 [1,2,7] ?_
 refine W_seq (xU ?_)
 refine xH [1,2,7,8] ?_
 refine W_block (W_rounds (fun m σ o => ∃ (i : Nat) (a : Int), m = l.length - i ∧ i ≤ l.length ∧ (0 ≤ a ∧ a ≤ 2048) ∧ gapsOk to fr l = gapsOk to a (l.drop i) ∧ σ = slots [(1, .d (vI to)), (2, .d (rO l)), (7, .d (vI a)), (8, .d (vI i))] ∧ o = []) l.length .refl ⟨0, fr, by simp, by simp, ⟨by omega, by omega⟩, by simp, rfl, rfl⟩ ?_)
 rintro m σ o ⟨i, a, rfl, hi, ha, hgo, rfl, rfl⟩ _
 refine W_seq (xU ?_)
 refine xO4 ?_
 refine xQ [1,2,7,8,35] ?_ ?_
 · intro h35
   have hi2 : i < l.length := by simpa using h35
   rw [gapsOk_drop hi2] at hgo
   obtain ⟨p, hp⟩ : ∃ p, p = nth l i := ⟨_, rfl⟩
   rw [← hp] at hgo
   refine W_skip fun _ => ?_
   refine W_seq (W_block ?_)
   refine xU ?_
   refine xO2 ?_
   refine xO ?_ (h := by simp [eObj, hi2]; exact .mk)
   refine xO ?_ (h := by simp [-List.getElem?_map, map_get hi2, eObj, ← hp]; exact .mk)
   refine xO ?_
   refine xOs ?_
   refine xF [1,2,7,8,9] ?_
   refine W_seq (xU ?_)
   refine xO ?_
   refine xO ?_ (h := by simp [eObj]; exact .mk)
   refine xO3 ?_
   refine xI ?_
   refine xI ?_ (h := fun hb => by simp [eObj]; exact .mk)
   iterate 2 refine xI ?_
   refine xP ?_
   refine xB ?_
   refine xI ?_
   refine xI ?_ (h := fun hb => by simp [eObj]; exact .mk)
   refine xI ?_
   refine xP ?_
   refine xB ?_
   refine xI ?_
   refine xI ?_ (h := fun hb => by simp [eObj]; exact .mk)
   iterate 2 refine xI ?_
   refine xI ?_ (h := fun hb => by simp [eObj]; exact .mk)
   refine run_if rfl (by simp; exact .mk) rfl (by simp <;> first | omega | grind) (fun hb => by simp at hb; have w := wrap64 (x := to - p.1) (by omega) (by omega); simp [w]; exact .mk) ?_
   refine xI ?_
   refine xP ?_
   refine xB ?_
   refine xI ?_
   refine xI ?_ (h := fun hb => by simp [eObj]; exact .mk)
   iterate 2 refine xI ?_
   refine xP ?_
   refine xB ?_
   refine xI ?_
   refine xI ?_ (h := fun hb => by simp [eObj]; exact .mk)
   iterate 2 refine xI ?_
   refine xP ?_
   refine xQ [1,2,8,9,77] ?_ ?_
   · intro h77
     have hbad : gapBad to a p = true := by simp [gapBad]; simp at h77; grind
     have hr : gapsS fr to l = false := by rw [hr0, hgo, hbad]; rfl
     refine xU ?_
     refine xH [6] ?_
     refine W_ret (xR (by simp [Tryz.f95]; exact .mk) ?_)
     simp [Tryz.f95, hr]
   intro h77
   have hbad : gapBad to a p = false := by simp [gapBad]; simp at h77; grind
   rw [hbad] at hgo
   have hgb := gapBad_f hbad
   have w2 : IntKind.i64.wrap (p.1 + p.2) = p.1 + p.2 := wrap64 (by omega) (by omega)
   refine W_skip fun _ => ?_
   refine xY ?_
   refine xO ?_
   refine xO ?_ (h := by simp [eObj]; exact .mk)
   refine xO ?_
   refine xO ?_ (h := by simp [eObj]; exact .mk)
   refine xO ?_ (h := by simp [w2]; exact .mk)
   refine xH [1,2,7,8] ?_
   refine xY ?_
   refine xO3 ?_
   refine xE [1,2,7,8] ?_
   refine rounds_drop 0 [1,2,7,8] (by simp) (by simp) (by simp) ?_
   refine rounds_next (m' := l.length - (i+1)) (by omega) ⟨i+1, p.1 + p.2, rfl, by omega, ⟨by omega, by omega⟩, by simpa using hgo, ?_, rfl⟩
   rw [wrap64 (by omega) (by omega)]; rfl
 intro h35
 obtain rfl : i = l.length := by simp at h35; omega
 have hr : gapsS fr to l = true := by rw [hr0, hgo, List.drop_length]; rfl
 refine W_exit (xT ?_)
 refine xH [6] ?_
 refine W_ret (xR (by simp [Tryz.f95]; exact .mk) ?_)
 simp [Tryz.f95, hr]

theorem ct87 (g : Gl) (n : Int) : CtAt Tryz.prog g 87 [vI n] (.tup [vI (needS n).1, vI (needS n).2]) := by
 refine xA Tryz.func87 fun B S => ?_
 refine xU ?_
 refine xH2 [0] ?_
 refine W_seq (xU ?_)
 refine xO3 ?_
 iterate 2 refine xI ?_
 refine xP ?_
 refine xQ [0,10] ?_ ?_
 · intro h10
   have hr : needS n = (0, 1) := by unfold needS; rw [if_pos]; simp at h10; omega
   refine xU ?_
   refine xH2 [2,3] ?_
   refine W_ret (xR (by simp [Tryz.f87]; exact .mk) ?_)
   simp [Tryz.f87, hr]
 intro h10
 have hn : ¬ (n < 1 ∨ 2048 < n) := by simp at h10; omega
 have hr : needS n = (upS (2 + (n + 8 - 1).tdiv 8), 0) := by unfold needS; rw [if_neg hn]
 have w1 : IntKind.i64.wrap (n + 7) = n + 7 := wrap64 (by omega) (by omega)
 have d1 : (n + 8 - 1).tdiv 8 = (n + 7).tdiv 8 := by congr 1; omega
 have d2 : 0 ≤ (n + 7).tdiv 8 ∧ (n + 7).tdiv 8 ≤ 300 := by rw [Int.tdiv_eq_ediv_of_nonneg (by omega)]; omega
 rw [d1] at hr
 obtain ⟨w, hw⟩ : ∃ w, w = 2 + (n + 7).tdiv 8 := ⟨_, rfl⟩
 have w2 : IntKind.i64.wrap ((n + 7).tdiv 8) = (n + 7).tdiv 8 := wrap64 (by omega) (by omega)
 have w3 : IntKind.i64.wrap (2 + (n + 7).tdiv 8) = w := (wrap64 (by omega) (by omega)).trans hw.symm
 have hup : upS w = (w + 3) / 4 * 4 := by unfold upS; rw [Int.tdiv_eq_ediv_of_nonneg (by omega), show w + 4 - 1 = w + 3 by omega]
 rw [← hw, hup] at hr
 refine W_skip ?_
 refine xT ?_
 refine xO ?_
 refine xO ?_ (h := by simp [w1]; exact .mk)
 refine xO ?_ (h := by simp [w2]; exact .mk)
 refine xO ?_ (h := by simp [w3]; exact .mk)
 refine xH [4] ?_
 refine W_seq (W_block ?_)
 refine W_rounds (fun m σ o => ∃ v : Int, m = ((w + 3) / 4 * 4 - v).toNat ∧ w ≤ v ∧ v ≤ (w + 3) / 4 * 4 ∧ σ = slots [(4, .d (vI v))] ∧ o = []) ((w + 3) / 4 * 4 - w).toNat .refl ⟨w, rfl, by omega, by omega, rfl, rfl⟩ ?_
 rintro m σ o ⟨v, rfl, hv1, hv2, rfl, rfl⟩ _
 have w4 : IntKind.i64.wrap (v.tmod 4) = v.tmod 4 := by rw [Int.tmod_eq_emod_of_nonneg (by omega)]; exact wrap64 (by omega) (by omega)
 have w5 : v.tmod 4 = v % 4 := Int.tmod_eq_emod_of_nonneg (by omega)
 refine W_seq (xU ?_)
 refine xO ?_
 refine xO ?_ (h := by simp [w4]; exact .mk)
 refine xO ?_
 refine xQ [4,17] ?_ ?_
 · intro h17
   have hz : v % 4 ≠ 0 := by rw [← w5]; simpa using h17
   refine W_skip fun _ => ?_
   refine W_block ?_
   refine xY ?_
   refine xO3 ?_
   refine xE [4] ?_
   refine rounds_kill [4] ?_
   refine rounds_next (m' := ((w + 3) / 4 * 4 - (v+1)).toNat) (by omega) ⟨v+1, rfl, by omega, by omega, ?_, rfl⟩
   rw [wrap64 (by omega) (by omega)]; rfl
 intro h17
 have hz : v % 4 = 0 := by rw [← w5]; simpa using h17
 obtain rfl : v = (w + 3) / 4 * 4 := by omega
 refine W_exit (xT ?_)
 refine xH3 [2,3] ?_
 refine W_ret (xR (by simp [Tryz.f87]; exact .mk) ?_)
 simp [Tryz.f87, hr]

theorem ct96 (g : Gl) (l : List Blk) (hl : l.length ≤ 2^40) : CtAt Tryz.prog g 96 [rBk l] (oO (l.map spanOf)) := by
 refine xA Tryz.func96 fun B S => ?_
 refine xU ?_
 refine xO ?_
 refine xG [0] ?_
 refine xH [0,3] ?_
 refine W_seq (xU ?_)
 refine xH [0,3,4] ?_
 refine W_block (W_rounds (fun m σ o => ∃ i : Nat, m = l.length - i ∧ i ≤ l.length ∧ σ = slots [(0, .d (rBk l)), (3, .hdr 0 0 i), (4, .d (vI i))] ∧ o = [.row 2 ((l.take i).map fun b => eObj (spanOf b))]) l.length (Weak.trans (Weak.nilRow 3 2 rfl) (Weak.kills [0,3,4] rfl) (fun _ _ _ h1 h2 => by rw [← h1.len]; exact h2)) ⟨0, by simp, by simp, by simp, by simp⟩ ?_)
 rintro m σ o ⟨i, rfl, hi, rfl, rfl⟩ _
 refine W_seq (xU ?_)
 refine xO4 ?_
 refine xQ [0,3,4,8] ?_ ?_
 · intro h8
   have hi2 : i < l.length := by simpa using h8
   have e1 : (i + 1) * 16 ≤ 140737488355328 := by omega
   have e2 : i ≤ 140737488355327 := by omega
   have htk : (l.take i).length = i := by simp; omega
   refine W_skip fun _ => ?_
   refine W_seq (W_block ?_)
   refine W_regD (by kernel_rfl) [] 4 [0,1,2,3,4,5,6,7,8,9,10,11,12,13,14] (by decide +kernel) ?_
   refine xO3 ?_
   refine xO ?_ (h := by simp [eBlk, hi2]; exact .mk)
   refine xO ?_
   refine xO ?_ (h := by simp [-List.getElem?_map, map_get hi2, eBlk]; exact .mk)
   refine xO2 ?_
   refine xO ?_ (h := by simp [eBlk, hi2]; exact .mk)
   refine xO ?_
   refine xO ?_ (h := by simp [-List.getElem?_map, map_get hi2, eBlk]; exact .mk)
   refine xOs ?_
   refine xO ?_
   refine xO ?_ (h := by simp [rows, e1, e2, htk, Nat.min_eq_left hi]; exact .mk)
   refine xH [0,3,4] ?_
   refine xY ?_
   refine xO3 ?_
   refine xE [0,3,4] ?_
   refine rounds_kill [0,3,4] ?_
   refine rounds_kills [0,3,4] rfl ?_
   refine rounds_swap 0 2 1 (by decide) (by simp) (by decide) rfl rfl ?_
   refine rounds_drop 1 [0,3,4] (by decide) (by rfl) (by rfl) ?_
   refine rounds_next (m' := l.length - (i+1)) (by omega) ⟨i+1, rfl, by omega, ?_, ?_⟩
   · rw [wrap64 (by omega) (by omega)]; simp; try rfl
   rw [take_succ hi2]; simp [eObj, spanOf]; try rfl
 intro h8
 obtain rfl : i = l.length := by simp at h8; omega
 rw [List.take_of_length_le (by simp)]
 refine W_exit (xT ?_)
 refine xH2 [2] ?_
 refine W_ret (xR (by simp [Tryz.f96]; exact .mk) ?_)
 simp [Tryz.f96, ownR, Function.comp_def]; try rfl

theorem ct23 (g : Gl) (s : Stt) (hs : s.Ok) : CtAt Tryz.prog g 23 [eStt s] (.tup [oO (twosO s.slots), oI (twosI s.slots)]) := by
 refine xA Tryz.func23 fun B S => ?_
 simp only [eStt, List.map, argD_agg, argD_v]
 have q0 := hs.h1
 refine xU ?_
 refine xO3 ?_
 refine xG [1] ?_
 refine xO ?_
 refine xG [1,4] ?_
 refine xH [1,4,5] ?_
 refine W_seq (xU ?_)
 refine xH [1,4,5,6] ?_
 refine W_block (W_rounds (fun m σ o => ∃ i : Nat, m = s.slots.length - i ∧ i ≤ s.slots.length ∧ σ = slots [(1, .ptr 0 0 0), (4, .hdr 1 0 (twoIx s.slots i).length), (5, .hdr 2 0 (twoIx s.slots i).length), (6, .d (vI i))] ∧ o = [.var 28 [.d (vI s.sh.pages), .d (vI s.sh.slots), .d (vI s.sh.roots), .d (vI s.sh.room), .d (vI s.mode), .d (vI s.base), .d (rSl s.slots), .d (rR s.roots), .d (rBB s.data)], .row 2 ((twoIx s.slots i).map fun j => eObj (objAt s.slots j)), .row 1 ((twoIx s.slots i).map fun (j : Nat) => vI j)]) s.slots.length (Weak.trans (Weak.nilRow 4 2 rfl) (Weak.trans (Weak.nilRow 5 1 rfl) (Weak.kills [1,4,5,6] rfl) (fun _ _ _ h1 h2 => by rw [← h1.len]; exact h2)) (fun _ _ _ h1 h2 => by rw [← h1.len]; exact h2)) ⟨0, by simp, by simp, by simp [twoIx], by simp [twoIx]⟩ ?_)
 rintro m σ o ⟨i, rfl, hi, rfl, rfl⟩ _
 have hle := twoIx_len (l := s.slots) (i := i)
 refine W_seq (xU ?_)
 refine xO2 ?_
 refine xOl ?_
 refine xO2 ?_
 refine xQ [1,4,5,6,12] ?_ ?_
 · intro h12
   have hi2 : i < s.slots.length := by simpa using h12
   refine W_skip fun _ => ?_
   refine W_seq (W_block ?_)
   refine xU ?_
   refine xO ?_
   refine xOl ?_
   refine xO ?_
   refine xO ?_ (h := by simp [eSlot, hi2]; exact .mk)
   refine xO ?_ (h := by simp [-List.getElem?_map, map_get hi2, eSlot]; exact .mk)
   refine xO ?_
   refine xOs ?_
   refine xG [1,4,5,6,7] ?_
   refine xO ?_
   refine xOl ?_
   refine xO ?_
   refine xI ?_
   refine xI ?_ (h := fun hb => by simp [eSlot]; exact .mk)
   refine xP ?_
   refine xQ [1,4,5,6,7,25] ?_ ?_
   · intro h25
     have h2 : isTwo (nth s.slots i) = true := by simpa [isTwo] using h25
     have e1 : ((twoIx s.slots i).length + 1) * 16 ≤ 140737488355328 := by omega
     have e2 : (twoIx s.slots i).length ≤ 140737488355327 := by omega
     have e3 : ((twoIx s.slots i).length + 1) * 8 ≤ 140737488355328 := by omega
     refine xU ?_
     refine xO2 ?_
     refine xOl ?_
     refine xO ?_
     refine xOl ?_
     refine xOs ?_
     refine xO ?_
     refine xO ?_ (h := by simp [rows, e1, e2]; exact .mk)
     refine xH [1,4,5,6] ?_
     refine xY ?_
     refine xO3 ?_
     refine xO ?_ (h := by simp [rows, e3, e2]; exact .mk)
     refine xH [1,4,5,6] ?_
     refine xY ?_
     refine xO3 ?_
     refine xE [1,4,5,6] ?_
     refine rounds_kill [1,4,5,6] ?_
     first
     | (refine rounds_kills [1,4,5,6] rfl ?_
        refine rounds_drop 3 [1,4,5,6] (by decide) (by rfl) (by rfl) ?_
        refine rounds_next (m' := s.slots.length - (i+1)) (by omega) ⟨i+1, rfl, by omega, ?_, ?_⟩
        · rw [wrap64 (by omega) (by omega), twoIx_f h2]; rfl
        rw [twoIx_f h2]; rfl)
     | (refine rounds_kills [1,4,5,6] rfl ?_
        refine rounds_swap 1 5 1 (by decide) (by simp) (by decide) rfl rfl ?_
        refine rounds_swap 2 7 1 (by decide) (by simp) (by decide) rfl rfl ?_
        refine rounds_drop 3 [1,4,5,6] (by decide) (by rfl) (by rfl) ?_
        refine rounds_next (m' := s.slots.length - (i+1)) (by omega) ⟨i+1, rfl, by omega, ?_, ?_⟩
        · rw [wrap64 (by omega) (by omega), twoIx_t h2]; simp; try rfl
        rw [twoIx_t h2]; simp [eObj, objAt]; try rfl)
   intro h25
   have h2 : isTwo (nth s.slots i) = false := by simpa [isTwo] using h25
   refine W_skip fun _ => ?_
   refine xY ?_
   refine xO3 ?_
   refine xE [1,4,5,6] ?_
   refine rounds_kill [1,4,5,6] ?_
   first
   | (refine rounds_kills [1,4,5,6] rfl ?_
      refine rounds_drop 3 [1,4,5,6] (by decide) (by rfl) (by rfl) ?_
      refine rounds_next (m' := s.slots.length - (i+1)) (by omega) ⟨i+1, rfl, by omega, ?_, ?_⟩
      · rw [wrap64 (by omega) (by omega), twoIx_f h2]; rfl
      rw [twoIx_f h2]; rfl)
   | (refine rounds_kills [1,4,5,6] rfl ?_
      refine rounds_swap 1 5 1 (by decide) (by simp) (by decide) rfl rfl ?_
      refine rounds_swap 2 7 1 (by decide) (by simp) (by decide) rfl rfl ?_
      refine rounds_drop 3 [1,4,5,6] (by decide) (by rfl) (by rfl) ?_
      refine rounds_next (m' := s.slots.length - (i+1)) (by omega) ⟨i+1, rfl, by omega, ?_, ?_⟩
      · rw [wrap64 (by omega) (by omega), twoIx_t h2]; simp; try rfl
      rw [twoIx_t h2]; simp [eObj, objAt]; try rfl)
 intro h12
 obtain rfl : i = s.slots.length := by simp at h12; omega
 refine W_exit (xT ?_)
 refine xO4 ?_
 refine xF [2,3] ?_
 refine W_ret (xR (by simp [Tryz.f23]; exact .mk) ?_)
 simp [Tryz.f23, ownR, twosO, twosI]; try rfl

end Go.Proofs
