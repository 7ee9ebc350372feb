/- Contracts of the program's functions, each against a plain function over lists and numbers (it answers what that one answers, for arguments of at most 2^40 elements where a lemma says so), and plain facts about these. -/
import Derived.Test.YtokgokbgidgfeaaCG
set_option linter.all false
set_option maxHeartbeats 1000000
namespace Go.Proofs
open Go.Awp
theorem sameSlot_refl (x : Slot) : sameSlot x x = true := by simp [sameSlot]
theorem others_putAt {s : Stt} {k : Nat} {y : Slot} {d : List UInt8} (hk : k < s.slots.length) (hkd : k < s.data.length) : othersS s (putAt s k y d) k = true := by
  have h : (List.range (min s.slots.length s.data.length)).all (otherOk s (putAt s k y d) k) = true := all_good fun i hi => by
    unfold otherOk
    by_cases e : i = k
    · simp [e]
    · have e1 : nth (putAt s k y d).slots i = nth s.slots i := by
        show nth (s.slots.set k y) i = _
        rw [nth_set2 hk, if_neg (by omega)]
      have e2 : nth (putAt s k y d).data i = nth s.data i := by
        show nth (s.data.set k d) i = _
        rw [nth_set2 hkd, if_neg (by omega)]
      rw [e1, e2, sameSlot_refl]; simp
  unfold othersS
  rw [h]
  simp [putAt, sameShape]
theorem live_putAt {s : Stt} {k : Nat} {y : Slot} {d : List UInt8} (hk : k < s.slots.length) : (liveIx (putAt s k y d).slots (putAt s k y d).slots.length : Int) = liveIx s.slots s.slots.length + ((if y.live = true then 1 else 0) - (if (nth s.slots k).live = true then 1 else 0)) := by
  have : (putAt s k y d).slots.length = s.slots.length := by simp [putAt]
  rw [this]
  exact liveIx_set hk hk
theorem putS_cases {s : Stt} {n : Int} (he : (putS s n).2.2 = 0) : ∃ (k : Nat) (two : Bool) (a : Int), sttS s = true ∧ sizedN n = true ∧ nextS s.slots = some k ∧ firstP s n = some (two, a) ∧ putS s n = (putAt s k (newSlot (nth s.slots k).gen n two a) (zerosB n), ((k : Int), (nth s.slots k).gen), 0) := by
  unfold putS at he ⊢
  split at he
  · rename_i hr
    rw [if_pos hr]
    simp only [Bool.and_eq_true] at hr
    cases hk : nextS s.slots with
    | none => rw [hk] at he; cases he
    | some k =>
      rw [hk] at he
      simp only at he
      cases hp : firstP s n with
      | none => rw [hp] at he; cases he
      | some p => exact ⟨k, p.1, p.2, hr.1, hr.2, rfl, rfl, rfl⟩
  · cases he
theorem put_law {s : Stt} {n : Int} (he : (putS s n).2.2 = 0) : sttS (putS s n).1 = true ∧ othersS s (putS s n).1 (putS s n).2.1.1 = true ∧ (liveIx (putS s n).1.slots (putS s n).1.slots.length : Int) = liveIx s.slots s.slots.length + 1 := by
  obtain ⟨k, two, a, h, hn, hk, hp, e⟩ := putS_cases he
  obtain ⟨h1, h2⟩ := first_some hp
  obtain ⟨hkl, hko, _⟩ := nextS_spec hk
  have hkd : k < s.data.length := by rw [rowsS_len (sttS_rowsS h)]; exact hkl
  rw [e]
  refine ⟨put_right h hn hkl h1 h2, others_putAt hkl hkd, ?_⟩
  rw [live_putAt hkl, (openT_iff.1 hko).1]
  simp [newSlot]
theorem takeS_cases {s : Stt} {k : Int} (he : (takeS s k).2 = 0) : ∃ m : Nat, k = m ∧ liveS s m = true ∧ m < s.slots.length ∧ (nth s.slots m).live = true ∧ m < s.data.length ∧ takeS s k = (takeAt s m, 0) := by
  unfold takeS at he ⊢
  split at he
  · rename_i hr
    obtain ⟨m, rfl, h1, h2, h3, _⟩ := liveS_nat hr
    rw [if_pos hr]
    exact ⟨m, rfl, hr, h1, h2, h3, rfl⟩
  · cases he
theorem liveS_right {s : Stt} {k : Int} (h : liveS s k = true) : sttS s = true := by
  simp only [liveS, Bool.and_eq_true] at h; exact h.1
theorem take_law {s : Stt} {k : Int} (he : (takeS s k).2 = 0) : sttS (takeS s k).1 = true ∧ othersS s (takeS s k).1 k = true ∧ (liveIx (takeS s k).1.slots (takeS s k).1.slots.length : Int) = liveIx s.slots s.slots.length - 1 := by
  obtain ⟨m, rfl, h0, h1, h2, h3, e⟩ := takeS_cases he
  rw [e]
  refine ⟨take_right (liveS_right h0) h1, others_putAt (y := goneS (nth s.slots m)) (d := []) h1 h3, ?_⟩
  have := live_putAt (y := goneS (nth s.slots m)) (d := []) h1
  rw [show putAt s m (goneS (nth s.slots m)) [] = takeAt s m from rfl, h2] at this
  rw [this]; simp [goneS]; omega
theorem rszS_cases {s : Stt} {k n : Int} (he : (rszS s k n).2 = 0) : ∃ (m : Nat) (y : Slot), k = m ∧ liveS s m = true ∧ sizedN n = true ∧ m < s.slots.length ∧ (nth s.slots m).live = true ∧ m < s.data.length ∧
    rszS s k n = (putAt s m y (rszB (nth s.data m) n), 0) ∧ y.live = true ∧ y.len = n ∧ y.gen = (nth s.slots m).gen ∧ sttS (putAt s m y (rszB (nth s.data m) n)) = true := by
  unfold rszS at he ⊢
  split at he
  · rename_i hr
    rw [if_pos hr]
    simp only [Bool.and_eq_true] at hr
    obtain ⟨m, rfl, h1, h2, h3, _⟩ := liveS_nat hr.1
    simp only [Int.toNat_natCast] at he ⊢
    split at he
    · rename_i hq
      rw [if_pos hq]
      exact ⟨m, lenS (nth s.slots m) n, rfl, hr.1, hr.2, h1, h2, h3, rfl, h2, rfl, rfl, hq⟩
    · rename_i hq
      rw [if_neg hq]
      cases hp : firstP s n with
      | none => rw [hp] at he; cases he
      | some p =>
        obtain ⟨q1, q2⟩ := first_some (two := p.1) (a := p.2) hp
        have := size_right (liveS_right hr.1) hr.2 h1 h2 q1 q2
        rw [layAt_size h1 h2] at this
        exact ⟨m, newSlot (nth s.slots m).gen n p.1 p.2, rfl, hr.1, hr.2, h1, h2, h3, by simp only; rw [layAt_size h1 h2], rfl, rfl, rfl, this⟩
  · cases he
theorem nth_putAt {s : Stt} {k : Nat} {y : Slot} {d : List UInt8} (hk : k < s.slots.length) : nth (putAt s k y d).slots k = y := by
  show nth (s.slots.set k y) k = y
  rw [nth_set2 hk, if_pos rfl]
theorem rsz_law {s : Stt} {k n : Int} (he : (rszS s k n).2 = 0) : ∃ m : Nat, k = m ∧ m < s.slots.length ∧ m < (rszS s k n).1.slots.length ∧ m < s.data.length ∧ m < (rszS s k n).1.data.length ∧ sttS (rszS s k n).1 = true ∧ othersS s (rszS s k n).1 k = true ∧ (nth (rszS s k n).1.slots m).len = n ∧
    (nth (rszS s k n).1.slots m).gen = (nth s.slots m).gen ∧ liveIx (rszS s k n).1.slots (rszS s k n).1.slots.length = liveIx s.slots s.slots.length := by
  obtain ⟨m, y, rfl, h0, hn, h1, h2, h3, e, y1, y2, y3, hr⟩ := rszS_cases he
  rw [e]
  refine ⟨m, rfl, h1, by simpa [putAt] using h1, h3, by simpa [putAt] using h3, hr, others_putAt h1 h3, by rw [nth_putAt h1]; exact y2, by rw [nth_putAt h1]; exact y3, ?_⟩
  have := live_putAt (y := y) (d := rszB (nth s.data m) n) h1
  rw [y1, h2] at this
  simp only at this ⊢
  omega
theorem layAt_put {s : Stt} {m : Nat} {two : Bool} {a : Int} (hd : m < s.data.length) : layAt s m two a = putAt s m (atS (nth s.slots m) two a) (nth s.data m) := by
  unfold layAt putAt
  rw [nth_eq hd, List.set_getElem_self]
theorem moveS_cases {s : Stt} {k : Int} {two : Bool} {a : Int} (he : (moveS s k two a).2 = 0) : ∃ m : Nat, k = m ∧ liveS s m = true ∧ m < s.slots.length ∧ (nth s.slots m).live = true ∧ m < s.data.length ∧ moveS s k two a = (layAt s m two a, 0) ∧ sttS (layAt s m two a) = true := by
  unfold moveS at he ⊢
  split at he
  · rename_i hr
    obtain ⟨m, rfl, h1, h2, h3, _⟩ := liveS_nat hr
    rw [if_pos hr]
    simp only [Int.toNat_natCast] at he ⊢
    split at he
    · rename_i hq
      rw [if_pos hq]
      exact ⟨m, rfl, hr, h1, h2, h3, rfl, hq⟩
    · cases he
  · cases he
theorem move_law {s : Stt} {k : Int} {two : Bool} {a : Int} (he : (moveS s k two a).2 = 0) : ∃ m : Nat, k = m ∧ m < s.slots.length ∧ m < (moveS s k two a).1.slots.length ∧ m < s.data.length ∧ m < (moveS s k two a).1.data.length ∧ sttS (moveS s k two a).1 = true ∧ othersS s (moveS s k two a).1 k = true ∧
    (nth (moveS s k two a).1.slots m).at_ = a ∧ (nth (moveS s k two a).1.slots m).two = two ∧ nth (moveS s k two a).1.data m = nth s.data m := by
  obtain ⟨m, rfl, h0, h1, h2, h3, e, hr⟩ := moveS_cases he
  rw [e]
  refine ⟨m, rfl, h1, by simpa [layAt] using h1, h3, h3, hr, by rw [layAt_put h3]; exact others_putAt h1 h3, ?_, ?_, rfl⟩
  · rw [layAt_put h3, nth_putAt h1]; rfl
  · rw [layAt_put h3, nth_putAt h1]; rfl
/-- Moved and moved back. -/
theorem move_back {s : Stt} {k : Int} {two : Bool} {a : Int} (he : (moveS s k two a).2 = 0) : moveS (moveS s k two a).1 k (nth s.slots k.toNat).two (nth s.slots k.toNat).at_ = (s, 0) := by
  obtain ⟨m, rfl, h0, h1, h2, h3, e, hr⟩ := moveS_cases he
  have hs := liveS_right h0
  have hb : layAt (layAt s m two a) m (nth s.slots m).two (nth s.slots m).at_ = s := by
    unfold layAt
    simp only [List.set_set]
    rw [nth_set2 h1, if_pos rfl]
    have : atS (atS (nth s.slots m) two a) (nth s.slots m).two (nth s.slots m).at_ = nth s.slots m := rfl
    rw [this, nth_eq h1, List.set_getElem_self]
  rw [e]
  have hl : liveS (layAt s m two a) m = true := by
    simp only [liveS, hr, Bool.true_and, liveT, Bool.and_eq_true, decide_eq_true_eq]
    refine ⟨by omega, by simpa [layAt] using h1, ?_⟩
    rw [layAt_put h3, Int.toNat_natCast, nth_putAt h1]
    exact h2
  unfold moveS
  rw [if_pos hl]
  simp only [Int.toNat_natCast]
  rw [hb, if_pos hs]
theorem two_same {base a n1 n2 : Int} (h1 : (spotS base (a, n1)).2 = true) (h2 : (spotS base (a, n2)).2 = true) : ¬ apartS (spotS base (a, n1)).1 (spotS base (a, n2)).1 := by
  have g1 := (spot_words h1).good
  have g2 := (spot_words h2).good
  have key : ∀ n, (spotS base (a, n)).2 = true → (spotS base (a, n)).1.page = a.tdiv 32 ∧ ((spotS base (a, n)).1.small = true → (spotS base (a, n)).1.cell = (whichS (spotS base (a, n)).1.cls (a.tmod 32)).1) := by
    intro n hn
    unfold spotS at hn ⊢
    simp only at hn ⊢
    split at hn
    · cases hn
    · rename_i q
      rw [if_neg q]
      split
      · exact ⟨rfl, fun _ => rfl⟩
      · exact ⟨rfl, fun e => by cases e⟩
  obtain ⟨p1, c1⟩ := key n1 h1
  obtain ⟨p2, c2⟩ := key n2 h2
  have := g1.c1; have := g2.c1
  rintro (⟨s1, s2, s3, s4⟩ | h | h)
  · exact s4 (by rw [c1 s1, c2 s2, s3])
  · omega
  · omega
/-- Never onto another one. -/
theorem move_onto {s : Stt} {k o : Nat} (hs : sttS s = true) (hk : k < s.slots.length) (ho : o < s.slots.length) (hne : k ≠ o) (hlk : (nth s.slots k).live = true) (hlo : (nth s.slots o).live = true) : (moveS s k (nth s.slots o).two (nth s.slots o).at_).2 = 10 := by
  have hl : liveS s k = true := by
    simp only [liveS, hs, Bool.true_and, liveT, Bool.and_eq_true, decide_eq_true_eq]
    exact ⟨by omega, by omega, hlk⟩
  have hd : k < s.data.length := by rw [rowsS_len (sttS_rowsS hs)]; exact hk
  unfold moveS
  rw [if_pos hl]
  simp only [Int.toNat_natCast]
  split
  · rename_i hr
    exfalso
    rw [layAt_put hd] at hr
    obtain ⟨y, hy⟩ : ∃ y, y = atS (nth s.slots k) (nth s.slots o).two (nth s.slots o).at_ := ⟨_, rfl⟩
    rw [← hy] at hr
    obtain ⟨_, hrow, h3, h4⟩ := sttS_iff.1 hr
    have hyl : y.live = true := by rw [hy]; exact hlk
    have ek : nth (putAt s k y (nth s.data k)).slots k = y := nth_putAt hk
    have eo : nth (putAt s k y (nth s.data k)).slots o = nth s.slots o := by
      show nth (s.slots.set k y) o = _
      rw [nth_set2 hk, if_neg hne]
    have lk : k < (putAt s k y (nth s.data k)).slots.length := by simpa [putAt] using hk
    have lo : o < (putAt s k y (nth s.data k)).slots.length := by simpa [putAt] using ho
    have f1 := (h3 k lk (by rw [ek]; exact hyl)).1
    have f2 := (h3 o lo (by rw [eo]; exact hlo)).1
    rw [ek] at f1
    rw [eo] at f2
    have hc : clearS s.base y (nth s.slots o) := by
      rcases Nat.lt_or_gt_of_ne hne with q | q
      · have := h4 k o q lo (by rw [ek]; exact hyl) (by rw [eo]; exact hlo)
        rwa [ek, eo] at this
      · have := h4 o k q lk (by rw [eo]; exact hlo) (by rw [ek]; exact hyl)
        rw [ek, eo] at this
        exact clearS_symm this
    have hyt : y.two = (nth s.slots o).two := by rw [hy]; rfl
    have hya : y.at_ = (nth s.slots o).at_ := by rw [hy]; rfl
    cases ht : (nth s.slots o).two with
    | true =>
      rw [ht] at hyt
      unfold fitsS at f1 f2
      rw [if_pos hyt] at f1
      rw [if_pos ht, ← hya] at f2
      have := hc.1 hyt ht
      rw [← hya] at this
      exact two_same f1 f2 this
    | false =>
      rw [ht] at hyt
      have := hc.2 hyt ht
      have t1 := slotS1_live (tableS_slot (rowsS_t hrow) k lk) (by rw [ek]; exact hyl)
      have t2 := slotS1_live (tableS_slot (rowsS_t hrow) o lo) (by rw [eo]; exact hlo)
      rw [ek] at t1
      rw [eo] at t2
      have n1 := needS_pos t1.2.2
      have n2 := needS_pos t2.2.2
      unfold disjI at this
      simp only at this
      omega
  · rfl
end Go.Proofs

set_option maxHeartbeats 1000000
namespace Go.Proofs
open Go.Awp
theorem rsz_law2 {s : Stt} {k n : Int} (he : (rszS s k n).2 = 0) : ∃ m : Nat, k = m ∧ m < s.slots.length ∧ m < (rszS s k n).1.slots.length ∧ m < s.data.length ∧ m < (rszS s k n).1.data.length ∧ sttS (rszS s k n).1 = true ∧ othersS s (rszS s k n).1 k = true ∧ (nth (rszS s k n).1.slots m).len = n ∧
    (nth (rszS s k n).1.slots m).gen = (nth s.slots m).gen ∧ liveIx (rszS s k n).1.slots (rszS s k n).1.slots.length = liveIx s.slots s.slots.length ∧ nth (rszS s k n).1.data m = rszB (nth s.data m) n := by
  obtain ⟨m, h⟩ := rsz_law he
  refine ⟨m, h.1, h.2.1, h.2.2.1, h.2.2.2.1, h.2.2.2.2.1, h.2.2.2.2.2.1, h.2.2.2.2.2.2.1, h.2.2.2.2.2.2.2.1, h.2.2.2.2.2.2.2.2.1, h.2.2.2.2.2.2.2.2.2, ?_⟩
  obtain ⟨m2, y, e0, h0, hn, h1, h2, h3, e, _⟩ := rszS_cases he
  obtain rfl : m = m2 := by have := h.1; omega
  rw [e]
  show nth (s.data.set m _) m = _
  rw [nth_set2 h3, if_pos rfl]
theorem rsz_sized {s : Stt} {k n : Int} (he : (rszS s k n).2 = 0) : 1 ≤ n ∧ n ≤ 2048 := by
  obtain ⟨m2, y, e0, h0, hn, _⟩ := rszS_cases he
  exact sizedN_iff.1 hn
/-- An object stays where its new length fits. -/
theorem stay_law {s : Stt} {k n : Int} (he : (rszS s k n).2 = 0) : sttS (sizeAt s k.toNat n) = ((nth (rszS s k n).1.slots k.toNat).at_ == (nth s.slots k.toNat).at_ && (nth (rszS s k n).1.slots k.toNat).two == (nth s.slots k.toNat).two) := by
  unfold rszS at he ⊢
  split at he
  · rename_i hr
    rw [if_pos hr]
    simp only [Bool.and_eq_true] at hr
    obtain ⟨m, rfl, h1, h2, h3, _⟩ := liveS_nat hr.1
    simp only [Int.toNat_natCast] at he ⊢
    by_cases hq : sttS (sizeAt s m n) = true
    · rw [if_pos hq, hq]
      have : nth (sizeAt s m n).slots m = lenS (nth s.slots m) n := nth_putAt h1
      rw [this]; simp [lenS]
    · rw [if_neg hq] at he ⊢
      cases hp : firstP s n with
      | none => rw [hp] at he; cases he
      | some p =>
        obtain ⟨q1, q2⟩ := first_some (two := p.1) (a := p.2) hp
        have hz := size_right (liveS_right hr.1) hr.2 h1 h2 q1 q2
        simp only
        have en : nth (layAt (sizeAt s m n) m p.1 p.2).slots m = newSlot (nth s.slots m).gen n p.1 p.2 := by rw [layAt_size h1 h2]; exact nth_putAt h1
        rw [en]
        have hq' : sttS (sizeAt s m n) = false := by simpa using hq
        rw [hq']
        cases hb : ((newSlot (nth s.slots m).gen n p.1 p.2).at_ == (nth s.slots m).at_ && (newSlot (nth s.slots m).gen n p.1 p.2).two == (nth s.slots m).two) with
        | false => rfl
        | true =>
          exfalso
          simp only [newSlot, Bool.and_eq_true, beq_iff_eq] at hb
          apply hq
          have : layAt (sizeAt s m n) m p.1 p.2 = sizeAt s m n := by
            rw [layAt_size h1 h2, hb.1, hb.2]
            unfold sizeAt newSlot lenS
            rw [← h2]
          rw [← this]; exact hz
  · cases he
theorem foldNew {l : List Slot} {i : Nat} {gen n a : Int} {two : Bool} : (l.map eSlot).set i (D.agg [vI gen, vT true, vT two, vI a, vI n]) = (l.set i (newSlot gen n two a)).map eSlot := (List.map_set (f := eSlot) (a := newSlot gen n two a)).symm
theorem foldZer {l : List (List UInt8)} {m : Nat} {n : Int} : (l.map oB).set m (D.row M.own 1 (List.replicate n.toNat (D.v (.int .u8 0)))) = (l.set m (zerosB n)).map oB := by
  rw [show List.replicate n.toNat (D.v (.int .u8 0)) = (zerosB n).map vB by simp [zerosB]]
  exact foldData
theorem room_sized {s : Stt} {two : Bool} {n a : Int} (h : roomS s two n = some a) : 1 ≤ n ∧ n ≤ 2048 := by
  unfold roomS at h
  split at h
  · rename_i hr; simp only [Bool.and_eq_true] at hr; exact sizedN_iff.1 hr.2
  · cases h
end Go.Proofs

set_option maxHeartbeats 4000000
set_option maxRecDepth 4000
namespace Go.Proofs
open Go.Awp
theorem ct29 (g : Gl) : CtAt Try.prog g 29 [] (.v (.bool true)) := by
  refine ctAt_of_W Try.func29 rfl rfl (Nat.le_of_ble_eq_true rfl) fun B S => ?_
  refine xU ?_
  refine xO ?_
  refine xE [] ?_
  refine xT ?_
  refine run_op rfl rfl rfl (by simp [splice]; exact .mk) ?_
  refine run_call0 rfl rfl rfl rfl (by simp; exact .mk) (by simp; exact .mk) (by have := ct65 g sh1 1; rw [new_O] at this; exact this) (by simp) (by simp [oStt]; exact .mk) ?_
  iterate 4 refine xO ?_
  refine run_op rfl rfl rfl (by simp [splice]; exact .mk) ?_
  refine xO ?_
  refine xE [1, 2] ?_
  refine xT ?_
  refine xO ?_
  refine run_call0 rfl rfl rfl rfl (by simp; exact .mk) (by simp; exact .mk) (by have := ct30 g stO stO_ok 16; rw [put_A] at this; exact this) (by simp) (by simp [oStt]; exact .mk) ?_
  iterate 6 refine xO ?_
  iterate 2 (refine run_op rfl rfl rfl (by simp [splice]; exact .mk) ?_)
  refine xO ?_
  refine xE [2, 3, 4, 5] ?_
  refine xT ?_
  refine xO ?_
  refine run_call0 rfl rfl rfl rfl (by simp; exact .mk) (by simp; exact .mk) (by have := ct30 g stA stA_ok 16; rw [put_B] at this; exact this) (by simp) (by simp [oStt]; exact .mk) ?_
  iterate 6 refine xO ?_
  iterate 2 (refine run_op rfl rfl rfl (by simp [splice]; exact .mk) ?_)
  refine xO ?_
  refine xE [2, 4, 5, 6, 7, 8] ?_
  refine xT ?_
  refine xO ?_
  refine run_call0 rfl rfl rfl rfl (by simp; exact .mk) (by simp; exact .mk) (by have := ct33 g stB stB_ok 0 17; rw [rsz_C] at this; exact this) (by simp) (by simp [oStt]; exact .mk) ?_
  iterate 4 refine xO ?_
  refine run_op rfl rfl rfl (by simp [splice]; exact .mk) ?_
  refine xO ?_
  refine xE [2, 4, 5, 7, 8, 9, 10] ?_
  rintro -
  refine W_seq ?_
  refine xU ?_
  iterate 3 refine xO ?_
  iterate 2 refine xI ?_
  refine xP ?_
  refine xB ?_
  iterate 2 refine xI ?_
  refine xP ?_
  refine xB ?_
  iterate 2 refine xI ?_
  refine xP ?_
  refine xB ?_
  iterate 3 refine xI ?_
  refine run_if rfl (by simp; exact .mk) rfl (by simp <;> first | omega | grind) (fun hb => by simp [stC_len]; exact .mk) ?_
  refine xP ?_
  refine xE [4, 7, 9, 60] ?_
  rintro -
  refine W_cond rfl ?_ ?_
  · intro h60
    simp at h60
  intro h60
  refine W_skip ?_
  refine xT ?_
  refine run_op rfl rfl rfl (by simp [splice]; exact .mk) ?_
  refine run_call0 rfl rfl rfl rfl (by simp; exact .mk) (by simp; exact .mk) (by have := ct65 g sh1 2; rw [new_T] at this; exact this) (by simp) (by simp [oStt]; exact .mk) ?_
  iterate 4 refine xO ?_
  refine run_op rfl rfl rfl (by simp [splice]; exact .mk) ?_
  refine xO ?_
  refine xE [4, 7, 9, 11] ?_
  refine xT ?_
  refine xO ?_
  refine run_call0 rfl rfl rfl rfl (by simp; exact .mk) (by simp; exact .mk) (by have := ct30 g stT stT_ok 121; rw [put_U] at this; exact this) (by simp) (by simp [oStt]; exact .mk) ?_
  iterate 6 refine xO ?_
  iterate 2 (refine run_op rfl rfl rfl (by simp [splice]; exact .mk) ?_)
  refine xO ?_
  refine xE [4, 7, 9, 13, 15] ?_
  refine xT ?_
  refine xO ?_
  refine run_call0 rfl rfl rfl rfl (by simp; exact .mk) (by simp; exact .mk) (by have := ct30 g stU stU_ok 121; rw [put_V] at this; exact this) (by simp) (by simp [oStt]; exact .mk) ?_
  iterate 6 refine xO ?_
  iterate 2 (refine run_op rfl rfl rfl (by simp [splice]; exact .mk) ?_)
  refine xO ?_
  refine xE [4, 7, 9, 15, 18] ?_
  refine xT ?_
  refine xO ?_
  refine run_op rfl rfl rfl (by simp [splice]; exact .mk) ?_
  iterate 2 refine xO ?_
  refine xI ?_
  refine run_if rfl (by simp; exact .mk) rfl (by simp <;> first | omega | grind) (fun hb => by simp [splice]; exact .mk) ?_
  refine xI ?_
  refine xP ?_
  refine xB ?_
  iterate 2 refine xI ?_
  refine run_if rfl (by simp; exact .mk) rfl (by simp <;> first | omega | grind) (fun hb => by simp [stC_len]; exact .mk) ?_
  refine xI ?_
  refine run_if rfl (by simp; exact .mk) rfl (by simp <;> first | omega | grind) (fun hb => by simp [-List.getElem?_map, map_get (show 0 < stC.slots.length by rw [stC_len]; decide), eSlot]; exact .mk) ?_
  refine run_if rfl (by simp; exact .mk) rfl (by simp <;> first | omega | grind) (fun hb => by simp [stC_0]; exact .mk) ?_
  refine xP ?_
  refine xB ?_
  iterate 2 refine xI ?_
  refine run_if rfl (by simp; exact .mk) rfl (by simp <;> first | omega | grind) (fun hb => by simp [stC_len]; exact .mk) ?_
  refine xI ?_
  refine run_if rfl (by simp; exact .mk) rfl (by simp <;> first | omega | grind) (fun hb => by simp [-List.getElem?_map, map_get (show 1 < stC.slots.length by rw [stC_len]; decide), eSlot]; exact .mk) ?_
  refine run_if rfl (by simp; exact .mk) rfl (by simp <;> first | omega | grind) (fun hb => by simp [stC_1]; exact .mk) ?_
  refine xP ?_
  refine xB ?_
  iterate 2 refine xI ?_
  refine xP ?_
  refine xB ?_
  iterate 2 refine xI ?_
  refine xP ?_
  refine xB ?_
  refine xE [0] ?_
  rintro -
  refine W_ret ?_
  refine xR (by simp [Try.f29]; exact .mk) ?_
  simp [nrmR, nrmRs, nrmK, kindsOf, kinds, Try.f29]

end Go.Proofs

set_option maxHeartbeats 4000000
set_option maxRecDepth 4000
namespace Go.Proofs
open Go.Awp
theorem ct36 (g : Gl) (a b : Stt) (ha : a.Ok) (hb : b.Ok) (k : Int) : CtAt Try.prog g 36 [eStt a, eStt b, vI k] (.v (.bool (othersS a b k))) := by
  refine ctAt_of_W Try.func36 rfl rfl (Nat.le_of_ble_eq_true rfl) fun B S => ?_
  simp only [eStt, List.map, argD_agg, argD_v]
  have q0 := ha.h1
  refine xU ?_
  iterate 3 refine xO ?_
  refine xE [2, 3, 4] ?_
  rintro -
  refine W_seq ?_
  refine xU ?_
  refine xO ?_
  refine run_op rfl rfl rfl (by simp [eSlot]; exact .mk) ?_
  iterate 2 refine xO ?_
  refine run_op rfl rfl rfl (by simp [eSlot]; exact .mk) ?_
  iterate 3 refine xO ?_
  refine xI ?_
  refine run_if rfl (by simp; exact .mk) rfl (by simp <;> first | omega | grind) (fun hb => by simp [eSlot]; exact .mk) ?_
  iterate 2 refine xI ?_
  refine run_if rfl (by simp; exact .mk) rfl (by simp <;> first | omega | grind) (fun hb => by simp [eSlot]; exact .mk) ?_
  iterate 2 refine xI ?_
  refine xP ?_
  refine xB ?_
  refine xI ?_
  refine run_if rfl (by simp; exact .mk) rfl (by simp <;> first | omega | grind) (fun hb => by simp [eSlot]; exact .mk) ?_
  refine xI ?_
  refine run_if rfl (by simp; exact .mk) rfl (by simp <;> first | omega | grind) (fun hb => by simp [eSlot]; exact .mk) ?_
  refine xI ?_
  refine xP ?_
  refine xB ?_
  refine xI ?_
  refine run_if rfl (by simp; exact .mk) rfl (by simp <;> first | omega | grind) (fun hb => by simp [eSlot]; exact .mk) ?_
  refine xI ?_
  refine run_if rfl (by simp; exact .mk) rfl (by simp <;> first | omega | grind) (fun hb => by simp [eSlot]; exact .mk) ?_
  refine xI ?_
  refine xP ?_
  refine xB ?_
  refine xI ?_
  refine run_if rfl (by simp; exact .mk) rfl (by simp <;> first | omega | grind) (fun hb => by simp [eSlot]; exact .mk) ?_
  refine xI ?_
  refine run_if rfl (by simp; exact .mk) rfl (by simp <;> first | omega | grind) (fun hb => by simp [eSlot]; exact .mk) ?_
  refine xI ?_
  refine xP ?_
  refine xE [2, 3, 4, 44] ?_
  rintro -
  refine W_cond rfl ?_ ?_
  · intro h44
    have hr : othersS a b k = false := by simp [othersS, sameShape] at *; grind
    refine xU ?_
    refine xO ?_
    refine xE [6] ?_
    rintro -
    refine W_ret ?_
    refine xR (by simp [Try.f36]; exact .mk) ?_
    simp [nrmR, nrmRs, nrmK, kindsOf, kinds, Try.f36, hr]
  intro h44
  have hh : a.slots.length = b.slots.length ∧ a.data.length = b.data.length ∧ a.mode = b.mode ∧ a.base = b.base ∧ sameShape a.sh b.sh = true := by simp [sameShape] at *; grind
  have hr0 : othersS a b k = (List.range (min a.slots.length a.data.length)).all (otherOk a b k) := by simp [othersS, hh]
  obtain ⟨hl1, hl2, _, _, _⟩ := hh
  clear h44
  refine W_skip ?_
  rintro -
  refine W_seq ?_
  refine xU ?_
  refine xO ?_
  refine xE [2, 3, 4, 7] ?_
  rintro -
  refine W_block ?_
  refine W_rounds (fun m σ o => ∃ i : Nat, m = a.slots.length - i ∧ i ≤ a.slots.length ∧ i ≤ a.data.length ∧ (∀ j, j < i → otherOk a b k j = true) ∧ σ = slots [(2, .d (vI k)), (3, .ptr 0 0 0), (4, .ptr 1 0 0), (7, .d (vI i))] ∧ o = [.var 52 [.d (vI a.sh.pages), .d (vI a.sh.slots), .d (vI a.sh.roots), .d (vI a.sh.room), .d (vI a.mode), .d (vI a.base), .d (rSl a.slots), .d (rR a.roots), .d (rBB a.data)], .var 52 [.d (vI b.sh.pages), .d (vI b.sh.slots), .d (vI b.sh.roots), .d (vI b.sh.room), .d (vI b.mode), .d (vI b.base), .d (rSl b.slots), .d (rR b.roots), .d (rBB b.data)]]) a.slots.length .refl ⟨0, by simp, by simp, by simp, by simp, rfl, rfl⟩ ?_
  rintro m σ o ⟨i, rfl, hi, hid, hinv, rfl, rfl⟩ _
  refine W_seq ?_
  refine xU ?_
  iterate 2 refine xO ?_
  refine run_op rfl rfl rfl (by simp [eSlot]; exact .mk) ?_
  iterate 3 refine xO ?_
  iterate 2 refine xI ?_
  refine run_if rfl (by simp; exact .mk) rfl (by simp <;> first | omega | grind) (fun hb => by simp [eSlot]; exact .mk) ?_
  iterate 2 refine xI ?_
  refine xP ?_
  refine xE [2, 3, 4, 7, 56] ?_
  rintro -
  refine W_cond rfl ?_ ?_
  · intro h56
    have hi2 : i < a.slots.length ∧ i < a.data.length := by simp at h56; omega
    obtain ⟨hi2, hi3⟩ := hi2
    have hi4 : i < b.slots.length := by omega
    have hi5 : i < b.data.length := by omega
    refine W_skip ?_
    rintro -
    refine W_seq ?_
    refine W_block ?_
    refine W_seq ?_
    refine W_regD (by kernel_rfl) [] 4 [0, 1, 2, 3, 4, 5, 6, 7, 8, 9, 10, 11, 12, 13, 14, 15, 16, 17, 18, 19, 20, 22, 23, 24, 25, 26, 21, 27, 28, 29, 30] (by decide +kernel) ?_
    iterate 4 refine xO ?_
    refine xI ?_
    refine run_if rfl (by simp; exact .mk) rfl (by simp <;> first | omega | grind) (fun hb => by simp [eSlot]; exact .mk) ?_
    refine xI ?_
    refine run_if rfl (by simp; exact .mk) rfl (by simp <;> first | omega | grind) (fun hb => by simp [eSlot, hi2]; exact .mk) ?_
    refine run_if rfl (by simp; exact .mk) rfl (by simp <;> first | omega | grind) (fun hb => by simp [-List.getElem?_map, map_get hi2, eSlot]; exact .mk) ?_
    refine xI ?_
    refine run_if rfl (by simp; exact .mk) rfl (by simp <;> first | omega | grind) (fun hb => by simp [eSlot]; exact .mk) ?_
    refine xI ?_
    refine run_if rfl (by simp; exact .mk) rfl (by simp <;> first | omega | grind) (fun hb => by simp [eSlot, hi4]; exact .mk) ?_
    refine run_if rfl (by simp; exact .mk) rfl (by simp <;> first | omega | grind) (fun hb => by simp [-List.getElem?_map, map_get hi4, eSlot]; exact .mk) ?_
    iterate 3 refine xI ?_
    refine run_if rfl (by simp; exact .mk) rfl (by simp <;> first | omega | grind) (fun hb => by simp [eSlot]; exact .mk) ?_
    refine xI ?_
    refine run_if rfl (by simp; exact .mk) rfl (by simp <;> first | omega | grind) (fun hb => by simp [eSlot, hi3]; exact .mk) ?_
    refine run_if rfl (by simp; exact .mk) rfl (by simp <;> first | omega | grind) (fun hb => by simp [-List.getElem?_map, map_get hi3]; exact .mk) ?_
    refine xI ?_
    refine run_if rfl (by simp; exact .mk) rfl (by simp <;> first | omega | grind) (fun hb => by simp [eSlot]; exact .mk) ?_
    refine xI ?_
    refine run_if rfl (by simp; exact .mk) rfl (by simp <;> first | omega | grind) (fun hb => by simp [eSlot, hi5]; exact .mk) ?_
    refine run_if rfl (by simp; exact .mk) rfl (by simp <;> first | omega | grind) (fun hb => by simp [-List.getElem?_map, map_get hi5]; exact .mk) ?_
    iterate 2 (refine run_if rfl (by simp; exact .mk) rfl (by simp <;> first | omega | grind) (fun hb => by simp [conv_rB]; exact .mk) ?_)
    refine xI ?_
    iterate 2 refine xP ?_
    refine xE [2, 3, 4, 7, 89] ?_
    rintro -
    refine W_cond rfl ?_ ?_
    · intro h89
      have hr : othersS a b k = false := by rw [hr0]; exact all_bad (i := i) (by omega) (by simp [otherOk, sameSlot] at *; grind)
      refine xU ?_
      refine xO ?_
      refine xE [6] ?_
      rintro -
      refine W_ret ?_
      refine xR (by simp [Try.f36]; exact .mk) ?_
      simp [nrmR, nrmRs, nrmK, kindsOf, kinds, Try.f36, hr]
    intro h89
    refine W_skip ?_
    rintro -
    refine W_reg rfl ?_
    iterate 3 refine xO ?_
    refine xE [2, 3, 4, 7] ?_
    refine rounds_kill [2, 3, 4, 7] ?_
    refine rounds_next (m' := a.slots.length - (i+1)) (by omega) ⟨i+1, rfl, by omega, by omega, ?_, ?_, rfl⟩
    · intro j hj
      rcases Nat.lt_succ_iff_lt_or_eq.1 hj with hj | rfl
      · exact hinv j hj
      simp [otherOk, sameSlot] at *; grind
    rw [wrap64 (by omega) (by omega)]; rfl
  intro h56
  have hr : othersS a b k = true := by rw [hr0]; exact all_good fun j hj => hinv j (by simp at h56; omega)
  refine W_exit ?_
  refine xT ?_
  refine xO ?_
  refine xE [6] ?_
  rintro -
  refine W_ret ?_
  refine xR (by simp [Try.f36]; exact .mk) ?_
  simp [nrmR, nrmRs, nrmK, kindsOf, kinds, Try.f36, hr]

end Go.Proofs

set_option maxHeartbeats 4000000
set_option maxRecDepth 4000
namespace Go.Proofs
open Go.Awp
theorem ct6 (g : Gl) (s : Stt) (two : Bool) (k n : Int) : CtAt Try.prog g 6 [eStt s, vT two, vI k, vI n] (.v (.bool true)) := by
  refine ctAt_of_W Try.func6 rfl rfl (Nat.le_of_ble_eq_true rfl) fun B S => ?_
  simp only [eStt, List.map, argD_agg, argD_v]
  refine xU ?_
  iterate 2 refine xO ?_
  refine xE [1, 2, 3, 4] ?_
  refine xT ?_
  refine run_call0 rfl rfl rfl rfl (by simp; exact .mk) (by simp [row_rows, Function.comp_def]; exact .mk) (ct29 g) (by simp) (by simp [oStt]; exact .mk) ?_
  refine xO ?_
  refine xE [1, 2, 3, 4, 9] ?_
  refine xT ?_
  refine run_op rfl rfl rfl (by simp [eSlot]; exact .mk) ?_
  refine run_call0 rfl rfl rfl rfl (by simp; exact .mk) (by simp [row_rows, Function.comp_def]; exact .mk) (ct22 g s) (by simp) (by simp [oStt]; exact .mk) ?_
  refine xO ?_
  refine xE [1, 2, 3, 4, 9, 10] ?_
  rintro -
  refine W_seq ?_
  refine xU ?_
  iterate 3 refine xO ?_
  refine run_if rfl (by simp; exact .mk) rfl (by simp <;> first | omega | grind) (fun hb => by simp [eSlot]; exact .mk) ?_
  refine run_call rfl (by simp; exact .mk) rfl rfl (by simp) (by simp; exact .mk) (by simp [row_rows, Function.comp_def]; exact .mk) (fun hb => ct28 g s (fewStt_ok (by simpa using hb))) (by simp) (by simp [oStt]; exact .mk) (by simp) ?_
  refine xI ?_
  refine xP ?_
  refine xE [1, 2, 3, 4, 9, 28] ?_
  rintro -
  refine W_cond rfl ?_ ?_
  · intro h28
    refine xU ?_
    iterate 2 refine xO ?_
    refine xE [8] ?_
    rintro -
    refine W_ret ?_
    refine xR (by simp [Try.f6]; exact .mk) ?_
    first | (simp [nrmR, nrmRs, nrmK, kindsOf, kinds, Try.f6]; done) | (simp [nrmR, nrmRs, nrmK, kindsOf, kinds, Try.f6, hr]; done) | (simp [nrmR, nrmRs, nrmK, kindsOf, kinds, Try.f6, hPR]; done)
  intro h28
  have hF : fewStt s = true ∧ sttS s = true := by simp at h28; grind
  have hs := fewStt_ok hF.1
  have q0 := hs.h1
  have hR := hF.2
  have hdl := rowsS_len (sttS_rowsS hR)
  refine W_skip ?_
  refine xT ?_
  refine run_op rfl rfl rfl (by simp [eSlot]; exact .mk) ?_
  iterate 2 refine xO ?_
  refine run_call0 rfl rfl rfl rfl (by simp; exact .mk) (by simp [row_rows, Function.comp_def]; exact .mk) (ct32 g s hs two n) (by simp) (by simp [oStt]; exact .mk) ?_
  iterate 5 refine xO ?_
  refine xE [1, 2, 3, 4, 9, 11, 12] ?_
  rintro -
  refine W_seq ?_
  have c33 := ct33 g s hs k n
  obtain ⟨F, hF⟩ : ∃ X, X = (rszS s k n).1 := ⟨_, rfl⟩
  have hFo : F.Ok := by rw [hF]; exact rszS_ok hs
  rw [← hF] at c33
  refine W_reg rfl ?_
  refine run_op rfl rfl rfl (by simp [eSlot]; exact .mk) ?_
  iterate 2 refine xO ?_
  refine run_call0 rfl rfl rfl rfl (by simp; exact .mk) (by simp [row_rows, Function.comp_def]; exact .mk) (c33) (by simp) (by simp [oStt]; exact .mk) ?_
  iterate 4 refine xO ?_
  refine run_op rfl rfl rfl (by simp [splice]; exact .mk) ?_
  refine xO ?_
  refine xE [1, 2, 3, 4, 9, 11, 12, 13, 14] ?_
  rintro -
  refine W_seq ?_
  refine W_seq ?_
  by_cases he : (rszS s k n).2 = 0
  · skip
    obtain ⟨m, hkm, l1, l2, l3, l4, l5, l6, l7, l8, l9, l10⟩ := rsz_law2 he
    rw [← hF] at l2 l4 l5 l6 l7 l8 l9 l10
    have hstay := stay_law he
    rw [← hF, show k.toNat = m by omega] at hstay
    have hn := rsz_sized he
    have e1 : (nth F.data m).length ≤ 140737488355328 := by have := hFo.h4 m l4; omega
    refine W_reg rfl ?_
    iterate 2 refine xO ?_
    refine xE [1, 2, 3, 4, 9, 11, 12, 13, 45] ?_
    rintro -
    refine W_cond rfl ?_ ?_
    · intro h45
      refine xU ?_
      refine run_op rfl rfl rfl (by simp [eSlot]; exact .mk) ?_
      refine run_call0 rfl rfl rfl rfl (by simp; exact .mk) (by simp [row_rows, Function.comp_def]; exact .mk) (ct34 g s hs) (by simp) (by simp [oStt]; exact .mk) ?_
      refine xO ?_
      refine run_op rfl rfl rfl (by simp [splice]; exact .mk) ?_
      refine xE [1, 2, 3, 4, 9, 11, 12, 13, 15] ?_
      refine xT ?_
      refine xO ?_
      refine run_op rfl rfl rfl (by simp [eSlot]; exact .mk) ?_
      iterate 2 refine xO ?_
      refine run_op rfl rfl rfl (by simp [eSlot, hkm, l1]; exact .mk) ?_
      refine xO ?_
      refine run_op rfl rfl rfl (by simp [-List.getElem?_map, map_get l1, eSlot, nrmL, nrm, putC, splice]; exact .mk) ?_
      refine xE [1, 2, 3, 4, 9, 11, 12, 13, 15] ?_
      rintro -
      refine W_seq ?_
      refine W_regDT (hard := []) [1, 3, 9] (keepOk_lt (by decide)) (by kernel_rfl) 4 [[0, 1, 2, 4, 5, 6, 7, 8, 3, 9, 10, 11], [0, 2, 4, 5, 6, 7, 8, 3, 1, 9, 10, 11], [0, 2, 4, 5, 6, 7, 8, 3, 9, 1, 10, 11]] (by decide +kernel) ⟨?_, ?_, ?_, trivial⟩
      · skip
        refine xO ?_
        refine run_op rfl rfl rfl (by simp [eSlot]; exact .mk) ?_
        iterate 2 refine xO ?_
        refine run_op rfl rfl rfl (by simp [eSlot]; exact .mk) ?_
        refine xO ?_
        refine run_op rfl rfl rfl (by simp [eSlot, hkm, l4]; exact .mk) ?_
        refine run_op rfl rfl rfl (by simp [hkm, -List.getElem?_map, map_get l4, eSlot]; exact .mk) ?_
        refine xO ?_
        refine run_op rfl rfl rfl (by simp [snR, e1]; exact .mk) ?_
        refine run_op rfl rfl rfl (by simp [eSlot, hkm, l3]; exact .mk) ?_
        refine run_op rfl rfl rfl (by simp [hkm, -List.getElem?_map, map_get l3]; exact .mk) ?_
        refine xE [1, 2, 3, 4, 9, 11, 12, 13, 15] ?_
        erw [putC_own1]
        simp only [foldSlot, foldData]
        obtain ⟨SL, hSL⟩ : ∃ x, x = s.slots.set m (lenS (nth s.slots m) n) := ⟨_, rfl⟩
        obtain ⟨DL, hDL⟩ : ∃ x, x = s.data.set m (nth F.data m) := ⟨_, rfl⟩
        have hX : sizeAt s m n = ⟨s.sh, s.mode, s.base, SL, s.roots, DL⟩ := by rw [hSL, hDL, l10]; rfl
        rw [show s.slots.length = (s.slots.set m (lenS (nth s.slots m) n)).length by simp, show s.data.length = (s.data.set m (nth F.data m)).length by simp, ← hSL, ← hDL]
        have hXo := sizeAt_ok (m := m) hs hn
        rw [hX] at hXo hstay
        rintro -
        refine W_seq ?_
        refine W_regD (by kernel_rfl) [] 12 [0, 1, 2, 3, 4, 5, 6, 7, 8, 9, 10, 11, 12, 13, 14, 15, 16, 17, 18, 19, 20, 21, 22, 23, 24, 25, 26, 27, 28] (by decide +kernel) ?_
        refine xO ?_
        refine run_op rfl rfl rfl (by simp [eSlot]; exact .mk) ?_
        refine xO ?_
        refine run_op rfl rfl rfl (by simp [eSlot, hkm, l2]; exact .mk) ?_
        refine xO ?_
        refine run_op rfl rfl rfl (by simp [hkm, -List.getElem?_map, map_get l2, eSlot]; exact .mk) ?_
        refine xO ?_
        refine run_op rfl rfl rfl (by simp [eSlot]; exact .mk) ?_
        refine xO ?_
        refine run_op rfl rfl rfl (by simp [eSlot, hkm, l1]; exact .mk) ?_
        refine xO ?_
        refine run_op rfl rfl rfl (by simp [hkm, -List.getElem?_map, map_get l1, eSlot]; exact .mk) ?_
        iterate 2 refine xO ?_
        refine xI ?_
        refine run_if rfl (by simp; exact .mk) rfl (by simp <;> first | omega | grind) (fun hb => by simp [eSlot]; exact .mk) ?_
        refine xI ?_
        refine run_if rfl (by simp; exact .mk) rfl (by simp <;> first | omega | grind) (fun hb => by simp [eSlot, hkm, l2]; exact .mk) ?_
        refine xI ?_
        refine run_if rfl (by simp; exact .mk) rfl (by simp <;> first | omega | grind) (fun hb => by simp [hkm, -List.getElem?_map, map_get l2, eSlot]; exact .mk) ?_
        refine xI ?_
        refine run_if rfl (by simp; exact .mk) rfl (by simp <;> first | omega | grind) (fun hb => by simp [eSlot]; exact .mk) ?_
        refine xI ?_
        refine run_if rfl (by simp; exact .mk) rfl (by simp <;> first | omega | grind) (fun hb => by simp [eSlot, hkm, l1]; exact .mk) ?_
        refine xI ?_
        refine run_if rfl (by simp; exact .mk) rfl (by simp <;> first | omega | grind) (fun hb => by simp [hkm, -List.getElem?_map, map_get l1, eSlot]; exact .mk) ?_
        refine xI ?_
        refine xP ?_
        refine xB ?_
        refine xE [1, 3, 4, 9, 11, 12, 13, 15, 16] ?_
        refine xT ?_
        refine run_op rfl rfl rfl (by simp [eSlot]; exact .mk) ?_
        refine run_call0 rfl rfl rfl rfl (by simp; exact .mk) (by simp [row_rows, Function.comp_def]; exact .mk) (ct28 g ⟨s.sh, s.mode, s.base, SL, s.roots, DL⟩ hXo) (by simp) (by simp [oStt]; exact .mk) ?_
        iterate 3 refine xO ?_
        iterate 2 refine xI ?_
        iterate 2 (refine run_if rfl (by simp; exact .mk) rfl (by simp <;> first | omega | grind) (fun hb => by simp [eSlot]; exact .mk) ?_)
        refine run_call rfl (by simp; exact .mk) rfl rfl (by simp) (by simp; exact .mk) (by simp [row_rows, Function.comp_def]; exact .mk) (fun hb => ct35 g ⟨s.sh, s.mode, s.base, SL, s.roots, DL⟩ F hXo) (by simp) (by simp [oStt]; exact .mk) (by simp) ?_
        refine xP ?_
        refine xI ?_
        refine xP ?_
        refine xE [1, 3, 4, 9, 11, 12, 105] ?_
        rintro -
        refine W_cond rfl ?_ ?_
        · intro h105
          simp [hstay, hkm] at h105
        intro h105
        refine W_skip ?_
        rintro -
        refine W_seq ?_
        refine xU ?_
        iterate 2 refine xO ?_
        refine xE [1, 3, 4, 9, 11, 107] ?_
        rintro -
        refine W_cond rfl ?_ ?_
        · intro h107
          have hr : roomS s two n = none := by simpa using h107
          refine xU ?_
          iterate 2 refine xO ?_
          iterate 2 refine xI ?_
          refine xP ?_
          refine xB ?_
          refine xE [8] ?_
          rintro -
          refine W_ret ?_
          refine xR (by simp [Try.f6]; exact .mk) ?_
          first | (simp [nrmR, nrmRs, nrmK, kindsOf, kinds, Try.f6]; done) | (simp [nrmR, nrmRs, nrmK, kindsOf, kinds, Try.f6, hr]; done) | (simp [nrmR, nrmRs, nrmK, kindsOf, kinds, Try.f6, hPR]; done)
        intro h107
        obtain ⟨a, hr⟩ : ∃ a, roomS s two n = some a := Option.isSome_iff_exists.1 (by simpa using h107)
        rw [hr]
        have hn2 := room_sized hr
        have e3 : 0 ≤ n := by omega
        have e4 : n ≤ 140737488355328 := by omega
        refine W_skip ?_
        rintro -
        refine W_seq ?_
        refine xU ?_
        refine xO ?_
        refine xE [1, 3, 4, 9, 11, 17] ?_
        rintro -
        refine W_block ?_
        refine W_rounds (fun f σ o => ∃ i : Nat, f = s.slots.length - i ∧ i ≤ s.slots.length ∧ σ = slots [(1, .d (vT two)), (3, .d (vI n)), (4, .ptr 0 0 0), (9, .d (vT true)), (11, .d (vI a)), (17, .d (vI i))] ∧ o = [.var 52 [.d (vI s.sh.pages), .d (vI s.sh.slots), .d (vI s.sh.roots), .d (vI s.sh.room), .d (vI s.mode), .d (vI s.base), .d (rSl s.slots), .d (rR s.roots), .d (rBB s.data)]]) s.slots.length (Weak.drop (m := 1) [1, 3, 4, 9, 11, 17] (by decide) rfl rfl) ⟨0, by simp, by simp, rfl, rfl⟩ ?_
        rintro f σ o ⟨i, rfl, hi, rfl, rfl⟩ _
        refine W_seq ?_
        refine xU ?_
        iterate 2 refine xO ?_
        refine run_op rfl rfl rfl (by simp [eSlot]; exact .mk) ?_
        iterate 2 refine xO ?_
        refine xE [1, 3, 4, 9, 11, 17, 117] ?_
        rintro -
        refine W_cond rfl ?_ ?_
        · intro h117
          have hi2 : i < s.slots.length := by simpa using h117
          have hi3 : i < s.data.length := by omega
          refine W_skip ?_
          rintro -
          refine W_seq ?_
          refine W_block ?_
          refine xU ?_
          refine xO ?_
          refine run_op rfl rfl rfl (by simp [eSlot]; exact .mk) ?_
          refine xO ?_
          refine run_op rfl rfl rfl (by simp [eSlot, hi2]; exact .mk) ?_
          refine xO ?_
          refine run_op rfl rfl rfl (by simp [eSlot]; exact .mk) ?_
          iterate 2 refine xO ?_
          refine xI ?_
          refine run_if rfl (by simp; exact .mk) rfl (by simp <;> first | omega | grind) (fun hb => by simp [eSlot]; exact .mk) ?_
          refine xI ?_
          refine run_if rfl (by simp; exact .mk) rfl (by simp <;> first | omega | grind) (fun hb => by simp [eSlot, hi2]; exact .mk) ?_
          refine xI ?_
          refine run_if rfl (by simp; exact .mk) rfl (by simp <;> first | omega | grind) (fun hb => by simp [eSlot]; exact .mk) ?_
          refine xI ?_
          refine xP ?_
          refine xE [1, 3, 4, 9, 11, 17, 135] ?_
          rintro -
          refine W_cond rfl ?_ ?_
          · intro h135
            refine xU ?_
            refine run_op rfl rfl rfl (by simp [eSlot]; exact .mk) ?_
            refine run_call0 rfl rfl rfl rfl (by simp; exact .mk) (by simp [row_rows, Function.comp_def]; exact .mk) (ct34 g s hs) (by simp) (by simp [oStt]; exact .mk) ?_
            refine xO ?_
            refine run_op rfl rfl rfl (by simp [splice]; exact .mk) ?_
            refine xE [1, 3, 4, 9, 11, 17, 18] ?_
            rintro -
            refine W_seq ?_
            refine W_regD (by kernel_rfl) [] 4 [0, 1, 2, 3, 4, 5, 6, 7, 8, 9, 10, 11, 12, 13, 14] (by decide +kernel) ?_
            refine xO ?_
            refine run_op rfl rfl rfl (by simp [eSlot]; exact .mk) ?_
            iterate 2 refine xO ?_
            refine run_op rfl rfl rfl (by simp [eSlot]; exact .mk) ?_
            refine xO ?_
            refine run_op rfl rfl rfl (by simp [eSlot, hi2]; exact .mk) ?_
            refine xO ?_
            refine run_op rfl rfl rfl (by simp [eSlot, -List.getElem?_map, map_get hi2, eSlot]; exact .mk) ?_
            iterate 3 refine xO ?_
            refine run_op rfl rfl rfl (by simp [splice]; exact .mk) ?_
            refine run_op rfl rfl rfl (by simp [eSlot, hi2]; exact .mk) ?_
            refine run_op rfl rfl rfl (by simp [-List.getElem?_map, map_get hi2, eSlot, nrmL, nrm, putC, splice]; exact .mk) ?_
            refine xE [1, 3, 4, 9, 17, 18] ?_
            rintro -
            refine W_seq ?_
            refine W_regD (by kernel_rfl) [] 4 [0, 1, 2, 3, 4, 5, 6] (by decide +kernel) ?_
            refine xO ?_
            refine run_op rfl rfl rfl (by simp [eSlot]; exact .mk) ?_
            iterate 2 refine xO ?_
            refine run_op rfl rfl rfl (by simp [e3, e4]; exact .mk) ?_
            refine run_op rfl rfl rfl (by simp [eSlot, hi3]; exact .mk) ?_
            refine run_op rfl rfl rfl (by simp [-List.getElem?_map, map_get hi3]; exact .mk) ?_
            refine xE [1, 4, 9, 18] ?_
            erw [putC_own1]
            simp only [foldNew, foldZer]
            obtain ⟨SL, hSL⟩ : ∃ x, x = s.slots.set i (newSlot (nth s.slots i).gen n two a) := ⟨_, rfl⟩
            obtain ⟨DL, hDL⟩ : ∃ x, x = s.data.set i (zerosB n) := ⟨_, rfl⟩
            have hX : putAt s i (newSlot (nth s.slots i).gen n two a) (zerosB n) = ⟨s.sh, s.mode, s.base, SL, s.roots, DL⟩ := by rw [hSL, hDL]; rfl
            rw [show s.slots.length = (s.slots.set i (newSlot (nth s.slots i).gen n two a)).length by simp, show s.data.length = (s.data.set i (zerosB n)).length by simp, ← hSL, ← hDL]
            have hXo := putAt_ok (k := i) (y := newSlot (nth s.slots i).gen n two a) (d := zerosB n) hs (by simp [zerosB]; omega)
            rw [hX] at hXo
            rintro -
            refine W_seq ?_
            refine xU ?_
            iterate 2 refine xO ?_
            refine xI ?_
            refine run_if rfl (by simp; exact .mk) rfl (by simp <;> first | omega | grind) (fun hb => by simp [eSlot]; exact .mk) ?_
            refine xI ?_
            refine xP ?_
            refine xB ?_
            iterate 4 refine xI ?_
            refine run_if rfl (by simp; exact .mk) rfl (by simp <;> first | omega | grind) (fun hb => by simp [eSlot]; exact .mk) ?_
            refine xI ?_
            iterate 2 refine xP ?_
            refine xE [9, 18, 172] ?_
            rintro -
            refine W_cond rfl ?_ ?_
            · intro h172
              refine xU ?_
              iterate 2 refine xO ?_
              refine xE [8] ?_
              rintro -
              refine W_ret ?_
              refine xR (by simp [Try.f6]; exact .mk) ?_
              first | (simp [nrmR, nrmRs, nrmK, kindsOf, kinds, Try.f6]; done) | (simp [nrmR, nrmRs, nrmK, kindsOf, kinds, Try.f6, hr]; done) | (simp [nrmR, nrmRs, nrmK, kindsOf, kinds, Try.f6, hPR]; done)
            intro h172
            have hm : modeB s.mode two := by unfold modeB; cases two <;> simp at h172 ⊢ <;> exact h172
            have hPR := put_right hR (sizedN_iff.2 hn2) hi2 hr hm
            rw [hX] at hPR
            refine W_skip ?_
            refine xT ?_
            iterate 2 refine xO ?_
            refine run_if rfl (by simp; exact .mk) rfl (by simp <;> first | omega | grind) (fun hb => by simp [eSlot]; exact .mk) ?_
            refine run_call rfl (by simp; exact .mk) rfl rfl (by simp) (by simp; exact .mk) (by simp [row_rows, Function.comp_def]; exact .mk) (fun hb => ct28 g ⟨s.sh, s.mode, s.base, SL, s.roots, DL⟩ hXo) (by simp) (by simp [oStt]; exact .mk) (by simp) ?_
            refine xP ?_
            refine xB ?_
            refine xE [8] ?_
            rintro -
            refine W_ret ?_
            refine xR (by simp [Try.f6]; exact .mk) ?_
            first | (simp [nrmR, nrmRs, nrmK, kindsOf, kinds, Try.f6]; done) | (simp [nrmR, nrmRs, nrmK, kindsOf, kinds, Try.f6, hr]; done) | (simp [nrmR, nrmRs, nrmK, kindsOf, kinds, Try.f6, hPR]; done)
          intro h135
          refine W_skip ?_
          rintro -
          refine W_reg rfl ?_
          iterate 3 refine xO ?_
          refine xE [1, 3, 4, 9, 11, 17] ?_
          refine rounds_drop 1 [1, 3, 4, 9, 11, 17] (by simp) (by simp) (by simp) ?_
          exact rounds_next (m' := s.slots.length - (i+1)) (by omega) ⟨i+1, rfl, by omega, by rw [wrap64 (by omega) (by omega)]; rfl, rfl⟩
        intro h117
        refine W_exit ?_
        refine xT ?_
        iterate 2 refine xO ?_
        refine xE [8] ?_
        rintro -
        refine W_ret ?_
        refine xR (by simp [Try.f6]; exact .mk) ?_
        first | (simp [nrmR, nrmRs, nrmK, kindsOf, kinds, Try.f6]; done) | (simp [nrmR, nrmRs, nrmK, kindsOf, kinds, Try.f6, hr]; done) | (simp [nrmR, nrmRs, nrmK, kindsOf, kinds, Try.f6, hPR]; done)
      · skip
        iterate 3 refine xO ?_
        refine run_op rfl rfl rfl (by simp [eSlot]; exact .mk) ?_
        refine xO ?_
        refine run_op rfl rfl rfl (by simp [eSlot, hkm, l4]; exact .mk) ?_
        refine run_op rfl rfl rfl (by simp [hkm, -List.getElem?_map, map_get l4, eSlot]; exact .mk) ?_
        refine xO ?_
        refine run_op rfl rfl rfl (by simp [eSlot]; exact .mk) ?_
        refine run_op rfl rfl rfl (by simp [snR, e1]; exact .mk) ?_
        refine run_op rfl rfl rfl (by simp [eSlot, hkm, l3]; exact .mk) ?_
        refine run_op rfl rfl rfl (by simp [hkm, -List.getElem?_map, map_get l3]; exact .mk) ?_
        refine xE [1, 2, 3, 4, 9, 11, 12, 13, 15] ?_
        erw [putC_own1]
        simp only [foldSlot, foldData]
        obtain ⟨SL, hSL⟩ : ∃ x, x = s.slots.set m (lenS (nth s.slots m) n) := ⟨_, rfl⟩
        obtain ⟨DL, hDL⟩ : ∃ x, x = s.data.set m (nth F.data m) := ⟨_, rfl⟩
        have hX : sizeAt s m n = ⟨s.sh, s.mode, s.base, SL, s.roots, DL⟩ := by rw [hSL, hDL, l10]; rfl
        rw [show s.slots.length = (s.slots.set m (lenS (nth s.slots m) n)).length by simp, show s.data.length = (s.data.set m (nth F.data m)).length by simp, ← hSL, ← hDL]
        have hXo := sizeAt_ok (m := m) hs hn
        rw [hX] at hXo hstay
        rintro -
        refine W_seq ?_
        refine W_regD (by kernel_rfl) [] 12 [0, 1, 2, 3, 4, 5, 6, 7, 8, 9, 10, 11, 12, 13, 14, 15, 16, 17, 18, 19, 20, 21, 22, 23, 24, 25, 26, 27, 28] (by decide +kernel) ?_
        refine xO ?_
        refine run_op rfl rfl rfl (by simp [eSlot]; exact .mk) ?_
        refine xO ?_
        refine run_op rfl rfl rfl (by simp [eSlot, hkm, l2]; exact .mk) ?_
        refine xO ?_
        refine run_op rfl rfl rfl (by simp [hkm, -List.getElem?_map, map_get l2, eSlot]; exact .mk) ?_
        refine xO ?_
        refine run_op rfl rfl rfl (by simp [eSlot]; exact .mk) ?_
        refine xO ?_
        refine run_op rfl rfl rfl (by simp [eSlot, hkm, l1]; exact .mk) ?_
        refine xO ?_
        refine run_op rfl rfl rfl (by simp [hkm, -List.getElem?_map, map_get l1, eSlot]; exact .mk) ?_
        iterate 2 refine xO ?_
        refine xI ?_
        refine run_if rfl (by simp; exact .mk) rfl (by simp <;> first | omega | grind) (fun hb => by simp [eSlot]; exact .mk) ?_
        refine xI ?_
        refine run_if rfl (by simp; exact .mk) rfl (by simp <;> first | omega | grind) (fun hb => by simp [eSlot, hkm, l2]; exact .mk) ?_
        refine xI ?_
        refine run_if rfl (by simp; exact .mk) rfl (by simp <;> first | omega | grind) (fun hb => by simp [hkm, -List.getElem?_map, map_get l2, eSlot]; exact .mk) ?_
        refine xI ?_
        refine run_if rfl (by simp; exact .mk) rfl (by simp <;> first | omega | grind) (fun hb => by simp [eSlot]; exact .mk) ?_
        refine xI ?_
        refine run_if rfl (by simp; exact .mk) rfl (by simp <;> first | omega | grind) (fun hb => by simp [eSlot, hkm, l1]; exact .mk) ?_
        refine xI ?_
        refine run_if rfl (by simp; exact .mk) rfl (by simp <;> first | omega | grind) (fun hb => by simp [hkm, -List.getElem?_map, map_get l1, eSlot]; exact .mk) ?_
        refine xI ?_
        refine xP ?_
        refine xB ?_
        refine xE [1, 3, 4, 9, 11, 12, 13, 15, 16] ?_
        refine xT ?_
        refine run_op rfl rfl rfl (by simp [eSlot]; exact .mk) ?_
        refine run_call0 rfl rfl rfl rfl (by simp; exact .mk) (by simp [row_rows, Function.comp_def]; exact .mk) (ct28 g ⟨s.sh, s.mode, s.base, SL, s.roots, DL⟩ hXo) (by simp) (by simp [oStt]; exact .mk) ?_
        iterate 3 refine xO ?_
        iterate 2 refine xI ?_
        iterate 2 (refine run_if rfl (by simp; exact .mk) rfl (by simp <;> first | omega | grind) (fun hb => by simp [eSlot]; exact .mk) ?_)
        refine run_call rfl (by simp; exact .mk) rfl rfl (by simp) (by simp; exact .mk) (by simp [row_rows, Function.comp_def]; exact .mk) (fun hb => ct35 g ⟨s.sh, s.mode, s.base, SL, s.roots, DL⟩ F hXo) (by simp) (by simp [oStt]; exact .mk) (by simp) ?_
        refine xP ?_
        refine xI ?_
        refine xP ?_
        refine xE [1, 3, 4, 9, 11, 12, 105] ?_
        rintro -
        refine W_cond rfl ?_ ?_
        · intro h105
          simp [hstay, hkm] at h105
        intro h105
        refine W_skip ?_
        rintro -
        refine W_seq ?_
        refine xU ?_
        iterate 2 refine xO ?_
        refine xE [1, 3, 4, 9, 11, 107] ?_
        rintro -
        refine W_cond rfl ?_ ?_
        · intro h107
          have hr : roomS s two n = none := by simpa using h107
          refine xU ?_
          iterate 2 refine xO ?_
          iterate 2 refine xI ?_
          refine xP ?_
          refine xB ?_
          refine xE [8] ?_
          rintro -
          refine W_ret ?_
          refine xR (by simp [Try.f6]; exact .mk) ?_
          first | (simp [nrmR, nrmRs, nrmK, kindsOf, kinds, Try.f6]; done) | (simp [nrmR, nrmRs, nrmK, kindsOf, kinds, Try.f6, hr]; done) | (simp [nrmR, nrmRs, nrmK, kindsOf, kinds, Try.f6, hPR]; done)
        intro h107
        obtain ⟨a, hr⟩ : ∃ a, roomS s two n = some a := Option.isSome_iff_exists.1 (by simpa using h107)
        rw [hr]
        have hn2 := room_sized hr
        have e3 : 0 ≤ n := by omega
        have e4 : n ≤ 140737488355328 := by omega
        refine W_skip ?_
        rintro -
        refine W_seq ?_
        refine xU ?_
        refine xO ?_
        refine xE [1, 3, 4, 9, 11, 17] ?_
        rintro -
        refine W_block ?_
        refine W_rounds (fun f σ o => ∃ i : Nat, f = s.slots.length - i ∧ i ≤ s.slots.length ∧ σ = slots [(1, .d (vT two)), (3, .d (vI n)), (4, .ptr 0 0 0), (9, .d (vT true)), (11, .d (vI a)), (17, .d (vI i))] ∧ o = [.var 52 [.d (vI s.sh.pages), .d (vI s.sh.slots), .d (vI s.sh.roots), .d (vI s.sh.room), .d (vI s.mode), .d (vI s.base), .d (rSl s.slots), .d (rR s.roots), .d (rBB s.data)]]) s.slots.length (Weak.drop (m := 1) [1, 3, 4, 9, 11, 17] (by decide) rfl rfl) ⟨0, by simp, by simp, rfl, rfl⟩ ?_
        rintro f σ o ⟨i, rfl, hi, rfl, rfl⟩ _
        refine W_seq ?_
        refine xU ?_
        iterate 2 refine xO ?_
        refine run_op rfl rfl rfl (by simp [eSlot]; exact .mk) ?_
        iterate 2 refine xO ?_
        refine xE [1, 3, 4, 9, 11, 17, 117] ?_
        rintro -
        refine W_cond rfl ?_ ?_
        · intro h117
          have hi2 : i < s.slots.length := by simpa using h117
          have hi3 : i < s.data.length := by omega
          refine W_skip ?_
          rintro -
          refine W_seq ?_
          refine W_block ?_
          refine xU ?_
          refine xO ?_
          refine run_op rfl rfl rfl (by simp [eSlot]; exact .mk) ?_
          refine xO ?_
          refine run_op rfl rfl rfl (by simp [eSlot, hi2]; exact .mk) ?_
          refine xO ?_
          refine run_op rfl rfl rfl (by simp [eSlot]; exact .mk) ?_
          iterate 2 refine xO ?_
          refine xI ?_
          refine run_if rfl (by simp; exact .mk) rfl (by simp <;> first | omega | grind) (fun hb => by simp [eSlot]; exact .mk) ?_
          refine xI ?_
          refine run_if rfl (by simp; exact .mk) rfl (by simp <;> first | omega | grind) (fun hb => by simp [eSlot, hi2]; exact .mk) ?_
          refine xI ?_
          refine run_if rfl (by simp; exact .mk) rfl (by simp <;> first | omega | grind) (fun hb => by simp [eSlot]; exact .mk) ?_
          refine xI ?_
          refine xP ?_
          refine xE [1, 3, 4, 9, 11, 17, 135] ?_
          rintro -
          refine W_cond rfl ?_ ?_
          · intro h135
            refine xU ?_
            refine run_op rfl rfl rfl (by simp [eSlot]; exact .mk) ?_
            refine run_call0 rfl rfl rfl rfl (by simp; exact .mk) (by simp [row_rows, Function.comp_def]; exact .mk) (ct34 g s hs) (by simp) (by simp [oStt]; exact .mk) ?_
            refine xO ?_
            refine run_op rfl rfl rfl (by simp [splice]; exact .mk) ?_
            refine xE [1, 3, 4, 9, 11, 17, 18] ?_
            rintro -
            refine W_seq ?_
            refine W_regD (by kernel_rfl) [] 4 [0, 1, 2, 3, 4, 5, 6, 7, 8, 9, 10, 11, 12, 13, 14] (by decide +kernel) ?_
            refine xO ?_
            refine run_op rfl rfl rfl (by simp [eSlot]; exact .mk) ?_
            iterate 2 refine xO ?_
            refine run_op rfl rfl rfl (by simp [eSlot]; exact .mk) ?_
            refine xO ?_
            refine run_op rfl rfl rfl (by simp [eSlot, hi2]; exact .mk) ?_
            refine xO ?_
            refine run_op rfl rfl rfl (by simp [eSlot, -List.getElem?_map, map_get hi2, eSlot]; exact .mk) ?_
            iterate 3 refine xO ?_
            refine run_op rfl rfl rfl (by simp [splice]; exact .mk) ?_
            refine run_op rfl rfl rfl (by simp [eSlot, hi2]; exact .mk) ?_
            refine run_op rfl rfl rfl (by simp [-List.getElem?_map, map_get hi2, eSlot, nrmL, nrm, putC, splice]; exact .mk) ?_
            refine xE [1, 3, 4, 9, 17, 18] ?_
            rintro -
            refine W_seq ?_
            refine W_regD (by kernel_rfl) [] 4 [0, 1, 2, 3, 4, 5, 6] (by decide +kernel) ?_
            refine xO ?_
            refine run_op rfl rfl rfl (by simp [eSlot]; exact .mk) ?_
            iterate 2 refine xO ?_
            refine run_op rfl rfl rfl (by simp [e3, e4]; exact .mk) ?_
            refine run_op rfl rfl rfl (by simp [eSlot, hi3]; exact .mk) ?_
            refine run_op rfl rfl rfl (by simp [-List.getElem?_map, map_get hi3]; exact .mk) ?_
            refine xE [1, 4, 9, 18] ?_
            erw [putC_own1]
            simp only [foldNew, foldZer]
            obtain ⟨SL, hSL⟩ : ∃ x, x = s.slots.set i (newSlot (nth s.slots i).gen n two a) := ⟨_, rfl⟩
            obtain ⟨DL, hDL⟩ : ∃ x, x = s.data.set i (zerosB n) := ⟨_, rfl⟩
            have hX : putAt s i (newSlot (nth s.slots i).gen n two a) (zerosB n) = ⟨s.sh, s.mode, s.base, SL, s.roots, DL⟩ := by rw [hSL, hDL]; rfl
            rw [show s.slots.length = (s.slots.set i (newSlot (nth s.slots i).gen n two a)).length by simp, show s.data.length = (s.data.set i (zerosB n)).length by simp, ← hSL, ← hDL]
            have hXo := putAt_ok (k := i) (y := newSlot (nth s.slots i).gen n two a) (d := zerosB n) hs (by simp [zerosB]; omega)
            rw [hX] at hXo
            rintro -
            refine W_seq ?_
            refine xU ?_
            iterate 2 refine xO ?_
            refine xI ?_
            refine run_if rfl (by simp; exact .mk) rfl (by simp <;> first | omega | grind) (fun hb => by simp [eSlot]; exact .mk) ?_
            refine xI ?_
            refine xP ?_
            refine xB ?_
            iterate 4 refine xI ?_
            refine run_if rfl (by simp; exact .mk) rfl (by simp <;> first | omega | grind) (fun hb => by simp [eSlot]; exact .mk) ?_
            refine xI ?_
            iterate 2 refine xP ?_
            refine xE [9, 18, 172] ?_
            rintro -
            refine W_cond rfl ?_ ?_
            · intro h172
              refine xU ?_
              iterate 2 refine xO ?_
              refine xE [8] ?_
              rintro -
              refine W_ret ?_
              refine xR (by simp [Try.f6]; exact .mk) ?_
              first | (simp [nrmR, nrmRs, nrmK, kindsOf, kinds, Try.f6]; done) | (simp [nrmR, nrmRs, nrmK, kindsOf, kinds, Try.f6, hr]; done) | (simp [nrmR, nrmRs, nrmK, kindsOf, kinds, Try.f6, hPR]; done)
            intro h172
            have hm : modeB s.mode two := by unfold modeB; cases two <;> simp at h172 ⊢ <;> exact h172
            have hPR := put_right hR (sizedN_iff.2 hn2) hi2 hr hm
            rw [hX] at hPR
            refine W_skip ?_
            refine xT ?_
            iterate 2 refine xO ?_
            refine run_if rfl (by simp; exact .mk) rfl (by simp <;> first | omega | grind) (fun hb => by simp [eSlot]; exact .mk) ?_
            refine run_call rfl (by simp; exact .mk) rfl rfl (by simp) (by simp; exact .mk) (by simp [row_rows, Function.comp_def]; exact .mk) (fun hb => ct28 g ⟨s.sh, s.mode, s.base, SL, s.roots, DL⟩ hXo) (by simp) (by simp [oStt]; exact .mk) (by simp) ?_
            refine xP ?_
            refine xB ?_
            refine xE [8] ?_
            rintro -
            refine W_ret ?_
            refine xR (by simp [Try.f6]; exact .mk) ?_
            first | (simp [nrmR, nrmRs, nrmK, kindsOf, kinds, Try.f6]; done) | (simp [nrmR, nrmRs, nrmK, kindsOf, kinds, Try.f6, hr]; done) | (simp [nrmR, nrmRs, nrmK, kindsOf, kinds, Try.f6, hPR]; done)
          intro h135
          refine W_skip ?_
          rintro -
          refine W_reg rfl ?_
          iterate 3 refine xO ?_
          refine xE [1, 3, 4, 9, 11, 17] ?_
          refine rounds_drop 1 [1, 3, 4, 9, 11, 17] (by simp) (by simp) (by simp) ?_
          exact rounds_next (m' := s.slots.length - (i+1)) (by omega) ⟨i+1, rfl, by omega, by rw [wrap64 (by omega) (by omega)]; rfl, rfl⟩
        intro h117
        refine W_exit ?_
        refine xT ?_
        iterate 2 refine xO ?_
        refine xE [8] ?_
        rintro -
        refine W_ret ?_
        refine xR (by simp [Try.f6]; exact .mk) ?_
        first | (simp [nrmR, nrmRs, nrmK, kindsOf, kinds, Try.f6]; done) | (simp [nrmR, nrmRs, nrmK, kindsOf, kinds, Try.f6, hr]; done) | (simp [nrmR, nrmRs, nrmK, kindsOf, kinds, Try.f6, hPR]; done)
      skip
      iterate 3 refine xO ?_
      refine run_op rfl rfl rfl (by simp [eSlot]; exact .mk) ?_
      refine xO ?_
      refine run_op rfl rfl rfl (by simp [eSlot, hkm, l4]; exact .mk) ?_
      refine run_op rfl rfl rfl (by simp [hkm, -List.getElem?_map, map_get l4, eSlot]; exact .mk) ?_
      refine xO ?_
      refine run_op rfl rfl rfl (by simp [snR, e1]; exact .mk) ?_
      refine run_op rfl rfl rfl (by simp [eSlot]; exact .mk) ?_
      refine run_op rfl rfl rfl (by simp [eSlot, hkm, l3]; exact .mk) ?_
      refine run_op rfl rfl rfl (by simp [hkm, -List.getElem?_map, map_get l3]; exact .mk) ?_
      refine xE [1, 2, 3, 4, 9, 11, 12, 13, 15] ?_
      erw [putC_own1]
      simp only [foldSlot, foldData]
      obtain ⟨SL, hSL⟩ : ∃ x, x = s.slots.set m (lenS (nth s.slots m) n) := ⟨_, rfl⟩
      obtain ⟨DL, hDL⟩ : ∃ x, x = s.data.set m (nth F.data m) := ⟨_, rfl⟩
      have hX : sizeAt s m n = ⟨s.sh, s.mode, s.base, SL, s.roots, DL⟩ := by rw [hSL, hDL, l10]; rfl
      rw [show s.slots.length = (s.slots.set m (lenS (nth s.slots m) n)).length by simp, show s.data.length = (s.data.set m (nth F.data m)).length by simp, ← hSL, ← hDL]
      have hXo := sizeAt_ok (m := m) hs hn
      rw [hX] at hXo hstay
      rintro -
      refine W_seq ?_
      refine W_regD (by kernel_rfl) [] 12 [0, 1, 2, 3, 4, 5, 6, 7, 8, 9, 10, 11, 12, 13, 14, 15, 16, 17, 18, 19, 20, 21, 22, 23, 24, 25, 26, 27, 28] (by decide +kernel) ?_
      refine xO ?_
      refine run_op rfl rfl rfl (by simp [eSlot]; exact .mk) ?_
      refine xO ?_
      refine run_op rfl rfl rfl (by simp [eSlot, hkm, l2]; exact .mk) ?_
      refine xO ?_
      refine run_op rfl rfl rfl (by simp [hkm, -List.getElem?_map, map_get l2, eSlot]; exact .mk) ?_
      refine xO ?_
      refine run_op rfl rfl rfl (by simp [eSlot]; exact .mk) ?_
      refine xO ?_
      refine run_op rfl rfl rfl (by simp [eSlot, hkm, l1]; exact .mk) ?_
      refine xO ?_
      refine run_op rfl rfl rfl (by simp [hkm, -List.getElem?_map, map_get l1, eSlot]; exact .mk) ?_
      iterate 2 refine xO ?_
      refine xI ?_
      refine run_if rfl (by simp; exact .mk) rfl (by simp <;> first | omega | grind) (fun hb => by simp [eSlot]; exact .mk) ?_
      refine xI ?_
      refine run_if rfl (by simp; exact .mk) rfl (by simp <;> first | omega | grind) (fun hb => by simp [eSlot, hkm, l2]; exact .mk) ?_
      refine xI ?_
      refine run_if rfl (by simp; exact .mk) rfl (by simp <;> first | omega | grind) (fun hb => by simp [hkm, -List.getElem?_map, map_get l2, eSlot]; exact .mk) ?_
      refine xI ?_
      refine run_if rfl (by simp; exact .mk) rfl (by simp <;> first | omega | grind) (fun hb => by simp [eSlot]; exact .mk) ?_
      refine xI ?_
      refine run_if rfl (by simp; exact .mk) rfl (by simp <;> first | omega | grind) (fun hb => by simp [eSlot, hkm, l1]; exact .mk) ?_
      refine xI ?_
      refine run_if rfl (by simp; exact .mk) rfl (by simp <;> first | omega | grind) (fun hb => by simp [hkm, -List.getElem?_map, map_get l1, eSlot]; exact .mk) ?_
      refine xI ?_
      refine xP ?_
      refine xB ?_
      refine xE [1, 3, 4, 9, 11, 12, 13, 15, 16] ?_
      refine xT ?_
      refine run_op rfl rfl rfl (by simp [eSlot]; exact .mk) ?_
      refine run_call0 rfl rfl rfl rfl (by simp; exact .mk) (by simp [row_rows, Function.comp_def]; exact .mk) (ct28 g ⟨s.sh, s.mode, s.base, SL, s.roots, DL⟩ hXo) (by simp) (by simp [oStt]; exact .mk) ?_
      iterate 3 refine xO ?_
      iterate 2 refine xI ?_
      iterate 2 (refine run_if rfl (by simp; exact .mk) rfl (by simp <;> first | omega | grind) (fun hb => by simp [eSlot]; exact .mk) ?_)
      refine run_call rfl (by simp; exact .mk) rfl rfl (by simp) (by simp; exact .mk) (by simp [row_rows, Function.comp_def]; exact .mk) (fun hb => ct35 g ⟨s.sh, s.mode, s.base, SL, s.roots, DL⟩ F hXo) (by simp) (by simp [oStt]; exact .mk) (by simp) ?_
      refine xP ?_
      refine xI ?_
      refine xP ?_
      refine xE [1, 3, 4, 9, 11, 12, 105] ?_
      rintro -
      refine W_cond rfl ?_ ?_
      · intro h105
        simp [hstay, hkm] at h105
      intro h105
      refine W_skip ?_
      rintro -
      refine W_seq ?_
      refine xU ?_
      iterate 2 refine xO ?_
      refine xE [1, 3, 4, 9, 11, 107] ?_
      rintro -
      refine W_cond rfl ?_ ?_
      · intro h107
        have hr : roomS s two n = none := by simpa using h107
        refine xU ?_
        iterate 2 refine xO ?_
        iterate 2 refine xI ?_
        refine xP ?_
        refine xB ?_
        refine xE [8] ?_
        rintro -
        refine W_ret ?_
        refine xR (by simp [Try.f6]; exact .mk) ?_
        first | (simp [nrmR, nrmRs, nrmK, kindsOf, kinds, Try.f6]; done) | (simp [nrmR, nrmRs, nrmK, kindsOf, kinds, Try.f6, hr]; done) | (simp [nrmR, nrmRs, nrmK, kindsOf, kinds, Try.f6, hPR]; done)
      intro h107
      obtain ⟨a, hr⟩ : ∃ a, roomS s two n = some a := Option.isSome_iff_exists.1 (by simpa using h107)
      rw [hr]
      have hn2 := room_sized hr
      have e3 : 0 ≤ n := by omega
      have e4 : n ≤ 140737488355328 := by omega
      refine W_skip ?_
      rintro -
      refine W_seq ?_
      refine xU ?_
      refine xO ?_
      refine xE [1, 3, 4, 9, 11, 17] ?_
      rintro -
      refine W_block ?_
      refine W_rounds (fun f σ o => ∃ i : Nat, f = s.slots.length - i ∧ i ≤ s.slots.length ∧ σ = slots [(1, .d (vT two)), (3, .d (vI n)), (4, .ptr 0 0 0), (9, .d (vT true)), (11, .d (vI a)), (17, .d (vI i))] ∧ o = [.var 52 [.d (vI s.sh.pages), .d (vI s.sh.slots), .d (vI s.sh.roots), .d (vI s.sh.room), .d (vI s.mode), .d (vI s.base), .d (rSl s.slots), .d (rR s.roots), .d (rBB s.data)]]) s.slots.length (Weak.drop (m := 1) [1, 3, 4, 9, 11, 17] (by decide) rfl rfl) ⟨0, by simp, by simp, rfl, rfl⟩ ?_
      rintro f σ o ⟨i, rfl, hi, rfl, rfl⟩ _
      refine W_seq ?_
      refine xU ?_
      iterate 2 refine xO ?_
      refine run_op rfl rfl rfl (by simp [eSlot]; exact .mk) ?_
      iterate 2 refine xO ?_
      refine xE [1, 3, 4, 9, 11, 17, 117] ?_
      rintro -
      refine W_cond rfl ?_ ?_
      · intro h117
        have hi2 : i < s.slots.length := by simpa using h117
        have hi3 : i < s.data.length := by omega
        refine W_skip ?_
        rintro -
        refine W_seq ?_
        refine W_block ?_
        refine xU ?_
        refine xO ?_
        refine run_op rfl rfl rfl (by simp [eSlot]; exact .mk) ?_
        refine xO ?_
        refine run_op rfl rfl rfl (by simp [eSlot, hi2]; exact .mk) ?_
        refine xO ?_
        refine run_op rfl rfl rfl (by simp [eSlot]; exact .mk) ?_
        iterate 2 refine xO ?_
        refine xI ?_
        refine run_if rfl (by simp; exact .mk) rfl (by simp <;> first | omega | grind) (fun hb => by simp [eSlot]; exact .mk) ?_
        refine xI ?_
        refine run_if rfl (by simp; exact .mk) rfl (by simp <;> first | omega | grind) (fun hb => by simp [eSlot, hi2]; exact .mk) ?_
        refine xI ?_
        refine run_if rfl (by simp; exact .mk) rfl (by simp <;> first | omega | grind) (fun hb => by simp [eSlot]; exact .mk) ?_
        refine xI ?_
        refine xP ?_
        refine xE [1, 3, 4, 9, 11, 17, 135] ?_
        rintro -
        refine W_cond rfl ?_ ?_
        · intro h135
          refine xU ?_
          refine run_op rfl rfl rfl (by simp [eSlot]; exact .mk) ?_
          refine run_call0 rfl rfl rfl rfl (by simp; exact .mk) (by simp [row_rows, Function.comp_def]; exact .mk) (ct34 g s hs) (by simp) (by simp [oStt]; exact .mk) ?_
          refine xO ?_
          refine run_op rfl rfl rfl (by simp [splice]; exact .mk) ?_
          refine xE [1, 3, 4, 9, 11, 17, 18] ?_
          rintro -
          refine W_seq ?_
          refine W_regD (by kernel_rfl) [] 4 [0, 1, 2, 3, 4, 5, 6, 7, 8, 9, 10, 11, 12, 13, 14] (by decide +kernel) ?_
          refine xO ?_
          refine run_op rfl rfl rfl (by simp [eSlot]; exact .mk) ?_
          iterate 2 refine xO ?_
          refine run_op rfl rfl rfl (by simp [eSlot]; exact .mk) ?_
          refine xO ?_
          refine run_op rfl rfl rfl (by simp [eSlot, hi2]; exact .mk) ?_
          refine xO ?_
          refine run_op rfl rfl rfl (by simp [eSlot, -List.getElem?_map, map_get hi2, eSlot]; exact .mk) ?_
          iterate 3 refine xO ?_
          refine run_op rfl rfl rfl (by simp [splice]; exact .mk) ?_
          refine run_op rfl rfl rfl (by simp [eSlot, hi2]; exact .mk) ?_
          refine run_op rfl rfl rfl (by simp [-List.getElem?_map, map_get hi2, eSlot, nrmL, nrm, putC, splice]; exact .mk) ?_
          refine xE [1, 3, 4, 9, 17, 18] ?_
          rintro -
          refine W_seq ?_
          refine W_regD (by kernel_rfl) [] 4 [0, 1, 2, 3, 4, 5, 6] (by decide +kernel) ?_
          refine xO ?_
          refine run_op rfl rfl rfl (by simp [eSlot]; exact .mk) ?_
          iterate 2 refine xO ?_
          refine run_op rfl rfl rfl (by simp [e3, e4]; exact .mk) ?_
          refine run_op rfl rfl rfl (by simp [eSlot, hi3]; exact .mk) ?_
          refine run_op rfl rfl rfl (by simp [-List.getElem?_map, map_get hi3]; exact .mk) ?_
          refine xE [1, 4, 9, 18] ?_
          erw [putC_own1]
          simp only [foldNew, foldZer]
          obtain ⟨SL, hSL⟩ : ∃ x, x = s.slots.set i (newSlot (nth s.slots i).gen n two a) := ⟨_, rfl⟩
          obtain ⟨DL, hDL⟩ : ∃ x, x = s.data.set i (zerosB n) := ⟨_, rfl⟩
          have hX : putAt s i (newSlot (nth s.slots i).gen n two a) (zerosB n) = ⟨s.sh, s.mode, s.base, SL, s.roots, DL⟩ := by rw [hSL, hDL]; rfl
          rw [show s.slots.length = (s.slots.set i (newSlot (nth s.slots i).gen n two a)).length by simp, show s.data.length = (s.data.set i (zerosB n)).length by simp, ← hSL, ← hDL]
          have hXo := putAt_ok (k := i) (y := newSlot (nth s.slots i).gen n two a) (d := zerosB n) hs (by simp [zerosB]; omega)
          rw [hX] at hXo
          rintro -
          refine W_seq ?_
          refine xU ?_
          iterate 2 refine xO ?_
          refine xI ?_
          refine run_if rfl (by simp; exact .mk) rfl (by simp <;> first | omega | grind) (fun hb => by simp [eSlot]; exact .mk) ?_
          refine xI ?_
          refine xP ?_
          refine xB ?_
          iterate 4 refine xI ?_
          refine run_if rfl (by simp; exact .mk) rfl (by simp <;> first | omega | grind) (fun hb => by simp [eSlot]; exact .mk) ?_
          refine xI ?_
          iterate 2 refine xP ?_
          refine xE [9, 18, 172] ?_
          rintro -
          refine W_cond rfl ?_ ?_
          · intro h172
            refine xU ?_
            iterate 2 refine xO ?_
            refine xE [8] ?_
            rintro -
            refine W_ret ?_
            refine xR (by simp [Try.f6]; exact .mk) ?_
            first | (simp [nrmR, nrmRs, nrmK, kindsOf, kinds, Try.f6]; done) | (simp [nrmR, nrmRs, nrmK, kindsOf, kinds, Try.f6, hr]; done) | (simp [nrmR, nrmRs, nrmK, kindsOf, kinds, Try.f6, hPR]; done)
          intro h172
          have hm : modeB s.mode two := by unfold modeB; cases two <;> simp at h172 ⊢ <;> exact h172
          have hPR := put_right hR (sizedN_iff.2 hn2) hi2 hr hm
          rw [hX] at hPR
          refine W_skip ?_
          refine xT ?_
          iterate 2 refine xO ?_
          refine run_if rfl (by simp; exact .mk) rfl (by simp <;> first | omega | grind) (fun hb => by simp [eSlot]; exact .mk) ?_
          refine run_call rfl (by simp; exact .mk) rfl rfl (by simp) (by simp; exact .mk) (by simp [row_rows, Function.comp_def]; exact .mk) (fun hb => ct28 g ⟨s.sh, s.mode, s.base, SL, s.roots, DL⟩ hXo) (by simp) (by simp [oStt]; exact .mk) (by simp) ?_
          refine xP ?_
          refine xB ?_
          refine xE [8] ?_
          rintro -
          refine W_ret ?_
          refine xR (by simp [Try.f6]; exact .mk) ?_
          first | (simp [nrmR, nrmRs, nrmK, kindsOf, kinds, Try.f6]; done) | (simp [nrmR, nrmRs, nrmK, kindsOf, kinds, Try.f6, hr]; done) | (simp [nrmR, nrmRs, nrmK, kindsOf, kinds, Try.f6, hPR]; done)
        intro h135
        refine W_skip ?_
        rintro -
        refine W_reg rfl ?_
        iterate 3 refine xO ?_
        refine xE [1, 3, 4, 9, 11, 17] ?_
        refine rounds_drop 1 [1, 3, 4, 9, 11, 17] (by simp) (by simp) (by simp) ?_
        exact rounds_next (m' := s.slots.length - (i+1)) (by omega) ⟨i+1, rfl, by omega, by rw [wrap64 (by omega) (by omega)]; rfl, rfl⟩
      intro h117
      refine W_exit ?_
      refine xT ?_
      iterate 2 refine xO ?_
      refine xE [8] ?_
      rintro -
      refine W_ret ?_
      refine xR (by simp [Try.f6]; exact .mk) ?_
      first | (simp [nrmR, nrmRs, nrmK, kindsOf, kinds, Try.f6]; done) | (simp [nrmR, nrmRs, nrmK, kindsOf, kinds, Try.f6, hr]; done) | (simp [nrmR, nrmRs, nrmK, kindsOf, kinds, Try.f6, hPR]; done)
    intro h45
    simp [he] at h45
  skip
  have heF : ((rszS s k n).2 == 0) = false := by simpa using he
  refine W_reg rfl ?_
  iterate 2 refine xO ?_
  refine xE [1, 2, 3, 4, 9, 11, 12, 13, 45] ?_
  rintro -
  refine W_cond rfl ?_ ?_
  · intro h45
    simp [heF] at h45
  intro h45
  refine W_skip ?_
  rintro -
  refine W_seq ?_
  refine xU ?_
  iterate 2 refine xO ?_
  refine xE [1, 3, 4, 9, 11, 107] ?_
  rintro -
  refine W_cond rfl ?_ ?_
  · intro h107
    have hr : roomS s two n = none := by simpa using h107
    refine xU ?_
    iterate 2 refine xO ?_
    iterate 2 refine xI ?_
    refine xP ?_
    refine xB ?_
    refine xE [8] ?_
    rintro -
    refine W_ret ?_
    refine xR (by simp [Try.f6]; exact .mk) ?_
    first | (simp [nrmR, nrmRs, nrmK, kindsOf, kinds, Try.f6]; done) | (simp [nrmR, nrmRs, nrmK, kindsOf, kinds, Try.f6, hr]; done) | (simp [nrmR, nrmRs, nrmK, kindsOf, kinds, Try.f6, hPR]; done)
  intro h107
  obtain ⟨a, hr⟩ : ∃ a, roomS s two n = some a := Option.isSome_iff_exists.1 (by simpa using h107)
  rw [hr]
  have hn2 := room_sized hr
  have e3 : 0 ≤ n := by omega
  have e4 : n ≤ 140737488355328 := by omega
  refine W_skip ?_
  rintro -
  refine W_seq ?_
  refine xU ?_
  refine xO ?_
  refine xE [1, 3, 4, 9, 11, 17] ?_
  rintro -
  refine W_block ?_
  refine W_rounds (fun f σ o => ∃ i : Nat, f = s.slots.length - i ∧ i ≤ s.slots.length ∧ σ = slots [(1, .d (vT two)), (3, .d (vI n)), (4, .ptr 0 0 0), (9, .d (vT true)), (11, .d (vI a)), (17, .d (vI i))] ∧ o = [.var 52 [.d (vI s.sh.pages), .d (vI s.sh.slots), .d (vI s.sh.roots), .d (vI s.sh.room), .d (vI s.mode), .d (vI s.base), .d (rSl s.slots), .d (rR s.roots), .d (rBB s.data)]]) s.slots.length (Weak.drop (m := 1) [1, 3, 4, 9, 11, 17] (by decide) rfl rfl) ⟨0, by simp, by simp, rfl, rfl⟩ ?_
  rintro f σ o ⟨i, rfl, hi, rfl, rfl⟩ _
  refine W_seq ?_
  refine xU ?_
  iterate 2 refine xO ?_
  refine run_op rfl rfl rfl (by simp [eSlot]; exact .mk) ?_
  iterate 2 refine xO ?_
  refine xE [1, 3, 4, 9, 11, 17, 117] ?_
  rintro -
  refine W_cond rfl ?_ ?_
  · intro h117
    have hi2 : i < s.slots.length := by simpa using h117
    have hi3 : i < s.data.length := by omega
    refine W_skip ?_
    rintro -
    refine W_seq ?_
    refine W_block ?_
    refine xU ?_
    refine xO ?_
    refine run_op rfl rfl rfl (by simp [eSlot]; exact .mk) ?_
    refine xO ?_
    refine run_op rfl rfl rfl (by simp [eSlot, hi2]; exact .mk) ?_
    refine xO ?_
    refine run_op rfl rfl rfl (by simp [eSlot]; exact .mk) ?_
    iterate 2 refine xO ?_
    refine xI ?_
    refine run_if rfl (by simp; exact .mk) rfl (by simp <;> first | omega | grind) (fun hb => by simp [eSlot]; exact .mk) ?_
    refine xI ?_
    refine run_if rfl (by simp; exact .mk) rfl (by simp <;> first | omega | grind) (fun hb => by simp [eSlot, hi2]; exact .mk) ?_
    refine xI ?_
    refine run_if rfl (by simp; exact .mk) rfl (by simp <;> first | omega | grind) (fun hb => by simp [eSlot]; exact .mk) ?_
    refine xI ?_
    refine xP ?_
    refine xE [1, 3, 4, 9, 11, 17, 135] ?_
    rintro -
    refine W_cond rfl ?_ ?_
    · intro h135
      refine xU ?_
      refine run_op rfl rfl rfl (by simp [eSlot]; exact .mk) ?_
      refine run_call0 rfl rfl rfl rfl (by simp; exact .mk) (by simp [row_rows, Function.comp_def]; exact .mk) (ct34 g s hs) (by simp) (by simp [oStt]; exact .mk) ?_
      refine xO ?_
      refine run_op rfl rfl rfl (by simp [splice]; exact .mk) ?_
      refine xE [1, 3, 4, 9, 11, 17, 18] ?_
      rintro -
      refine W_seq ?_
      refine W_regD (by kernel_rfl) [] 4 [0, 1, 2, 3, 4, 5, 6, 7, 8, 9, 10, 11, 12, 13, 14] (by decide +kernel) ?_
      refine xO ?_
      refine run_op rfl rfl rfl (by simp [eSlot]; exact .mk) ?_
      iterate 2 refine xO ?_
      refine run_op rfl rfl rfl (by simp [eSlot]; exact .mk) ?_
      refine xO ?_
      refine run_op rfl rfl rfl (by simp [eSlot, hi2]; exact .mk) ?_
      refine xO ?_
      refine run_op rfl rfl rfl (by simp [eSlot, -List.getElem?_map, map_get hi2, eSlot]; exact .mk) ?_
      iterate 3 refine xO ?_
      refine run_op rfl rfl rfl (by simp [splice]; exact .mk) ?_
      refine run_op rfl rfl rfl (by simp [eSlot, hi2]; exact .mk) ?_
      refine run_op rfl rfl rfl (by simp [-List.getElem?_map, map_get hi2, eSlot, nrmL, nrm, putC, splice]; exact .mk) ?_
      refine xE [1, 3, 4, 9, 17, 18] ?_
      rintro -
      refine W_seq ?_
      refine W_regD (by kernel_rfl) [] 4 [0, 1, 2, 3, 4, 5, 6] (by decide +kernel) ?_
      refine xO ?_
      refine run_op rfl rfl rfl (by simp [eSlot]; exact .mk) ?_
      iterate 2 refine xO ?_
      refine run_op rfl rfl rfl (by simp [e3, e4]; exact .mk) ?_
      refine run_op rfl rfl rfl (by simp [eSlot, hi3]; exact .mk) ?_
      refine run_op rfl rfl rfl (by simp [-List.getElem?_map, map_get hi3]; exact .mk) ?_
      refine xE [1, 4, 9, 18] ?_
      erw [putC_own1]
      simp only [foldNew, foldZer]
      obtain ⟨SL, hSL⟩ : ∃ x, x = s.slots.set i (newSlot (nth s.slots i).gen n two a) := ⟨_, rfl⟩
      obtain ⟨DL, hDL⟩ : ∃ x, x = s.data.set i (zerosB n) := ⟨_, rfl⟩
      have hX : putAt s i (newSlot (nth s.slots i).gen n two a) (zerosB n) = ⟨s.sh, s.mode, s.base, SL, s.roots, DL⟩ := by rw [hSL, hDL]; rfl
      rw [show s.slots.length = (s.slots.set i (newSlot (nth s.slots i).gen n two a)).length by simp, show s.data.length = (s.data.set i (zerosB n)).length by simp, ← hSL, ← hDL]
      have hXo := putAt_ok (k := i) (y := newSlot (nth s.slots i).gen n two a) (d := zerosB n) hs (by simp [zerosB]; omega)
      rw [hX] at hXo
      rintro -
      refine W_seq ?_
      refine xU ?_
      iterate 2 refine xO ?_
      refine xI ?_
      refine run_if rfl (by simp; exact .mk) rfl (by simp <;> first | omega | grind) (fun hb => by simp [eSlot]; exact .mk) ?_
      refine xI ?_
      refine xP ?_
      refine xB ?_
      iterate 4 refine xI ?_
      refine run_if rfl (by simp; exact .mk) rfl (by simp <;> first | omega | grind) (fun hb => by simp [eSlot]; exact .mk) ?_
      refine xI ?_
      iterate 2 refine xP ?_
      refine xE [9, 18, 172] ?_
      rintro -
      refine W_cond rfl ?_ ?_
      · intro h172
        refine xU ?_
        iterate 2 refine xO ?_
        refine xE [8] ?_
        rintro -
        refine W_ret ?_
        refine xR (by simp [Try.f6]; exact .mk) ?_
        first | (simp [nrmR, nrmRs, nrmK, kindsOf, kinds, Try.f6]; done) | (simp [nrmR, nrmRs, nrmK, kindsOf, kinds, Try.f6, hr]; done) | (simp [nrmR, nrmRs, nrmK, kindsOf, kinds, Try.f6, hPR]; done)
      intro h172
      have hm : modeB s.mode two := by unfold modeB; cases two <;> simp at h172 ⊢ <;> exact h172
      have hPR := put_right hR (sizedN_iff.2 hn2) hi2 hr hm
      rw [hX] at hPR
      refine W_skip ?_
      refine xT ?_
      iterate 2 refine xO ?_
      refine run_if rfl (by simp; exact .mk) rfl (by simp <;> first | omega | grind) (fun hb => by simp [eSlot]; exact .mk) ?_
      refine run_call rfl (by simp; exact .mk) rfl rfl (by simp) (by simp; exact .mk) (by simp [row_rows, Function.comp_def]; exact .mk) (fun hb => ct28 g ⟨s.sh, s.mode, s.base, SL, s.roots, DL⟩ hXo) (by simp) (by simp [oStt]; exact .mk) (by simp) ?_
      refine xP ?_
      refine xB ?_
      refine xE [8] ?_
      rintro -
      refine W_ret ?_
      refine xR (by simp [Try.f6]; exact .mk) ?_
      first | (simp [nrmR, nrmRs, nrmK, kindsOf, kinds, Try.f6]; done) | (simp [nrmR, nrmRs, nrmK, kindsOf, kinds, Try.f6, hr]; done) | (simp [nrmR, nrmRs, nrmK, kindsOf, kinds, Try.f6, hPR]; done)
    intro h135
    refine W_skip ?_
    rintro -
    refine W_reg rfl ?_
    iterate 3 refine xO ?_
    refine xE [1, 3, 4, 9, 11, 17] ?_
    refine rounds_drop 1 [1, 3, 4, 9, 11, 17] (by simp) (by simp) (by simp) ?_
    exact rounds_next (m' := s.slots.length - (i+1)) (by omega) ⟨i+1, rfl, by omega, by rw [wrap64 (by omega) (by omega)]; rfl, rfl⟩
  intro h117
  refine W_exit ?_
  refine xT ?_
  iterate 2 refine xO ?_
  refine xE [8] ?_
  rintro -
  refine W_ret ?_
  refine xR (by simp [Try.f6]; exact .mk) ?_
  first | (simp [nrmR, nrmRs, nrmK, kindsOf, kinds, Try.f6]; done) | (simp [nrmR, nrmRs, nrmK, kindsOf, kinds, Try.f6, hr]; done) | (simp [nrmR, nrmRs, nrmK, kindsOf, kinds, Try.f6, hPR]; done)

end Go.Proofs
