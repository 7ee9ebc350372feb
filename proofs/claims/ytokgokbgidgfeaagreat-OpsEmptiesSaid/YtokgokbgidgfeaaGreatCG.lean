/- Contracts of the program's functions, each against a plain function over lists and numbers (it answers what that one answers, for arguments of at most 2^40 elements where a lemma says so), and plain facts about these. -/
import Derived.Test.YtokgokbgidgfeaaGreatCF
import Derived.Test.YtokgokbgidgfeaaGreatCE
import Derived.Test.YtokgokbgidgfeaaGreatCA
import Derived.Test.YtokgokbgidgfeaaGreatCD
import Derived.Test.YtokgokbgidgfeaaGreatAwpD
set_option linter.all false
set_option maxHeartbeats 4000000
namespace Go.Proofs
open Go.Awp
theorem sameSlot_refl (x : Slot) : sameSlot x x = true := by simp [sameSlot]
theorem others_putAt {s : Stt} {k : Nat} {y : Slot} {d : List UInt8} (hk : k < s.slots.length) (hkd : k < s.data.length) : othersS s (putAt s k y d) k = true := by
 have h : (List.range (min s.slots.length s.data.length)).all (otherOk s (putAt s k y d) k) = true := all_good fun i hi => by
  unfold otherOk
  by_cases e : i = k
  · simp [e]
  · have e1 : nth (putAt s k y d).slots i = nth s.slots i := by
     show nth (s.slots.set k y) i = _
     rw [nth_set2 hk, if_neg (by omega)]
    have e2 : nth (putAt s k y d).data i = nth s.data i := by
     show nth (s.data.set k d) i = _
     rw [nth_set2 hkd, if_neg (by omega)]
    rw [e1, e2, sameSlot_refl]; simp
 unfold othersS
 rw [h]
 simp [putAt, sameShape]
theorem live_putAt {s : Stt} {k : Nat} {y : Slot} {d : List UInt8} (hk : k < s.slots.length) : (liveIx (putAt s k y d).slots (putAt s k y d).slots.length : Int) = liveIx s.slots s.slots.length + ((if y.live = true then 1 else 0) - (if (nth s.slots k).live = true then 1 else 0)) := by
 have : (putAt s k y d).slots.length = s.slots.length := by simp [putAt]
 rw [this]
 exact liveIx_set hk hk
theorem putS_cases {s : Stt} {n : Int} (he : (putS s n).2.2 = 0) : ∃ (k : Nat) (two : Bool) (a : Int), sttS s = true ∧ sizedN n = true ∧ nextS s.slots = some k ∧ firstP s n = some (two, a) ∧ putS s n = (putAt s k (newSlot (nth s.slots k).gen n two a) (zerosB n), ((k : Int), (nth s.slots k).gen), 0) := by
 unfold putS at he ⊢
 split at he
 · rename_i hr
   rw [if_pos hr]
   simp only [Bool.and_eq_true] at hr
   cases hk : nextS s.slots with
   | none => rw [hk] at he; cases he
   | some k =>
    rw [hk] at he
    simp only at he
    cases hp : firstP s n with
    | none => rw [hp] at he; cases he
    | some p => exact ⟨k, p.1, p.2, hr.1, hr.2, rfl, rfl, rfl⟩
 · cases he
theorem put_law {s : Stt} {n : Int} (he : (putS s n).2.2 = 0) : sttS (putS s n).1 = true ∧ othersS s (putS s n).1 (putS s n).2.1.1 = true ∧ (liveIx (putS s n).1.slots (putS s n).1.slots.length : Int) = liveIx s.slots s.slots.length + 1 := by
 obtain ⟨k, two, a, h, hn, hk, hp, e⟩ := putS_cases he
 obtain ⟨h1, h2⟩ := first_some hp
 obtain ⟨hkl, hko, _⟩ := nextS_spec hk
 have hkd : k < s.data.length := by rw [rowsS_len (sttS_rowsS h)]; exact hkl
 rw [e]
 refine ⟨put_right h hn hkl h1 h2, others_putAt hkl hkd, ?_⟩
 rw [live_putAt hkl, (openT_iff.1 hko).1]
 simp [newSlot]
theorem liveS_right {s : Stt} {k : Int} (h : liveS s k = true) : sttS s = true := by
 simp only [liveS, Bool.and_eq_true] at h; exact h.1
theorem rszS_cases {s : Stt} {k n : Int} (he : (rszS s k n).2 = 0) : ∃ (m : Nat) (y : Slot), k = m ∧ liveS s m = true ∧ sizedN n = true ∧ m < s.slots.length ∧ (nth s.slots m).live = true ∧ m < s.data.length ∧
    rszS s k n = (putAt s m y (rszB (nth s.data m) n), 0) ∧ y.live = true ∧ y.len = n ∧ y.gen = (nth s.slots m).gen ∧ sttS (putAt s m y (rszB (nth s.data m) n)) = true := by
 unfold rszS at he ⊢
 split at he
 · rename_i hr
   rw [if_pos hr]
   simp only [Bool.and_eq_true] at hr
   obtain ⟨m, rfl, h1, h2, h3, _⟩ := liveS_nat hr.1
   simp only [Int.toNat_natCast] at he ⊢
   split at he
   · rename_i hq
     rw [if_pos hq]
     exact ⟨m, lenS (nth s.slots m) n, rfl, hr.1, hr.2, h1, h2, h3, rfl, h2, rfl, rfl, hq⟩
   · rename_i hq
     rw [if_neg hq]
     cases hp : firstP s n with
     | none => rw [hp] at he; cases he
     | some p =>
      obtain ⟨q1, q2⟩ := first_some (two := p.1) (a := p.2) hp
      have := size_right (liveS_right hr.1) hr.2 h1 h2 q1 q2
      rw [layAt_size h1 h2] at this
      exact ⟨m, newSlot (nth s.slots m).gen n p.1 p.2, rfl, hr.1, hr.2, h1, h2, h3, by simp only; rw [layAt_size h1 h2], rfl, rfl, rfl, this⟩
 · cases he
theorem nth_putAt {s : Stt} {k : Nat} {y : Slot} {d : List UInt8} (hk : k < s.slots.length) : nth (putAt s k y d).slots k = y := by
 show nth (s.slots.set k y) k = y
 rw [nth_set2 hk, if_pos rfl]
open Go.Awp
set_option maxRecDepth 4000
open Go.Awp
open Go.Awp
open Go.Awp
def ofB (s : Stt) (i : Nat) : List UInt8 := if (nth s.slots i).live && decide (i < s.data.length) then nth s.data i else []
def ofD (s : Stt) (i : Nat) : List (List UInt8) := (List.range i).map (ofB s)
def ofG (s : Stt) (i : Nat) : List Int := (List.range i).map fun j => (nth s.slots j).gen
def ofS (s : Stt) : Abs := ⟨ofG s s.slots.length, ofD s s.slots.length, s.roots⟩
theorem ofD_s {s : Stt} {i : Nat} : ofD s (i + 1) = ofD s i ++ [ofB s i] := by simp [ofD, List.range_succ]
theorem ofG_s {s : Stt} {i : Nat} : ofG s (i + 1) = ofG s i ++ [(nth s.slots i).gen] := by simp [ofG, List.range_succ]
@[simp] theorem ofD_len {s : Stt} {i : Nat} : (ofD s i).length = i := by simp [ofD]
@[simp] theorem ofG_len {s : Stt} {i : Nat} : (ofG s i).length = i := by simp [ofG]
open Go.Awp
def turnS (s : Stt) (mode step : Int) : Stt := { s with mode := mode, base := s.base + step }
def clipG (fr : Int) (g : Int × Int) : Int × Int := if 0 < fr - g.1 then (fr, g.2 - (fr - g.1)) else g
def clipS (fr : Int) (l : List (Int × Int)) : List (Int × Int) := (l.map (clipG fr)).filter fun g => decide (0 < g.2)
def gapsOf (s : Stt) : List (Int × Int) := gapsF (s.sh.pages * 32) (s.base * 32) (spansS s.slots)
def behindS (s : Stt) (fr size : Int) : Option Int := (bestS (clipS fr (gapsOf s)) size).map (·.1)
def lenAt (s : Stt) (k : Int) : Int := (nth s.slots k.toNat).len
def upStep (s : Stt) : Stt × Int :=
 if s.base = s.sh.pages then (turnS s 2 0, 0)
 else if onesS s.slots = [] ∨ (s.base + 1) * 32 ≤ (nth (onesS s.slots) 0).at_ then (turnS s s.mode 1, 0)
 else match roomS s true (lenAt s (nth (onesS s.slots) 0).slot) with
  | some a => moveS s (nth (onesS s.slots) 0).slot true a
  | none => match behindS s ((s.base + 1) * 32) (nth (onesS s.slots) 0).len with
   | some a => moveS s (nth (onesS s.slots) 0).slot false a
   | none => (zStt, 10)
def coverB (pages : Int) (page : Int) (o : Int × Int) : Bool := decide ((spotS pages o).1.page ≤ page) && decide (page - (spotS pages o).1.page < (spotS pages o).1.count)
def matesS (pages : Int) (l : List (Int × Int)) (page : Int) : List Nat := (List.range l.length).filter fun i => coverB pages page (nth l i)
def leastS (l : List (Int × Int)) : List Nat → Nat
 | [] => 0
 | i :: t => t.foldl (fun m j => if (nth l j).1 < (nth l m).1 then j else m) i
def restS (l : List (Int × Int)) (ms : List Nat) : List (Int × Int) := ((List.range l.length).filter fun i => !ms.contains i).map (nth l)
def downStep (s : Stt) : Stt × Int :=
 if s.base = 0 then (turnS s 1 0, 0)
 else if matesS s.base (twosO s.slots) (s.base - 1) = [] then (turnS s s.mode (-1), 0)
 else match roomS s false (nth (twosO s.slots) (leastS (twosO s.slots) (matesS s.base (twosO s.slots) (s.base - 1)))).2 with
  | some a => moveS s (nth (twosI s.slots) (leastS (twosO s.slots) (matesS s.base (twosO s.slots) (s.base - 1)))) false a
  | none => match placeS (s.base - 1) (restS (twosO s.slots) (matesS s.base (twosO s.slots) (s.base - 1))) (nth (twosO s.slots) (leastS (twosO s.slots) (matesS s.base (twosO s.slots) (s.base - 1)))).2 with
   | some a => moveS s (nth (twosI s.slots) (leastS (twosO s.slots) (matesS s.base (twosO s.slots) (s.base - 1)))) true a
   | none => (zStt, 10)
def stepS (s : Stt) : Stt × Int := if sttS s = true then (if s.mode = 3 then upStep s else if s.mode = 4 then downStep s else (zStt, 12)) else (zStt, 1)
def frontB (s : Stt) (x : Slot) : Bool := isOne x && decide (x.at_ < (s.base + 1) * 32)
def frontN (s : Stt) : Nat := ((List.range s.slots.length).filter fun i => frontB s (nth s.slots i)).length
def leftU (s : Stt) : Nat := if s.base = s.sh.pages then 1 else 9 * (s.sh.pages - s.base - 1).toNat + frontN s + 2
open Go.Awp
def cntIx (f : Nat → Bool) (n : Nat) : Nat := ((List.range n).filter f).length
structure Kept (s t : Stt) : Prop where
 sh : t.sh = s.sh
 len : t.slots.length = s.slots.length
 slot : ∀ i, i < s.slots.length → (nth t.slots i).gen = (nth s.slots i).gen ∧ (nth t.slots i).live = (nth s.slots i).live ∧ (nth t.slots i).len = (nth s.slots i).len
 roots : t.roots = s.roots
 data : t.data = s.data
theorem Kept.refl (s : Stt) : Kept s s := ⟨rfl, rfl, fun _ _ => ⟨rfl, rfl, rfl⟩, rfl, rfl⟩
theorem Kept.trans {s t u : Stt} (h : Kept s t) (k : Kept t u) : Kept s u := ⟨k.sh.trans h.sh, k.len.trans h.len, fun i hi => by
  have a := h.slot i hi
  have b := k.slot i (by rw [h.len]; exact hi)
  exact ⟨b.1.trans a.1, b.2.1.trans a.2.1, b.2.2.trans a.2.2⟩, k.roots.trans h.roots, k.data.trans h.data⟩
open Go.Awp
def backB (s : Stt) (x : Slot) : Bool := isTwo x && coverB s.base (s.base - 1) (x.at_, x.len)
def backN (s : Stt) : Nat := cntIx (fun i => backB s (nth s.slots i)) s.slots.length
def leftD (s : Stt) : Nat := if s.base = 0 then 1 else 15 * (s.base - 1).toNat + backN s + 2
def movingS (s : Stt) : Bool := decide (s.mode = 3) || decide (s.mode = 4)
def leftS (s : Stt) : Nat := if s.mode = 3 then leftU s else leftD s
open Go.Awp
def endF : Nat → Nat → Stt → Stt × Nat × Int
 | 0, n, _ => (zStt, n, 1)
 | f + 1, n, s => if 0 < n ∧ movingS s = false then (s, n, 0) else if (stepS s).2 ≠ 0 then (zStt, n, (stepS s).2) else endF f (n + 1) (stepS s).1
def needE (n : Nat) (s : Stt) : Nat := if movingS s = true then leftS s + 1 else 1
def endS (s : Stt) : Stt × Nat × Int := endF (needE 0 s) 0 s
structure Went (s t : Stt) (n k : Nat) : Prop where
 right : sttS t = true
 kept : Kept s t
 mode : (s.mode = 3 → t.mode = 2 ∨ t.mode = 3) ∧ (s.mode = 4 → t.mode = 1 ∨ t.mode = 4)
 left : movingS t = true → k + leftS t ≤ n + leftS s
 few : k ≤ n + leftS s
def boundS (s : Stt) : Int := if s.mode = 3 then 9 * s.sh.pages + 1 else if s.mode = 4 then 15 * s.sh.pages + 1 else 0
def fromM (up : Bool) : Int := if up = true then 1 else 2
def toM (up : Bool) : Int := if up = true then 3 else 4
def startS (s : Stt) (up : Bool) : Stt × Int := if sttS s = false then (zStt, 1) else if s.mode ≠ fromM up then (zStt, 12) else if (endS (turnS s (toM up) 0)).2.2 ≠ 0 then (zStt, (endS (turnS s (toM up) 0)).2.2) else (turnS s (toM up) 0, 0)
open Go.Awp
open Go.Awp
def ixN (l : List Int) (x : Int) : Int := if l.contains x = true then (l.idxOf x : Int) else -1
open Go.Awp
def sh0 : Shape := ⟨4, 2, 2, 30⟩
open Go.Awp
open Go.Awp
theorem ofS_ok {s : Stt} (h : s.Ok) : (ofS s).Ok := by
 refine ⟨by simpa [ofS] using h.h1, by simpa [ofS] using h.h1, h.h2, fun i hi => ?_, h.h5⟩
 have hi2 : i < s.slots.length := by simpa [ofS] using hi
 show (nth (ofD s s.slots.length) i).length ≤ _
 rw [ofD, nth_map (by simpa using hi2), nth_eq (by simpa using hi2)]
 simp only [List.getElem_range]
 unfold ofB
 split
 · rename_i q
   simp only [Bool.and_eq_true, decide_eq_true_eq] at q
   exact h.h4 i q.2
 · simp
open Go.Awp
open Go.Awp
def NoLive (s : Stt) : Prop := ∀ i, i < s.slots.length → (nth s.slots i).live = false
theorem filt_no {f : Nat → Bool} {n : Nat} (h : ∀ i, i < n → f i = false) : (List.range n).filter f = [] :=
 List.filter_eq_nil_iff.2 fun i hi => by rw [h i (List.mem_range.1 hi)]; simp
theorem ones_no {s : Stt} (h : NoLive s) : onesS s.slots = [] := by
 have e : onesR s.slots = [] := by
  unfold onesR oneIx
  rw [filt_no fun i hi => by simp [isOne, h i hi]]; rfl
 have := (stS_perm (lt := ltB) (onesR s.slots)).length_eq
 rw [e] at this
 unfold onesS
 rw [e]
 exact List.length_eq_zero_iff.1 this
theorem twos_no {s : Stt} (h : NoLive s) : twosO s.slots = [] := by
 unfold twosO twoIx
 rw [filt_no fun i hi => by simp [isTwo, h i hi]]; rfl
theorem slot_clear {x : Slot} (h : slotS1 x = true) (hl : x.live = false) : x = ⟨x.gen, false, false, 0, 0⟩ := by
 unfold slotS1 at h
 split at h
 · cases h
 · skip
   simp only [Bool.and_eq_true, beq_iff_eq] at h
   cases x
   simp only at h hl
   simp [h, hl]
open Go.Awp
structure Efo where
 s : Stt
 ix : Int
 gen : Int
 b : List UInt8
 e : Int
def failO (e : Int) : Efo := ⟨zStt, 0, 0, [], e⟩
def dataAt (s : Stt) (k : Nat) (d : List UInt8) : Stt := { s with data := s.data.set k d }
def rootsAt (s : Stt) (l : List Root) : Stt := { s with roots := l }
def actO (s : Stt) (a : Abs) (o : Op) : Stt × Int :=
 if o.act = 1 then ((putS s o.n).1, (putS s o.n).2.2) else if o.act = 2 then takeS s o.ix else if o.act = 3 then rszS s o.ix o.n
 else if o.act = 5 then (dataAt s o.ix.toNat (nth a.data o.ix.toNat), 0) else if o.act = 6 ∨ o.act = 8 then (rootsAt s a.roots, 0) else (s, 0)
def doF (s : Stt) (o : Op) : Efo := if (doS (ofS s) o).e ≠ 0 then failO (doS (ofS s) o).e else if (actO s (doS (ofS s) o).a o).2 ≠ 0 then failO (actO s (doS (ofS s) o).a o).2
 else ⟨(actO s (doS (ofS s) o).a o).1, (doS (ofS s) o).ix, (doS (ofS s) o).gen, (doS (ofS s) o).b, 0⟩
def doO (s : Stt) (o : Op) : Efo := if sttS s = false then failO 1 else doF s o
theorem stt_len {s : Stt} (h : sttS s = true) {i : Nat} (hi : i < s.slots.length) : ((nth s.data i).length : Int) = (nth s.slots i).len ∧ ((nth s.slots i).live = false → (nth s.slots i).len = 0) ∧ ((nth s.slots i).live = true → 1 ≤ (nth s.slots i).len ∧ (nth s.slots i).len ≤ 2048) := by
 have hr := sttS_rowsS h
 have hs := tableS_slot (rowsS_t hr) i hi
 simp only [rowsS, Bool.and_eq_true, List.all_eq_true, List.mem_range] at hr
 have hl := hr.2.2.2 i hi
 simp only [lenOk, decide_eq_true_eq] at hl
 refine ⟨hl, fun e => ?_, fun e => ?_⟩
 · rw [slot_clear hs e]
 · have := slotS1_live hs e; exact ⟨this.2.2.1, this.2.2.2⟩
theorem of_eq {s : Stt} (h : sttS s = true) : ofS s = ⟨s.slots.map Slot.gen, s.data, s.roots⟩ := by
 have hd := rowsS_len (sttS_rowsS h)
 unfold ofS
 congr 1
 · unfold ofG
   refine List.ext_getElem (by simp) fun i h1 h2 => ?_
   simp at h1
   simp [nth_eq h1]
 · unfold ofD
   refine List.ext_getElem (by simp [hd]) fun i h1 h2 => ?_
   simp at h1
   simp only [List.getElem_map, List.getElem_range]
   unfold ofB
   obtain ⟨a, b, c⟩ := stt_len h h1
   rw [← nth_eq h2]
   split
   · rfl
   · rename_i q
     have : (nth s.slots i).live = false := by simpa [h2] using q
     have := b this
     exact (List.length_eq_zero_iff.1 (by omega)).symm
theorem of_right {s : Stt} (h : sttS s = true) : rightS (ofS s) = true := by
 have hr := sttS_rowsS h
 have hd := rowsS_len hr
 rw [of_eq h]
 have ht := rowsS_t hr
 simp only [tableS, Bool.and_eq_true, tnewOk, decide_eq_true_eq] at ht
 have ht2 := ht.2
 have hev : (s.slots.length : Int).tmod 2 = 0 := ht2.2.2
 simp only [tmod_two] at hev
 refine rightS_iff.2 ⟨⟨by simpa using hd, by simp; omega, by simp; omega, by simp; omega⟩, fun i hi => ?_, ?_⟩
 · have hi : i < s.slots.length := by simpa using hi
   have hg := slot_gen h hi
   obtain ⟨a, b, c⟩ := stt_len h hi
   show 0 ≤ nth (s.slots.map Slot.gen) i ∧ nth (s.slots.map Slot.gen) i ≤ 65535 ∧ (nth s.data i).length ≤ 2048
   rw [nth_map hi]
   refine ⟨hg.1, hg.2, ?_⟩
   cases hl : (nth s.slots i).live with
   | false => have := b hl; omega
   | true => have := c hl; omega
 · simp only [rowsS, Bool.and_eq_true] at hr; exact hr.2.2.1
theorem live_pos {s : Stt} (h : sttS s = true) {i : Nat} (hi : i < s.slots.length) : (nth s.slots i).live = decide (0 < (nth s.data i).length) := by
 obtain ⟨a, b, c⟩ := stt_len h hi
 cases hl : (nth s.slots i).live with
 | false => have := b hl; symm; rw [decide_eq_false_iff_not]; omega
 | true => have := c hl; symm; rw [decide_eq_true_eq]; omega
theorem good_live {s : Stt} {ix gn : Int} (h : sttS s = true) (hg : goodS (ofS s) ix gn = true) : ∃ k : Nat, ix = k ∧ k < s.slots.length ∧ k < s.data.length ∧ (nth s.slots k).live = true ∧ liveS s k = true ∧ (nth s.slots k).gen = gn := by
 obtain ⟨k, h1, h2, h3, h4⟩ := goodS_nat hg
 rw [of_eq h] at h2 h3 h4
 have hk : k < s.slots.length := by simpa using h2
 have hl : (nth s.slots k).live = true := by rw [live_pos h hk]; simpa using h3
 refine ⟨k, h1, hk, by rw [rowsS_len (sttS_rowsS h)]; exact hk, hl, ?_, ?_⟩
 · simp [liveS, h, liveT, hk, hl]
 · rw [nth_map hk] at h4; exact h4
theorem next_alloc {s : Stt} (h : sttS s = true) : allocIx (ofS s) = nextS s.slots := by
 have e : ∀ i, i < s.slots.length → openS (ofS s) i = openT (nth s.slots i) := fun i hi => by
  rw [of_eq h]
  unfold openS openT
  show (decide ((nth s.data i).length = 0) && (nth (s.slots.map Slot.gen) i != 65535)) = _
  rw [live_pos h hi, nth_map hi]
  cases hq : decide (0 < (nth s.data i).length) <;> simp at hq <;> simp [hq]
  · rfl
  · intro hz; rw [hz] at hq; simp at hq
 have hlen : (ofS s).gens.length = s.slots.length := by simp [ofS]
 cases hn : nextS s.slots with
 | none =>
  have hno : ∀ i, i < s.slots.length → openT (nth s.slots i) = false := fun i hi => by
   unfold nextS at hn
   rw [List.find?_eq_none] at hn
   have := hn i (by simpa using hi)
   simpa using this
  exact allocIx_none fun j hj => by rw [hlen] at hj; rw [e j hj]; exact hno j hj
 | some k =>
  obtain ⟨a, b, c⟩ := nextS_spec hn
  exact allocIx_at (by rw [hlen]; exact a) (fun j hj => by rw [e j (by omega)]; exact c j hj) (by rw [e k a]; exact b)
theorem put_of {s : Stt} {k : Nat} {y : Slot} {d : List UInt8} (h : sttS s = true) (hx : sttS (putAt s k y d) = true) (hk : k < s.slots.length) (hg : y.gen = (nth s.slots k).gen) : ofS (putAt s k y d) = { ofS s with data := s.data.set k d } := by
 rw [of_eq h, of_eq hx]
 show Abs.mk ((s.slots.set k y).map Slot.gen) (s.data.set k d) s.roots = Abs.mk (s.slots.map Slot.gen) (s.data.set k d) s.roots
 congr 1
 rw [List.map_set, hg, nth_eq hk]
 refine List.ext_getElem (by simp) fun i h1 h2 => ?_
 rw [List.getElem_set]
 split
 · rename_i e; subst e; simp
 · rfl
theorem data_right {s : Stt} {k : Nat} {d : List UInt8} (h : sttS s = true) (hk : k < s.data.length) (hd : d.length = (nth s.data k).length) : sttS (dataAt s k d) = true := by
 obtain ⟨h1, h2, h3, h4⟩ := sttS_iff.1 h
 refine sttS_iff.2 ⟨h1, ?_, h3, h4⟩
 simp only [rowsS, Bool.and_eq_true, List.all_eq_true, List.mem_range, decide_eq_true_eq] at h2 ⊢
 refine ⟨⟨h2.1.1, h2.1.2.1, by simpa [dataAt] using h2.1.2.2⟩, h2.2.1, h2.2.2.1, fun i hi => ?_⟩
 have := h2.2.2.2 i hi
 simp only [lenOk, decide_eq_true_eq] at this ⊢
 show ((nth (s.data.set k d) i).length : Int) = _
 rw [nth_set hk]
 split
 · rename_i e; subst e; rw [hd]; exact this
 · exact this
theorem roots_right {s : Stt} {l : List Root} (h : sttS s = true) (hl : l.length = s.roots.length) (hr : rootsS l = true) : sttS (rootsAt s l) = true := by
 obtain ⟨h1, h2, h3, h4⟩ := sttS_iff.1 h
 refine sttS_iff.2 ⟨h1, ?_, h3, h4⟩
 simp only [rowsS, Bool.and_eq_true, List.all_eq_true, List.mem_range, decide_eq_true_eq] at h2 ⊢
 exact ⟨⟨h2.1.1, by show (l.length : Int) = s.sh.roots; rw [hl]; exact h2.1.2.1, h2.1.2.2⟩, h2.2.1, hr, h2.2.2.2⟩
structure Acted (s x : Stt) (a : Abs) : Prop where
 right : sttS x = true
 of : ofS x = a
 mode : x.mode = s.mode
 base : x.base = s.base
 sh : x.sh = s.sh
 len : x.slots.length = s.slots.length
theorem act_law {s : Stt} {o : Op} (h : sttS s = true) (he : (doS (ofS s) o).e = 0) :
    ((actO s (doS (ofS s) o).a o).2 = 10 ∧ (o.act = 1 ∨ o.act = 3)) ∨ ((actO s (doS (ofS s) o).a o).2 = 0 ∧ Acted s (actO s (doS (ofS s) o).a o).1 (doS (ofS s) o).a) := by
 have hR := of_right h
 have hE : (effS (ofS s) o).e = 0 := by
  unfold doS at he
  rw [if_neg (by simp [hR])] at he
  split at he
  · exact he
  · exact he
 have hd := doS_ok hR hE
 have hK := keeps_ok hR he
 rw [hd] at hK ⊢
 clear he hd
 have act : ∀ {n : Int}, kindS (ofS s) o = n → 190 ≤ n → goodS (ofS s) o.ix o.gen = true := fun e h => kindS_good (by omega)
 have num : o.act = 1 ∨ o.act = 2 ∨ o.act = 3 ∨ o.act = 4 ∨ o.act = 5 ∨ o.act = 6 ∨ o.act = 7 ∨ o.act = 8 ∨ kindS (ofS s) o < 0 := by
  unfold kindS
  (repeat' split) <;> omega
 have kd : (kindS (ofS s) o = 186 → o.act = 1) ∧ (kindS (ofS s) o = 190 → o.act = 2) ∧ (kindS (ofS s) o = 191 → o.act = 3) ∧ (kindS (ofS s) o = 192 → o.act = 4) ∧ (kindS (ofS s) o = 193 → o.act = 5) := by
  unfold kindS
  (repeat' split) <;> omega
 have same : Acted s s (ofS s) := ⟨h, rfl, rfl, rfl, rfl, rfl⟩
 rcases do_cases (ofS s) o with hk | ⟨hk, ha⟩ | ⟨hk, ha⟩ | ⟨hk, ha⟩ | hk | hk | ⟨hk, hq⟩ | ⟨hk, hq⟩ | hk | ⟨e, h1, hk⟩
 · have ha := kd.1 hk
   have hx : effS (ofS s) o = allocS (ofS s) o.n := by simp [effS, hk]
   have hA : ∀ a, actO s a o = ((putS s o.n).1, (putS s o.n).2.2) := fun a => by simp [actO, ha]
   rw [hx] at hE ⊢
   rw [hA]
   unfold allocS at hE ⊢
   rw [next_alloc h] at hE ⊢
   split at hE
   · simp at hE
   · rename_i hsz
     rw [if_neg hsz]
     have hsz : sizedN o.n = true := by simpa [sizedS, sizedN] using hsz
     cases hn : nextS s.slots with
     | none => rw [hn] at hE; simp at hE
     | some k =>
      simp only
      by_cases hp : (putS s o.n).2.2 = 0
      · obtain ⟨k2, two, a, _, _, e1, _, e2⟩ := putS_cases hp
        rw [hn] at e1
        obtain rfl : k = k2 := by simpa using e1
        have hl := (put_law hp).1
        obtain ⟨q1, _⟩ := nextS_spec hn
        rw [e2] at hl ⊢
        refine .inr ⟨rfl, hl, ?_, rfl, rfl, rfl, by simp [putAt]⟩
        rw [put_of h hl q1 rfl, of_eq h]; rfl
      · refine .inl ⟨?_, .inl ha⟩
        unfold putS at hp ⊢
        rw [if_pos (by simp [h, hsz]), hn] at hp ⊢
        simp only at hp ⊢
        cases hf : firstP s o.n with
        | none => rfl
        | some p => rw [hf] at hp; simp at hp
 · have hx : effS (ofS s) o = ⟨{ ofS s with roots := (setS (ofS s).roots o.name o.ix o.gen).1 }, 0, 0, [], (setS (ofS s).roots o.name o.ix o.gen).2⟩ := by simp [effS, hk, rootS, ha]
   rw [hx] at hE ⊢
   simp only at hE
   have hl := set_law hE
   have hr : sttS (rootsAt s (setS (ofS s).roots o.name o.ix o.gen).1) = true := roots_right h hl.2 hl.1
   have hA : actO s { ofS s with roots := (setS (ofS s).roots o.name o.ix o.gen).1 } o = (rootsAt s (setS (ofS s).roots o.name o.ix o.gen).1, 0) := by simp [actO, ha]
   simp only
   rw [hA]
   exact .inr ⟨rfl, hr, rfl, rfl, rfl, rfl, rfl⟩
 · have hx : effS (ofS s) o = ⟨ofS s, (getS (ofS s).roots o.name).1, (getS (ofS s).roots o.name).2.1, [], (getS (ofS s).roots o.name).2.2⟩ := by simp [effS, hk, rootS, ha]
   rw [hx]
   have hA : actO s (ofS s) o = (s, 0) := by simp [actO, ha]
   simp only
   rw [hA]
   exact .inr ⟨rfl, same⟩
 · have hx : effS (ofS s) o = ⟨{ ofS s with roots := (dropS (ofS s).roots o.name).1 }, 0, 0, [], (dropS (ofS s).roots o.name).2⟩ := by simp [effS, hk, rootS, ha]
   rw [hx] at hE ⊢
   simp only at hE
   have hl := drop_law hE
   have hr : sttS (rootsAt s (dropS (ofS s).roots o.name).1) = true := roots_right h hl.2 hl.1
   have hA : actO s { ofS s with roots := (dropS (ofS s).roots o.name).1 } o = (rootsAt s (dropS (ofS s).roots o.name).1, 0) := by simp [actO, ha]
   simp only
   rw [hA]
   exact .inr ⟨rfl, hr, rfl, rfl, rfl, rfl, rfl⟩
 · have ha := kd.2.1 hk
   obtain ⟨k, e1, e2, e3, e4, e5, _⟩ := good_live h (act hk (by omega))
   have hx : effS (ofS s) o = freeS (ofS s) k := by simp [effS, hk, e1]
   have hA : ∀ a, actO s a o = takeS s k := fun a => by simp [actO, ha, e1]
   rw [hx, hA]
   have ht : takeS s k = (takeAt s k, 0) := by unfold takeS; rw [if_pos e5]; simp
   have hr := take_right h e2
   rw [ht]
   refine .inr ⟨rfl, hr, ?_, rfl, rfl, rfl, by simp [takeAt]⟩
   rw [of_eq hr]
   unfold freeS
   rw [of_eq h]
   show Abs.mk ((s.slots.set k (goneS (nth s.slots k))).map Slot.gen) (s.data.set k []) s.roots = Abs.mk ((s.slots.map Slot.gen).set k (min (nth (s.slots.map Slot.gen) k + 1) 65535)) (s.data.set k []) s.roots
   rw [List.map_set, nth_map e2]
   congr 2
   show (if 65535 < (nth s.slots k).gen + 1 then 65535 else (nth s.slots k).gen + 1) = _
   split <;> omega
 · have ha := kd.2.2.1 hk
   obtain ⟨k, e1, e2, e3, e4, e5, _⟩ := good_live h (act hk (by omega))
   have hx : effS (ofS s) o = resizeS (ofS s) k o.n := by simp [effS, hk, e1]
   have hA : ∀ a, actO s a o = rszS s k o.n := fun a => by simp [actO, ha, e1]
   rw [hx] at hE ⊢
   rw [hA]
   unfold resizeS at hE ⊢
   split at hE
   · simp at hE
   · rename_i hsz
     rw [if_neg hsz]
     have hsz : sizedN o.n = true := by simpa [sizedS, sizedN] using hsz
     by_cases hp : (rszS s k o.n).2 = 0
     · obtain ⟨m, y, q1, _, _, q2, _, _, q3, _, _, q4, q5⟩ := rszS_cases hp
       obtain rfl : k = m := by omega
       rw [q3]
       refine .inr ⟨rfl, q5, ?_, rfl, rfl, rfl, by simp [putAt]⟩
       rw [put_of h q5 q2 q4, of_eq h]; rfl
     · refine .inl ⟨?_, .inr ha⟩
       unfold rszS at hp ⊢
       rw [if_pos (by simp [e5, hsz])] at hp ⊢
       split at hp
       · simp at hp
       · rename_i hq
         rw [if_neg hq]
         cases hf : firstP s o.n with
         | none => rfl
         | some p => rw [hf] at hp; simp at hp
 · have ha := kd.2.2.2.1 hk
   have hx : effS (ofS s) o = readS (ofS s) o.ix.toNat o.off o.n := by simp [effS, hk]
   rw [hx]
   unfold readS
   rw [if_neg (by simp [hq])]
   have hA : actO s (ofS s) o = (s, 0) := by simp [actO, ha]
   simp only
   rw [hA]
   exact .inr ⟨rfl, same⟩
 · have hx : effS (ofS s) o = readS (ofS s) o.ix.toNat o.off o.n := by simp [effS, hk]
   rw [hx] at hE
   unfold readS at hE
   rw [if_pos hq] at hE
   simp at hE
 · have ha := kd.2.2.2.2 hk
   obtain ⟨k, e1, e2, e3, e4, e5, _⟩ := good_live h (act hk (by omega))
   have hx : effS (ofS s) o = writeS (ofS s) k o.off o.b := by simp [effS, hk, e1]
   rw [hx] at hE ⊢
   unfold writeS at hE ⊢
   split at hE
   · simp at hE
   · rename_i hsz
     rw [if_neg hsz]
     have hD : (ofS s).data = s.data := by rw [of_eq h]
     have hb : 0 ≤ o.off ∧ o.off ≤ (nth s.data k).length ∧ (o.b.length : Int) ≤ (nth s.data k).length - o.off := by rw [hD] at hsz; simp [reachS] at hsz; omega
     have hA : ∀ a, actO s a o = (dataAt s k (nth a.data k), 0) := fun a => by simp [actO, ha, e1]
     rw [hA]
     simp only
     rw [hD, nth_set e3, if_pos rfl]
     have hr : sttS (dataAt s k (Go.splice (nth s.data k) o.off.toNat o.b)) = true := data_right h e3 (splice_length (by omega))
     refine .inr ⟨trivial, hr, ?_, rfl, rfl, rfl, rfl⟩
     rw [of_eq hr, of_eq h]; rfl
 · have hx : effS (ofS s) o = ⟨ofS s, 0, 0, [], e⟩ := by
    have h1 : kindS (ofS s) o ≠ 186 ∧ kindS (ofS s) o ≠ 187 ∧ kindS (ofS s) o ≠ 190 ∧ kindS (ofS s) o ≠ 191 ∧ kindS (ofS s) o ≠ 192 ∧ kindS (ofS s) o ≠ 193 := by omega
    unfold effS
    rw [if_neg h1.1, if_neg h1.2.1, if_neg h1.2.2.1, if_neg h1.2.2.2.1, if_neg h1.2.2.2.2.1, if_neg h1.2.2.2.2.2, hk]
    simp
   rw [hx] at hE
   simp at hE
   omega
theorem doF_bad {s : Stt} {o : Op} (h : (doS (ofS s) o).e ≠ 0) : doF s o = failO (doS (ofS s) o).e := by unfold doF; rw [if_pos h]
theorem doF_err {s : Stt} {o : Op} {x : Stt} {e : Int} (h0 : (doS (ofS s) o).e = 0) (hA : actO s (doS (ofS s) o).a o = (x, e)) (he : e ≠ 0) : doF s o = failO e := by
 unfold doF; rw [if_neg (by simpa using h0), hA, if_pos he]
theorem doF_ok {s : Stt} {o : Op} {x : Stt} (h0 : (doS (ofS s) o).e = 0) (hA : actO s (doS (ofS s) o).a o = (x, 0)) : doF s o = ⟨x, (doS (ofS s) o).ix, (doS (ofS s) o).gen, (doS (ofS s) o).b, 0⟩ := by
 unfold doF; rw [if_neg (by simpa using h0), hA, if_neg (by simp)]
theorem write_at {s : Stt} {o : Op} (h : sttS s = true) (he : (doS (ofS s) o).e = 0) (ha : o.act = 5) : ∃ k : Nat, o.ix = k ∧ k < s.data.length ∧ k < (doS (ofS s) o).a.data.length := by
 have hR := of_right h
 obtain ⟨_, hg⟩ := done_good (a := ofS s) (o := o) (by omega) (by omega) he
 obtain ⟨k, e1, e2, e3, _⟩ := good_live h hg
 have hK := keeps_ok hR he
 have h2 := (rightS_iff.1 hK.right).1.1
 have h3 := hK.gl
 refine ⟨k, e1, e3, ?_⟩
 rw [h2, h3]
 simpa [ofS] using e2
def oEfo (x : Efo) : D := .tup [oStt x.s, .agg [vI x.ix, vI x.gen, oB x.b], vI x.e]
theorem noSn_oEfo (x : Efo) : (oEfo x).noSn = true := by simp [oEfo, oStt]
theorem noRo_oEfo (x : Efo) : (oEfo x).noRo = true := by simp [oEfo, oStt]
theorem actO_Ok {s : Stt} {o : Op} (hs : s.Ok) (h : sttS s = true) (he : (doS (ofS s) o).e = 0) : (actO s (doS (ofS s) o).a o).1.Ok := by
 have hK := keeps_ok (of_right h) he
 have hO := right_ok hK.right
 unfold actO
 split
 · exact putS_ok hs
 · split
   · exact takeS_ok hs
   · split
     · exact rszS_ok hs
     · split
       · refine ⟨hs.h1, hs.h2, by simpa [dataAt] using hs.h3, fun i hi => ?_, hs.h5⟩
         simp only [dataAt, List.length_set] at hi ⊢
         rcases Nat.lt_or_ge o.ix.toNat s.data.length with hk | hk
         · rw [nth_set hk]
           split
           · rcases Nat.lt_or_ge o.ix.toNat (doS (ofS s) o).a.data.length with q | q
             · exact hO.h4 _ q
             · simp [nth, List.getD_eq_getElem?_getD, List.getElem?_eq_none q]; decide
           · exact hs.h4 i hi
         · rw [List.set_eq_of_length_le hk]; exact hs.h4 i hi
       · split
         · exact ⟨hs.h1, hO.h3, hs.h3, hs.h4, hO.h5⟩
         · exact hs
theorem doF_Ok {s : Stt} {o : Op} (hs : s.Ok) (h : sttS s = true) : (doF s o).s.Ok := by
 unfold doF
 split
 · exact zStt_ok
 · rename_i he
   split
   · exact zStt_ok
   · exact actO_Ok hs h (by simpa using he)
theorem doO_Ok {s : Stt} {o : Op} (hs : s.Ok) : (doO s o).s.Ok := by
 unfold doO
 split
 · exact zStt_ok
 · rename_i h
   exact doF_Ok hs (by simpa using h)
open Go.Awp
attribute [simp] noSn_oEfo noRo_oEfo
structure Rep where
 ix : Int
 gen : Int
 b : List UInt8
 deriving Inhabited
def repOf (x : Efo) : Rep := ⟨x.ix, x.gen, x.b⟩
def eRep (r : Rep) : D := .agg [vI r.ix, vI r.gen, oB r.b]
def rRep (r : Rep) : D := .agg [vI r.ix, vI r.gen, rB r.b]
def sRep (r : Rep) : D := .agg [vI r.ix, vI r.gen, snR 1 vB r.b]
@[simp] theorem roed_eRep (r : Rep) : (eRep r).roed = rRep r := by simp [eRep, rRep]
@[simp] theorem roed_rRep (r : Rep) : (rRep r).roed = rRep r := by simp [rRep]
@[simp] theorem snap_eRep (r : Rep) : (eRep r).snap = sRep r := by simp [eRep, sRep, snap_agg, snap_v, ownR, snap_row, snR]
@[simp] theorem noRo_eRep (r : Rep) : (eRep r).noRo = true := by simp [eRep]
@[simp] theorem noSn_eRep (r : Rep) : (eRep r).noSn = true := by simp [eRep]
abbrev oRep (x : List Rep) : D := ownR 3 eRep x
def sameRep (a b : Rep) : Bool := (a.ix == b.ix && a.gen == b.gen) && ((str a.b).toList == (str b.b).toList)
theorem sameRep_refl (a : Rep) : sameRep a a = true := by simp [sameRep]
def txG : Stt → Nat → List Op → List Rep → Stt × List Rep × Nat × Int
 | x, i, [], out => (x, out, i, 0)
 | x, i, o :: l, out => if (doF x o).e ≠ 0 then (zStt, [], i, (doF x o).e) else txG (doF x o).s (i + 1) l (out ++ [repOf (doF x o)])
def txS (s : Stt) (l : List Op) : Stt × List Rep × Nat × Int := if sttS s = false then (zStt, [], 0, 1) else txG s 0 l []
theorem txG_bad {x : Stt} {i : Nat} {o : Op} {l : List Op} {out : List Rep} (h : (doF x o).e ≠ 0) : txG x i (o :: l) out = (zStt, [], i, (doF x o).e) := by
 show (if _ then _ else _) = _
 rw [if_pos h]
theorem txG_ok {x : Stt} {i : Nat} {o : Op} {l : List Op} {out : List Rep} (h : (doF x o).e = 0) : txG x i (o :: l) out = txG (doF x o).s (i + 1) l (out ++ [repOf (doF x o)]) := by
 show (if _ then _ else _) = _
 rw [if_neg (by simpa using h)]
theorem means {s : Stt} {o : Op} (h : sttS s = true) : ((doF s o).e = 10 ∧ (doS (ofS s) o).e = 0 ∧ (o.act = 1 ∨ o.act = 3)) ∨ ((doF s o).e = (doS (ofS s) o).e ∧ (doS (ofS s) o).e ≠ 0) ∨
    ((doF s o).e = 0 ∧ (doS (ofS s) o).e = 0 ∧ Acted s (doF s o).s (doS (ofS s) o).a ∧ repOf (doF s o) = ⟨(doS (ofS s) o).ix, (doS (ofS s) o).gen, (doS (ofS s) o).b⟩) := by
 by_cases he : (doS (ofS s) o).e = 0
 · rcases act_law h he with ⟨h1, h2⟩ | ⟨h1, h2⟩
   · left
     rw [doF_err he (x := (actO s (doS (ofS s) o).a o).1) (e := 10) (Prod.ext rfl h1) (by decide)]
     exact ⟨rfl, he, h2⟩
   · right; right
     rw [doF_ok he (x := (actO s (doS (ofS s) o).a o).1) (Prod.ext rfl h1)]
     exact ⟨rfl, he, h2, rfl⟩
 · right; left
   rw [doF_bad he]
   exact ⟨rfl, he⟩
theorem doF_right {s : Stt} {o : Op} (h : sttS s = true) (he : (doF s o).e = 0) : sttS (doF s o).s = true := by
 rcases means (o := o) h with ⟨a, _⟩ | ⟨a, b⟩ | ⟨_, _, c, _⟩
 · omega
 · omega
 · exact c.right
theorem doO_of {s : Stt} {o : Op} (h : sttS s = true) : doO s o = doF s o := by unfold doO; rw [if_neg (by simp [h])]
theorem read_same {s : Stt} {o : Op} (he : (doF s o).e = 0) (ha : o.act = 4 ∨ o.act = 7) : (doF s o).s = s := by
 have hA : ∀ a, actO s a o = (s, 0) := fun a => by unfold actO; rcases ha with e | e <;> simp [e]
 by_cases h0 : (doS (ofS s) o).e = 0
 · rw [doF_ok h0 (hA _)]
 · rw [doF_bad h0] at he; exact absurd he h0
structure TxI (s : Stt) (l : List Op) (i : Nat) (y : Stt) (out : List Rep) : Prop where
 eq : txS s l = txG y i (l.drop i) out
 len : out.length = i
 right : sttS y = true
 ok : y.Ok
theorem txI0 {s : Stt} {l : List Op} (h : sttS s = true) (hs : s.Ok) : TxI s l 0 s [] := ⟨by unfold txS; rw [if_neg (by simp [h])]; rfl, rfl, h, hs⟩
instance : Inhabited Op := ⟨⟨0, 0, 0, 0, 0, [], ⟨#[]⟩⟩⟩
theorem txI_next {s : Stt} {l : List Op} {i : Nat} {y : Stt} {out : List Rep} (h : TxI s l i y out) (hi : i < l.length) (he : (doF y (nth l i)).e = 0) : TxI s l (i + 1) (doF y (nth l i)).s (out ++ [repOf (doF y (nth l i))]) := by
 refine ⟨?_, by simp [h.len], doF_right h.right he, doF_Ok h.ok h.right⟩
 rw [h.eq, List.drop_eq_getElem_cons hi, ← nth_eq hi, txG_ok he]
theorem txI_bad {s : Stt} {l : List Op} {i : Nat} {y : Stt} {out : List Rep} (h : TxI s l i y out) (hi : i < l.length) (he : (doF y (nth l i)).e ≠ 0) : txS s l = (zStt, [], i, (doF y (nth l i)).e) := by
 rw [h.eq, List.drop_eq_getElem_cons hi, ← nth_eq hi, txG_bad he]
theorem txI_end {s : Stt} {l : List Op} {y : Stt} {out : List Rep} (h : TxI s l l.length y out) : txS s l = (y, out, l.length, 0) := by
 rw [h.eq, List.drop_length]; rfl
theorem txG_pre : ∀ {l : List Op} {x : Stt} {i : Nat} {out : List Rep}, (txG x i l out).2.2.2 = 0 → ∃ t, (txG x i l out).2.1 = out ++ t ∧ (txG x i l out).2.2.1 = i + l.length ∧ t.length = l.length
 | [], x, i, out, _ => ⟨[], by simp [txG]⟩
 | o :: l, x, i, out, he => by
  by_cases h : (doF x o).e = 0
  · rw [txG_ok h] at he ⊢
    obtain ⟨t, h1, h2, h3⟩ := txG_pre he
    refine ⟨repOf (doF x o) :: t, by rw [h1]; simp, by rw [h2]; simp; omega, by simp [h3]⟩
  · rw [txG_bad h] at he; exact absurd he h
theorem txI_rep {s : Stt} {l : List Op} {i : Nat} {y : Stt} {out : List Rep} (h : TxI s l i y out) (hi : i < l.length) (he : (doF y (nth l i)).e = 0) (h0 : (txS s l).2.2.2 = 0) : i < (txS s l).2.1.length ∧ nth (txS s l).2.1 i = repOf (doF y (nth l i)) := by
 have hn := txI_next h hi he
 rw [hn.eq] at h0 ⊢
 obtain ⟨t, h1, _, _⟩ := txG_pre h0
 rw [h1]
 have hl := h.len
 refine ⟨by simp; omega, ?_⟩
 have hlt : i < (out ++ [repOf (doF y (nth l i))] ++ t).length := by simp; omega
 rw [nth_eq hlt]
 simp [List.getElem_append, hl]
theorem txS_bad {s : Stt} {l : List Op} (h : sttS s = false) : txS s l = (zStt, [], 0, 1) := by unfold txS; rw [if_pos h]
def fewOps (l : List Op) : Bool := (List.range l.length).all (fun i => fewOp (nth l i)) && decide ((l.length : Int) ≤ 30)
theorem fewOps_bad {l : List Op} {i : Nat} (hi : i < l.length) (h : fewOp (nth l i) = false) : fewOps l = false := by
 unfold fewOps; rw [all_bad hi h]; rfl
theorem fewOps_good {l : List Op} (h : ∀ i, i < l.length → fewOp (nth l i) = true) : fewOps l = decide ((l.length : Int) ≤ 30) := by
 unfold fewOps; rw [all_good h]; rfl
theorem fewOp_ok {o : Op} (h : fewOp o = true) : o.name.size ≤ 2^40 ∧ o.b.length ≤ 2^40 := by
 simp only [fewOp, Bool.and_eq_true, decide_eq_true_eq] at h; omega
theorem fewOps_ok {l : List Op} (h : fewOps l = true) : l.length ≤ 2^40 ∧ (∀ i, i < l.length → (nth l i).name.size ≤ 2^40) ∧ ∀ i, i < l.length → (nth l i).b.length ≤ 2^40 := by
 simp only [fewOps, Bool.and_eq_true, List.all_eq_true, List.mem_range, decide_eq_true_eq] at h
 exact ⟨by omega, fun i hi => (fewOp_ok (h.1 i hi)).1, fun i hi => (fewOp_ok (h.1 i hi)).2⟩
open Go.Awp
theorem efo_eq {x : Efo} {ix gen e : Int} {b : List UInt8} (h1 : x.ix = ix) (h2 : x.gen = gen) (h3 : x.b = b) (h4 : x.e = e) : x = ⟨x.s, ix, gen, b, e⟩ := by
 cases x; simp only at h1 h2 h3 h4; subst h1 h2 h3 h4; rfl
theorem ops_facts : ∃ A B C : Stt, ∃ r1 r2 : Rep, doO stT (O 1 121 0 []) = ⟨A, 0, 0, [], 0⟩ ∧ liveIx A.slots A.slots.length = 1 ∧ doO A (O 1 1 0 []) = ⟨B, 0, 0, [], 10⟩ ∧ txS stT [O 1 121 0 [], O 1 1 0 []] = (zStt, [], 1, 10) ∧ txS stT [O 1 1 0 [], O 5 0 0 [7]] = (C, [r1, r2], 2, 0) := by
 refine ⟨(doO stT (O 1 121 0 [])).s, (doO (doO stT (O 1 121 0 [])).s (O 1 1 0 [])).s, (txS stT [O 1 1 0 [], O 5 0 0 [7]]).1, nth (txS stT [O 1 1 0 [], O 5 0 0 [7]]).2.1 0, nth (txS stT [O 1 1 0 [], O 5 0 0 [7]]).2.1 1, ?_, ?_, ?_, ?_, ?_⟩
 · exact efo_eq (by decide +kernel) (by decide +kernel) (by decide +kernel) (by decide +kernel)
 · decide +kernel
 · exact efo_eq (by decide +kernel) (by decide +kernel) (by decide +kernel) (by decide +kernel)
 · kernel_rfl
 · kernel_rfl
open Go.Awp
def goneTo (s : Stt) (mode base : Int) : Stt := { s with mode := mode, base := base }
open Go.Awp
theorem free_one {y : Stt} {i : Nat} (h : sttS y = true) (hi : i < y.slots.length) (hl : (nth y.slots i).live = true) : doF y (opF i (nth y.slots i).gen) = ⟨takeAt y i, 0, 0, [], 0⟩ := by
 have hR := of_right h
 have hg : goodS (ofS y) i (nth y.slots i).gen = true := by
  refine good_mk ?_ ?_ ?_
  · rw [of_eq h]; simpa using hi
  · rw [of_eq h]; have := live_pos h hi; rw [hl] at this; simpa using this.symm
  · rw [of_eq h]; exact nth_map hi
 have hk : kindS (ofS y) (opF i (nth y.slots i).gen) = 190 := kind_good (o := opF i (nth y.slots i).gen) (show (1 : Int) < 2 by decide) (show (2 : Int) < 6 by decide) hg
 have hE : effS (ofS y) (opF i (nth y.slots i).gen) = freeS (ofS y) i := by unfold effS; rw [hk]; rfl
 have hd := doS_of hR hE rfl
 have hls : liveS y i = true := by simp [liveS, h, liveT, hi, hl]
 have hA : actO y (doS (ofS y) (opF i (nth y.slots i).gen)).a (opF i (nth y.slots i).gen) = (takeAt y i, 0) := by
  have : ∀ a, actO y a (opF i (nth y.slots i).gen) = takeS y i := fun a => by simp [actO, opF]
  rw [this]; unfold takeS; rw [if_pos hls]; simp
 rw [doF_ok (by rw [hd]; rfl) hA, hd]; rfl
theorem live_take {y : Stt} {i : Nat} (hi : i < y.slots.length) (hl : (nth y.slots i).live = true) : (liveIx (takeAt y i).slots (takeAt y i).slots.length : Int) = liveIx y.slots y.slots.length - 1 := by
 have := live_putAt (y := goneS (nth y.slots i)) (d := []) hi
 rw [show putAt y i (goneS (nth y.slots i)) [] = takeAt y i from rfl, hl] at this
 rw [this]; simp [goneS]; omega
structure EmI (s : Stt) (i : Nat) (y : Stt) : Prop where
 right : sttS y = true
 ok : y.Ok
 len : y.slots.length = s.slots.length
 gone : ∀ j, j < i → (nth y.slots j).live = false
theorem emI_skip {s y : Stt} {i : Nat} (h : EmI s i y) (hl : (nth y.slots i).live = false) : EmI s (i + 1) y := ⟨h.right, h.ok, h.len, fun j hj => by
  rcases Nat.lt_succ_iff_lt_or_eq.1 hj with q | rfl
  · exact h.gone j q
  · exact hl⟩
theorem emI_free {s y : Stt} {i : Nat} (h : EmI s i y) (hi : i < y.slots.length) : EmI s (i + 1) (takeAt y i) := by
 refine ⟨take_right h.right hi, ?_, by simp [takeAt, h.len], fun j hj => ?_⟩
 · have := takeS_ok (s := y) (k := (i : Int)) h.ok
   exact putAt_ok (y := goneS (nth y.slots i)) (d := []) h.ok (by simp)
 · show (nth (y.slots.set i (goneS (nth y.slots i))) j).live = false
   rw [nth_set2 hi]
   split
   · rfl
   · rename_i e
     rcases Nat.lt_succ_iff_lt_or_eq.1 hj with q | q
     · exact h.gone j q
     · exact absurd q.symm e
theorem emI_end {s y : Stt} (h : EmI s y.slots.length y) : NoLive y ∧ liveIx y.slots y.slots.length = 0 := by
 have hN : NoLive y := fun i hi => h.gone i hi
 refine ⟨hN, ?_⟩
 unfold liveIx
 rw [filt_no fun i hi => hN i hi]; rfl
def wiped (y : Stt) (i : Nat) : Stt := { y with slots := List.replicate i zSlot ++ y.slots.drop i }
theorem wiped_all {y : Stt} : (wiped y y.slots.length).slots = List.replicate y.slots.length zSlot := by simp [wiped]
theorem wiped_no {y : Stt} : NoLive (wiped y y.slots.length) := fun i hi => by
 rw [wiped_all] at hi ⊢
 rw [nth_eq hi, List.getElem_replicate]; rfl
theorem wiped_Ok {y : Stt} (h : y.Ok) : (wiped y y.slots.length).Ok := ⟨by rw [wiped_all]; simpa using h.h1, h.h2, h.h3, h.h4, h.h5⟩
theorem wiped_right {y : Stt} (h : sttS y = true) (hN : NoLive y) : sttS (wiped y y.slots.length) = true := by
 obtain ⟨h1, h2, h3, h4⟩ := sttS_iff.1 h
 have hW := wiped_no (y := y)
 have hl : (wiped y y.slots.length).slots.length = y.slots.length := by rw [wiped_all]; simp
 refine sttS_iff.2 ⟨h1, ?_, fun i hi q => (by rw [hW i hi] at q; cases q), fun i j hij hj q => (by rw [hW i (by omega)] at q; cases q)⟩
 have hz : ∀ i, i < y.slots.length → nth (wiped y y.slots.length).slots i = zSlot := fun i hi => by
  rw [wiped_all, nth_eq (by simpa using hi), List.getElem_replicate]
 have hlen := fun i hi => stt_len (i := i) h hi
 simp only [rowsS, Bool.and_eq_true, List.all_eq_true, List.mem_range, decide_eq_true_eq, tableS] at h2 ⊢
 rw [hl]
 refine ⟨h2.1, ⟨fun i hi => by rw [hz i hi]; rfl, h2.2.1.2⟩, h2.2.2.1, fun i hi => ?_⟩
 simp only [lenOk, decide_eq_true_eq]
 rw [hz i hi]
 obtain ⟨a, b, _⟩ := hlen i hi
 have := b (hN i hi)
 show ((nth y.data i).length : Int) = 0
 omega
theorem room_no {s t : Stt} {two : Bool} {n : Int} (hs : sttS s = true) (ht : sttS t = true) (ks : NoLive s) (kt : NoLive t) (h1 : t.sh = s.sh) (h2 : t.base = s.base) : roomS t two n = roomS s two n := by
 unfold roomS roomW oneS spansS
 rw [hs, ht, twos_no ks, twos_no kt, ones_no ks, ones_no kt, h1, h2]
theorem first_no {s t : Stt} {n : Int} (hs : sttS s = true) (ht : sttS t = true) (ks : NoLive s) (kt : NoLive t) (h1 : t.sh = s.sh) (h2 : t.base = s.base) (h3 : t.mode = s.mode) : firstP t n = firstP s n := by
 rw [firstP_B, firstP_B, h3]
 simp only [room_no hs ht ks kt h1 h2]
def opA2 : Op := O 1 200 0 []
theorem alloc_no {s : Stt} (h : sttS s = true) : ((doF s opA2).e = 9 ∧ nextS s.slots = none) ∨ ((doF s opA2).e = 10 ∧ firstP s 200 = none) ∨ ∃ (k : Nat) (two : Bool) (a : Int), (doF s opA2).e = 0 ∧ firstP s 200 = some (two, a) ∧ (doF s opA2).ix = k ∧ k < (doF s opA2).s.slots.length ∧ (nth (doF s opA2).s.slots k).at_ = a ∧ (nth (doF s opA2).s.slots k).two = two := by
 have hR := of_right h
 have hk : kindS (ofS s) opA2 = 186 := by simp [kindS, opA2, O]
 have hE : effS (ofS s) opA2 = allocS (ofS s) 200 := by unfold effS; rw [hk]; rfl
 have hA : ∀ a, actO s a opA2 = ((putS s 200).1, (putS s 200).2.2) := fun a => by simp [actO, opA2, O]
 have hz : sizedN 200 = true := by decide
 cases hn : nextS s.slots with
 | none =>
  left
  refine ⟨?_, rfl⟩
  have he : (effS (ofS s) opA2).e = 9 := by
   rw [hE]; unfold allocS
   rw [if_neg (by decide), next_alloc h, hn]
  have := doS_fail (o := opA2) hR (by rw [he]; decide)
  rw [doF_bad (by rw [this]; show (effS (ofS s) opA2).e ≠ 0; rw [he]; decide), this]
  show (effS (ofS s) opA2).e = 9
  exact he
 | some k =>
  right
  have he : effS (ofS s) opA2 = ⟨{ ofS s with data := (ofS s).data.set k (List.replicate 200 0) }, k, nth (ofS s).gens k, [], 0⟩ := by
   rw [hE]; unfold allocS
   rw [if_neg (by decide), next_alloc h, hn]; rfl
  have hd := doS_of hR he rfl
  obtain ⟨hkl, _, _⟩ := nextS_spec hn
  cases hf : firstP s 200 with
  | none =>
   left
   refine ⟨?_, rfl⟩
   have hp : (putS s 200).2.2 = 10 := by unfold putS; rw [if_pos (by simp [h, hz]), hn]; simp only; rw [hf]
   rw [doF_err (by rw [hd]) (x := (putS s 200).1) (e := 10) (by rw [hA, hp]) (by decide)]; rfl
  | some p =>
   right
   have hp : putS s 200 = (putAt s k (newSlot (nth s.slots k).gen 200 p.1 p.2) (zerosB 200), ((k : Int), (nth s.slots k).gen), 0) := by unfold putS; rw [if_pos (by simp [h, hz]), hn]; simp only; rw [hf]
   rw [doF_ok (by rw [hd]) (x := (putS s 200).1) (by rw [hA, hp]), hd, hp]
   refine ⟨k, p.1, p.2, rfl, rfl, rfl, by simpa [putAt] using hkl, ?_, ?_⟩
   · simp only; rw [nth_putAt hkl]; rfl
   · simp only; rw [nth_putAt hkl]; rfl
theorem empties_law {y : Stt} (h : sttS y = true) (hN : NoLive y) : let A := doF y opA2; let B := doF (wiped y y.slots.length) opA2; A.e = 9 ∨ (A.e = B.e ∧ (A.e = 0 → ∃ k m : Nat, A.ix = k ∧ k < A.s.slots.length ∧ B.ix = m ∧ m < B.s.slots.length ∧ (nth A.s.slots k).at_ = (nth B.s.slots m).at_ ∧ (nth A.s.slots k).two = (nth B.s.slots m).two)) := by
 have hT := wiped_right h hN
 have hf : firstP (wiped y y.slots.length) 200 = firstP y 200 := first_no h hT hN wiped_no rfl rfl rfl
 have hn : nextS (wiped y y.slots.length).slots = some 0 := by
  have h2 := sttS_rows h
  simp only [tableS, Bool.and_eq_true, tnewOk, decide_eq_true_eq] at h2
  have h3 := h2.2
  have hp : 0 < (wiped y y.slots.length).slots.length := by rw [wiped_all]; simp; omega
  refine nextS_some hp ?_ (fun j hj => by omega)
  rw [wiped_all, nth_eq (by rw [wiped_all] at hp; exact hp), List.getElem_replicate]; rfl
 simp only
 rcases alloc_no hT with ⟨_, q⟩ | ⟨b1, b2⟩ | ⟨m, two, a, b1, b2, b3, b4, b5, b6⟩
 · rw [hn] at q; cases q
 · rcases alloc_no h with ⟨a1, _⟩ | ⟨a1, _⟩ | ⟨_, _, _, _, a2, _⟩
   · exact .inl a1
   · exact .inr ⟨by rw [a1, b1], fun q => by omega⟩
   · rw [← hf, b2] at a2; cases a2
 · rcases alloc_no h with ⟨a1, _⟩ | ⟨_, a2⟩ | ⟨k, two', a', a1, a2, a3, a4, a5, a6⟩
   · exact .inl a1
   · rw [← hf, b2] at a2; cases a2
   · right
     rw [← hf, b2] at a2
     simp only [Option.some.injEq, Prod.mk.injEq] at a2
     obtain ⟨rfl, rfl⟩ := a2
     exact ⟨by rw [a1, b1], fun _ => ⟨k, m, a3, a4, b3, b4, by rw [a5, b5], by rw [a6, b6]⟩⟩
theorem wiped_len {y : Stt} {i : Nat} (h : i ≤ y.slots.length) : (wiped y i).slots.length = y.slots.length := by simp [wiped]; omega
theorem wiped_zero {y : Stt} : (wiped y 0).slots = y.slots := by simp [wiped]
theorem wiped_set {y : Stt} {i : Nat} (h : i < y.slots.length) : (wiped y i).slots.set i zSlot = (wiped y (i + 1)).slots := by
 show (List.replicate i zSlot ++ y.slots.drop i).set i zSlot = List.replicate (i + 1) zSlot ++ y.slots.drop (i + 1)
 rw [List.set_append_right _ _ (by simp), List.length_replicate, Nat.sub_self, List.drop_eq_getElem_cons h, List.set_cons_zero, List.replicate_succ', List.append_assoc]; rfl
theorem empties_facts {A B : Efo} (h : A.e = B.e ∧ (A.e = 0 → ∃ k m : Nat, A.ix = k ∧ k < A.s.slots.length ∧ B.ix = m ∧ m < B.s.slots.length ∧ (nth A.s.slots k).at_ = (nth B.s.slots m).at_ ∧ (nth A.s.slots k).two = (nth B.s.slots m).two)) (he : A.e = 0) :
    (0 ≤ A.ix ∧ A.ix < A.s.slots.length ∧ A.ix.toNat < A.s.slots.length) ∧ (0 ≤ B.ix ∧ B.ix < B.s.slots.length ∧ B.ix.toNat < B.s.slots.length) ∧ (nth A.s.slots A.ix.toNat).at_ = (nth B.s.slots B.ix.toNat).at_ ∧ (nth A.s.slots A.ix.toNat).two = (nth B.s.slots B.ix.toNat).two := by
 obtain ⟨k, m, a, b, c, d, e, f⟩ := h.2 he
 rw [a, c]
 simp only [Int.toNat_natCast]
 exact ⟨⟨by omega, by omega, b⟩, ⟨by omega, by omega, d⟩, e, f⟩
open Go.Awp
theorem ct75 (g : Gl) (a b : Rep) : CtAt Tryz.prog g 75 [rRep a, rRep b] (.v (.bool (sameRep a b))) := by
 refine ctAt_of_W Tryz.func75 rfl rfl (Nat.le_of_ble_eq_true rfl) fun B S => ?_
 simp only [rRep, List.map, argD_agg, argD_v]
 refine xU ?_
 iterate 3 refine xO ?_
 refine xE [2,3] ?_
 refine xT ?_
 iterate 6 refine xO ?_
 iterate 4 refine xI ?_
 refine run_call rfl (by simp; exact .mk) rfl rfl (by simp) (by simp; exact .mk) (by simp; exact .mk) (fun hb => ct101 g a.b b.b) (by simp) (by simp; exact .mk) (by simp) ?_
 refine xP ?_
 refine xB ?_
 refine xE [4] fun _ => ?_
 refine W_ret ?_
 refine xR (by simp [Tryz.f75]; exact .mk) ?_
 simp [Tryz.f75, sameRep]

theorem ct70 (g : Gl) (l : List Op) (hl : l.length ≤ 9223372036854775807) : CtAt Tryz.prog g 70 [rows 7 eOp l] (.v (.bool (fewOps l))) := by
 refine ctAt_of_W Tryz.func70 rfl rfl (Nat.le_of_ble_eq_true rfl) fun B S => ?_
 refine xU ?_
 refine xO ?_
 refine xE [0] fun _ => ?_
 refine W_seq ?_
 refine xU ?_
 refine xO ?_
 refine xE [0,3] fun _ => ?_
 refine W_block ?_
 refine W_rounds (fun m σ o => ∃ i : Nat, m = l.length - i ∧ i ≤ l.length ∧ (∀ j, j < i → fewOp (nth l j) = true) ∧ σ = slots [(0, .d (rows 7 eOp l)), (3, .d (vI i))] ∧ o = []) l.length .refl ⟨0, by simp, by simp, by simp, rfl, rfl⟩ ?_
 rintro m σ o ⟨i, rfl, hi, hinv, rfl, rfl⟩ _
 refine W_seq ?_
 refine xU ?_
 iterate 4 refine xO ?_
 refine xE [0,3,8] fun _ => ?_
 refine W_cond rfl ?_ ?_
 · intro h8
   have hi2 : i < l.length := by simpa using h8
   refine W_skip ?_
   rintro -
   refine W_seq ?_
   refine W_block ?_
   refine xU ?_
   iterate 2 refine xO ?_
   refine xO ?_ (h := by simp [hi2]; exact .mk)
   refine xO ?_ (h := by simp [-List.getElem?_map, map_get hi2, eOp]; exact .mk)
   refine xC (ct63 g (nth l i)) ?_
   refine xO ?_
   refine xE [0,3,4] ?_
   refine xT ?_
   iterate 2 refine xO ?_
   refine xE [0,3,17] fun _ => ?_
   refine W_cond rfl ?_ ?_
   · intro h17
     have hr : fewOps l = false := fewOps_bad hi2 (by simpa using h17)
     refine xU ?_
     refine xO ?_
     refine xE [2] fun _ => ?_
     refine W_ret ?_
     refine xR (by simp [Tryz.f70]; exact .mk) ?_
     simp [Tryz.f70, hr]
   intro h17
   refine W_skip ?_
   rintro -
   refine W_reg rfl ?_
   iterate 3 refine xO ?_
   refine xE [0,3] ?_
   refine rounds_kill [0,3] ?_
   refine rounds_next (m' := l.length - (i+1)) (by omega) ⟨i+1, rfl, by omega, ?_, ?_, rfl⟩
   · intro j hj
     rcases Nat.lt_succ_iff_lt_or_eq.1 hj with hj | rfl
     · exact hinv j hj
     simpa using h17
   rw [wrap64 (by omega) (by omega)]; rfl
 intro h8
 have hr : fewOps l = decide ((l.length : Int) ≤ 30) := fewOps_good (fun j hj => hinv j (by simp at h8; omega))
 refine W_exit ?_
 refine xT ?_
 iterate 4 refine xO ?_
 refine xE [2] fun _ => ?_
 refine W_ret ?_
 refine xR (by simp [Tryz.f70]; exact .mk) ?_
 simp [Tryz.f70, hr]

open Go.Awp
theorem in171 (g : Gl) (s : Stt) (hs : s.Ok) (Q a : Abs) (ix gn : Int) (b : List UInt8) (o : Op) (e : Int) (he : e = 0) : ∀ B S, CallsA Tryz.prog g B S ⟨14, false⟩ 171 [.ptr 13 0 0] [.var 28 [.d (vI s.sh.pages), .d (vI s.sh.slots), .d (vI s.sh.roots), .d (vI s.sh.room), .d (vI s.mode), .d (vI s.base), .d (rSl s.slots), .d (rR s.roots), .d (rBB s.data)], .var 73 [.d (vI o.act), .d (vI o.ix), .d (vI o.gen), .d (vI o.n), .d (vI o.off), .d (rB o.b), .d (vS o.name)], .var 28 [.d (vI 0), .d (vI 0), .d (vI 0), .d (vI 0), .d (vI 0), .d (vI 0), .d (.v (.slice none 0 0)), .d (.v (.slice none 0 0)), .d (.v (.slice none 0 0))], .var 77 [.d (vI 0), .d (vI 0), .d (.v (.slice none 0 0))], .row 1 (Q.gens.map vI), .row 1 (Q.data.map oB), .row 3 (Q.roots.map eRoot), .row 1 (a.gens.map vI), .row 1 (a.data.map oB), .row 3 (a.roots.map eRoot), .row 1 (b.map vB), .var 67 [.hdr 7 0 a.gens.length, .hdr 8 0 a.data.length, .hdr 9 0 a.roots.length], .var 77 [.d (vI ix), .d (vI gn), .hdr 10 0 b.length], .var 188 [.d (vI s.sh.pages), .d (vI s.sh.slots), .d (vI s.sh.roots), .d (vI s.sh.room), .d (vI s.mode), .d (vI s.base), .d (rSl s.slots), .d (rR s.roots), .d (rBB s.data), .hdr 7 0 a.gens.length, .hdr 8 0 a.data.length, .hdr 9 0 a.roots.length, .d (vI o.act), .d (vI o.ix), .d (vI o.gen), .d (vI o.n), .d (vI o.off), .d (rB o.b), .d (vS o.name)]]
    (fun x r => x = .tup [.agg [.d (vI s.sh.pages), .d (vI s.sh.slots), .d (vI s.sh.roots), .d (vI s.sh.room), .d (vI s.mode), .d (vI s.base), .hdr 15 0 s.slots.length, .hdr 16 0 s.roots.length, .hdr 17 0 s.data.length], .d (vI e)] ∧ r = [.var 28 [.d (vI s.sh.pages), .d (vI s.sh.slots), .d (vI s.sh.roots), .d (vI s.sh.room), .d (vI s.mode), .d (vI s.base), .d (rSl s.slots), .d (rR s.roots), .d (rBB s.data)], .var 73 [.d (vI o.act), .d (vI o.ix), .d (vI o.gen), .d (vI o.n), .d (vI o.off), .d (rB o.b), .d (vS o.name)], .var 28 [.d (vI 0), .d (vI 0), .d (vI 0), .d (vI 0), .d (vI 0), .d (vI 0), .d (.v (.slice none 0 0)), .d (.v (.slice none 0 0)), .d (.v (.slice none 0 0))], .var 77 [.d (vI 0), .d (vI 0), .d (.v (.slice none 0 0))], .row 1 (Q.gens.map vI), .row 1 (Q.data.map oB), .row 3 (Q.roots.map eRoot), .row 1 (a.gens.map vI), .row 1 (a.data.map oB), .row 3 (a.roots.map eRoot), .row 1 (b.map vB), .var 67 [.hdr 7 0 a.gens.length, .hdr 8 0 a.data.length, .hdr 9 0 a.roots.length], .var 77 [.d (vI ix), .d (vI gn), .hdr 10 0 b.length], .var 188 [.d (vI s.sh.pages), .d (vI s.sh.slots), .d (vI s.sh.roots), .d (vI s.sh.room), .d (vI s.mode), .d (vI s.base), .d (rSl s.slots), .d (rR s.roots), .d (rBB s.data), .hdr 7 0 a.gens.length, .hdr 8 0 a.data.length, .hdr 9 0 a.roots.length, .d (vI o.act), .d (vI o.ix), .d (vI o.gen), .d (vI o.n), .d (vI o.off), .d (rB o.b), .d (vS o.name)], .var 28 [.d (vI s.sh.pages), .d (vI s.sh.slots), .d (vI s.sh.roots), .d (vI s.sh.room), .d (vI s.mode), .d (vI s.base), .hdr 15 0 s.slots.length, .hdr 16 0 s.roots.length, .hdr 17 0 s.data.length], .row 5 (s.slots.map eSlot), .row 3 (s.roots.map eRoot), .row 1 (s.data.map oB)]) := by
 refine callsA_at Tryz.func171 rfl (Nat.le_of_ble_eq_true rfl) fun B S => ?_
 subst he
 refine xU ?_
 iterate 2 refine xO ?_
 refine xE [0,2] ?_
 refine xT ?_
 iterate 4 refine xO ?_
 refine xC (ct24 g s hs) ?_ (he := by simp [row_rows, Function.comp_def]; exact .mk) (hi := by simp [oStt]; exact .mk)
 refine xO ?_ (h := by simp [splice]; exact .mk)
 refine xO ?_
 refine xE [2,3] fun _ => ?_
 refine W_ret ?_
 refine endAt_ret (by simp [Tryz.f171]; exact .mk) ?_ ?_
 · simp
 simp [ownR]

theorem in172 (g : Gl) (s : Stt) (hs : s.Ok) (Q a : Abs) (ix gn : Int) (b : List UInt8) (o : Op) (X : Stt) (e : Int) (hX : X = (putS s o.n).1) (he : e = (putS s o.n).2.2) : ∀ B S, CallsA Tryz.prog g B S ⟨14, false⟩ 172 [.ptr 13 0 0] [.var 28 [.d (vI s.sh.pages), .d (vI s.sh.slots), .d (vI s.sh.roots), .d (vI s.sh.room), .d (vI s.mode), .d (vI s.base), .d (rSl s.slots), .d (rR s.roots), .d (rBB s.data)], .var 73 [.d (vI o.act), .d (vI o.ix), .d (vI o.gen), .d (vI o.n), .d (vI o.off), .d (rB o.b), .d (vS o.name)], .var 28 [.d (vI 0), .d (vI 0), .d (vI 0), .d (vI 0), .d (vI 0), .d (vI 0), .d (.v (.slice none 0 0)), .d (.v (.slice none 0 0)), .d (.v (.slice none 0 0))], .var 77 [.d (vI 0), .d (vI 0), .d (.v (.slice none 0 0))], .row 1 (Q.gens.map vI), .row 1 (Q.data.map oB), .row 3 (Q.roots.map eRoot), .row 1 (a.gens.map vI), .row 1 (a.data.map oB), .row 3 (a.roots.map eRoot), .row 1 (b.map vB), .var 67 [.hdr 7 0 a.gens.length, .hdr 8 0 a.data.length, .hdr 9 0 a.roots.length], .var 77 [.d (vI ix), .d (vI gn), .hdr 10 0 b.length], .var 188 [.d (vI s.sh.pages), .d (vI s.sh.slots), .d (vI s.sh.roots), .d (vI s.sh.room), .d (vI s.mode), .d (vI s.base), .d (rSl s.slots), .d (rR s.roots), .d (rBB s.data), .hdr 7 0 a.gens.length, .hdr 8 0 a.data.length, .hdr 9 0 a.roots.length, .d (vI o.act), .d (vI o.ix), .d (vI o.gen), .d (vI o.n), .d (vI o.off), .d (rB o.b), .d (vS o.name)]]
    (fun x r => x = .tup [.agg [.d (vI X.sh.pages), .d (vI X.sh.slots), .d (vI X.sh.roots), .d (vI X.sh.room), .d (vI X.mode), .d (vI X.base), .hdr 15 0 X.slots.length, .hdr 16 0 X.roots.length, .hdr 17 0 X.data.length], .d (vI e)] ∧ r = [.var 28 [.d (vI s.sh.pages), .d (vI s.sh.slots), .d (vI s.sh.roots), .d (vI s.sh.room), .d (vI s.mode), .d (vI s.base), .d (rSl s.slots), .d (rR s.roots), .d (rBB s.data)], .var 73 [.d (vI o.act), .d (vI o.ix), .d (vI o.gen), .d (vI o.n), .d (vI o.off), .d (rB o.b), .d (vS o.name)], .var 28 [.d (vI 0), .d (vI 0), .d (vI 0), .d (vI 0), .d (vI 0), .d (vI 0), .d (.v (.slice none 0 0)), .d (.v (.slice none 0 0)), .d (.v (.slice none 0 0))], .var 77 [.d (vI 0), .d (vI 0), .d (.v (.slice none 0 0))], .row 1 (Q.gens.map vI), .row 1 (Q.data.map oB), .row 3 (Q.roots.map eRoot), .row 1 (a.gens.map vI), .row 1 (a.data.map oB), .row 3 (a.roots.map eRoot), .row 1 (b.map vB), .var 67 [.hdr 7 0 a.gens.length, .hdr 8 0 a.data.length, .hdr 9 0 a.roots.length], .var 77 [.d (vI ix), .d (vI gn), .hdr 10 0 b.length], .var 188 [.d (vI s.sh.pages), .d (vI s.sh.slots), .d (vI s.sh.roots), .d (vI s.sh.room), .d (vI s.mode), .d (vI s.base), .d (rSl s.slots), .d (rR s.roots), .d (rBB s.data), .hdr 7 0 a.gens.length, .hdr 8 0 a.data.length, .hdr 9 0 a.roots.length, .d (vI o.act), .d (vI o.ix), .d (vI o.gen), .d (vI o.n), .d (vI o.off), .d (rB o.b), .d (vS o.name)], .var 28 [.d (vI X.sh.pages), .d (vI X.sh.slots), .d (vI X.sh.roots), .d (vI X.sh.room), .d (vI X.mode), .d (vI X.base), .hdr 15 0 X.slots.length, .hdr 16 0 X.roots.length, .hdr 17 0 X.data.length], .row 5 (X.slots.map eSlot), .row 3 (X.roots.map eRoot), .row 1 (X.data.map oB), .var 28 [.d (vI X.sh.pages), .d (vI X.sh.slots), .d (vI X.sh.roots), .d (vI X.sh.room), .d (vI X.mode), .d (vI X.base), .hdr 15 0 X.slots.length, .hdr 16 0 X.roots.length, .hdr 17 0 X.data.length], .var 50 [.d (vI (putS s o.n).2.1.1), .d (vI (putS s o.n).2.1.2)]]) := by
 refine callsA_at Tryz.func172 rfl (Nat.le_of_ble_eq_true rfl) fun B S => ?_
 have c42 := ct42 g s hs o.n
 rw [← hX, ← he] at c42
 refine xU ?_
 iterate 2 refine xO ?_
 refine xE [0,2] fun _ => ?_
 refine W_seq ?_
 refine W_regDSK (hard := []) [9,14,15] (keepOk_lt (by decide)) (by kernel_rfl) 4 [0,1,2,3,4,5,6,7,8,9,10,11,12,13,14,15,16,17,18] [[0,1,2,3,4,5,6,7,8,9,10,11,12,13,15,14,16,17,18], [0,1,2,3,4,5,6,7,8,14,9,10,11,12,13,15,16,17,18], [0,1,2,3,4,5,6,7,8,14,15,9,10,11,12,13,16,17,18], [0,1,2,3,4,5,6,7,8,15,9,10,11,12,13,14,16,17,18], [0,1,2,3,4,5,6,7,8,15,14,9,10,11,12,13,16,17,18]] (by decide +kernel) ?_
 iterate 9 refine xO ?_
 refine xC (c42) ?_ (he := by simp [row_rows, Function.comp_def]; exact .mk) (hi := by simp [oStt]; exact .mk)
 iterate 6 refine xO ?_
 iterate 2 (refine xO ?_ (h := by simp [splice]; exact .mk))
 refine xO ?_
 refine xE [2,4,6] ?_
 refine ⟨_, rfl, ⟨?_, ?_, ?_, ?_, ?_, trivial⟩, ?_⟩
 · skip
   iterate 9 refine xO ?_
   refine xC (c42) ?_ (he := by simp [row_rows, Function.comp_def]; exact .mk) (hi := by simp [oStt]; exact .mk)
   iterate 6 refine xO ?_
   iterate 2 (refine xO ?_ (h := by simp [splice]; exact .mk))
   refine xO ?_
   refine xE [2,4,6] ?_
   exact Weak.perm [0,1,2,3,4,5,6,7,8,9,10,11,12,13,14,15,16,17,19,18] [0,1,2,3,4,5,6,7,8,9,10,11,12,13,14,15,16,17,19,18] rfl rfl rfl
 · skip
   iterate 10 refine xO ?_
   refine xC (c42) ?_ (he := by simp [row_rows, Function.comp_def]; exact .mk) (hi := by simp [oStt]; exact .mk)
   iterate 5 refine xO ?_
   iterate 2 (refine xO ?_ (h := by simp [splice]; exact .mk))
   refine xO ?_
   refine xE [2,4,6] ?_
   exact Weak.perm [0,1,2,3,4,5,6,7,8,9,10,11,12,13,14,18,15,16,17,19] [0,1,2,3,4,5,6,7,8,9,10,11,12,13,14,16,17,18,15,19] rfl rfl rfl
 · skip
   iterate 11 refine xO ?_
   refine xC (c42) ?_ (he := by simp [row_rows, Function.comp_def]; exact .mk) (hi := by simp [oStt]; exact .mk)
   iterate 4 refine xO ?_
   iterate 2 (refine xO ?_ (h := by simp [splice]; exact .mk))
   refine xO ?_
   refine xE [2,4,6] ?_
   exact Weak.perm [0,1,2,3,4,5,6,7,8,9,10,11,12,13,14,18,19,15,16,17] [0,1,2,3,4,5,6,7,8,9,10,11,12,13,14,17,18,19,15,16] rfl rfl rfl
 · skip
   iterate 10 refine xO ?_
   refine xC (c42) ?_ (he := by simp [row_rows, Function.comp_def]; exact .mk) (hi := by simp [oStt]; exact .mk)
   iterate 5 refine xO ?_
   iterate 2 (refine xO ?_ (h := by simp [splice]; exact .mk))
   refine xO ?_
   refine xE [2,4,6] ?_
   exact Weak.perm [0,1,2,3,4,5,6,7,8,9,10,11,12,13,14,19,15,16,17,18] [0,1,2,3,4,5,6,7,8,9,10,11,12,13,14,16,17,18,19,15] rfl rfl rfl
 · skip
   iterate 11 refine xO ?_
   refine xC (c42) ?_ (he := by simp [row_rows, Function.comp_def]; exact .mk) (hi := by simp [oStt]; exact .mk)
   iterate 4 refine xO ?_
   iterate 2 (refine xO ?_ (h := by simp [splice]; exact .mk))
   refine xO ?_
   refine xE [2,4,6] ?_
   exact Weak.perm [0,1,2,3,4,5,6,7,8,9,10,11,12,13,14,19,18,15,16,17] [0,1,2,3,4,5,6,7,8,9,10,11,12,13,14,17,18,19,16,15] rfl rfl rfl
 refine xT ?_
 iterate 2 refine xO ?_
 refine xO ?_ (h := by simp [splice]; exact .mk)
 refine xO ?_
 refine xE [2,3] fun _ => ?_
 refine W_ret ?_
 refine endAt_ret (by simp [Tryz.f172]; exact .mk) ?_ ?_
 · simp
 simp [ownR]

theorem in173 (g : Gl) (s : Stt) (hs : s.Ok) (Q a : Abs) (ix gn : Int) (b : List UInt8) (o : Op) (X : Stt) (e : Int) (hX : X = (takeS s o.ix).1) (he : e = (takeS s o.ix).2) : ∀ B S, CallsA Tryz.prog g B S ⟨14, false⟩ 173 [.ptr 13 0 0] [.var 28 [.d (vI s.sh.pages), .d (vI s.sh.slots), .d (vI s.sh.roots), .d (vI s.sh.room), .d (vI s.mode), .d (vI s.base), .d (rSl s.slots), .d (rR s.roots), .d (rBB s.data)], .var 73 [.d (vI o.act), .d (vI o.ix), .d (vI o.gen), .d (vI o.n), .d (vI o.off), .d (rB o.b), .d (vS o.name)], .var 28 [.d (vI 0), .d (vI 0), .d (vI 0), .d (vI 0), .d (vI 0), .d (vI 0), .d (.v (.slice none 0 0)), .d (.v (.slice none 0 0)), .d (.v (.slice none 0 0))], .var 77 [.d (vI 0), .d (vI 0), .d (.v (.slice none 0 0))], .row 1 (Q.gens.map vI), .row 1 (Q.data.map oB), .row 3 (Q.roots.map eRoot), .row 1 (a.gens.map vI), .row 1 (a.data.map oB), .row 3 (a.roots.map eRoot), .row 1 (b.map vB), .var 67 [.hdr 7 0 a.gens.length, .hdr 8 0 a.data.length, .hdr 9 0 a.roots.length], .var 77 [.d (vI ix), .d (vI gn), .hdr 10 0 b.length], .var 188 [.d (vI s.sh.pages), .d (vI s.sh.slots), .d (vI s.sh.roots), .d (vI s.sh.room), .d (vI s.mode), .d (vI s.base), .d (rSl s.slots), .d (rR s.roots), .d (rBB s.data), .hdr 7 0 a.gens.length, .hdr 8 0 a.data.length, .hdr 9 0 a.roots.length, .d (vI o.act), .d (vI o.ix), .d (vI o.gen), .d (vI o.n), .d (vI o.off), .d (rB o.b), .d (vS o.name)]]
    (fun x r => x = .tup [.agg [.d (vI X.sh.pages), .d (vI X.sh.slots), .d (vI X.sh.roots), .d (vI X.sh.room), .d (vI X.mode), .d (vI X.base), .hdr 15 0 X.slots.length, .hdr 16 0 X.roots.length, .hdr 17 0 X.data.length], .d (vI e)] ∧ r = [.var 28 [.d (vI s.sh.pages), .d (vI s.sh.slots), .d (vI s.sh.roots), .d (vI s.sh.room), .d (vI s.mode), .d (vI s.base), .d (rSl s.slots), .d (rR s.roots), .d (rBB s.data)], .var 73 [.d (vI o.act), .d (vI o.ix), .d (vI o.gen), .d (vI o.n), .d (vI o.off), .d (rB o.b), .d (vS o.name)], .var 28 [.d (vI 0), .d (vI 0), .d (vI 0), .d (vI 0), .d (vI 0), .d (vI 0), .d (.v (.slice none 0 0)), .d (.v (.slice none 0 0)), .d (.v (.slice none 0 0))], .var 77 [.d (vI 0), .d (vI 0), .d (.v (.slice none 0 0))], .row 1 (Q.gens.map vI), .row 1 (Q.data.map oB), .row 3 (Q.roots.map eRoot), .row 1 (a.gens.map vI), .row 1 (a.data.map oB), .row 3 (a.roots.map eRoot), .row 1 (b.map vB), .var 67 [.hdr 7 0 a.gens.length, .hdr 8 0 a.data.length, .hdr 9 0 a.roots.length], .var 77 [.d (vI ix), .d (vI gn), .hdr 10 0 b.length], .var 188 [.d (vI s.sh.pages), .d (vI s.sh.slots), .d (vI s.sh.roots), .d (vI s.sh.room), .d (vI s.mode), .d (vI s.base), .d (rSl s.slots), .d (rR s.roots), .d (rBB s.data), .hdr 7 0 a.gens.length, .hdr 8 0 a.data.length, .hdr 9 0 a.roots.length, .d (vI o.act), .d (vI o.ix), .d (vI o.gen), .d (vI o.n), .d (vI o.off), .d (rB o.b), .d (vS o.name)], .var 28 [.d (vI X.sh.pages), .d (vI X.sh.slots), .d (vI X.sh.roots), .d (vI X.sh.room), .d (vI X.mode), .d (vI X.base), .hdr 15 0 X.slots.length, .hdr 16 0 X.roots.length, .hdr 17 0 X.data.length], .row 5 (X.slots.map eSlot), .row 3 (X.roots.map eRoot), .row 1 (X.data.map oB)]) := by
 refine callsA_at Tryz.func173 rfl (Nat.le_of_ble_eq_true rfl) fun B S => ?_
 have cc := ct43 g s hs o.ix
 rw [← hX, ← he] at cc
 refine xU ?_
 iterate 2 refine xO ?_
 refine xE [0,2] fun _ => ?_
 refine W_seq ?_
 refine W_regD (by kernel_rfl) [] 4 [0,1,2,3,4,5,6,7,8,9,10,11,12,13,14] (by decide +kernel) ?_
 iterate 10 refine xO ?_
 refine xC (cc) ?_ (he := by simp [row_rows, Function.comp_def]; exact .mk) (hi := by simp [oStt]; exact .mk)
 iterate 2 refine xO ?_
 refine xO ?_ (h := by simp [splice]; exact .mk)
 refine xO ?_
 refine xE [2,3] fun _ => ?_
 refine W_ret ?_
 refine endAt_ret (by simp [Tryz.f173]; exact .mk) ?_ ?_
 · simp
 simp [ownR]

theorem in174 (g : Gl) (s : Stt) (hs : s.Ok) (Q a : Abs) (ix gn : Int) (b : List UInt8) (o : Op) (X : Stt) (e : Int) (hX : X = (rszS s o.ix o.n).1) (he : e = (rszS s o.ix o.n).2) : ∀ B S, CallsA Tryz.prog g B S ⟨14, false⟩ 174 [.ptr 13 0 0] [.var 28 [.d (vI s.sh.pages), .d (vI s.sh.slots), .d (vI s.sh.roots), .d (vI s.sh.room), .d (vI s.mode), .d (vI s.base), .d (rSl s.slots), .d (rR s.roots), .d (rBB s.data)], .var 73 [.d (vI o.act), .d (vI o.ix), .d (vI o.gen), .d (vI o.n), .d (vI o.off), .d (rB o.b), .d (vS o.name)], .var 28 [.d (vI 0), .d (vI 0), .d (vI 0), .d (vI 0), .d (vI 0), .d (vI 0), .d (.v (.slice none 0 0)), .d (.v (.slice none 0 0)), .d (.v (.slice none 0 0))], .var 77 [.d (vI 0), .d (vI 0), .d (.v (.slice none 0 0))], .row 1 (Q.gens.map vI), .row 1 (Q.data.map oB), .row 3 (Q.roots.map eRoot), .row 1 (a.gens.map vI), .row 1 (a.data.map oB), .row 3 (a.roots.map eRoot), .row 1 (b.map vB), .var 67 [.hdr 7 0 a.gens.length, .hdr 8 0 a.data.length, .hdr 9 0 a.roots.length], .var 77 [.d (vI ix), .d (vI gn), .hdr 10 0 b.length], .var 188 [.d (vI s.sh.pages), .d (vI s.sh.slots), .d (vI s.sh.roots), .d (vI s.sh.room), .d (vI s.mode), .d (vI s.base), .d (rSl s.slots), .d (rR s.roots), .d (rBB s.data), .hdr 7 0 a.gens.length, .hdr 8 0 a.data.length, .hdr 9 0 a.roots.length, .d (vI o.act), .d (vI o.ix), .d (vI o.gen), .d (vI o.n), .d (vI o.off), .d (rB o.b), .d (vS o.name)]]
    (fun x r => x = .tup [.agg [.d (vI X.sh.pages), .d (vI X.sh.slots), .d (vI X.sh.roots), .d (vI X.sh.room), .d (vI X.mode), .d (vI X.base), .hdr 15 0 X.slots.length, .hdr 16 0 X.roots.length, .hdr 17 0 X.data.length], .d (vI e)] ∧ r = [.var 28 [.d (vI s.sh.pages), .d (vI s.sh.slots), .d (vI s.sh.roots), .d (vI s.sh.room), .d (vI s.mode), .d (vI s.base), .d (rSl s.slots), .d (rR s.roots), .d (rBB s.data)], .var 73 [.d (vI o.act), .d (vI o.ix), .d (vI o.gen), .d (vI o.n), .d (vI o.off), .d (rB o.b), .d (vS o.name)], .var 28 [.d (vI 0), .d (vI 0), .d (vI 0), .d (vI 0), .d (vI 0), .d (vI 0), .d (.v (.slice none 0 0)), .d (.v (.slice none 0 0)), .d (.v (.slice none 0 0))], .var 77 [.d (vI 0), .d (vI 0), .d (.v (.slice none 0 0))], .row 1 (Q.gens.map vI), .row 1 (Q.data.map oB), .row 3 (Q.roots.map eRoot), .row 1 (a.gens.map vI), .row 1 (a.data.map oB), .row 3 (a.roots.map eRoot), .row 1 (b.map vB), .var 67 [.hdr 7 0 a.gens.length, .hdr 8 0 a.data.length, .hdr 9 0 a.roots.length], .var 77 [.d (vI ix), .d (vI gn), .hdr 10 0 b.length], .var 188 [.d (vI s.sh.pages), .d (vI s.sh.slots), .d (vI s.sh.roots), .d (vI s.sh.room), .d (vI s.mode), .d (vI s.base), .d (rSl s.slots), .d (rR s.roots), .d (rBB s.data), .hdr 7 0 a.gens.length, .hdr 8 0 a.data.length, .hdr 9 0 a.roots.length, .d (vI o.act), .d (vI o.ix), .d (vI o.gen), .d (vI o.n), .d (vI o.off), .d (rB o.b), .d (vS o.name)], .var 28 [.d (vI X.sh.pages), .d (vI X.sh.slots), .d (vI X.sh.roots), .d (vI X.sh.room), .d (vI X.mode), .d (vI X.base), .hdr 15 0 X.slots.length, .hdr 16 0 X.roots.length, .hdr 17 0 X.data.length], .row 5 (X.slots.map eSlot), .row 3 (X.roots.map eRoot), .row 1 (X.data.map oB)]) := by
 refine callsA_at Tryz.func174 rfl (Nat.le_of_ble_eq_true rfl) fun B S => ?_
 have cc := ct44 g s hs o.ix o.n
 rw [← hX, ← he] at cc
 refine xU ?_
 iterate 2 refine xO ?_
 refine xE [0,2] fun _ => ?_
 refine W_seq ?_
 refine W_regD (by kernel_rfl) [] 4 [0,1,2,3,4,5,6,7,8,9,10,11,12,13,14,15,16,17,18,19] (by decide +kernel) ?_
 iterate 15 refine xO ?_
 refine xC (cc) ?_ (he := by simp [row_rows, Function.comp_def]; exact .mk) (hi := by simp [oStt]; exact .mk)
 iterate 2 refine xO ?_
 refine xO ?_ (h := by simp [splice]; exact .mk)
 refine xO ?_
 refine xE [2,3] fun _ => ?_
 refine W_ret ?_
 refine endAt_ret (by simp [Tryz.f174]; exact .mk) ?_ ?_
 · simp
 simp [ownR]

theorem in176 (g : Gl) (s : Stt) (hs : s.Ok) (Q a : Abs) (ix gn : Int) (b : List UInt8) (o : Op) (e : Int) (he : e = 0) : ∀ B S, CallsA Tryz.prog g B S ⟨14, false⟩ 176 [.ptr 13 0 0] [.var 28 [.d (vI s.sh.pages), .d (vI s.sh.slots), .d (vI s.sh.roots), .d (vI s.sh.room), .d (vI s.mode), .d (vI s.base), .d (rSl s.slots), .d (rR s.roots), .d (rBB s.data)], .var 73 [.d (vI o.act), .d (vI o.ix), .d (vI o.gen), .d (vI o.n), .d (vI o.off), .d (rB o.b), .d (vS o.name)], .var 28 [.d (vI 0), .d (vI 0), .d (vI 0), .d (vI 0), .d (vI 0), .d (vI 0), .d (.v (.slice none 0 0)), .d (.v (.slice none 0 0)), .d (.v (.slice none 0 0))], .var 77 [.d (vI 0), .d (vI 0), .d (.v (.slice none 0 0))], .row 1 (Q.gens.map vI), .row 1 (Q.data.map oB), .row 3 (Q.roots.map eRoot), .row 1 (a.gens.map vI), .row 1 (a.data.map oB), .row 3 (a.roots.map eRoot), .row 1 (b.map vB), .var 67 [.hdr 7 0 a.gens.length, .hdr 8 0 a.data.length, .hdr 9 0 a.roots.length], .var 77 [.d (vI ix), .d (vI gn), .hdr 10 0 b.length], .var 188 [.d (vI s.sh.pages), .d (vI s.sh.slots), .d (vI s.sh.roots), .d (vI s.sh.room), .d (vI s.mode), .d (vI s.base), .d (rSl s.slots), .d (rR s.roots), .d (rBB s.data), .hdr 7 0 a.gens.length, .hdr 8 0 a.data.length, .hdr 9 0 a.roots.length, .d (vI o.act), .d (vI o.ix), .d (vI o.gen), .d (vI o.n), .d (vI o.off), .d (rB o.b), .d (vS o.name)]]
    (fun x r => x = .tup [.agg [.d (vI s.sh.pages), .d (vI s.sh.slots), .d (vI s.sh.roots), .d (vI s.sh.room), .d (vI s.mode), .d (vI s.base), .hdr 15 0 s.slots.length, .hdr 9 0 a.roots.length, .hdr 17 0 s.data.length], .d (vI e)] ∧ r = [.var 28 [.d (vI s.sh.pages), .d (vI s.sh.slots), .d (vI s.sh.roots), .d (vI s.sh.room), .d (vI s.mode), .d (vI s.base), .d (rSl s.slots), .d (rR s.roots), .d (rBB s.data)], .var 73 [.d (vI o.act), .d (vI o.ix), .d (vI o.gen), .d (vI o.n), .d (vI o.off), .d (rB o.b), .d (vS o.name)], .var 28 [.d (vI 0), .d (vI 0), .d (vI 0), .d (vI 0), .d (vI 0), .d (vI 0), .d (.v (.slice none 0 0)), .d (.v (.slice none 0 0)), .d (.v (.slice none 0 0))], .var 77 [.d (vI 0), .d (vI 0), .d (.v (.slice none 0 0))], .row 1 (Q.gens.map vI), .row 1 (Q.data.map oB), .row 3 (Q.roots.map eRoot), .row 1 (a.gens.map vI), .row 1 (a.data.map oB), .row 3 (a.roots.map eRoot), .row 1 (b.map vB), .var 67 [.hdr 7 0 a.gens.length, .hdr 8 0 a.data.length, .hdr 9 0 a.roots.length], .var 77 [.d (vI ix), .d (vI gn), .hdr 10 0 b.length], .var 188 [.d (vI s.sh.pages), .d (vI s.sh.slots), .d (vI s.sh.roots), .d (vI s.sh.room), .d (vI s.mode), .d (vI s.base), .d (rSl s.slots), .d (rR s.roots), .d (rBB s.data), .hdr 7 0 a.gens.length, .hdr 8 0 a.data.length, .hdr 9 0 a.roots.length, .d (vI o.act), .d (vI o.ix), .d (vI o.gen), .d (vI o.n), .d (vI o.off), .d (rB o.b), .d (vS o.name)], .var 28 [.d (vI s.sh.pages), .d (vI s.sh.slots), .d (vI s.sh.roots), .d (vI s.sh.room), .d (vI s.mode), .d (vI s.base), .hdr 15 0 s.slots.length, .hdr 9 0 a.roots.length, .hdr 17 0 s.data.length], .row 5 (s.slots.map eSlot), .row 3 (s.roots.map eRoot), .row 1 (s.data.map oB), .var 28 [.d (vI s.sh.pages), .d (vI s.sh.slots), .d (vI s.sh.roots), .d (vI s.sh.room), .d (vI s.mode), .d (vI s.base), .hdr 15 0 s.slots.length, .hdr 9 0 a.roots.length, .hdr 17 0 s.data.length]]) := by
 refine callsA_at Tryz.func176 rfl (Nat.le_of_ble_eq_true rfl) fun B S => ?_
 subst he
 refine xU ?_
 iterate 2 refine xO ?_
 refine xE [0,2] ?_
 refine xT ?_
 iterate 4 refine xO ?_
 refine xC (ct24 g s hs) ?_ (he := by simp [row_rows, Function.comp_def]; exact .mk) (hi := by simp [oStt]; exact .mk)
 refine xO ?_
 refine xO ?_ (h := by simp [splice]; exact .mk)
 refine xE [0,2,4] ?_
 refine xT ?_
 iterate 6 refine xO ?_
 refine xO ?_ (h := by simp [splice]; exact .mk)
 refine xE [2,4] ?_
 refine xT ?_
 refine xO ?_
 refine xO ?_ (h := by simp [splice]; exact .mk)
 refine xO ?_
 refine xE [2,3] fun _ => ?_
 refine W_ret ?_
 refine endAt_ret (by simp [Tryz.f176]; exact .mk) ?_ ?_
 · simp [rootsAt]
 simp [ownR, rootsAt]

open Go.Awp
theorem in175 (g : Gl) (s : Stt) (hs : s.Ok) (Q a : Abs) (ix gn : Int) (b : List UInt8) (o : Op) (e : Int) (he : e = 0) (k : Nat) (hix : o.ix = k) (hk : k < s.data.length) (hk2 : k < a.data.length) : ∀ B S, CallsA Tryz.prog g B S ⟨14, false⟩ 175 [.ptr 13 0 0] [.var 28 [.d (vI s.sh.pages), .d (vI s.sh.slots), .d (vI s.sh.roots), .d (vI s.sh.room), .d (vI s.mode), .d (vI s.base), .d (rSl s.slots), .d (rR s.roots), .d (rBB s.data)], .var 73 [.d (vI o.act), .d (vI o.ix), .d (vI o.gen), .d (vI o.n), .d (vI o.off), .d (rB o.b), .d (vS o.name)], .var 28 [.d (vI 0), .d (vI 0), .d (vI 0), .d (vI 0), .d (vI 0), .d (vI 0), .d (.v (.slice none 0 0)), .d (.v (.slice none 0 0)), .d (.v (.slice none 0 0))], .var 77 [.d (vI 0), .d (vI 0), .d (.v (.slice none 0 0))], .row 1 (Q.gens.map vI), .row 1 (Q.data.map oB), .row 3 (Q.roots.map eRoot), .row 1 (a.gens.map vI), .row 1 (a.data.map oB), .row 3 (a.roots.map eRoot), .row 1 (b.map vB), .var 67 [.hdr 7 0 a.gens.length, .hdr 8 0 a.data.length, .hdr 9 0 a.roots.length], .var 77 [.d (vI ix), .d (vI gn), .hdr 10 0 b.length], .var 188 [.d (vI s.sh.pages), .d (vI s.sh.slots), .d (vI s.sh.roots), .d (vI s.sh.room), .d (vI s.mode), .d (vI s.base), .d (rSl s.slots), .d (rR s.roots), .d (rBB s.data), .hdr 7 0 a.gens.length, .hdr 8 0 a.data.length, .hdr 9 0 a.roots.length, .d (vI o.act), .d (vI o.ix), .d (vI o.gen), .d (vI o.n), .d (vI o.off), .d (rB o.b), .d (vS o.name)]]
    (fun x r => x = .tup [.agg [.d (vI s.sh.pages), .d (vI s.sh.slots), .d (vI s.sh.roots), .d (vI s.sh.room), .d (vI s.mode), .d (vI s.base), .hdr 15 0 s.slots.length, .hdr 16 0 s.roots.length, .hdr 17 0 s.data.length], .d (vI e)] ∧ r = [.var 28 [.d (vI s.sh.pages), .d (vI s.sh.slots), .d (vI s.sh.roots), .d (vI s.sh.room), .d (vI s.mode), .d (vI s.base), .d (rSl s.slots), .d (rR s.roots), .d (rBB s.data)], .var 73 [.d (vI o.act), .d (vI o.ix), .d (vI o.gen), .d (vI o.n), .d (vI o.off), .d (rB o.b), .d (vS o.name)], .var 28 [.d (vI 0), .d (vI 0), .d (vI 0), .d (vI 0), .d (vI 0), .d (vI 0), .d (.v (.slice none 0 0)), .d (.v (.slice none 0 0)), .d (.v (.slice none 0 0))], .var 77 [.d (vI 0), .d (vI 0), .d (.v (.slice none 0 0))], .row 1 (Q.gens.map vI), .row 1 (Q.data.map oB), .row 3 (Q.roots.map eRoot), .row 1 (a.gens.map vI), .hole k 19 (nth a.data k).length (a.data.map oB), .row 3 (a.roots.map eRoot), .row 1 (b.map vB), .var 67 [.hdr 7 0 a.gens.length, .hdr 8 0 a.data.length, .hdr 9 0 a.roots.length], .var 77 [.d (vI ix), .d (vI gn), .hdr 10 0 b.length], .var 188 [.d (vI s.sh.pages), .d (vI s.sh.slots), .d (vI s.sh.roots), .d (vI s.sh.room), .d (vI s.mode), .d (vI s.base), .d (rSl s.slots), .d (rR s.roots), .d (rBB s.data), .hdr 7 0 a.gens.length, .hdr 8 0 a.data.length, .hdr 9 0 a.roots.length, .d (vI o.act), .d (vI o.ix), .d (vI o.gen), .d (vI o.n), .d (vI o.off), .d (rB o.b), .d (vS o.name)], .var 28 [.d (vI s.sh.pages), .d (vI s.sh.slots), .d (vI s.sh.roots), .d (vI s.sh.room), .d (vI s.mode), .d (vI s.base), .hdr 15 0 s.slots.length, .hdr 16 0 s.roots.length, .hdr 17 0 s.data.length], .row 5 (s.slots.map eSlot), .row 3 (s.roots.map eRoot), .row 1 ((s.data.set k (nth a.data k)).map oB), .var 28 [.d (vI s.sh.pages), .d (vI s.sh.slots), .d (vI s.sh.roots), .d (vI s.sh.room), .d (vI s.mode), .d (vI s.base), .hdr 15 0 s.slots.length, .hdr 16 0 s.roots.length, .hdr 17 0 s.data.length], .dead]) := by
 refine callsA_at Tryz.func175 rfl (Nat.le_of_ble_eq_true rfl) fun B S => ?_
 subst he
 rw [hix]
 refine xU ?_
 iterate 2 refine xO ?_
 refine xE [0,2] ?_
 refine xT ?_
 iterate 4 refine xO ?_
 refine xC (ct24 g s hs) ?_ (he := by simp [row_rows, Function.comp_def]; exact .mk) (hi := by simp [oStt]; exact .mk)
 refine xO ?_
 refine xO ?_ (h := by simp [splice]; exact .mk)
 refine xE [0,2,4] ?_
 refine xT ?_
 iterate 7 refine xO ?_
 refine xE [0,2,4,5] fun _ => ?_
 refine W_seq ?_
 refine W_weak (s2 := slots [(0, .ptr 13 0 0), (2, .ptr 14 0 0), (4, .ptr 18 0 0), (5, .d (vI k))]) (objs2 := [.var 28 [.d (vI s.sh.pages), .d (vI s.sh.slots), .d (vI s.sh.roots), .d (vI s.sh.room), .d (vI s.mode), .d (vI s.base), .d (rSl s.slots), .d (rR s.roots), .d (rBB s.data)], .var 73 [.d (vI o.act), .d (vI k), .d (vI o.gen), .d (vI o.n), .d (vI o.off), .d (rB o.b), .d (vS o.name)], .var 28 [.d (vI 0), .d (vI 0), .d (vI 0), .d (vI 0), .d (vI 0), .d (vI 0), .d (.v (.slice none 0 0)), .d (.v (.slice none 0 0)), .d (.v (.slice none 0 0))], .var 77 [.d (vI 0), .d (vI 0), .d (.v (.slice none 0 0))], .row 1 (Q.gens.map vI), .row 1 (Q.data.map oB), .row 3 (Q.roots.map eRoot), .row 1 (a.gens.map vI), .hole k 19 (nth a.data k).length (a.data.map oB), .row 3 (a.roots.map eRoot), .row 1 (b.map vB), .var 67 [.hdr 7 0 a.gens.length, .hdr 8 0 a.data.length, .hdr 9 0 a.roots.length], .var 77 [.d (vI ix), .d (vI gn), .hdr 10 0 b.length], .var 188 [.d (vI s.sh.pages), .d (vI s.sh.slots), .d (vI s.sh.roots), .d (vI s.sh.room), .d (vI s.mode), .d (vI s.base), .d (rSl s.slots), .d (rR s.roots), .d (rBB s.data), .hdr 7 0 a.gens.length, .hdr 8 0 a.data.length, .hdr 9 0 a.roots.length, .d (vI o.act), .d (vI k), .d (vI o.gen), .d (vI o.n), .d (vI o.off), .d (rB o.b), .d (vS o.name)], .var 28 [.d (vI 0), .d (vI 0), .d (vI 0), .d (vI 0), .d (vI 0), .d (vI 0), .d (.v (.slice none 0 0)), .d (.v (.slice none 0 0)), .d (.v (.slice none 0 0))], .row 5 (s.slots.map eSlot), .row 3 (s.roots.map eRoot), .row 1 (s.data.map oB), .var 28 [.d (vI s.sh.pages), .d (vI s.sh.slots), .d (vI s.sh.roots), .d (vI s.sh.room), .d (vI s.mode), .d (vI s.base), .hdr 15 0 s.slots.length, .hdr 16 0 s.roots.length, .hdr 17 0 s.data.length], .row 1 ((nth a.data k).map vB)]) (Weak.open (xs := a.data.map oB) (ys := (nth a.data k).map vB) (len := (nth a.data k).length) 8 k rfl rfl (map_get (f := oB) hk2) ?_ ?_ (by simp)) ?_
 · simp
 · simp [ownR, snR]
 refine W_regD (by kernel_rfl) [] 4 [0,1,2,3,4,5,6,7,8,9,10,11,12] (by decide +kernel) ?_
 iterate 9 refine xO ?_
 refine xO ?_ (h := by simp [hk2]; exact .mk)
 refine xO ?_ (h := by simp [-List.getElem?_map, hk2]; exact .mk)
 refine xO ?_ (h := by simp [hk]; exact .mk)
 refine xO ?_ (h := by simp [splice, hk, -List.getElem?_map, map_get hk, nrmL, nrm, putC]; exact .mk)
 refine xE [2,4] ?_
 refine xT ?_
 refine xO ?_
 refine xO ?_ (h := by simp [splice]; exact .mk)
 refine xO ?_
 refine xE [2,3] fun _ => ?_
 refine W_ret ?_
 refine endAt_ret (by simp [Tryz.f175]; exact .mk) ?_ ?_
 · simp
 simp [ownR, List.map_set, nrmL]; try rfl

open Go.Awp
theorem ct60 (g : Gl) (s : Stt) (hs : s.Ok) : CtAt Tryz.prog g 60 [eStt s] (oAbs (ofS s)) := by
 refine ctAt_of_W Tryz.func60 rfl rfl (Nat.le_of_ble_eq_true rfl) fun B S => ?_
 simp only [eStt, List.map, argD_agg, argD_v]
 have q1 := hs.h1
 refine xU ?_
 iterate 2 refine xO ?_
 refine xE [1,2] ?_
 refine xT ?_
 refine xO ?_
 refine xO ?_ (h := by simp [eSlot, eRoot]; exact .mk)
 refine xC (ct77 g _ hs.h2) ?_ (he := by simp [row_rows, Function.comp_def]; exact .mk) (hi := by simp [oAbs]; exact .mk)
 refine xO ?_ (h := by simp [splice]; exact .mk)
 refine xO ?_
 refine xO ?_ (h := by simp [splice]; exact .mk)
 refine xE [1,2,3] fun _ => ?_
 refine W_seq ?_
 refine xU ?_
 refine xO ?_
 refine xO ?_ (h := by simp [eSlot, eRoot]; exact .mk)
 iterate 2 refine xO ?_
 refine xE [1,2,3,12,13,14] fun _ => ?_
 refine W_block ?_
 refine W_rounds (fun m σ o => ∃ i : Nat, m = s.slots.length - i ∧ i ≤ s.slots.length ∧ σ = slots [(1, .ptr 0 0 0), (2, .ptr 1 0 0), (3, .ptr 3 0 0), (12, .d (rSl s.slots)), (13, .d (vI s.slots.length)), (14, .d (vI i))] ∧ o = [.var 28 [.d (vI s.sh.pages), .d (vI s.sh.slots), .d (vI s.sh.roots), .d (vI s.sh.room), .d (vI s.mode), .d (vI s.base), .d (rSl s.slots), .d (rR s.roots), .d (rBB s.data)], .var 67 [.d (.v (.slice none 0 0)), .d (.v (.slice none 0 0)), .d (.v (.slice none 0 0))], .row 3 (s.roots.map eRoot), .var 67 [.hdr 4 0 i, .hdr 5 0 i, .hdr 2 0 s.roots.length], .row 1 ((ofG s i).map vI), .row 1 ((ofD s i).map oB)]) s.slots.length
  (Weak.trans (Weak.nilCell 3 0 1 rfl rfl) (Weak.nilCell 3 1 1 rfl rfl) (fun _ _ _ h1 h2 => by rw [← h1.len]; exact h2)) ⟨0, by simp, by simp, by simp, by simp [ofG, ofD]⟩ ?_
 rintro m σ o ⟨i, rfl, hi, rfl, rfl⟩ _
 refine xU ?_
 refine xO ?_
 refine xE [1,2,3,12,13,14,15] fun _ => ?_
 refine W_seq ?_
 refine W_cond rfl ?_ ?_
 · intro h15
   have hi2 : i < s.slots.length := by simpa using h15
   have e4 : (i + 1) * 16 ≤ 140737488355328 := by omega
   have e5 : i ≤ 140737488355327 := by omega
   have e6 : (i + 1) * 8 ≤ 140737488355328 := by omega
   have e7 : (i + 1) * 24 ≤ 140737488355328 := by omega
   refine W_skip ?_
   rintro -
   refine W_seq ?_
   refine W_block ?_
   refine xU ?_
   refine xO ?_
   refine xO ?_ (h := by simp [eSlot, eRoot, hi2]; exact .mk)
   refine xO ?_ (h := by simp [-List.getElem?_map, map_get hi2, eSlot]; exact .mk)
   iterate 2 refine xO ?_
   refine xO ?_ (h := by simp [splice]; exact .mk)
   refine xE [1,2,3,4,5,12,13,14] ?_
   refine xT ?_
   refine xO ?_
   refine xE [1,2,3,4,5,6,12,13,14] fun _ => ?_
   refine W_seq ?_
   refine xU ?_
   refine xO ?_
   refine xO ?_ (h := by simp [eSlot, eRoot]; exact .mk)
   refine xO ?_
   iterate 2 refine xI ?_
   refine run_if rfl (by simp; exact .mk) rfl (by simp <;> first | omega | grind) (fun hb => by simp [eSlot, eRoot]; exact .mk) ?_
   iterate 2 refine xI ?_
   refine xP ?_
   refine xE [1,2,3,4,5,6,12,13,14,27] fun _ => ?_
   refine W_cond rfl ?_ ?_
   · intro h27
     have hc : (nth s.slots i).live = true ∧ i < s.data.length := by simpa using h27
     have hx : ofB s i = nth s.data i := by unfold ofB; rw [if_pos (by simpa using hc)]
     have hd := hc.2
     refine W_reg rfl ?_
     refine xO ?_
     refine xO ?_ (h := by simp [eSlot, eRoot]; exact .mk)
     refine xO ?_
     refine xO ?_ (h := by simp [eSlot, eRoot, hd]; exact .mk)
     refine xO ?_ (h := by simp [-List.getElem?_map, map_get hd]; exact .mk)
     refine xC (ct79 g _ (hs.h4 i hd)) ?_ (he := by simp [row_rows, Function.comp_def]; exact .mk) (hi := by simp [oAbs]; exact .mk)
     refine xO ?_
     refine xE [1,2,3,5,6,12,13,14] fun _ => ?_
     refine W_regDT (hard := []) [1,3,4,5,7,9] (keepOk_lt (by decide)) (by kernel_rfl) 4 [[0,2,6,8,1,3,4,5,7,11,9,10,12,13,14], [0,2,6,8,1,3,4,5,9,7,10,11,12,13,14], [0,2,6,8,1,3,4,7,5,11,9,10,12,13,14], [0,2,6,8,1,3,4,7,9,5,10,11,12,13,14], [0,2,6,8,1,3,4,9,5,7,10,11,12,13,14], [0,2,6,8,1,3,4,9,7,5,10,11,12,13,14], [0,2,6,8,1,3,7,4,5,11,9,10,12,13,14], [0,2,6,8,1,3,7,4,9,5,10,11,12,13,14], [0,2,6,8,1,3,7,9,4,5,10,11,12,13,14], [0,2,6,8,1,3,9,4,5,7,10,11,12,13,14], [0,2,6,8,1,3,9,4,7,5,10,11,12,13,14], [0,2,6,8,1,3,9,7,4,5,10,11,12,13,14], [0,2,6,8,1,7,9,3,4,5,10,11,12,13,14], [0,2,6,8,1,9,3,4,5,7,10,11,12,13,14], [0,2,6,8,1,9,3,4,7,5,10,11,12,13,14], [0,2,6,8,1,9,3,7,4,5,10,11,12,13,14], [0,2,6,8,3,4,1,5,7,11,9,10,12,13,14], [0,2,6,8,3,4,1,5,9,7,10,11,12,13,14], [0,2,6,8,3,4,1,7,5,11,9,10,12,13,14], [0,2,6,8,3,4,1,7,9,5,10,11,12,13,14], [0,2,6,8,3,4,1,9,5,7,10,11,12,13,14], [0,2,6,8,3,4,1,9,7,5,10,11,12,13,14], [0,2,6,8,3,4,7,9,1,5,10,11,12,13,14], [0,2,6,8,3,4,9,1,5,7,10,11,12,13,14], [0,2,6,8,3,4,9,1,7,5,10,11,12,13,14], [0,2,6,8,3,7,4,1,5,11,9,10,12,13,14], [0,2,6,8,3,7,4,1,9,5,10,11,12,13,14], [0,2,6,8,3,7,4,9,1,5,10,11,12,13,14], [0,2,6,8,3,7,9,1,4,5,10,11,12,13,14], [0,2,6,8,3,7,9,4,1,5,10,11,12,13,14], [0,2,6,8,3,9,1,4,5,7,10,11,12,13,14], [0,2,6,8,3,9,1,4,7,5,10,11,12,13,14], [0,2,6,8,3,9,1,7,4,5,10,11,12,13,14], [0,2,6,8,3,9,4,1,5,7,10,11,12,13,14], [0,2,6,8,3,9,4,1,7,5,10,11,12,13,14], [0,2,6,8,3,9,7,4,1,5,10,11,12,13,14], [0,2,6,8,7,9,1,3,4,5,10,11,12,13,14], [0,2,6,8,7,9,3,4,1,5,10,11,12,13,14], [0,2,6,8,9,1,3,4,5,7,10,11,12,13,14], [0,2,6,8,9,1,3,4,7,5,10,11,12,13,14], [0,2,6,8,9,1,3,7,4,5,10,11,12,13,14], [0,2,6,8,9,3,4,1,5,7,10,11,12,13,14], [0,2,6,8,9,3,4,1,7,5,10,11,12,13,14], [0,2,6,8,9,3,7,4,1,5,10,11,12,13,14]] (by decide +kernel) ⟨?_, ?_, ?_, ?_, ?_, ?_, ?_, ?_, ?_, ?_, ?_, ?_, ?_, ?_, ?_, ?_, ?_, ?_, ?_, ?_, ?_, ?_, ?_, ?_, ?_, ?_, ?_, ?_, ?_, ?_, ?_, ?_, ?_, ?_, ?_, ?_, ?_, ?_, ?_, ?_, ?_, ?_, ?_, ?_, trivial⟩
     all_goals
      iterate 15 (first | refine xO ?_ | refine xO ?_ (h := by simp [eSlot, eRoot]; exact .mk) ?_ | refine run_op rfl rfl rfl (by simp [rows, e4, e5, e6, e7]; exact .mk) ?_ | refine run_op rfl rfl rfl (by simp [rows, e4, e5, e6, e7, D.noOwn]; exact .mk) ?_ | refine run_op rfl rfl rfl (by simp [splice]; exact .mk))
      refine xE [1,2,3,12,13,14] fun _ => ?_
      refine W_reg rfl ?_
      iterate 2 refine xO ?_
      refine xE [1,2,3,12,13,14] ?_
      first | (refine rounds_kills [1,2,3,12,13,14] rfl ?_; refine rounds_swap 4 9 1 (by decide) (by simp) (by decide) rfl rfl ?_; refine rounds_swap 5 11 1 (by decide) (by simp) (by decide) rfl rfl ?_; refine rounds_drop 6 [1,2,3,12,13,14] (by decide) (by rfl) (by rfl) ?_; exact rounds_next (m' := s.slots.length - (i+1)) (by omega) ⟨i+1, rfl, by omega, by rw [wrap64 (by omega) (by omega)]; rfl, by rw [ofD_s, ofG_s, hx]; first | (rw [List.map_append, List.map_append]; rfl) | (simp only [List.map_append]; rfl) | (simp [swapB]; try rfl)⟩) | (refine rounds_kills [1,2,3,12,13,14] rfl ?_; refine rounds_swap 4 10 1 (by decide) (by simp) (by decide) rfl rfl ?_; refine rounds_swap 5 11 1 (by decide) (by simp) (by decide) rfl rfl ?_; refine rounds_drop 6 [1,2,3,12,13,14] (by decide) (by rfl) (by rfl) ?_; exact rounds_next (m' := s.slots.length - (i+1)) (by omega) ⟨i+1, rfl, by omega, by rw [wrap64 (by omega) (by omega)]; rfl, by rw [ofD_s, ofG_s, hx]; first | (rw [List.map_append, List.map_append]; rfl) | (simp only [List.map_append]; rfl) | (simp [swapB]; try rfl)⟩)
   intro h27
   have hc : ¬ ((nth s.slots i).live && decide (i < s.data.length)) = true := by simpa using h27
   have hx : ofB s i = [] := by unfold ofB; rw [if_neg hc]
   refine W_weak (Weak.nilRow 6 1 rfl) ?_
   refine W_skip ?_
   rintro -
   refine W_regDT (hard := []) [1,3,4,5,7,9] (keepOk_lt (by decide)) (by kernel_rfl) 4 [[0,2,6,8,1,3,4,5,7,11,9,10,12,13,14], [0,2,6,8,1,3,4,5,9,7,10,11,12,13,14], [0,2,6,8,1,3,4,7,5,11,9,10,12,13,14], [0,2,6,8,1,3,4,7,9,5,10,11,12,13,14], [0,2,6,8,1,3,4,9,5,7,10,11,12,13,14], [0,2,6,8,1,3,4,9,7,5,10,11,12,13,14], [0,2,6,8,1,3,7,4,5,11,9,10,12,13,14], [0,2,6,8,1,3,7,4,9,5,10,11,12,13,14], [0,2,6,8,1,3,7,9,4,5,10,11,12,13,14], [0,2,6,8,1,3,9,4,5,7,10,11,12,13,14], [0,2,6,8,1,3,9,4,7,5,10,11,12,13,14], [0,2,6,8,1,3,9,7,4,5,10,11,12,13,14], [0,2,6,8,1,7,9,3,4,5,10,11,12,13,14], [0,2,6,8,1,9,3,4,5,7,10,11,12,13,14], [0,2,6,8,1,9,3,4,7,5,10,11,12,13,14], [0,2,6,8,1,9,3,7,4,5,10,11,12,13,14], [0,2,6,8,3,4,1,5,7,11,9,10,12,13,14], [0,2,6,8,3,4,1,5,9,7,10,11,12,13,14], [0,2,6,8,3,4,1,7,5,11,9,10,12,13,14], [0,2,6,8,3,4,1,7,9,5,10,11,12,13,14], [0,2,6,8,3,4,1,9,5,7,10,11,12,13,14], [0,2,6,8,3,4,1,9,7,5,10,11,12,13,14], [0,2,6,8,3,4,7,9,1,5,10,11,12,13,14], [0,2,6,8,3,4,9,1,5,7,10,11,12,13,14], [0,2,6,8,3,4,9,1,7,5,10,11,12,13,14], [0,2,6,8,3,7,4,1,5,11,9,10,12,13,14], [0,2,6,8,3,7,4,1,9,5,10,11,12,13,14], [0,2,6,8,3,7,4,9,1,5,10,11,12,13,14], [0,2,6,8,3,7,9,1,4,5,10,11,12,13,14], [0,2,6,8,3,7,9,4,1,5,10,11,12,13,14], [0,2,6,8,3,9,1,4,5,7,10,11,12,13,14], [0,2,6,8,3,9,1,4,7,5,10,11,12,13,14], [0,2,6,8,3,9,1,7,4,5,10,11,12,13,14], [0,2,6,8,3,9,4,1,5,7,10,11,12,13,14], [0,2,6,8,3,9,4,1,7,5,10,11,12,13,14], [0,2,6,8,3,9,7,4,1,5,10,11,12,13,14], [0,2,6,8,7,9,1,3,4,5,10,11,12,13,14], [0,2,6,8,7,9,3,4,1,5,10,11,12,13,14], [0,2,6,8,9,1,3,4,5,7,10,11,12,13,14], [0,2,6,8,9,1,3,4,7,5,10,11,12,13,14], [0,2,6,8,9,1,3,7,4,5,10,11,12,13,14], [0,2,6,8,9,3,4,1,5,7,10,11,12,13,14], [0,2,6,8,9,3,4,1,7,5,10,11,12,13,14], [0,2,6,8,9,3,7,4,1,5,10,11,12,13,14]] (by decide +kernel) ⟨?_, ?_, ?_, ?_, ?_, ?_, ?_, ?_, ?_, ?_, ?_, ?_, ?_, ?_, ?_, ?_, ?_, ?_, ?_, ?_, ?_, ?_, ?_, ?_, ?_, ?_, ?_, ?_, ?_, ?_, ?_, ?_, ?_, ?_, ?_, ?_, ?_, ?_, ?_, ?_, ?_, ?_, ?_, ?_, trivial⟩
   all_goals
    iterate 15 (first | refine xO ?_ | refine xO ?_ (h := by simp [eSlot, eRoot]; exact .mk) ?_ | refine run_op rfl rfl rfl (by simp [rows, e4, e5, e6, e7]; exact .mk) ?_ | refine run_op rfl rfl rfl (by simp [rows, e4, e5, e6, e7, D.noOwn]; exact .mk) ?_ | refine run_op rfl rfl rfl (by simp [splice]; exact .mk))
    refine xE [1,2,3,12,13,14] fun _ => ?_
    refine W_reg rfl ?_
    iterate 2 refine xO ?_
    refine xE [1,2,3,12,13,14] ?_
    first | (refine rounds_kills [1,2,3,12,13,14] rfl ?_; refine rounds_swap 4 9 1 (by decide) (by simp) (by decide) rfl rfl ?_; refine rounds_swap 5 11 1 (by decide) (by simp) (by decide) rfl rfl ?_; refine rounds_drop 6 [1,2,3,12,13,14] (by decide) (by rfl) (by rfl) ?_; exact rounds_next (m' := s.slots.length - (i+1)) (by omega) ⟨i+1, rfl, by omega, by rw [wrap64 (by omega) (by omega)]; rfl, by rw [ofD_s, ofG_s, hx]; first | (rw [List.map_append, List.map_append]; rfl) | (simp only [List.map_append]; rfl) | (simp [swapB]; try rfl)⟩) | (refine rounds_kills [1,2,3,12,13,14] rfl ?_; refine rounds_swap 4 10 1 (by decide) (by simp) (by decide) rfl rfl ?_; refine rounds_swap 5 11 1 (by decide) (by simp) (by decide) rfl rfl ?_; refine rounds_drop 6 [1,2,3,12,13,14] (by decide) (by rfl) (by rfl) ?_; exact rounds_next (m' := s.slots.length - (i+1)) (by omega) ⟨i+1, rfl, by omega, by rw [wrap64 (by omega) (by omega)]; rfl, by rw [ofD_s, ofG_s, hx]; first | (rw [List.map_append, List.map_append]; rfl) | (simp only [List.map_append]; rfl) | (simp [swapB]; try rfl)⟩)
 intro h15
 obtain rfl : i = s.slots.length := by simp at h15; omega
 refine W_exit ?_
 refine xT ?_
 refine xO ?_ (h := by simp [eSlot, eRoot]; exact .mk)
 refine xO ?_ (h := by simp [splice]; exact .mk)
 refine xE [2] fun _ => ?_
 refine W_ret ?_
 refine end_ret (by simp [Tryz.f60]; exact .mk) (by simp; exact .mk) ?_ (by simp [oAbs])
 simp [Tryz.f60, oAbs, ofS, ownR]

open Go.Awp
theorem in186 (g : Gl) (o0 o1 o2 o3 o8 : Awp.Obj) (a : Abs) (o : Op) (ho : ∀ m, objsLt m [o0, o1, o2, o3, o8] = true) (ha : a.Ok) (hgd : a.data.length = a.gens.length) : ∀ B S, CallsA Tryz.prog g B S ⟨9, true⟩ 186 [.ptr 7 0 0, .agg [.d (vI o.act), .d (vI o.ix), .d (vI o.gen), .d (vI o.n), .d (vI o.off), .d (rB o.b), .d (vS o.name)]] [o0, o1, o2, o3, .row 1 (a.gens.map vI), .row 1 (a.data.map oB), .row 3 (a.roots.map eRoot), .var 151 [.hdr 4 0 a.gens.length, .hdr 5 0 a.data.length, (.hdr 6 0 a.roots.length), .d (vI 0), .d (vI 0), .d (.v (.slice none 0 0))], o8]
    (fun x q => x = .d (vI (allocS a o.n).e) ∧ q = [o0, o1, o2, o3, .row 1 (a.gens.map vI), .row 1 ((allocS a o.n).a.data.map oB), .row 3 (a.roots.map eRoot), .var 151 [.hdr 4 0 a.gens.length, .hdr 5 0 a.data.length, (.hdr 6 0 a.roots.length), .d (vI (allocS a o.n).ix), .d (vI (allocS a o.n).gen), .d (.v (.slice none 0 0))], o8]) := by
 refine callsA_at Tryz.func186 rfl (Nat.le_of_ble_eq_true rfl) fun B S => ?_
 obtain ⟨z0, z1, z2, z3, z8⟩ : o0.lt 9 = true ∧ o1.lt 9 = true ∧ o2.lt 9 = true ∧ o3.lt 9 = true ∧ o8.lt 9 = true := by simpa using ho 9
 refine xU ?_
 iterate 2 (refine xO ?_ (h := by simp [z0, z1, z2, z3, z8]; exact .mk))
 refine xE [0,3] fun _ => ?_
 refine W_seq ?_
 refine xU ?_
 iterate 2 (refine xO ?_ (h := by simp [z0, z1, z2, z3, z8]; exact .mk))
 refine run_call0 rfl rfl rfl rfl (by simp [z0, z1, z2, z3, z8]; exact .mk) (by simp [z0, z1, z2, z3, z8]; exact .mk) (ct219 g _) (by simp [z0, z1, z2, z3, z8]) (by simp [z0, z1, z2, z3, z8]; exact .mk) ?_
 refine xO ?_ (h := by simp [z0, z1, z2, z3, z8]; exact .mk)
 refine xE [0,3,10] fun _ => ?_
 refine W_cond rfl ?_ ?_
 · intro h10
   have hs : sizedS o.n = false := by simp at h10; simp [sizedS]; omega
   have hr : allocS a o.n = ⟨a, 0, 0, [], 1⟩ := by simp [allocS, hs]
   refine xU ?_
   refine xO ?_ (h := by simp [z0, z1, z2, z3, z8]; exact .mk)
   refine xE [4] fun _ => ?_
   refine W_ret ?_
   refine endAt_drop 9 (by simp [z0, z1, z2, z3, z8, Tryz.f186]; exact .mk) ?_ ?_ (by simp) (by simp [z0, z1, z2, z3, z8]) (by simp [z0, z1, z2, z3, z8])
   · simp [hr]
   simp [hr, List.map_set, ownR, nrmL]; try rfl
 intro h10
 have hs : sizedS o.n = true := by simp at h10; simp [sizedS]; omega
 have hn : 1 ≤ o.n ∧ o.n ≤ 2048 := by simpa [sizedS] using hs
 refine W_skip ?_
 rintro -
 refine W_seq ?_
 refine xU ?_
 iterate 7 (refine xO ?_ (h := by simp [z0, z1, z2, z3, z8]; exact .mk))
 refine xE [0,3,15,16,17] fun _ => ?_
 refine W_block ?_
 refine W_rounds (fun m σ q => ∃ i : Nat, m = a.gens.length - i ∧ i ≤ a.gens.length ∧ (∀ j, j < i → openS a j = false) ∧ σ = slots [(0, .ptr 7 0 0), (3, .ptr 9 0 0), (15, .hdr 4 0 a.gens.length), (16, .d (vI a.gens.length)), (17, .d (vI i))] ∧ q = [o0, o1, o2, o3, .row 1 (a.gens.map vI), .row 1 (a.data.map oB), .row 3 (a.roots.map eRoot), .var 151 [.hdr 4 0 a.gens.length, .hdr 5 0 a.data.length, (.hdr 6 0 a.roots.length), .d (vI 0), .d (vI 0), .d (.v (.slice none 0 0))], o8, .var 73 [.d (vI o.act), .d (vI o.ix), .d (vI o.gen), .d (vI o.n), .d (vI o.off), .d (rB o.b), .d (vS o.name)]]) a.gens.length .refl ⟨0, by simp, by simp, by simp, rfl, rfl⟩ ?_
 have q1 := ha.h1
 rintro m σ q ⟨i, rfl, hi, hinv, rfl, rfl⟩ _
 refine xU ?_
 refine xO ?_ (h := by simp [z0, z1, z2, z3, z8]; exact .mk)
 refine xE [0,3,15,16,17,18] fun _ => ?_
 refine W_seq ?_
 refine W_cond rfl ?_ ?_
 · intro h18
   have hi2 : i < a.gens.length := by simpa using h18
   have hi3 : i < a.data.length := by omega
   refine W_skip ?_
   rintro -
   refine W_seq ?_
   refine W_block ?_
   refine xU ?_
   refine xO ?_ (h := by simp [z0, z1, z2, z3, z8]; exact .mk)
   refine xO ?_ (h := by simp [z0, z1, z2, z3, z8, hi2]; exact .mk)
   refine xO ?_ (h := by simp [z0, z1, z2, z3, z8, -List.getElem?_map, map_get hi2]; exact .mk)
   iterate 2 (refine xO ?_ (h := by simp [z0, z1, z2, z3, z8]; exact .mk))
   refine xE [0,3,5,6,15,16,17] ?_
   refine xT ?_
   iterate 6 (refine xO ?_ (h := by simp [z0, z1, z2, z3, z8]; exact .mk))
   refine xO ?_ (h := by simp [z0, z1, z2, z3, z8, hi3]; exact .mk)
   refine xO ?_ (h := by simp [z0, z1, z2, z3, z8, -List.getElem?_map, map_get hi3]; exact .mk)
   iterate 3 (refine xO ?_ (h := by simp [z0, z1, z2, z3, z8]; exact .mk))
   iterate 2 (refine run_if rfl (by simp [z0, z1, z2, z3, z8]; exact .mk) rfl (by simp <;> omega) (fun hb => by simp [z0, z1, z2, z3, z8]; exact .mk) ?_)
   refine run_pick rfl (by simp [z0, z1, z2, z3, z8]; exact .mk) rfl rfl (by simp) (by simp [z0, z1, z2, z3, z8]; exact .mk) (by simp [z0, z1, z2, z3, z8]; exact .mk) (by simp; exact .mk) ?_
   refine run_end [0,3,5,6,15,16,17,35] (by simp <;> omega) (by simp; exact .mk) ?_
   rintro -
   refine W_cond rfl ?_ ?_
   · intro h35
     have hr : allocS a o.n = ⟨{ a with data := a.data.set i (List.replicate o.n.toNat 0) }, i, nth a.gens i, [], 0⟩ := by
      have : openS a i = true := by simp [openS] at *; exact h35
      simp [allocS, hs, allocIx_at hi2 hinv this]
     refine W_seq ?_
     have e1 : 0 ≤ o.n := by omega
     have e2 : o.n ≤ 140737488355328 := by omega
     refine W_regD (by kernel_rfl) [] 4 [0,1,2,3,4,5,6,7,8,9,10] (by decide +kernel) ?_
     iterate 8 (refine xO ?_ (h := by simp [z0, z1, z2, z3, z8]; exact .mk))
     refine xO ?_ (h := by simp [z0, z1, z2, z3, z8, e1, e2]; exact .mk)
     refine xO ?_ (h := by simp [z0, z1, z2, z3, z8, hi3]; exact .mk)
     refine xO ?_ (h := by simp [z0, z1, z2, z3, z8, splice, -List.getElem?_map, map_get hi3, nrmL, nrm, putC]; exact .mk)
     refine xE [0,5,6] ?_
     refine xT ?_
     iterate 3 (refine xO ?_ (h := by simp [z0, z1, z2, z3, z8]; exact .mk))
     refine xO ?_ (h := by simp [z0, z1, z2, z3, z8, splice]; exact .mk)
     iterate 3 (refine xO ?_ (h := by simp [z0, z1, z2, z3, z8]; exact .mk))
     refine xO ?_ (h := by simp [z0, z1, z2, z3, z8, splice]; exact .mk)
     refine xE [] ?_
     refine xT ?_
     refine xO ?_ (h := by simp [z0, z1, z2, z3, z8]; exact .mk)
     refine xE [4] fun _ => ?_
     refine W_ret ?_
     refine endAt_drop 9 (by simp [z0, z1, z2, z3, z8, Tryz.f186]; exact .mk) ?_ ?_ (by simp) (by simp [z0, z1, z2, z3, z8]) (by simp [z0, z1, z2, z3, z8])
     · simp [hr]
     simp [hr, List.map_set, ownR, nrmL]; try rfl
   intro h35
   refine W_skip ?_
   rintro -
   refine W_reg rfl ?_
   iterate 2 (refine xO ?_ (h := by simp [z0, z1, z2, z3, z8]; exact .mk))
   refine xE [0,3,15,16,17] ?_
   refine rounds_kill [0,3,15,16,17] ?_
   refine rounds_next (m' := a.gens.length - (i+1)) (by omega) ⟨i+1, rfl, by omega, ?_, ?_, rfl⟩
   · intro j hj
     rcases Nat.lt_succ_iff_lt_or_eq.1 hj with hj | rfl
     · exact hinv j hj
     simp [openS] at *; exact h35
   rw [wrap64 (by omega) (by omega)]; rfl
 intro h18
 have hr : allocS a o.n = ⟨a, 0, 0, [], 9⟩ := by simp [allocS, hs, allocIx_none (fun j hj => hinv j (by simp at h18; omega))]
 refine W_exit ?_
 refine xT ?_
 refine xO ?_ (h := by simp [z0, z1, z2, z3, z8]; exact .mk)
 refine xE [4] fun _ => ?_
 refine W_ret ?_
 refine endAt_drop 9 (by simp [z0, z1, z2, z3, z8, Tryz.f186]; exact .mk) ?_ ?_ (by simp) (by simp [z0, z1, z2, z3, z8]) (by simp [z0, z1, z2, z3, z8])
 · simp [hr]
 simp [hr, List.map_set, ownR, nrmL]; try rfl

theorem in190 (g : Gl) (o0 o1 o2 o3 o8 : Awp.Obj) (a : Abs) (o : Op) (ho : ∀ m, objsLt m [o0, o1, o2, o3, o8] = true) (ha : a.Ok) (k : Nat) (hix : o.ix = k) (hk : k < a.data.length) (hk2 : k < a.gens.length) (hgn : 0 ≤ nth a.gens k ∧ nth a.gens k ≤ 65535) : ∀ B S, CallsA Tryz.prog g B S ⟨9, true⟩ 190 [.ptr 7 0 0, .agg [.d (vI o.act), .d (vI o.ix), .d (vI o.gen), .d (vI o.n), .d (vI o.off), .d (rB o.b), .d (vS o.name)]] [o0, o1, o2, o3, .row 1 (a.gens.map vI), .row 1 (a.data.map oB), .row 3 (a.roots.map eRoot), .var 151 [.hdr 4 0 a.gens.length, .hdr 5 0 a.data.length, (.hdr 6 0 a.roots.length), .d (vI 0), .d (vI 0), .d (.v (.slice none 0 0))], o8]
    (fun x q => x = .d (vI (freeS a k).e) ∧ q = [o0, o1, o2, o3, .row 1 ((freeS a k).a.gens.map vI), .row 1 ((freeS a k).a.data.map oB), .row 3 (a.roots.map eRoot), .var 151 [.hdr 4 0 a.gens.length, .hdr 5 0 a.data.length, (.hdr 6 0 a.roots.length), .d (vI 0), .d (vI 0), .d (.v (.slice none 0 0))], o8]) := by
 refine callsA_at Tryz.func190 rfl (Nat.le_of_ble_eq_true rfl) fun B S => ?_
 obtain ⟨z0, z1, z2, z3, z8⟩ : o0.lt 9 = true ∧ o1.lt 9 = true ∧ o2.lt 9 = true ∧ o3.lt 9 = true ∧ o8.lt 9 = true := by simpa using ho 9
 simp only [hix]
 refine xU ?_
 iterate 2 (refine xO ?_ (h := by simp [z0, z1, z2, z3, z8]; exact .mk))
 refine xE [0,3] ?_
 refine xT ?_
 iterate 4 (refine xO ?_ (h := by simp [z0, z1, z2, z3, z8]; exact .mk))
 refine xE [0,5] fun _ => ?_
 refine W_seq ?_
 have e1 : IntKind.i64.wrap (nth a.gens k + 1) = nth a.gens k + 1 := wrap64 (by omega) (by omega)
 have em : (if 65535 < nth a.gens k + 1 then (65535 : Int) else nth a.gens k + 1) = min (nth a.gens k + 1) 65535 := by omega
 refine W_regD (by kernel_rfl) [] 4 [0,1,2,3,4,5,6,7,8,9,10,11,12,13,14,15,16,17,18,19,20,22,21,23,24,25] (by decide +kernel) ?_
 iterate 18 (refine xO ?_ (h := by simp [z0, z1, z2, z3, z8]; exact .mk))
 refine xO ?_ (h := by simp [z0, z1, z2, z3, z8, hk2]; exact .mk)
 refine xO ?_ (h := by simp [z0, z1, z2, z3, z8, -List.getElem?_map, map_get hk2]; exact .mk)
 refine xO ?_ (h := by simp [z0, z1, z2, z3, z8, e1]; exact .mk)
 refine xO ?_ (h := by simp [z0, z1, z2, z3, z8, hk]; exact .mk)
 refine xO ?_ (h := by simp [z0, z1, z2, z3, z8, minA]; exact .mk)
 refine xO ?_ (h := by simp [z0, z1, z2, z3, z8, splice, -List.getElem?_map, map_get hk, nrmL, nrm, putC]; exact .mk)
 refine xO ?_ (h := by simp [z0, z1, z2, z3, z8, hk2]; exact .mk)
 refine xO ?_ (h := by simp [z0, z1, z2, z3, z8, splice, -List.getElem?_map, map_get hk2, nrmL, nrm, putC]; exact .mk)
 refine xE [] ?_
 refine xT ?_
 refine xO ?_ (h := by simp [z0, z1, z2, z3, z8]; exact .mk)
 refine xE [4] fun _ => ?_
 refine W_ret ?_
 refine endAt_drop 9 (by simp [z0, z1, z2, z3, z8, Tryz.f190]; exact .mk) ?_ ?_ (by simp) (by simp [z0, z1, z2, z3, z8]) (by simp [z0, z1, z2, z3, z8])
 · simp [freeS]
 simp [freeS, em, List.map_set, ownR, nrmL]; try rfl

theorem in191 (g : Gl) (o0 o1 o2 o3 o8 : Awp.Obj) (a : Abs) (o : Op) (ho : ∀ m, objsLt m [o0, o1, o2, o3, o8] = true) (ha : a.Ok) (k : Nat) (hix : o.ix = k) (hk : k < a.data.length) (hd : (nth a.data k).length ≤ 2^40) : ∀ B S, CallsA Tryz.prog g B S ⟨9, true⟩ 191 [.ptr 7 0 0, .agg [.d (vI o.act), .d (vI o.ix), .d (vI o.gen), .d (vI o.n), .d (vI o.off), .d (rB o.b), .d (vS o.name)]] [o0, o1, o2, o3, .row 1 (a.gens.map vI), .row 1 (a.data.map oB), .row 3 (a.roots.map eRoot), .var 151 [.hdr 4 0 a.gens.length, .hdr 5 0 a.data.length, (.hdr 6 0 a.roots.length), .d (vI 0), .d (vI 0), .d (.v (.slice none 0 0))], o8]
    (fun x q => x = .d (vI (resizeS a k o.n).e) ∧ q = [o0, o1, o2, o3, .row 1 (a.gens.map vI), .row 1 ((resizeS a k o.n).a.data.map oB), .row 3 (a.roots.map eRoot), .var 151 [.hdr 4 0 a.gens.length, .hdr 5 0 a.data.length, (.hdr 6 0 a.roots.length), .d (vI 0), .d (vI 0), .d (.v (.slice none 0 0))], o8]) := by
 refine callsA_at Tryz.func191 rfl (Nat.le_of_ble_eq_true rfl) fun B S => ?_
 obtain ⟨z0, z1, z2, z3, z8⟩ : o0.lt 9 = true ∧ o1.lt 9 = true ∧ o2.lt 9 = true ∧ o3.lt 9 = true ∧ o8.lt 9 = true := by simpa using ho 9
 simp only [hix]
 refine xU ?_
 iterate 2 (refine xO ?_ (h := by simp [z0, z1, z2, z3, z8]; exact .mk))
 refine xE [0,3] fun _ => ?_
 refine W_seq ?_
 refine xU ?_
 iterate 2 (refine xO ?_ (h := by simp [z0, z1, z2, z3, z8]; exact .mk))
 refine run_call0 rfl rfl rfl rfl (by simp [z0, z1, z2, z3, z8]; exact .mk) (by simp [z0, z1, z2, z3, z8]; exact .mk) (ct219 g _) (by simp [z0, z1, z2, z3, z8]) (by simp [z0, z1, z2, z3, z8]; exact .mk) ?_
 refine xO ?_ (h := by simp [z0, z1, z2, z3, z8]; exact .mk)
 refine xE [0,3,9] fun _ => ?_
 refine W_cond rfl ?_ ?_
 · intro h9
   have hs : sizedS o.n = false := by simp at h9; simp [sizedS]; omega
   have hr : resizeS a k o.n = ⟨a, 0, 0, [], 1⟩ := by simp [resizeS, hs]
   refine xU ?_
   refine xO ?_ (h := by simp [z0, z1, z2, z3, z8]; exact .mk)
   refine xE [4] fun _ => ?_
   refine W_ret ?_
   refine endAt_drop 9 (by simp [z0, z1, z2, z3, z8, Tryz.f191]; exact .mk) ?_ ?_ (by simp) (by simp [z0, z1, z2, z3, z8]) (by simp [z0, z1, z2, z3, z8])
   · simp [resizeS, hs]
   simp [resizeS, hs, List.map_set, ownR, nrmL]
 intro h9
 have hs : sizedS o.n = true := by simp at h9; simp [sizedS]; omega
 have hn : 1 ≤ o.n ∧ o.n ≤ 2048 := by simpa [sizedS] using hs
 have e1 : 0 ≤ o.n := by omega
 have e2 : o.n ≤ 140737488355328 := by omega
 refine W_skip ?_
 refine xT ?_
 iterate 2 (refine xO ?_ (h := by simp [z0, z1, z2, z3, z8]; exact .mk))
 refine xO ?_ (h := by simp [z0, z1, z2, z3, z8, e1, e2]; exact .mk)
 refine xO ?_ (h := by simp [z0, z1, z2, z3, z8]; exact .mk)
 refine xE [0,3,5] fun _ => ?_
 refine W_seq ?_
 refine W_regD (by kernel_rfl) [] 4 [0,1,2,3,4,5,6,7,8,9,10,11] (by decide +kernel) ?_
 iterate 9 (refine xO ?_ (h := by simp [z0, z1, z2, z3, z8]; exact .mk))
 refine xO ?_ (h := by simp [z0, z1, z2, z3, z8, hk]; exact .mk)
 refine xO ?_ (h := by simp [z0, z1, z2, z3, z8, -List.getElem?_map, map_get hk]; exact .mk)
 refine xO ?_ (h := by simp [z0, z1, z2, z3, z8, copyA]; exact .mk)
 refine xE [0,3,5] fun _ => ?_
 refine W_seq ?_
 rw [resize_row]
 refine W_regD (by kernel_rfl) [] 4 [0,1,2,3,4,5,6,7,8,9,10] (by decide +kernel) ?_
 iterate 9 (refine xO ?_ (h := by simp [z0, z1, z2, z3, z8]; exact .mk))
 refine xO ?_ (h := by simp [z0, z1, z2, z3, z8, hk]; exact .mk)
 refine xO ?_ (h := by simp [z0, z1, z2, z3, z8, splice, iff_true_intro (show o.n.toNat = min o.n.toNat (nth a.data k).length + (o.n.toNat - (nth a.data k).length) from by omega), -List.getElem?_map, map_get hk, nrmL, nrm, putC]; exact .mk)
 refine xE [] ?_
 refine xT ?_
 refine xO ?_ (h := by simp [z0, z1, z2, z3, z8]; exact .mk)
 refine xE [4] fun _ => ?_
 refine W_ret ?_
 refine endAt_drop 9 (by simp [z0, z1, z2, z3, z8, Tryz.f191]; exact .mk) ?_ ?_ (by simp) (by simp [z0, z1, z2, z3, z8]) (by simp [z0, z1, z2, z3, z8])
 · simp [resizeS, hs]
 simp [resizeS, hs, List.map_set, ownR, nrmL]

end Go.Proofs
