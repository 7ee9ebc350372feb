/- Contracts of the program's functions, each against a plain function over lists and numbers (it answers what that one answers, for arguments of at most 2^40 elements where a lemma says so), and plain facts about these. -/
import Derived.Test.YtokgokbgidgfeaaGreatCF
import Derived.Test.YtokgokbgidgfeaaGreatCE
import Derived.Test.YtokgokbgidgfeaaGreatCC
import Derived.Test.YtokgokbgidgfeaaGreatAwpD
set_option linter.all false
set_option maxHeartbeats 1000000
namespace Go.Proofs
open Go.Awp
def backB (s : Stt) (x : Slot) : Bool := isTwo x && coverB s.base (s.base - 1) (x.at_, x.len)
def backN (s : Stt) : Nat := cntIx (fun i => backB s (nth s.slots i)) s.slots.length
/-- The greatest number of steps that there may still be, down. -/
def leftD (s : Stt) : Nat := if s.base = 0 then 1 else 15 * (s.base - 1).toNat + backN s + 2
theorem two_fits {s : Stt} (h : sttS s = true) {i : Nat} (hi : i < s.slots.length) (h1 : isTwo (nth s.slots i) = true) : (spotS s.base ((nth s.slots i).at_, (nth s.slots i).len)).2 = true := by
  simp only [isTwo, Bool.and_eq_true] at h1
  have hf := ((sttS_iff.1 h).2.2.1 i hi h1.1).1
  unfold fitsS at hf
  rwa [if_pos h1.2] at hf
theorem cell_lt {pages : Int} {o : Int × Int} (h : (spotS pages o).2 = true) (hs : (spotS pages o).1.small = true) : 0 ≤ (spotS pages o).1.cell ∧ (spotS pages o).1.cell < 14 := by
  have W := spot_words h
  obtain ⟨k, hk, _, _, _, h5⟩ := W.sm hs
  have g := W.good.s1 hs
  rcases wordsL_k hk with e | e | e | e | e | e <;> rw [e] at h5 <;> omega
theorem back_le {s : Stt} (h : sttS s = true) : backN s ≤ 14 := by
  have key : ∀ i, i < s.slots.length → backB s (nth s.slots i) = true → isTwo (nth s.slots i) = true ∧ (spotS s.base ((nth s.slots i).at_, (nth s.slots i).len)).1.page ≤ s.base - 1 ∧ s.base - 1 - (spotS s.base ((nth s.slots i).at_, (nth s.slots i).len)).1.page < (spotS s.base ((nth s.slots i).at_, (nth s.slots i).len)).1.count := fun i _ hf => by
    simpa [backB, coverB] using hf
  refine cnt_le (fun i => if (spotS s.base ((nth s.slots i).at_, (nth s.slots i).len)).1.small = true then (spotS s.base ((nth s.slots i).at_, (nth s.slots i).len)).1.cell.toNat else 0) (fun i hi hf => ?_) fun i j hij hj hf hg => ?_
  · obtain ⟨k1, _⟩ := key i hi hf
    show (if _ then _ else _) < 14
    split
    · rename_i hs
      have := cell_lt (two_fits h hi k1) hs
      show (spotS s.base ((nth s.slots i).at_, (nth s.slots i).len)).1.cell.toNat < 14
      omega
    · omega
  · obtain ⟨k1, k2, k3⟩ := key i (by omega) hf
    obtain ⟨k4, k5, k6⟩ := key j hj hg
    have f1 := two_fits h (by omega) k1
    have f2 := two_fits h hj k4
    simp only [isTwo, Bool.and_eq_true] at k1 k4
    have hc := ((sttS_iff.1 h).2.2.2 i j hij hj k1.1 k4.1).1 k1.2 k4.2
    rcases hc with ⟨c1, c2, c3, c4⟩ | hc | hc
    · have q1 := cell_lt f1 c1
      have q2 := cell_lt f2 c2
      show (if _ then _ else _) ≠ (if _ then _ else _)
      rw [if_pos c1, if_pos c2]
      omega
    · omega
    · omega
theorem mates_nil {s : Stt} (h : matesS s.base (twosO s.slots) (s.base - 1) = []) : ∀ i, i < s.slots.length → isTwo (nth s.slots i) = true → coverB s.base (s.base - 1) ((nth s.slots i).at_, (nth s.slots i).len) = false := by
  refine (twos_nth (R := fun o => coverB s.base (s.base - 1) o = false)).1 fun j hj => ?_
  cases hc : coverB s.base (s.base - 1) (nth (twosO s.slots) j) with
  | false => rfl
  | true =>
    have : j ∈ matesS s.base (twosO s.slots) (s.base - 1) := by simp only [matesS, List.mem_filter, List.mem_range]; exact ⟨hj, hc⟩
    rw [h] at this; cases this
theorem least_mem {l : List (Int × Int)} : ∀ {ms : List Nat}, ms ≠ [] → leastS l ms ∈ ms := by
  have key : ∀ (t : List Nat) (i : Nat), t.foldl (fun m j => if (nth l j).1 < (nth l m).1 then j else m) i = i ∨ t.foldl (fun m j => if (nth l j).1 < (nth l m).1 then j else m) i ∈ t := by
    intro t
    induction t with
    | nil => exact fun i => .inl rfl
    | cons a t ih =>
      intro i
      simp only [List.foldl_cons]
      rcases ih (if (nth l a).1 < (nth l i).1 then a else i) with e | e
      · rw [e]
        split
        · exact .inr (by simp)
        · exact .inl rfl
      · exact .inr (List.mem_cons_of_mem _ e)
  intro ms h
  cases ms with
  | nil => exact absurd rfl h
  | cons i t =>
    rcases key t i with e | e
    · show t.foldl _ i ∈ _; rw [e]; simp
    · exact List.mem_cons_of_mem _ e
theorem mate_slot {s : Stt} (hne : matesS s.base (twosO s.slots) (s.base - 1) ≠ []) : ∃ (j k : Nat), leastS (twosO s.slots) (matesS s.base (twosO s.slots) (s.base - 1)) = j ∧ j < (twosO s.slots).length ∧ k < s.slots.length ∧ nth (twosI s.slots) j = k ∧ nth (twosO s.slots) j = ((nth s.slots k).at_, (nth s.slots k).len) ∧
    isTwo (nth s.slots k) = true ∧ coverB s.base (s.base - 1) ((nth s.slots k).at_, (nth s.slots k).len) = true := by
  have hm := least_mem (l := twosO s.slots) hne
  obtain ⟨j, hj⟩ : ∃ j, j = leastS (twosO s.slots) (matesS s.base (twosO s.slots) (s.base - 1)) := ⟨_, rfl⟩
  rw [← hj] at hm
  simp only [matesS, List.mem_filter, List.mem_range] at hm
  obtain ⟨h1, h2⟩ := hm
  have hl : j < (twoIx s.slots s.slots.length).length := by simpa [twosO] using h1
  have hmem := twoIx_mem (nth_mem hl)
  refine ⟨j, nth (twoIx s.slots s.slots.length) j, hj.symm, h1, hmem.1, ?_, ?_, hmem.2, ?_⟩
  · rw [twosI, nth_map hl]
  · rw [twosO, nth_map hl]; rfl
  · rw [twosO, nth_map hl] at h2; exact h2
theorem down_last {s : Stt} (h : sttS s = true) (hb : s.base = 0) : sttS (turnS s 1 0) = true := by
  have hsu := sttS_super h
  have hsb := superS_b hsu
  have one : ∀ i, i < s.slots.length → (nth s.slots i).live = true → (nth s.slots i).two = false := fun i hi hl => by
    cases ht : (nth s.slots i).two with
    | false => rfl
    | true =>
      exfalso
      have hf := two_fits h hi (by simp [isTwo, hl, ht])
      have g := (spot_words hf).good
      have := g.p0; have := g.p1; have := g.c1
      omega
  refine turn_right h (super_with hsu (by omega) (.inl ⟨rfl, by omega⟩)) fun i hi hl => ⟨?_, ?_⟩
  · have hf := ((sttS_iff.1 h).2.2.1 i hi hl).1
    unfold fitsS at hf ⊢
    rw [if_neg (by simp [one i hi hl])] at hf ⊢
    refine ⟨?_, hf.2⟩
    show (s.base + 0) * 32 ≤ _
    omega
  · exact ⟨fun _ => one i hi hl, fun e => by omega⟩
theorem down_turn {s : Stt} (h : sttS s = true) (hm : s.mode = 4) (hb : s.base ≠ 0) (hc : matesS s.base (twosO s.slots) (s.base - 1) = []) : sttS (turnS s s.mode (-1)) = true := by
  have hsu := sttS_super h
  have hsb := superS_b hsu
  refine turn_right h (super_with hsu (by omega) (.inr (.inr (.inr hm)))) fun i hi hl => ⟨?_, ⟨fun e => by omega, fun e => by omega⟩⟩
  have hf := ((sttS_iff.1 h).2.2.1 i hi hl).1
  unfold fitsS at hf ⊢
  cases ht : (nth s.slots i).two with
  | true =>
    rw [if_pos ht] at hf
    rw [if_pos rfl]
    have g := (spot_words hf).good
    have hn := mates_nil hc i hi (by simp [isTwo, hl, ht])
    simp only [coverB, Bool.and_eq_false_iff, decide_eq_false_iff_not] at hn
    have := g.p1; have := g.c1
    exact spot_more hf (by show _ ≤ s.base + -1; omega)
  | false =>
    rw [if_neg (by simp [ht])] at hf
    rw [if_neg (by simp)]
    refine ⟨?_, hf.2.1, hf.2.2⟩
    show (s.base + -1) * 32 ≤ _
    omega
/-- A STEP DOWN. -/
theorem down_ok {s : Stt} (h : sttS s = true) (hm : s.mode = 4) (he : (downStep s).2 = 0) : sttS (downStep s).1 = true ∧ Kept s (downStep s).1 ∧ (downStep s).1.base ≤ s.base ∧ ((downStep s).1.mode = 1 ∨ ((downStep s).1.mode = 4 ∧ leftD (downStep s).1 < leftD s)) := by
  have hsb := superS_b (sttS_super h)
  unfold downStep at he ⊢
  by_cases hb : s.base = 0
  · rw [if_pos hb] at he ⊢
    exact ⟨down_last h hb, kept_turn, by show s.base + 0 ≤ s.base; omega, .inl rfl⟩
  rw [if_neg hb] at he ⊢
  by_cases hc : matesS s.base (twosO s.slots) (s.base - 1) = []
  · rw [if_pos hc] at he ⊢
    have hr := down_turn h hm hb hc
    refine ⟨hr, kept_turn, by show s.base + -1 ≤ s.base; omega, .inr ⟨hm, ?_⟩⟩
    have hf := back_le hr
    show (if s.base + -1 = 0 then 1 else 15 * (s.base + -1 - 1).toNat + backN (turnS s s.mode (-1)) + 2) < leftD s
    unfold leftD
    rw [if_neg hb]
    split <;> omega
  rw [if_neg hc] at he ⊢
  obtain ⟨j, k, e1, hj, hk, e2, e3, ht, hcv⟩ := mate_slot hc
  rw [e1, e2, e3] at he ⊢
  have main : ∀ {two : Bool} {a : Int}, (two = false ∨ coverB s.base (s.base - 1) (a, (nth s.slots k).len) = false) → (moveS s k two a).2 = 0 → sttS (moveS s k two a).1 = true ∧ Kept s (moveS s k two a).1 ∧ (moveS s k two a).1.base ≤ s.base ∧ ((moveS s k two a).1.mode = 1 ∨ ((moveS s k two a).1.mode = 4 ∧ leftD (moveS s k two a).1 < leftD s)) := by
    intro two a ha hz
    obtain ⟨m, hkm, _, h1, h2, h3, e, hr⟩ := moveS_cases hz
    obtain rfl : k = m := by omega
    rw [e]
    refine ⟨hr, kept_lay h1, Int.le_refl _, .inr ⟨hm, ?_⟩⟩
    have hcnt : backN (layAt s k two a) + 1 = backN s := by
      unfold backN
      rw [show (layAt s k two a).slots.length = s.slots.length by simp [layAt]]
      refine cnt_less (m := k) ?_ ?_ hk fun i hi hne => ?_
      · simp [backB, ht, hcv]
      · show backB (layAt s k two a) (nth (s.slots.set k (atS (nth s.slots k) two a)) k) = false
        rw [nth_set2 hk, if_pos rfl]
        unfold backB isTwo atS
        rcases ha with rfl | ha
        · simp
        · show (_ && coverB s.base (s.base - 1) (a, (nth s.slots k).len)) = false
          rw [ha]; simp
      · show backB s (nth s.slots i) = backB (layAt s k two a) (nth (s.slots.set k (atS (nth s.slots k) two a)) i)
        rw [nth_set2 hk, if_neg (by omega)]
        rfl
    show (if s.base = 0 then 1 else 15 * (s.base - 1).toNat + backN (layAt s k two a) + 2) < leftD s
    unfold leftD
    rw [if_neg hb, if_neg hb]
    omega
  simp only at he ⊢
  cases hr : roomS s false (nth s.slots k).len with
  | some a => rw [hr] at he; exact main (.inl rfl) he
  | none =>
    rw [hr] at he
    simp only at he ⊢
    cases hq : placeS (s.base - 1) (restS (twosO s.slots) (matesS s.base (twosO s.slots) (s.base - 1))) (nth s.slots k).len with
    | some a =>
      rw [hq] at he
      refine main (.inr ?_) he
      obtain ⟨p1, _⟩ := place_some hq
      have g := (spot_words p1).good
      rw [spot_page (p := s.base - 1) (q := s.base)] at g
      have := g.p1; have := g.c1
      simp only [coverB, Bool.and_eq_false_iff, decide_eq_false_iff_not]
      omega
    | none => rw [hq] at he; cases he
/-- A STEP. -/
def movingS (s : Stt) : Bool := decide (s.mode = 3) || decide (s.mode = 4)
def leftS (s : Stt) : Nat := if s.mode = 3 then leftU s else leftD s
theorem step_ok {s : Stt} (he : (stepS s).2 = 0) : sttS s = true ∧ movingS s = true ∧ sttS (stepS s).1 = true ∧ Kept s (stepS s).1 ∧ (s.mode = 3 → s.base ≤ (stepS s).1.base ∧ ((stepS s).1.mode = 2 ∨ (stepS s).1.mode = 3)) ∧ (s.mode = 4 → (stepS s).1.base ≤ s.base ∧ ((stepS s).1.mode = 1 ∨ (stepS s).1.mode = 4)) ∧ (movingS (stepS s).1 = true → leftS (stepS s).1 < leftS s) := by
  unfold stepS at he ⊢
  by_cases h : sttS s = true
  · rw [if_pos h] at he ⊢
    by_cases h3 : s.mode = 3
    · rw [if_pos h3] at he ⊢
      obtain ⟨u1, u2, u3, u4⟩ := up_ok h h3 he
      refine ⟨h, by simp [movingS, h3], u1, u2, fun _ => ⟨u3, ?_⟩, fun e => by omega, fun hv => ?_⟩
      · rcases u4 with u4 | u4
        · exact .inl u4
        · exact .inr u4.1
      · rcases u4 with u4 | ⟨u4, u5⟩
        · simp [movingS, u4] at hv
        · unfold leftS; rw [if_pos h3, if_pos u4]; exact u5
    · rw [if_neg h3] at he ⊢
      by_cases h4 : s.mode = 4
      · rw [if_pos h4] at he ⊢
        obtain ⟨u1, u2, u3, u4⟩ := down_ok h h4 he
        refine ⟨h, by simp [movingS, h4], u1, u2, fun e => by omega, fun _ => ⟨u3, ?_⟩, fun hv => ?_⟩
        · rcases u4 with u4 | u4
          · exact .inl u4
          · exact .inr u4.1
        · rcases u4 with u4 | ⟨u4, u5⟩
          · simp [movingS, u4] at hv
          · unfold leftS; rw [if_neg h3, if_neg (by omega)]; exact u5
      · rw [if_neg h4] at he; cases he
  · rw [if_neg h] at he; cases he
end Go.Proofs

set_option maxHeartbeats 1000000
namespace Go.Proofs
open Go.Awp
/-- All steps. -/
def endF : Nat → Nat → Stt → Stt × Nat × Int
  | 0, n, _ => (zStt, n, 1)
  | f + 1, n, s => if 0 < n ∧ movingS s = false then (s, n, 0) else if (stepS s).2 ≠ 0 then (zStt, n, (stepS s).2) else endF f (n + 1) (stepS s).1
def needE (n : Nat) (s : Stt) : Nat := if movingS s = true then leftS s + 1 else 1
def endS (s : Stt) : Stt × Nat × Int := endF (needE 0 s) 0 s
theorem leftS_pos {s : Stt} : 1 ≤ leftS s := by
  unfold leftS leftU leftD
  split <;> split <;> omega
/-- With as much as is needed, more makes no difference. -/
theorem endF_more : ∀ {f : Nat} {n : Nat} {s : Stt}, needE n s ≤ f → endF f n s = endF (needE n s) n s
  | 0, n, s, h => by
    have : needE n s = 0 := by omega
    rw [this]
  | f + 1, n, s, h => by
    obtain ⟨k, hk⟩ : ∃ k, needE n s = k + 1 := ⟨needE n s - 1, by unfold needE; split <;> omega⟩
    rw [hk]
    show (if 0 < n ∧ movingS s = false then (s, n, 0) else if (stepS s).2 ≠ 0 then (zStt, n, (stepS s).2) else endF f (n + 1) (stepS s).1) = (if 0 < n ∧ movingS s = false then (s, n, 0) else if (stepS s).2 ≠ 0 then (zStt, n, (stepS s).2) else endF k (n + 1) (stepS s).1)
    split
    · rfl
    · split
      · rfl
      · rename_i he
        have he : (stepS s).2 = 0 := by omega
        obtain ⟨_, hm, _, _, _, _, hd⟩ := step_ok he
        have hn : needE n s = leftS s + 1 := by unfold needE; rw [if_pos hm]
        have hp := leftS_pos (s := s)
        have hn2 : needE (n + 1) (stepS s).1 ≤ leftS s := by
          unfold needE
          split
          · rename_i h2; have := hd h2; omega
          · omega
        rw [endF_more (f := f) (by omega), endF_more (f := k) (by omega)]
theorem endF_stop {f n : Nat} {s : Stt} (h : 0 < n ∧ movingS s = false) : endF (f + 1) n s = (s, n, 0) := by
  show (if _ then _ else _) = _
  rw [if_pos h]
theorem endF_err {f n : Nat} {s : Stt} (h : ¬ (0 < n ∧ movingS s = false)) (he : (stepS s).2 ≠ 0) : endF (f + 1) n s = (zStt, n, (stepS s).2) := by
  show (if _ then _ else _) = _
  rw [if_neg h, if_pos he]
theorem endF_step {f n : Nat} {s : Stt} (h : ¬ (0 < n ∧ movingS s = false)) (he : (stepS s).2 = 0) : endF (f + 1) n s = endF f (n + 1) (stepS s).1 := by
  show (if _ then _ else _) = _
  rw [if_neg h, if_neg (by omega)]
/-- What the end is, step by step. -/
theorem end_next {n : Nat} {s : Stt} (h : ¬ (0 < n ∧ movingS s = false)) (he : (stepS s).2 = 0) : endF (needE n s) n s = endF (needE (n + 1) (stepS s).1) (n + 1) (stepS s).1 ∧ needE (n + 1) (stepS s).1 < needE n s := by
  obtain ⟨_, hm, _, _, _, _, hd⟩ := step_ok he
  have hn : needE n s = leftS s + 1 := by unfold needE; rw [if_pos hm]
  have hp := leftS_pos (s := s)
  have hn2 : needE (n + 1) (stepS s).1 ≤ leftS s := by
    unfold needE
    split
    · rename_i h2; have := hd h2; omega
    · omega
  refine ⟨?_, by omega⟩
  rw [hn, endF_step h he]
  exact endF_more hn2
theorem need_pos {n : Nat} {s : Stt} : 0 < needE n s := by unfold needE; split <;> omega
/-- What the steps keep, and how many they are. -/
structure Went (s t : Stt) (n k : Nat) : Prop where
  right : sttS t = true
  kept : Kept s t
  mode : (s.mode = 3 → t.mode = 2 ∨ t.mode = 3) ∧ (s.mode = 4 → t.mode = 1 ∨ t.mode = 4)
  left : movingS t = true → k + leftS t ≤ n + leftS s
  few : k ≤ n + leftS s
def boundS (s : Stt) : Int := if s.mode = 3 then 9 * s.sh.pages + 1 else if s.mode = 4 then 15 * s.sh.pages + 1 else 0
theorem left_bound {s : Stt} (h : sttS s = true) (hm : movingS s = true) : (leftS s : Int) ≤ boundS s := by
  have hsb := superS_b (sttS_super h)
  have f1 := front_le h
  have f2 := back_le h
  simp only [movingS, Bool.or_eq_true, decide_eq_true_eq] at hm
  unfold leftS boundS
  rcases hm with e | e
  · rw [if_pos e, if_pos e]
    unfold leftU
    split <;> omega
  · rw [if_neg (by omega), if_neg (by omega), if_pos e]
    unfold leftD
    split <;> omega
/-- A start. -/
def fromM (up : Bool) : Int := if up = true then 1 else 2
def toM (up : Bool) : Int := if up = true then 3 else 4
def startS (s : Stt) (up : Bool) : Stt × Int := if sttS s = false then (zStt, 1) else if s.mode ≠ fromM up then (zStt, 12) else if (endS (turnS s (toM up) 0)).2.2 ≠ 0 then (zStt, (endS (turnS s (toM up) 0)).2.2) else (turnS s (toM up) 0, 0)
theorem start_right {s : Stt} {up : Bool} (h : sttS s = true) : sttS (turnS s (toM up) 0) = true := by
  have hsu := sttS_super h
  have hsb := superS_b hsu
  have ht : toM up = 3 ∨ toM up = 4 := by cases up <;> simp [toM]
  refine turn_right h (super_with hsu (by omega) (.inr (.inr ht))) fun i hi hl => ⟨?_, ⟨fun e => by omega, fun e => by omega⟩⟩
  have hf := ((sttS_iff.1 h).2.2.1 i hi hl).1
  unfold fitsS at hf ⊢
  show (if _ then (spotS (s.base + 0) _).2 = true else (s.base + 0) * 32 ≤ _ ∧ _)
  rw [Int.add_zero]; exact hf
theorem start_ok {s : Stt} {up : Bool} (he : (startS s up).2 = 0) : sttS s = true ∧ s.mode = fromM up ∧ startS s up = (turnS s (toM up) 0, 0) ∧ (endS (turnS s (toM up) 0)).2.2 = 0 := by
  unfold startS at he ⊢
  by_cases h : sttS s = false
  · rw [if_pos h] at he; cases he
  · rw [if_neg h] at he ⊢
    by_cases hm : s.mode = fromM up
    · rw [if_neg (by simpa using hm)] at he ⊢
      by_cases hz : (endS (turnS s (toM up) 0)).2.2 = 0
      · rw [if_neg (by simpa using hz)]
        exact ⟨by simpa using h, hm, rfl, hz⟩
      · rw [if_pos hz] at he; exact absurd he hz
    · rw [if_pos hm] at he; cases he
end Go.Proofs

set_option maxHeartbeats 1000000
namespace Go.Proofs
open Go.Awp
theorem clip_step {fr : Int} {l : List (Int × Int)} {i : Nat} (h : i < l.length) : clipS fr (l.take (i + 1)) = clipS fr (l.take i) ++ (if 0 < (clipG fr (nth l i)).2 then [clipG fr (nth l i)] else []) := by
  rw [take_succ h]
  unfold clipS
  rw [List.map_append, List.filter_append]
  congr 1
  simp only [List.map_cons, List.map_nil, List.filter_cons, List.filter_nil]
  split <;> rename_i q <;> simp at q
  · rw [if_pos q]
  · rw [if_neg (by omega)]
theorem clip_len {fr : Int} {l : List (Int × Int)} : (clipS fr l).length ≤ l.length := by
  unfold clipS
  exact Nat.le_trans (List.length_filter_le _ _) (by simp)
theorem gapsF_b {s : Stt} (h : sttS s = true) : ∀ g ∈ gapsOf s, 0 ≤ g.1 ∧ g.1 ≤ 2048 ∧ 0 < g.2 ∧ g.2 ≤ 2048 := by
  intro g hg
  have hG := sttS_gaps h
  simp only [gapsS, Bool.and_eq_true] at hG
  have hb := superS_b (sttS_super h)
  obtain ⟨h1, h2, h3, _⟩ := gapsF_mem hG.2 g hg
  omega
theorem turn_ok {s : Stt} {m b : Int} (h : s.Ok) : (turnS s m b).Ok := ⟨h.h1, h.h2, h.h3, h.h4, h.h5⟩
theorem stepS_Ok {s : Stt} (h : s.Ok) : (stepS s).1.Ok := by
  have hup : (upStep s).1.Ok := by
    unfold upStep
    split
    · exact turn_ok h
    · split
      · exact turn_ok h
      · split
        · exact moveS_ok h
        · split
          · exact moveS_ok h
          · exact zStt_ok
  have hdn : (downStep s).1.Ok := by
    unfold downStep
    split
    · exact turn_ok h
    · split
      · exact turn_ok h
      · split
        · exact moveS_ok h
        · split
          · exact moveS_ok h
          · exact zStt_ok
  unfold stepS
  split
  · split
    · exact hup
    · split
      · exact hdn
      · exact zStt_ok
  · exact zStt_ok
theorem need_le {n : Nat} {s : Stt} (h : sttS s = true) : needE n s ≤ 1000 := by
  have hsb := superS_b (sttS_super h)
  unfold needE
  split
  · rename_i hm
    have := left_bound h hm
    unfold boundS at this
    split at this
    · omega
    · split at this <;> omega
  · omega
end Go.Proofs

set_option maxHeartbeats 1000000
namespace Go.Proofs
open Go.Awp
/-- Where a number first stands in a list, or -1. -/
def ixN (l : List Int) (x : Int) : Int := if l.contains x = true then (l.idxOf x : Int) else -1
theorem ixN_at {l : List Int} {x : Int} {i : Nat} (hi : i < l.length) (h : ∀ j, j < i → nth l j ≠ x) (hx : nth l i = x) : ixN l x = i := by
  have hm : x ∈ l := by rw [← hx]; exact nth_mem hi
  have hle : l.idxOf x = i := by
    have hlt := List.idxOf_lt_length_of_mem hm
    have hg : l[l.idxOf x] = x := List.getElem_idxOf hlt
    rcases Nat.lt_trichotomy (l.idxOf x) i with q | q | q
    · exact absurd (by rw [nth_eq hlt]; exact hg) (h _ q)
    · exact q
    · have := List.not_of_lt_findIdx (p := (· == x)) (xs := l) q
      rw [nth_eq hi] at hx
      simp [hx] at this
  unfold ixN
  rw [if_pos (by simpa using hm), hle]
theorem ixN_none {l : List Int} {x : Int} (h : ∀ j, j < l.length → nth l j ≠ x) : ixN l x = -1 := by
  unfold ixN
  rw [if_neg]
  intro hc
  have hm : x ∈ l := by simpa using hc
  obtain ⟨j, hj, e⟩ := List.mem_iff_getElem.1 hm
  exact h j hj (by rw [nth_eq hj]; exact e)
theorem ixN_nonneg {l : List Int} {x : Int} : decide (0 ≤ ixN l x) = l.contains x := by
  unfold ixN
  cases h : l.contains x <;> simp
theorem leastS_one {l : List (Int × Int)} {ms : List Nat} (h : ms ≠ []) : leastS l (ms.take 1) = nth ms 0 := by
  cases ms with
  | nil => exact absurd rfl h
  | cons a t => rfl
theorem leastS_step (l : List (Int × Int)) {ms : List Nat} {i : Nat} (h1 : 1 ≤ i) (h2 : i < ms.length) : leastS l (ms.take (i + 1)) = if (nth l (nth ms i)).1 < (nth l (leastS l (ms.take i))).1 then nth ms i else leastS l (ms.take i) := by
  cases ms with
  | nil => simp at h2
  | cons a t =>
    obtain ⟨k, rfl⟩ : ∃ k, i = k + 1 := ⟨i - 1, by omega⟩
    have hk : k < t.length := by simpa using h2
    rw [List.take_succ_cons, List.take_succ_cons, take_succ hk]
    simp only [leastS, List.foldl_append, List.foldl_cons, List.foldl_nil]
    rfl
theorem leastS_in {l : List (Int × Int)} {ms : List Nat} {i : Nat} (hne : ms ≠ []) (h : ∀ i, i < ms.length → nth ms i < l.length) (h1 : 1 ≤ i) : leastS l (ms.take i) < l.length := by
  have key : ∀ (t : List Nat) (a : Nat), a < l.length → (∀ x ∈ t, x < l.length) → t.foldl (fun m j => if (nth l j).1 < (nth l m).1 then j else m) a < l.length := by
    intro t
    induction t with
    | nil => intro a ha _; exact ha
    | cons x t ih =>
      intro a ha hx
      simp only [List.foldl_cons]
      refine ih _ ?_ (fun y hy => hx y (by simp [hy]))
      split
      · exact hx x (by simp)
      · exact ha
  have hmem : ∀ x ∈ ms, x < l.length := fun x hx => by
    obtain ⟨j, hj, e⟩ := List.mem_iff_getElem.1 hx
    have := h j hj
    rw [nth_eq hj, e] at this; exact this
  cases ms with
  | nil => exact absurd rfl hne
  | cons a t =>
    obtain ⟨k, rfl⟩ : ∃ k, i = k + 1 := ⟨i - 1, by omega⟩
    rw [List.take_succ_cons]
    exact key _ _ (hmem a (by simp)) (fun x hx => hmem x (by simp [List.mem_of_mem_take hx]))
theorem castN_contains {ms : List Nat} {k : Nat} : (ms.map fun (k : Nat) => (k : Int)).contains (k : Int) = ms.contains k := by
  rw [Bool.eq_iff_iff]
  simp only [List.contains_iff_mem, List.mem_map]
  exact ⟨fun ⟨a, h, e⟩ => by rw [← Int.ofNat_inj.1 e]; exact h, fun h => ⟨k, h, rfl⟩⟩
theorem down_facts {s : Stt} (hs : s.Ok) (hR : sttS s = true) : (twosO s.slots).length ≤ 2^40 ∧ (twosI s.slots).length = (twosO s.slots).length ∧ (laidS s.base (twosO s.slots)).isSome = true ∧ ∀ i, i < (twosO s.slots).length → 0 ≤ (nth (twosO s.slots) i).1 ∧ (nth (twosO s.slots) i).1 ≤ 2^40 := by
  refine ⟨Nat.le_trans twosO_len hs.h1, twosI_len, ?_, fun i hi => ⟨?_, twosO_le (sttS_rows hR) i hi⟩⟩
  · have h1 := hR
    simp only [sttS, Bool.and_eq_true] at h1
    exact h1.2.2.1
  · have hk := sttS_laid hR i hi
    have hsp : (spotS s.base (nth (twosO s.slots) i)).2 = true := by
      cases hq : (spotS s.base (nth (twosO s.slots) i)).2 with
      | true => rfl
      | false => simp only [okI, layO] at hk; rw [if_neg (by simp [hq])] at hk; cases hk
    unfold spotS at hsp
    split at hsp
    · cases hsp
    · omega
theorem rest_b {l : List (Int × Int)} {ms : List Nat} {b : Int} (h : ∀ k, k < l.length → (nth l k).1 ≤ b) : ∀ k, k < (restS l ms).length → (nth (restS l ms) k).1 ≤ b := fun k hk => by
  have hm := nth_mem hk
  simp only [restS, List.mem_map, List.mem_filter, List.mem_range] at hm
  obtain ⟨a, ⟨ha, _⟩, e⟩ := hm
  rw [restS, ← e]
  exact h a ha
end Go.Proofs

set_option maxHeartbeats 1000000
namespace Go.Proofs
open Go.Awp
def sh0 : Shape := ⟨4, 2, 2, 30⟩
/-- The two small examples, worked out. -/
theorem small_facts : ∃ A B C D E F : Stt, ∃ id : Int × Int, newS sh0 1 = (A, 0) ∧ startS A true = (B, 0) ∧ endS B = (C, 5, 0) ∧ C.mode = 2 ∧ putS A 16 = (D, id, 0) ∧ startS D true = (E, 0) ∧ endS E = (F, 7, 0) ∧ F.mode = 2 ∧ F.slots.length = 2 ∧ (nth F.slots 0).two = true ∧ (stepS A).2 = 12 ∧ fewStt A = true := by
  refine ⟨(newS sh0 1).1, (startS (newS sh0 1).1 true).1, (endS (startS (newS sh0 1).1 true).1).1, (putS (newS sh0 1).1 16).1, (startS (putS (newS sh0 1).1 16).1 true).1, (endS (startS (putS (newS sh0 1).1 16).1 true).1).1, (putS (newS sh0 1).1 16).2.1, ?_, ?_, ?_, ?_, ?_, ?_, ?_, ?_, ?_, ?_, ?_, ?_⟩
  · exact Prod.ext rfl (by decide +kernel)
  · exact Prod.ext rfl (by decide +kernel)
  · exact Prod.ext rfl (Prod.ext (by decide +kernel) (by decide +kernel))
  · decide +kernel
  · exact Prod.ext rfl (Prod.ext rfl (by decide +kernel))
  · exact Prod.ext rfl (by decide +kernel)
  · exact Prod.ext rfl (Prod.ext (by decide +kernel) (by decide +kernel))
  all_goals decide +kernel
theorem endS_Ok {s : Stt} (h : s.Ok) : (endS s).1.Ok := by
  have key : ∀ (f n : Nat) (s : Stt), s.Ok → (endF f n s).1.Ok := by
    intro f
    induction f with
    | zero => intro n s _; exact zStt_ok
    | succ f ih =>
      intro n s h
      unfold endF
      split
      · exact h
      · split
        · exact zStt_ok
        · exact ih _ _ (stepS_Ok h)
  exact key _ _ _ h
theorem startS_Ok {s : Stt} {up : Bool} (h : s.Ok) : (startS s up).1.Ok := by
  unfold startS
  split
  · exact zStt_ok
  · split
    · exact zStt_ok
    · split
      · exact zStt_ok
      · exact turn_ok h
end Go.Proofs

set_option maxHeartbeats 1000000
namespace Go.Proofs
open Go.Awp
theorem moving_to {s : Stt} {up : Bool} : movingS (turnS s (toM up) 0) = true := by cases up <;> rfl
end Go.Proofs

set_option maxHeartbeats 1000000
namespace Go.Proofs
open Go.Awp
end Go.Proofs

set_option maxHeartbeats 1000000
namespace Go.Proofs
open Go.Awp
end Go.Proofs

set_option maxHeartbeats 1000000
namespace Go.Proofs
open Go.Awp
/-- Without objects. -/
def NoLive (s : Stt) : Prop := ∀ i, i < s.slots.length → (nth s.slots i).live = false
theorem no_kept {s t : Stt} (h : Kept s t) (k : NoLive s) : NoLive t := fun i hi => by
  rw [h.len] at hi
  rw [(h.slot i hi).2.1]; exact k i hi
theorem filt_no {f : Nat → Bool} {n : Nat} (h : ∀ i, i < n → f i = false) : (List.range n).filter f = [] :=
  List.filter_eq_nil_iff.2 fun i hi => by rw [h i (List.mem_range.1 hi)]; simp
theorem ones_no {s : Stt} (h : NoLive s) : onesS s.slots = [] := by
  have e : onesR s.slots = [] := by
    unfold onesR oneIx
    rw [filt_no fun i hi => by simp [isOne, h i hi]]; rfl
  have := (stS_perm (lt := ltB) (onesR s.slots)).length_eq
  rw [e] at this
  unfold onesS
  rw [e]
  exact List.length_eq_zero_iff.1 this
theorem twos_no {s : Stt} (h : NoLive s) : twosO s.slots = [] := by
  unfold twosO twoIx
  rw [filt_no fun i hi => by simp [isTwo, h i hi]]; rfl
theorem stepU_no {s : Stt} (h : NoLive s) (hR : sttS s = true) (hm : s.mode = 3) : stepS s = if s.base = s.sh.pages then (turnS s 2 0, 0) else (turnS s 3 1, 0) := by
  unfold stepS
  rw [if_pos hR, if_pos hm]
  unfold upStep
  rw [ones_no h, hm]
  split
  · rfl
  · rw [if_pos (.inl rfl)]
theorem stepD_no {s : Stt} (h : NoLive s) (hR : sttS s = true) (hm : s.mode = 4) : stepS s = if s.base = 0 then (turnS s 1 0, 0) else (turnS s 4 (-1), 0) := by
  unfold stepS
  rw [if_pos hR, if_neg (by omega), if_pos hm]
  unfold downStep
  rw [twos_no h, hm]
  split
  · rfl
  · rw [if_pos (show matesS s.base [] (s.base - 1) = [] from rfl)]
theorem step_no {s : Stt} (h : NoLive s) (hR : sttS s = true) (hm : movingS s = true) : (stepS s).2 = 0 := by
  rcases (show s.mode = 3 ∨ s.mode = 4 by simpa [movingS] using hm) with e | e
  · rw [stepU_no h hR e]; split <;> rfl
  · rw [stepD_no h hR e]; split <;> rfl
theorem end_no : ∀ {f n : Nat} {s : Stt}, NoLive s → sttS s = true → movingS s = true ∨ 0 < n → needE n s ≤ f → (endF f n s).2.2 = 0
  | 0, n, s, _, _, _, hf => by have := need_pos (n := n) (s := s); omega
  | f + 1, n, s, hN, h, hm, hf => by
    by_cases h0 : 0 < n ∧ movingS s = false
    · rw [endF_stop h0]
    · have hmv : movingS s = true := by
        rcases hm with hm | hm
        · exact hm
        · cases hq : movingS s with
          | true => rfl
          | false => exact absurd ⟨hm, hq⟩ h0
      have hs := step_no hN h hmv
      obtain ⟨_, n2⟩ := end_next h0 hs
      rw [endF_step h0 hs]
      obtain ⟨_, _, a, b, _⟩ := step_ok hs
      exact end_no (no_kept b hN) a (.inr (by omega)) (by omega)
theorem start_no {s : Stt} {up : Bool} (hN : NoLive s) (h : sttS s = true) (hm : s.mode = fromM up) : (startS s up).2 = 0 := by
  have := end_no (f := needE 0 (turnS s (toM up) 0)) (n := 0) (s := turnS s (toM up) 0) hN (start_right h) (.inl moving_to) (Nat.le_refl _)
  unfold startS
  rw [if_neg (by rw [h]; simp), if_neg (by simpa using hm), if_neg (by simpa [endS] using this)]
end Go.Proofs

set_option maxHeartbeats 1000000
namespace Go.Proofs
open Go.Awp
theorem newS_cases (sh : Shape) (mode : Int) : (newS sh mode = (zStt, 1)) ∨ (newS sh mode = (firstStt sh mode, 0) ∧ superS sh mode (baseOf sh mode) = true ∧ mode ≤ 2) := by
  unfold newS
  split
  · rename_i h; right; simp at h; exact ⟨rfl, h⟩
  · exact .inl rfl
theorem first_nth {sh : Shape} {mode : Int} {i : Nat} (h : i < (firstStt sh mode).slots.length) : nth (firstStt sh mode).slots i = zSlot := by
  rw [nth_eq h]; simp [firstStt]
theorem first_two {sh : Shape} {mode : Int} : twosO (firstStt sh mode).slots = [] := by
  rw [twosO]
  have : twoIx (firstStt sh mode).slots (firstStt sh mode).slots.length = [] := by
    simp only [twoIx, List.filter_eq_nil_iff, List.mem_range]
    intro j hj
    rw [first_nth hj]; simp [isTwo, zSlot]
  rw [this]; rfl
theorem first_one {sh : Shape} {mode : Int} : onesS (firstStt sh mode).slots = [] := by
  have : oneIx (firstStt sh mode).slots (firstStt sh mode).slots.length = [] := by
    simp only [oneIx, List.filter_eq_nil_iff, List.mem_range]
    intro j hj
    rw [first_nth hj]; simp [isOne, zSlot]
  have h2 : onesR (firstStt sh mode).slots = [] := by rw [onesR, this]; rfl
  have := stS_perm (lt := ltB) (onesR (firstStt sh mode).slots)
  rw [h2] at this
  rw [onesS, h2]
  exact this.eq_nil
theorem first_right {sh : Shape} {mode : Int} (h : superS sh mode (baseOf sh mode) = true) (hm : mode ≤ 2) : sttS (firstStt sh mode) = true := by
  have hb := superS_b h
  have hs := superS_sh h
  have hslot : ∀ i, i < (firstStt sh mode).slots.length → slotS1 (nth (firstStt sh mode).slots i) = true := fun i hi => by rw [first_nth hi]; rfl
  have htab : tableS (firstStt sh mode).slots = true := by
    simp only [tableS, Bool.and_eq_true, List.all_eq_true, List.mem_range]
    refine ⟨hslot, ?_⟩
    simp only [firstStt, List.length_replicate, tnewOk, decide_eq_true_eq]
    rw [Int.toNat_of_nonneg (by omega)]; exact hs.1
  have hroot : rootsS (firstStt sh mode).roots = true := by
    have hn : ∀ i, i < (firstStt sh mode).roots.length → nth (firstStt sh mode).roots i = zRoot := fun i hi => by rw [nth_eq hi]; simp [firstStt]
    simp only [rootsS, Bool.and_eq_true, List.all_eq_true, List.mem_range]
    refine ⟨fun i hi => by simp only [rootOk]; rw [hn i hi, show isZero zRoot = true by kernel_rfl]; rfl, ?_⟩
    have := superS_rnew h
    simp only [firstStt, List.length_replicate]
    rw [Int.toNat_of_nonneg (by omega)]; exact this
  have hrows : rowsS (firstStt sh mode) = true := by
    simp only [rowsS, Bool.and_eq_true, htab, hroot, true_and, decide_eq_true_eq, List.all_eq_true, List.mem_range]
    refine ⟨⟨by simp [firstStt]; omega, by simp [firstStt]; omega, by simp [firstStt]⟩, fun i hi => ?_⟩
    have hd : nth (firstStt sh mode).data i = [] := by rw [nth_eq (by simpa [firstStt] using hi)]; simp [firstStt]
    simp only [lenOk, decide_eq_true_eq]
    rw [first_nth hi, hd]; rfl
  have hlaid : (laidS (firstStt sh mode).base (twosO (firstStt sh mode).slots)).isSome = true := by
    rw [first_two]
    have : 0 ≤ baseOf sh mode ∧ baseOf sh mode ≤ 64 := by omega
    show (laidS (baseOf sh mode) []).isSome = true
    simp [laidS, this]
  have hgaps : gapsS ((firstStt sh mode).base * 32) ((firstStt sh mode).sh.pages * 32) (spansS (firstStt sh mode).slots) = true := by
    rw [spansS, first_one]
    show gapsS (baseOf sh mode * 32) (sh.pages * 32) [] = true
    have m1 : (baseOf sh mode * 32).tmod 4 = 0 := by rw [Int.tmod_eq_emod_of_nonneg (by omega)]; omega
    have m2 : (sh.pages * 32).tmod 4 = 0 := by rw [Int.tmod_eq_emod_of_nonneg (by omega)]; omega
    simp [gapsS, gapsHead, gapsOk, m1, m2]; omega
  have hmode : modeOk (firstStt sh mode) = true := by
    simp only [modeOk]
    rw [first_two, spansS, first_one]
    repeat' split
    all_goals rfl
  simp only [sttS, hrows, hlaid, hgaps, hmode, Bool.and_true]
  exact h
theorem new_err {sh : Shape} {mode : Int} (h : (newS sh mode).2 ≠ 0) : (newS sh mode).1.slots.length = 0 := by
  rcases newS_cases sh mode with e | ⟨e, _⟩
  · rw [e]; rfl
  · rw [e] at h; exact absurd rfl h
def goneTo (s : Stt) (mode base : Int) : Stt := { s with mode := mode, base := base }
theorem empty_up : ∀ {k f n : Nat} {s : Stt}, NoLive s → sttS s = true → s.mode = 3 → s.sh.pages - s.base = (k : Int) → needE n s ≤ f → endF f n s = (goneTo s 2 s.sh.pages, n + k + 1, 0)
  | k, 0, n, s, _, _, _, _, hf => by have := need_pos (n := n) (s := s); omega
  | k, f + 1, n, s, hN, h, hm, hk, hf => by
    have hmv : movingS s = true := by simp [movingS, hm]
    have h0 : ¬ (0 < n ∧ movingS s = false) := fun q => by rw [hmv] at q; cases q.2
    have hs := step_no hN h hmv
    obtain ⟨_, n2⟩ := end_next h0 hs
    rw [endF_step h0 hs]
    have hst := stepU_no hN h hm
    have hR := (step_ok hs).2.2.1
    rw [hst] at n2 hR ⊢
    by_cases hb : s.base = s.sh.pages
    · rw [if_pos hb] at n2 hR ⊢
      obtain rfl : k = 0 := by omega
      have := need_pos (n := n + 1) (s := turnS s 2 0)
      obtain ⟨f', rfl⟩ : ∃ f', f = f' + 1 := ⟨f - 1, by simp only at n2; omega⟩
      rw [endF_stop ⟨by omega, rfl⟩]
      refine Prod.ext ?_ rfl
      show turnS s 2 0 = goneTo s 2 s.sh.pages
      unfold turnS goneTo
      rw [Int.add_zero, hb]
    · rw [if_neg hb] at n2 hR ⊢
      obtain ⟨k', rfl⟩ : ∃ k', k = k' + 1 := ⟨k - 1, by omega⟩
      have := empty_up (k := k') (f := f) (n := n + 1) (s := turnS s 3 1) hN hR rfl (by show s.sh.pages - (s.base + 1) = _; omega) (by simp only at n2; omega)
      rw [this]
      refine Prod.ext rfl (Prod.ext ?_ rfl)
      show n + 1 + k' + 1 = n + (k' + 1) + 1
      omega
theorem empty_down : ∀ {k f n : Nat} {s : Stt}, NoLive s → sttS s = true → s.mode = 4 → s.base = (k : Int) → needE n s ≤ f → endF f n s = (goneTo s 1 0, n + k + 1, 0)
  | k, 0, n, s, _, _, _, _, hf => by have := need_pos (n := n) (s := s); omega
  | k, f + 1, n, s, hN, h, hm, hk, hf => by
    have hmv : movingS s = true := by simp [movingS, hm]
    have h0 : ¬ (0 < n ∧ movingS s = false) := fun q => by rw [hmv] at q; cases q.2
    have hs := step_no hN h hmv
    obtain ⟨_, n2⟩ := end_next h0 hs
    rw [endF_step h0 hs]
    have hst := stepD_no hN h hm
    have hR := (step_ok hs).2.2.1
    rw [hst] at n2 hR ⊢
    by_cases hb : s.base = 0
    · rw [if_pos hb] at n2 hR ⊢
      obtain rfl : k = 0 := by omega
      have := need_pos (n := n + 1) (s := turnS s 1 0)
      obtain ⟨f', rfl⟩ : ∃ f', f = f' + 1 := ⟨f - 1, by simp only at n2; omega⟩
      rw [endF_stop ⟨by omega, rfl⟩]
      refine Prod.ext ?_ rfl
      show turnS s 1 0 = goneTo s 1 0
      unfold turnS goneTo
      rw [Int.add_zero, hb]
    · rw [if_neg hb] at n2 hR ⊢
      obtain ⟨k', rfl⟩ : ∃ k', k = k' + 1 := ⟨k - 1, by omega⟩
      have := empty_down (k := k') (f := f) (n := n + 1) (s := turnS s 4 (-1)) hN hR rfl (by show s.base + -1 = _; omega) (by simp only at n2; omega)
      rw [this]
      refine Prod.ext rfl (Prod.ext ?_ rfl)
      show n + 1 + k' + 1 = n + (k' + 1) + 1
      omega
/-- A heap without objects from one format to the other. -/
theorem empty_law {sh : Shape} {mode : Int} (he : (newS sh mode).2 = 0) : (newS sh mode).1.Ok ∧ ∃ A E : Stt, startS (newS sh mode).1 (decide (mode = 1)) = (A, 0) ∧ (∃ n : Nat, endS A = (E, n, 0) ∧ (n : Int) = sh.pages + 1) ∧ newS sh (3 - mode) = (E, 0) ∧ (1 ≤ sh.pages ∧ sh.pages ≤ 64 ∧ 1 ≤ mode ∧ mode ≤ 2) ∧ A.Ok ∧ E.Ok := by
  rcases newS_cases sh mode with e | ⟨e, h1, h2⟩
  · rw [e] at he; cases he
  rw [e]
  have hR := first_right h1 h2
  have hO := firstOk h1
  have hN : NoLive (firstStt sh mode) := fun i hi => by rw [first_nth hi]; rfl
  have hsh : shapeS sh = true := by simp only [superS, Bool.and_eq_true] at h1; exact h1.1.1
  have hp := (shape_sh hsh).1
  have hm : mode = 1 ∨ mode = 2 := by
    have := sttS_super hR
    simp only [superS, Bool.and_eq_true] at this
    have := this.2
    by_cases q1 : mode = 1
    · exact .inl q1
    · by_cases q2 : mode = 2
      · exact .inr q2
      · have hh : (firstStt sh mode).mode = mode := rfl
        rw [if_neg (by rw [hh]; exact q1), if_neg (by rw [hh]; exact q2)] at this
        simp only [decide_eq_true_eq] at this
        rw [hh] at this
        omega
  have hs0 := start_no (up := decide (mode = 1)) hN hR (by rcases hm with rfl | rfl <;> rfl)
  obtain ⟨_, _, k0, _⟩ := start_ok hs0
  have hnew : newS sh (3 - mode) = (firstStt sh (3 - mode), 0) := by
    rw [newR_eq]; unfold newR
    rw [if_pos (by rw [hsh]; rcases hm with rfl | rfl <;> rfl)]
  have hAR : sttS (turnS (firstStt sh mode) (toM (decide (mode = 1))) 0) = true := start_right hR
  refine ⟨hO, turnS (firstStt sh mode) (toM (decide (mode = 1))) 0, firstStt sh (3 - mode), k0, ?_, hnew, by omega, turn_ok hO, ?_⟩
  · rcases hm with rfl | rfl
    · have := empty_up (k := sh.pages.toNat) (f := needE 0 (turnS (firstStt sh 1) 3 0)) (n := 0) (s := turnS (firstStt sh 1) 3 0) hN hAR rfl (by show sh.pages - (0 + 0) = _; omega) (Nat.le_refl _)
      exact ⟨0 + sh.pages.toNat + 1, this, by omega⟩
    · have := empty_down (k := sh.pages.toNat) (f := needE 0 (turnS (firstStt sh 2) 4 0)) (n := 0) (s := turnS (firstStt sh 2) 4 0) hN hAR rfl (by show sh.pages + 0 = _; omega) (Nat.le_refl _)
      exact ⟨0 + sh.pages.toNat + 1, this, by omega⟩
  · rcases newS_cases sh (3 - mode) with q | ⟨q, q1, _⟩
    · rw [hnew] at q; have := congrArg Prod.snd q; cases this
    · exact firstOk q1
end Go.Proofs

set_option maxHeartbeats 4000000
set_option maxRecDepth 4000
namespace Go.Proofs
open Go.Awp
theorem in199m (g : Gl) (o0 o1 o2 : Awp.Obj) (pages : Int) (l : List (Int × Int)) : ∀ B S, CallsA Tryz.prog g B S ⟨3, true⟩ 199 [.d (vI pages), .d (rO l)] [o0, o1, o2]
    (fun x r => x = .fn (.func 231) [] [.ptr 4 0 0, .ptr 3 0 0] ∧ r = [o0, o1, o2, .var 3 [.d (vI pages)], .var 32 [.d (rO l)]]) := by
  refine callsA_at Tryz.func199 rfl (Nat.le_of_ble_eq_true rfl) fun B S => ?_
  refine xU ?_
  iterate 3 refine xO ?_
  refine xE [2, 3] ?_
  refine xT ?_
  iterate 2 refine xO ?_
  refine xE [4] ?_
  rintro -
  refine W_ret ?_
  refine endAt_ret (by simp [Tryz.f199]; exact .mk) ?_ ?_
  · simp
  simp
theorem in231m (g : Gl) (pages page : Int) (l : List (Int × Int)) (hp : 0 ≤ pages ∧ pages ≤ 64) (hl : l.length ≤ 2^40) (ho : ∀ i, i < l.length → (nth l i).1 ≤ 2^40) (b lb : Nat) (c : LoopC) (L : List (Nat × AV)) (hc1 : c.params.size = 2) (hc2 : ∀ p ∈ c.params.toList, p < c.n)
    (U : Nat → List Nat) (hU : U 0 = []) (zL : (L.all fun p => p.2.lt 7) = true) (zK : (L.all fun p => p.2.lt 8) = true) (zR : (L.map fun p => (p.1, p.2.ren (swapB 7 11 1))) = L)
    (hround : ∀ i, i < l.length → ∀ B S, RoundI Tryz.prog g B S lb 6 c L [.agg [.d (vI (spotS pages (nth l i)).1.page), .d (vI (spotS pages (nth l i)).1.count), .d (vT (spotS pages (nth l i)).1.small), .d (vI (spotS pages (nth l i)).1.cls), .d (vI (spotS pages (nth l i)).1.cell)], .d (vT (spotS pages (nth l i)).2)] [.var 3 [.d (vI page)], .var 33 [.hdr 7 0 (U (i)).length], .var 3 [.d (vI (i : Nat))], .var 3 [.d (vI pages)], .var 32 [.d (rO l)], .blk b, .lp lb c L .ready none, .row 1 ((U (i)).map fun (k : Nat) => vI k), .var 98 [.d (vI (nth l i).1), .d (vI (nth l i).2)]] (fun bb o => bb = true ∧ ((∃ Y : Awp.Obj, o = [.var 3 [.d (vI page)], .var 33 [.hdr 7 0 (U (i + 1)).length], .var 3 [.d (vI (i + 1 : Nat))], .var 3 [.d (vI pages)], .var 32 [.d (rO l)], .blk b, .lp lb c L .ready none, .row 1 ((U (i + 1)).map fun (k : Nat) => vI k), .var 98 [.d (vI (nth l i).1), .d (vI (nth l i).2)], Y]) ∨ ∃ X Y Y2 : Awp.Obj, o = [.var 3 [.d (vI page)], .var 33 [.hdr 11 0 (U (i + 1)).length], .var 3 [.d (vI (i + 1 : Nat))], .var 3 [.d (vI pages)], .var 32 [.d (rO l)], .blk b, .lp lb c L .ready none, X, .var 98 [.d (vI (nth l i).1), .d (vI (nth l i).2)], Y, Y2, .row 1 ((U (i + 1)).map fun (k : Nat) => vI k)]))) :
    ∀ B S, CallsA Tryz.prog g B S ⟨7, true⟩ 231 [.fn (.yield lb) [] [], .ptr 4 0 0, .ptr 3 0 0] [.var 3 [.d (vI page)], .var 33 [.d (.v (.slice none 0 0))], .var 3 [.d (vI 0)], .var 3 [.d (vI pages)], .var 32 [.d (rO l)], .blk b, .lp lb c L .ready none] (fun x r => x = .tup [] ∧ r = [.var 3 [.d (vI page)], .var 33 [.hdr 7 0 (U (l.length)).length], .var 3 [.d (vI (l.length : Nat))], .var 3 [.d (vI pages)], .var 32 [.d (rO l)], .blk b, .lp lb c L .ready none, .row 1 ((U (l.length)).map fun (k : Nat) => vI k)]) := by
  refine callsA_WI Tryz.func231 rfl (Nat.le_of_ble_eq_true rfl) fun B S => ?_
  refine WI_seq ?_
  refine WI_reg rfl ?_ (by decide +kernel)
  refine run_op rfl rfl rfl (by simp [zL, eObj]; exact .mk) ?_
  iterate 2 (refine run_op rfl rfl rfl (by simp [zL]; exact .mk) ?_)
  refine xE [0, 2, 6, 7, 8] ?_
  rintro -
  refine WI_block ?_
  refine WI_weak (Weak.nilCell 1 0 1 rfl rfl) ?_
  refine WI_rounds (fun m σ o => ∃ i : Nat, m = l.length - i ∧ i ≤ l.length ∧ σ = slots [(0, .fn (.yield lb) [] []), (2, .ptr 3 0 0), (6, .d (rO l)), (7, .d (vI l.length)), (8, .d (vI i))] ∧ o = [.var 3 [.d (vI page)], .var 33 [.hdr 7 0 (U (i)).length], .var 3 [.d (vI (i : Nat))], .var 3 [.d (vI pages)], .var 32 [.d (rO l)], .blk b, .lp lb c L .ready none, .row 1 ((U (i)).map fun (k : Nat) => vI k)]) l.length .refl ⟨0, by simp, by simp, by simp, by simp [hU]⟩ ?_
  rintro m σ o ⟨i, rfl, hi, rfl, rfl⟩ _
  refine WI_seq ?_
  refine WI_reg rfl ?_ (by decide +kernel)
  refine run_op rfl rfl rfl (by simp [zL]; exact .mk) ?_
  refine xE [0, 2, 6, 7, 8, 9] ?_
  rintro -
  refine WI_seq ?_
  refine WI_cond rfl ?_ ?_
  · intro h9
    have hi2 : i < l.length := by simpa using h9
    refine WI_skip ?_
    rintro -
    refine WI_seq ?_
    refine WI_block ?_
    refine WI_seq ?_
    refine WI_reg rfl ?_ (by decide +kernel)
    refine run_op rfl rfl rfl (by simp [zL, zK, eObj, *]; exact .mk) ?_
    refine run_op rfl rfl rfl (by simp [zL, zK, eObj]; exact .mk) ?_
    refine run_op rfl rfl rfl (by simp [zL, zK]; exact .mk) ?_
    refine run_op rfl rfl rfl (by simp [zL, zK, splice]; exact .mk) ?_
    refine xE [0, 2, 5, 6, 7, 8] ?_
    rintro -
    refine WI_seq ?_
    refine WI_regY [0, 1, 2, 3, 4, 5] 6 [7] rfl ?_ (by decide +kernel)
    refine run_op rfl rfl rfl (by simp [zL, zK]; exact .mk) ?_
    iterate 2 (refine run_op rfl rfl rfl (by simp [zL, zK, eObj]; exact .mk) ?_)
    refine run_call0 rfl rfl rfl rfl (by simp [zL, zK]; exact .mk) (by simp [zL, zK]; exact .mk) (ct232 g pages (nth l i) hp (ho i hi2)) (by simp [zL, zK]) (by simp [zL, zK]; exact .mk) ?_
    iterate 2 (refine run_op rfl rfl rfl (by simp [zL, zK]; exact .mk) ?_)
    refine run_yieldA (fun bb o => bb = true ∧ ((∃ Y : Awp.Obj, o = [.var 3 [.d (vI page)], .var 33 [.hdr 7 0 (U (i + 1)).length], .var 3 [.d (vI (i + 1 : Nat))], .var 3 [.d (vI pages)], .var 32 [.d (rO l)], .blk b, .lp lb c L .ready none, .row 1 ((U (i + 1)).map fun (k : Nat) => vI k), .var 98 [.d (vI (nth l i).1), .d (vI (nth l i).2)], Y]) ∨ ∃ X Y Y2 : Awp.Obj, o = [.var 3 [.d (vI page)], .var 33 [.hdr 11 0 (U (i + 1)).length], .var 3 [.d (vI (i + 1 : Nat))], .var 3 [.d (vI pages)], .var 32 [.d (rO l)], .blk b, .lp lb c L .ready none, X, .var 98 [.d (vI (nth l i).1), .d (vI (nth l i).2)], Y, Y2, .row 1 ((U (i + 1)).map fun (k : Nat) => vI k)])) rfl rfl rfl rfl rfl (by simp) (by simp; exact .mk) (by simp [eSpot]; exact .mk) rfl hc1 hc2 (hround i hi2) ?_
    rintro bb o2 ⟨rfl, ⟨Y, rfl⟩ | ⟨X, Y, Y2, rfl⟩⟩
    · refine run_op rfl rfl rfl (by simp [zL, zK]; exact .mk) ?_
      refine xE [0, 2, 6, 7, 8, 19] ?_
      rintro -
      refine WI_cond rfl ?_ ?_
      · intro h19
        simp at h19
      intro h19
      refine WI_skip ?_
      rintro -
      refine WI_reg rfl ?_ (by decide +kernel)
      iterate 2 (refine run_op rfl rfl rfl (by simp [zL, zK]; exact .mk) ?_)
      refine xE [0, 2, 6, 7, 8] ?_
      refine roundsI_of ?_
      refine rounds_drop 8 [0, 2, 6, 7, 8] (by simp) (by simp [boxA, AV.cells, AV.isCell, zL, zK]) (by simp [boxA, AV.cells, AV.isCell, zL, zK]) ?_
      exact rounds_next (m' := l.length - (i + 1)) (by omega) ⟨i + 1, rfl, by omega, by rw [wrap64 (by omega) (by omega)]; rfl, rfl⟩
    refine run_op rfl rfl rfl (by simp [zL, zK]; exact .mk) ?_
    refine xE [0, 2, 6, 7, 8, 19] ?_
    rintro -
    refine WI_cond rfl ?_ ?_
    · intro h19
      simp at h19
    intro h19
    refine WI_skip ?_
    rintro -
    refine WI_reg rfl ?_ (by decide +kernel)
    iterate 2 (refine run_op rfl rfl rfl (by simp [zL, zK]; exact .mk) ?_)
    refine xE [0, 2, 6, 7, 8] ?_
    refine roundsI_of ?_
    refine rounds_kills [0, 2, 6, 7, 8] rfl ?_
    have hlp : Obj.ren (swapB 7 11 1) (.lp lb c L .ready none) = .lp lb c L .ready none := by
      show Obj.lp _ _ (L.map _) _ _ = _
      rw [zR]
    refine rounds_swap 7 11 1 (objs2 := [.var 3 [.d (vI page)], .var 33 [.hdr 7 0 (U (i + 1)).length], .var 3 [.d (vI (i + 1 : Nat))], .var 3 [.d (vI pages)], .var 32 [.d (rO l)], .blk b, .lp lb c L .ready none, .row 1 ((U (i + 1)).map fun (k : Nat) => vI k), .var 98 [.d (vI (nth l i).1), .d (vI (nth l i).2)], Y.ren (swapB 7 11 1), Y2.ren (swapB 7 11 1), X.ren (swapB 7 11 1)]) (by decide) (by simp) (by simp) (by show _ = [_, _, _, _, _, _, Obj.ren (swapB 7 11 1) (.lp lb c L .ready none), _, _, _, _, _]; rw [hlp]; rfl) rfl ?_
    refine rounds_drop 8 [0, 2, 6, 7, 8] (by simp) (by rfl) (by simp [zL, zK]) ?_
    exact rounds_next (m' := l.length - (i + 1)) (by omega) ⟨i + 1, rfl, by omega, by rw [wrap64 (by omega) (by omega)]; rfl, rfl⟩
  intro h9
  obtain rfl : i = l.length := by simp at h9; omega
  refine WI_exit ?_
  try simp only [thenI_ret, roundsI_ret, inBlkI_ret, thenI_exit, roundsI_exit, inBlkI_exit, if_true]
  refine endInM_normal (fn := Tryz.f231) (rs := []) 8 .nil ?_ (by simp) ?_ ?_ ?_
  · simp [Tryz.f231]; exact .mk
  · rfl
  · simp [zL, zK]
  exact ⟨rfl, rfl⟩
end Go.Proofs

set_option maxHeartbeats 4000000
set_option maxRecDepth 4000
namespace Go.Proofs
open Go.Awp
theorem in165 (g : Gl) (pages page : Int) (l : List (Int × Int)) (hl : l.length ≤ 2^40) (ho : ∀ i, i < l.length → (nth l i).1 ≤ 2^40) (hL : (laidS pages l).isSome = true) (hpg : -2^40 ≤ page ∧ page ≤ 2^40) : ∀ B S, CallsA Tryz.prog g B S ⟨0, true⟩ 165 ([vI pages, rO l, vI page].map argD) [] (fun x r => x = .hdr 7 0 (matesS pages l page).length ∧ r = [.var 3 [.d (vI page)], .var 33 [.hdr 7 0 (matesS pages l page).length], .var 3 [.d (vI (l.length : Nat))], .var 3 [.d (vI pages)], .var 32 [.d (rO l)], .dead, .dead, .row 1 ((matesS pages l page).map fun (k : Nat) => vI k)]) := by
  refine callsA_WI Tryz.func165 rfl (Nat.le_of_ble_eq_true rfl) fun B S => ?_
  obtain ⟨y, hls⟩ := Option.isSome_iff_exists.1 hL
  obtain ⟨hp, hokk, hy⟩ := laidS_some hls
  have hcl : ∀ B S, CallsA Tryz.prog g B S ⟨0, true⟩ 141 ([vI pages, rO l].map AV.d) [] (fun x r => ∃ y, x = .tup [y, .d (.v (.bool true))]) := fun B S vs w gs om a b c d e => (in141 g pages l hl ho B S vs w gs om a b c d e).mono fun e w' ⟨v, av, o', g', m', h1, h2, h3⟩ => ⟨v, av, o', g', m', h1, by rw [hls] at h2; exact ⟨_, h2.1⟩, h3⟩
  simp only [List.map, argD_agg, argD_v]
  refine WI_seq ?_
  refine WI_reg rfl ?_ (by decide +kernel)
  iterate 2 refine xO ?_
  refine xE [0, 1, 5] ?_
  rintro -
  refine WI_seq ?_
  refine WI_seq ?_
  refine WI_reg rfl ?_ (by decide +kernel)
  iterate 2 refine xO ?_
  refine run_inl0 rfl rfl rfl rfl (by simp; exact .mk) ⟨_, Tryz.func141, rfl, rfl⟩ (calls_dead (by simp) hcl _) (.inl (by simp)) ?_
  iterate 5 refine xO ?_
  refine xE [0, 1, 5, 8] ?_
  rintro -
  refine WI_seq ?_
  refine WI_reg rfl ?_ (by decide +kernel)
  iterate 2 refine xO ?_
  refine xE [0, 1, 5, 19] ?_
  rintro -
  refine WI_cond rfl ?_ ?_
  · intro h19
    simp at h19
  intro h19
  refine WI_skip ?_
  rintro -
  refine WI_seq ?_
  refine WI_reg rfl ?_ (by decide +kernel)
  refine xO ?_
  refine xE [0, 1, 5, 9] ?_
  rintro -
  refine WI_seq ?_
  refine WI_reg rfl ?_ (by decide +kernel)
  refine xO ?_
  refine run_op rfl rfl rfl (by simp [splice]; exact .mk) ?_
  refine xE [0, 1, 5, 9, 10] ?_
  rintro -
  refine WI_seq ?_
  refine WI_seq ?_
  refine WI_reg rfl ?_ (by decide +kernel)
  iterate 2 refine xO ?_
  refine run_inl0 rfl rfl rfl rfl (by simp; exact .mk) ⟨_, Tryz.func199, rfl, rfl⟩ (in199m g _ _ _ pages l) (.inl (by simp)) ?_
  refine xE [5, 9, 10, 22] ?_
  rintro -
  refine WI_block ?_
  obtain ⟨U, hU⟩ : ∃ U : Nat → List Nat, U = (fun i => (List.range i).filter fun j => coverB pages page (nth l j)) := ⟨_, rfl⟩
  have hU0 : U 0 = [] := by rw [hU]; rfl
  have hUl : U l.length = matesS pages l page := by rw [hU]; rfl
  have hU1 : ∀ i, U (i + 1) = U i ++ (if coverB pages page (nth l i) = true then [i] else []) := fun i => by
    rw [hU]; simp only [List.range_succ, List.filter_append]; congr 1; simp only [List.filter_cons, List.filter_nil]
  have hUn : ∀ i, (U i).length ≤ i := fun i => by rw [hU]; exact Nat.le_trans (List.length_filter_le _ _) (by simp)
  refine WI_rangeFunc [5, 9, 10] (by simp; exact .mk) ⟨_, Tryz.func231, rfl, rfl⟩ (by simp; exact .mk) _ (fun fn b lb B S => in231m g pages page l hp hl ho b lb _ _ rfl ?_ U hU0 rfl rfl rfl (fun i hi B S => ?_) B S) ?_
  · intro p hp2
    have hp3 : p = 23 ∨ p = 24 := by simpa using hp2
    show p < 45
    rcases hp3 with rfl | rfl <;> decide
  · skip
    have hsp : (spotS pages (nth l i)).2 = true := by
      have hk := hokk i hi
      cases hq : (spotS pages (nth l i)).2 with
      | true => rfl
      | false => simp only [okI, layO] at hk; rw [if_neg (by simp [hq])] at hk; cases hk
    have hsw := spot_words hsp
    have hgd := hsw.good
    have g0 := hgd.p0
    have g1 := hgd.p1
    have g2 := hgd.c1
    have g3 := hUn i
    have e1 : IntKind.i64.wrap (page - (spotS pages (nth l i)).1.page) = page - (spotS pages (nth l i)).1.page := wrap64 (by omega) (by omega)
    have e3 : IntKind.i64.wrap ((i : Int) + 1) = (i : Int) + 1 := wrap64 (by omega) (by omega)
    have e4 : ((U i).length + 1) * 8 ≤ 140737488355328 := by omega
    have e5 : (U i).length ≤ 140737488355327 := by omega
    unfold RoundI
    refine WI_weak (Weak.kills [5, 9, 10, 23, 24] rfl) ?_
    refine WI_reg rfl ?_ (by decide +kernel)
    refine xO ?_
    refine run_op rfl rfl rfl (by simp [splice]; exact .mk) ?_
    refine xE [5, 9, 10, 11] ?_
    refine ⟨rfl, rfl, rfl, fun _ => ?_⟩
    refine WI_block ?_
    refine WI_seq ?_
    refine WI_seq ?_
    refine WI_reg rfl ?_ (by decide +kernel)
    iterate 5 refine xO ?_
    iterate 3 refine xI ?_
    refine run_if rfl (by simp; exact .mk) rfl (by simp <;> first | omega | grind) (fun hb => by simp [e1]; exact .mk) ?_
    iterate 3 refine xI ?_
    refine xP ?_
    refine xE [9, 10, 37] ?_
    rintro -
    refine WI_cond rfl ?_ ?_
    · intro h37
      have hc : coverB pages page (nth l i) = true := by simpa [coverB] using h37
      have hUe := hU1 i
      rw [if_pos hc] at hUe
      refine WI_reg rfl ?_ (by decide +kernel)
      iterate 3 refine xO ?_
      refine run_op rfl rfl rfl (by simp [rows, e4, e5]; exact .mk) ?_
      refine run_op rfl rfl rfl (by simp [splice]; exact .mk) ?_
      refine xE [10] ?_
      rintro -
      refine WI_reg rfl ?_ (by decide +kernel)
      refine xO ?_
      refine run_op rfl rfl rfl (by simp [e3]; exact .mk) ?_
      refine run_op rfl rfl rfl (by simp [splice]; exact .mk) ?_
      refine xE [] ?_
      simp only [inBlkI_normal]
      refine ⟨by first | trivial | rfl, by first | trivial | rfl, ?_⟩
      rw [hUe]
      try simp only [List.length_append, List.map_append, List.length_cons, List.length_nil, List.map_cons, List.map_nil, Nat.zero_add]
      first
      | exact .inl ⟨_, rfl⟩
      | exact .inr ⟨_, _, _, rfl⟩
    intro h37
    have hc : ¬ coverB pages page (nth l i) = true := by simpa [coverB] using h37
    have hUe := hU1 i
    rw [if_neg hc, List.append_nil] at hUe
    refine WI_skip ?_
    rintro -
    refine WI_reg rfl ?_ (by decide +kernel)
    refine xO ?_
    refine run_op rfl rfl rfl (by simp [e3]; exact .mk) ?_
    refine run_op rfl rfl rfl (by simp [splice]; exact .mk) ?_
    refine xE [] ?_
    simp only [inBlkI_normal]
    refine ⟨by first | trivial | rfl, by first | trivial | rfl, ?_⟩
    rw [hUe]
    try simp only [List.length_append, List.map_append, List.length_cons, List.length_nil, List.map_cons, List.map_nil, Nat.zero_add]
    first
    | exact .inl ⟨_, rfl⟩
    | exact .inr ⟨_, _, _, rfl⟩
  rintro fn b lb av o ⟨rfl, rfl⟩
  refine ⟨_, _, rfl, by simp, ?_⟩
  rw [hUl]
  simp only [pending_none, inBlkI_normal]
  rintro -
  refine WI_seq ?_
  refine WI_reg rfl ?_ (by decide +kernel)
  iterate 2 refine xO ?_
  refine xE [6] ?_
  rintro -
  refine WI_ret ?_
  try simp only [thenI_ret, roundsI_ret, inBlkI_ret, thenI_exit, roundsI_exit, inBlkI_exit, inBlkI_normal, if_true]
  refine endInM_ret (fn := Tryz.f165) (rs := [.hdr 7 0 (matesS pages l page).length]) 8 (.cons (r := 5) rfl .nil) ?_ (Nat.zero_le _) ?_ ?_ ?_
  · simp [Tryz.f165]; exact .mk
  · rfl
  · rfl
  exact ⟨rfl, rfl⟩
theorem ct165 (g : Gl) (pages page : Int) (l : List (Int × Int)) (hl : l.length ≤ 2^40) (ho : ∀ i, i < l.length → (nth l i).1 ≤ 2^40) (hL : (laidS pages l).isSome = true) (hpg : -2^40 ≤ page ∧ page ≤ 2^40) : CtAt Tryz.prog g 165 [vI pages, rO l, vI page] (oI ((matesS pages l page).map fun (k : Nat) => (k : Int))) :=
  ctAt_of_callsO Tryz.func165 rfl rfl (in165 g pages page l hl ho hL hpg) (by simp [cl, cls]; exact ⟨by simp [ownR, Function.comp_def], rfl⟩) (by simp)


end Go.Proofs

set_option maxHeartbeats 4000000
set_option maxRecDepth 4000
namespace Go.Proofs
open Go.Awp
theorem ct214 (g : Gl) (ms : List Int) (x : Int) (hl : ms.length ≤ 2^40) : CtAt Tryz.prog g 214 [rI ms, vI x] (vI (ixN ms x)) := by
  refine ctAt_of_W Tryz.func214 rfl rfl (Nat.le_of_ble_eq_true rfl) fun B S => ?_
  simp only [List.map, argD_v]
  refine xU ?_
  refine xO ?_
  refine xE [0, 1] ?_
  rintro -
  refine W_seq ?_
  refine xU ?_
  iterate 3 refine xO ?_
  refine xE [0, 1, 7, 8] ?_
  rintro -
  refine W_block ?_
  refine W_rounds (fun m σ o => ∃ i : Nat, m = ms.length - i ∧ i ≤ ms.length ∧ (∀ j, j < i → nth ms j ≠ x) ∧ σ = slots [(0, .d (rI ms)), (1, .d (vI x)), (7, .d (vI ms.length)), (8, .d (vI i))] ∧ o = []) ms.length .refl ⟨0, by simp, by simp, by simp, by simp, rfl⟩ ?_
  rintro m σ o ⟨i, rfl, hi, hinv, rfl, rfl⟩ _
  refine xU ?_
  refine xO ?_
  refine xE [0, 1, 7, 8, 9] ?_
  rintro -
  refine W_seq ?_
  refine W_cond rfl ?_ ?_
  · intro h9
    have hi2 : i < ms.length := by simpa using h9
    refine W_skip ?_
    rintro -
    refine W_seq ?_
    refine W_block ?_
    refine xU ?_
    iterate 2 refine xO ?_
    refine xE [0, 1, 5, 7, 8] ?_
    refine xT ?_
    iterate 3 refine xO ?_
    refine run_op rfl rfl rfl (by simp [hi2]; exact .mk) ?_
    refine run_op rfl rfl rfl (by simp [-List.getElem?_map, map_get hi2]; exact .mk) ?_
    refine xO ?_
    refine xE [0, 1, 5, 7, 8, 16] ?_
    rintro -
    refine W_cond rfl ?_ ?_
    · intro h16
      have hx : nth ms i = x := by simp at h16; omega
      have hr : ixN ms x = i := ixN_at hi2 hinv hx
      refine xU ?_
      iterate 2 refine xO ?_
      refine xE [4] ?_
      rintro -
      refine W_ret ?_
      refine xR (by simp [Tryz.f214]; exact .mk) ?_
      simp [nrmR, nrmRs, nrmK, kindsOf, kinds, Tryz.f214, hr]
    intro h16
    have hx : nth ms i ≠ x := by simp at h16; omega
    refine W_skip ?_
    rintro -
    refine W_reg rfl ?_
    iterate 2 refine xO ?_
    refine xE [0, 1, 7, 8] ?_
    refine rounds_kill [0, 1, 7, 8] ?_
    refine rounds_next (m' := ms.length - (i+1)) (by omega) ⟨i+1, rfl, by omega, fun j hj => ?_, ?_, rfl⟩
    · rcases Nat.lt_succ_iff_lt_or_eq.1 hj with hj | rfl
      · exact hinv j hj
      exact hx
    rw [wrap64 (by omega) (by omega)]; rfl
  intro h9
  have hr : ixN ms x = -1 := ixN_none (fun j hj => hinv j (by simp at h9; omega))
  refine W_exit ?_
  refine xT ?_
  refine xO ?_
  refine xE [4] ?_
  rintro -
  refine W_ret ?_
  refine xR (by simp [Tryz.f214]; exact .mk) ?_
  simp [nrmR, nrmRs, nrmK, kindsOf, kinds, Tryz.f214, hr]

theorem ct168 (g : Gl) (ms : List Int) (x : Int) (hl : ms.length ≤ 2^40) : CtAt Tryz.prog g 168 [rI ms, vI x] (.v (.bool (ms.contains x))) := by
  refine ctAt_of_W Tryz.func168 rfl rfl (Nat.le_of_ble_eq_true rfl) fun B S => ?_
  simp only [List.map, argD_v]
  refine xU ?_
  refine xO ?_
  refine xE [0, 1] ?_
  refine xT ?_
  iterate 2 refine xO ?_
  refine run_call0 rfl rfl rfl rfl (by simp; exact .mk) (by simp; exact .mk) (ct214 g ms x hl) (by simp) (by simp; exact .mk) ?_
  iterate 2 refine xO ?_
  refine xE [4] ?_
  rintro -
  refine W_ret ?_
  refine xR (by simp [Tryz.f168]; exact .mk) ?_
  simp [nrmR, nrmRs, nrmK, kindsOf, kinds, Tryz.f168, ixN_nonneg]

end Go.Proofs

set_option maxHeartbeats 4000000
set_option maxRecDepth 4000
namespace Go.Proofs
open Go.Awp
theorem in167 (g : Gl) (o0 o1 o2 o4 : Awp.Obj) (l : List (Int × Int)) (ms : List Nat) (i j : Nat) (hl : l.length ≤ 2^40) (hi : i < l.length) (hj : j < l.length) (hb : ∀ k, k < l.length → -2^40 ≤ (nth l k).1 ∧ (nth l k).1 ≤ 2^40) : ∀ B S, CallsA Tryz.prog g B S ⟨7, true⟩ 167 [.d (vI i), .d (vI j), .ptr 5 0 0] [o0, o1, o2, .row 2 (l.map eObj), o4, .var 32 [.hdr 3 0 l.length], .row 1 (ms.map fun (k : Nat) => vI k)] (fun x r => x = .d (vI ((nth l i).1 - (nth l j).1)) ∧ r = [o0, o1, o2, .row 2 (l.map eObj), o4, .var 32 [.hdr 3 0 l.length], .row 1 (ms.map fun (k : Nat) => vI k)]) := by
  refine callsA_at Tryz.func167 rfl (Nat.le_of_ble_eq_true rfl) fun B S => ?_
  have e1 : IntKind.i64.wrap ((nth l i).1 - (nth l j).1) = (nth l i).1 - (nth l j).1 := wrap64 (by have := hb i hi; have := hb j hj; omega) (by have := hb i hi; have := hb j hj; omega)
  refine xU ?_
  refine xO ?_
  refine xE [0, 1, 2] ?_
  rintro -
  refine W_seq ?_
  refine W_regD (by kernel_rfl) [] 4 [0, 1, 2, 3, 4, 5, 6, 7, 8, 9, 10, 11] (by decide +kernel) ?_
  iterate 2 refine xO ?_
  refine run_op rfl rfl rfl (by simp [hi]; exact .mk) ?_
  refine xO ?_
  refine run_op rfl rfl rfl (by simp [-List.getElem?_map, map_get hi, eObj]; exact .mk) ?_
  iterate 2 refine xO ?_
  refine run_op rfl rfl rfl (by simp [hj]; exact .mk) ?_
  refine xO ?_
  refine run_op rfl rfl rfl (by simp [-List.getElem?_map, map_get hj, eObj]; exact .mk) ?_
  refine run_op rfl rfl rfl (by simp [e1]; exact .mk) ?_
  refine xO ?_
  refine xE [5] ?_
  rintro -
  refine W_ret ?_
  refine endAt_ret (by simp [Tryz.f167]; exact .mk) ?_ ?_
  · simp
  simp

theorem in166 (g : Gl) (o0 o1 o2 o4 : Awp.Obj) (l : List (Int × Int)) (ms : List Nat) (hl : l.length ≤ 2^40) (hm : ms.length ≤ 2^40) (hne : ms ≠ []) (hmm : ∀ i, i < ms.length → nth ms i < l.length) (hb : ∀ k, k < l.length → -2^40 ≤ (nth l k).1 ∧ (nth l k).1 ≤ 2^40) : ∀ B S, CallsA Tryz.prog g B S ⟨7, true⟩ 166 [.hdr 6 0 ms.length, .fn (.func 167) [] [.ptr 5 0 0]] [o0, o1, o2, .row 2 (l.map eObj), o4, .var 32 [.hdr 3 0 l.length], .row 1 (ms.map fun (k : Nat) => vI k)] (fun x r => x = .d (vI (leastS l ms : Nat)) ∧ r = [o0, o1, o2, .row 2 (l.map eObj), o4, .var 32 [.hdr 3 0 l.length], .row 1 (ms.map fun (k : Nat) => vI k)]) := by
  refine callsA_at Tryz.func166 rfl (Nat.le_of_ble_eq_true rfl) fun B S => ?_
  have hm0 : 0 < ms.length := List.length_pos_iff.2 hne
  refine xU ?_
  refine xO ?_
  refine xE [0, 1] ?_
  rintro -
  refine W_seq ?_
  refine xU ?_
  iterate 3 refine xO ?_
  refine xE [0, 1, 9] ?_
  rintro -
  refine W_cond rfl ?_ ?_
  · intro h9
    simp at h9; omega
  intro h9
  refine W_skip ?_
  refine xT ?_
  refine xO ?_
  refine run_op rfl rfl rfl (by simp [hm0]; exact .mk) ?_
  refine run_op rfl rfl rfl (by simp [-List.getElem?_map, map_get hm0]; exact .mk) ?_
  refine xO ?_
  refine xE [0, 1, 5] ?_
  rintro -
  refine W_seq ?_
  refine xU ?_
  refine xO ?_
  refine xE [0, 1, 5, 6] ?_
  rintro -
  refine W_block ?_
  refine W_rounds (fun m σ o => ∃ i : Nat, m = ms.length - i ∧ 1 ≤ i ∧ i ≤ ms.length ∧ σ = slots [(0, .hdr 6 0 ms.length), (1, .fn (.func 167) [] [.ptr 5 0 0]), (5, .d (vI (leastS l (ms.take i) : Nat))), (6, .d (vI i))] ∧ o = [o0, o1, o2, .row 2 (l.map eObj), o4, .var 32 [.hdr 3 0 l.length], .row 1 (ms.map fun (k : Nat) => vI k)]) (ms.length - 1) .refl ⟨1, by simp, by simp, by omega, by rw [leastS_one hne]; simp, rfl⟩ ?_
  rintro m σ o ⟨i, rfl, hi1, hi, rfl, rfl⟩ _
  refine W_seq ?_
  refine xU ?_
  iterate 4 refine xO ?_
  refine xE [0, 1, 5, 6, 17] ?_
  rintro -
  refine W_cond rfl ?_ ?_
  · intro h17
    have hi2 : i < ms.length := by simpa using h17
    have hle := leastS_in hne hmm hi1
    have hst := leastS_step l hi1 hi2
    refine W_skip ?_
    rintro -
    refine W_seq ?_
    refine W_block ?_
    refine xU ?_
    iterate 3 refine xO ?_
    refine run_op rfl rfl rfl (by simp [hi2]; exact .mk) ?_
    refine run_op rfl rfl rfl (by simp [-List.getElem?_map, map_get hi2]; exact .mk) ?_
    refine xO ?_
    refine run_inl0 rfl rfl rfl rfl (by simp; exact .mk) ⟨_, Tryz.func167, rfl, rfl⟩ (in167 g o0 o1 o2 o4 l ms (nth ms i) (leastS l (ms.take i)) hl (hmm i hi2) hle hb) (.inl (by simp)) ?_
    refine xO ?_
    refine xE [0, 1, 5, 6, 27] ?_
    rintro -
    refine W_cond rfl ?_ ?_
    · intro h27
      have hlt : (nth l (nth ms i)).1 < (nth l (leastS l (ms.take i))).1 := by simp at h27; omega
      rw [if_pos hlt] at hst
      refine W_reg rfl ?_
      iterate 2 refine xO ?_
      refine run_op rfl rfl rfl (by simp [hi2]; exact .mk) ?_
      refine run_op rfl rfl rfl (by simp [-List.getElem?_map, map_get hi2]; exact .mk) ?_
      refine xO ?_
      refine xE [0, 1, 5, 6] ?_
      rintro -
      refine W_reg rfl ?_
      iterate 3 refine xO ?_
      refine xE [0, 1, 5, 6] ?_
      refine rounds_kill [0, 1, 5, 6] ?_
      refine rounds_next (m' := ms.length - (i+1)) (by omega) ⟨i+1, rfl, by omega, by omega, ?_, rfl⟩
      rw [wrap64 (by omega) (by omega), hst]; rfl
    intro h27
    have hlt : ¬ (nth l (nth ms i)).1 < (nth l (leastS l (ms.take i))).1 := by simp at h27; omega
    rw [if_neg hlt] at hst
    refine W_skip ?_
    rintro -
    refine W_reg rfl ?_
    iterate 3 refine xO ?_
    refine xE [0, 1, 5, 6] ?_
    refine rounds_kill [0, 1, 5, 6] ?_
    refine rounds_next (m' := ms.length - (i+1)) (by omega) ⟨i+1, rfl, by omega, by omega, ?_, rfl⟩
    rw [wrap64 (by omega) (by omega), hst]; rfl
  intro h17
  obtain rfl : i = ms.length := by simp at h17; omega
  rw [List.take_length]
  refine W_exit ?_
  refine xT ?_
  iterate 2 refine xO ?_
  refine xE [4] ?_
  rintro -
  refine W_ret ?_
  refine endAt_ret (by simp [Tryz.f166]; exact .mk) ?_ ?_
  · simp
  simp

end Go.Proofs

set_option maxHeartbeats 4000000
set_option maxRecDepth 4000
namespace Go.Proofs
open Go.Awp
theorem ct122 (g : Gl) (s : Stt) (hs : s.Ok) (mode step : Int) (hb : -2^60 ≤ s.base + step ∧ s.base + step ≤ 2^60) : CtAt Tryz.prog g 122 [eStt s, vI mode, vI step] (.tup [oStt (turnS s mode step), vI 0]) := by
  refine ctAt_of_W Tryz.func122 rfl rfl (Nat.le_of_ble_eq_true rfl) fun B S => ?_
  simp only [eStt, List.map, argD_agg, argD_v]
  have e1 : IntKind.i64.wrap (s.base + step) = s.base + step := wrap64 (by omega) (by omega)
  refine xU ?_
  iterate 3 refine xO ?_
  refine xE [1, 2, 3, 6] ?_
  refine xT ?_
  refine xO ?_
  refine run_op rfl rfl rfl (by simp [eSlot]; exact .mk) ?_
  refine run_call0 rfl rfl rfl rfl (by simp; exact .mk) (by simp; exact .mk) (ct24 g s hs) (by simp) (by simp [oStt]; exact .mk) ?_
  refine xO ?_
  refine run_op rfl rfl rfl (by simp [splice]; exact .mk) ?_
  refine xE [1, 2, 6, 8] ?_
  refine xT ?_
  iterate 2 refine xO ?_
  refine run_op rfl rfl rfl (by simp [eSlot]; exact .mk) ?_
  refine xO ?_
  refine run_op rfl rfl rfl (by simp [e1]; exact .mk) ?_
  refine xO ?_
  refine run_op rfl rfl rfl (by simp [splice]; exact .mk) ?_
  refine xO ?_
  refine run_op rfl rfl rfl (by simp [splice]; exact .mk) ?_
  refine xE [6, 8] ?_
  refine xT ?_
  refine run_op rfl rfl rfl (by simp [eSlot]; exact .mk) ?_
  refine run_op rfl rfl rfl (by simp [splice]; exact .mk) ?_
  refine xO ?_
  refine xE [6, 7] ?_
  rintro -
  refine W_ret ?_
  refine end_ret (by simp [Tryz.f122]; exact .mk) (by simp; exact .mk) ?_ (by simp [oStt])
  simp [nrmR, nrmRs, nrmK, kindsOf, kinds, Tryz.f122, oStt, ownR, turnS]

theorem ct164 (g : Gl) (s : Stt) (hs : s.Ok) (hR : sttS s = true) (fr size : Int) (hfr : 0 ≤ fr ∧ fr ≤ 2^20) : CtAt Tryz.prog g 164 [eStt s, vI fr, vI size] (.tup [vI ((behindS s fr size).getD 0), .v (.bool (behindS s fr size).isSome)]) := by
  refine ctAt_of_W Tryz.func164 rfl rfl (Nat.le_of_ble_eq_true rfl) fun B S => ?_
  simp only [eStt, List.map, argD_agg, argD_v]
  have q0 := hs.h1
  have hb := superS_b (sttS_super hR)
  have hol := onesS_len (l := s.slots)
  have hT := tableS_len (sttS_rows hR)
  refine xU ?_
  iterate 3 refine xO ?_
  refine xE [1, 2, 3] ?_
  refine xT ?_
  refine xO ?_
  refine xE [1, 2, 3, 8] ?_
  rintro -
  refine W_seq ?_
  refine xU ?_
  refine xO ?_
  refine run_op rfl rfl rfl (by simp [eBlk]; exact .mk) ?_
  refine run_call0 rfl rfl rfl rfl (by simp; exact .mk) (by simp; exact .mk) (ct28 g s hs) (by simp) (by simp; exact .mk) ?_
  iterate 2 refine xO ?_
  refine xE [1, 2, 3, 8, 21, 22, 23] ?_
  rintro -
  refine W_block ?_
  refine W_rounds (fun m σ o => ∃ i : Nat, m = (onesS s.slots).length - i ∧ i ≤ (onesS s.slots).length ∧ σ = slots [(1, .d (vI fr)), (2, .d (vI size)), (3, .ptr 0 0 0), (8, .hdr 2 0 i), (21, .hdr 1 0 (onesS s.slots).length), (22, .d (vI (onesS s.slots).length)), (23, .d (vI i))] ∧ o = [.var 144 [.d (vI s.sh.pages), .d (vI s.sh.slots), .d (vI s.sh.roots), .d (vI s.sh.room), .d (vI s.mode), .d (vI s.base), .d (rSl s.slots), .d (rR s.roots), .d (rBB s.data)], .row 3 ((onesS s.slots).map eBlk), .row 2 (((onesS s.slots).take i).map fun b => eObj (spanOf b))]) (onesS s.slots).length
    (Weak.trans (Weak.nilRow 8 2 rfl) (Weak.kills [1, 2, 3, 8, 21, 22, 23] rfl) (fun _ _ _ h1 h2 => by rw [← h1.len]; exact h2)) ⟨0, by simp, by simp, by simp, by simp⟩ ?_
  rintro m σ o ⟨i, rfl, hi, rfl, rfl⟩ _
  refine xU ?_
  refine xO ?_
  refine xE [1, 2, 3, 8, 21, 22, 23, 24] ?_
  rintro -
  refine W_seq ?_
  refine W_cond rfl ?_ ?_
  · intro h24
    have hi2 : i < (onesS s.slots).length := by simpa using h24
    have e1 : (i + 1) * 16 ≤ 140737488355328 := by omega
    have e2 : i ≤ 140737488355327 := by omega
    have htk : ((onesS s.slots).take i).length = i := by simp; omega
    refine W_skip ?_
    rintro -
    refine W_seq ?_
    refine W_block ?_
    refine xU ?_
    refine run_op rfl rfl rfl (by simp [eBlk, hi2]; exact .mk) ?_
    refine run_op rfl rfl rfl (by simp [-List.getElem?_map, map_get hi2, eBlk]; exact .mk) ?_
    refine xO ?_
    refine run_op rfl rfl rfl (by simp [splice]; exact .mk) ?_
    refine xE [1, 2, 3, 8, 10, 21, 22, 23] ?_
    rintro -
    refine W_reg rfl ?_
    iterate 2 refine xO ?_
    refine run_op rfl rfl rfl (by simp [eBlk]; exact .mk) ?_
    refine xO ?_
    refine run_op rfl rfl rfl (by simp [eBlk]; exact .mk) ?_
    refine run_op rfl rfl rfl (by simp [splice]; exact .mk) ?_
    refine xO ?_
    refine run_op rfl rfl rfl (by simp [rows, e1, e2, htk, Nat.min_eq_left hi]; exact .mk) ?_
    refine xO ?_
    refine xE [1, 2, 3, 8, 21, 22, 23] ?_
    rintro -
    refine W_reg rfl ?_
    iterate 2 refine xO ?_
    refine xE [1, 2, 3, 8, 21, 22, 23] ?_
    refine rounds_kill [1, 2, 3, 8, 21, 22, 23] ?_
    refine rounds_kills [1, 2, 3, 8, 21, 22, 23] rfl ?_
    refine rounds_swap 2 5 1 (by decide) (by simp) (by decide) rfl rfl ?_
    refine rounds_drop 3 [1, 2, 3, 8, 21, 22, 23] (by decide) (by rfl) (by rfl) ?_
    refine rounds_next (m' := (onesS s.slots).length - (i+1)) (by omega) ⟨i+1, rfl, by omega, ?_, ?_⟩
    · rw [wrap64 (by omega) (by omega)]; simp; try rfl
    rw [take_succ hi2]; simp [eObj, spanOf, eBlk]; try rfl
  intro h24
  obtain rfl : i = (onesS s.slots).length := by simp at h24; omega
  obtain ⟨U, hU⟩ : ∃ U, U = spansS s.slots := ⟨_, rfl⟩
  have hm : List.take (onesS s.slots).length (List.map (fun b => eObj (spanOf b)) (onesS s.slots)) = U.map eObj := by rw [hU, spansS, ← List.map_take, List.take_length, List.map_map]; rfl
  have hm2 : (onesS s.slots).length = U.length := by rw [hU, spansS, List.length_map]
  rw [hm, hm2]
  have e4 : IntKind.i64.wrap (s.base * 32) = s.base * 32 := wrap64 (by omega) (by omega)
  have e5 : IntKind.i64.wrap (s.sh.pages * 32) = s.sh.pages * 32 := wrap64 (by omega) (by omega)
  have hG := sttS_gaps hR
  rw [← hU] at hG
  have c205 := ct205 g (s.base * 32) (s.sh.pages * 32) U (by omega) hG
  have hgl := gapsF_len (to := s.sh.pages * 32) (l := U) (a := s.base * 32)
  have hgm := gapsF_b hR
  obtain ⟨G, hGG⟩ : ∃ G, G = gapsF (s.sh.pages * 32) (s.base * 32) U := ⟨_, rfl⟩
  have hr : behindS s fr size = (bestS (clipS fr G) size).map (·.1) := by rw [hGG, hU]; rfl
  have hgo : gapsOf s = G := by rw [hGG, hU]; rfl
  rw [hgo] at hgm
  rw [← hGG] at c205 hgl
  refine W_exit ?_
  refine xT ?_
  iterate 2 refine xO ?_
  refine run_op rfl rfl rfl (by simp [eBlk]; exact .mk) ?_
  refine run_op rfl rfl rfl (by simp [e4]; exact .mk) ?_
  iterate 3 refine xO ?_
  refine run_op rfl rfl rfl (by simp [eBlk]; exact .mk) ?_
  refine run_op rfl rfl rfl (by simp [e5]; exact .mk) ?_
  refine xO ?_
  refine run_call0 rfl rfl rfl rfl (by simp; exact .mk) (by simp; exact .mk) (c205) (by simp) (by simp; exact .mk) ?_
  iterate 5 refine xO ?_
  refine xE [1, 2, 11] ?_
  refine xT ?_
  refine xO ?_
  refine xE [1, 2, 11, 13] ?_
  rintro -
  refine W_seq ?_
  refine xU ?_
  iterate 3 refine xO ?_
  refine xE [1, 2, 13, 50, 51, 52] ?_
  rintro -
  refine W_block ?_
  refine W_rounds (fun m σ o => ∃ i : Nat, m = G.length - i ∧ i ≤ G.length ∧ σ = slots [(1, .d (vI fr)), (2, .d (vI size)), (13, .hdr 4 0 (clipS fr (G.take i)).length), (50, .hdr 3 0 G.length), (51, .d (vI G.length)), (52, .d (vI i))] ∧ o = [.var 144 [.d (vI s.sh.pages), .d (vI s.sh.slots), .d (vI s.sh.roots), .d (vI s.sh.room), .d (vI s.mode), .d (vI s.base), .d (rSl s.slots), .d (rR s.roots), .d (rBB s.data)], .row 3 ((onesS s.slots).map eBlk), .row 2 (U.map eObj), .row 2 (G.map eObj), .row 2 ((clipS fr (G.take i)).map eObj)]) G.length
    (Weak.trans (Weak.nilRow 13 2 rfl) (Weak.kills [1, 2, 13, 50, 51, 52] rfl) (fun _ _ _ h1 h2 => by rw [← h1.len]; exact h2)) ⟨0, by simp, by simp, by simp [clipS], by simp [clipS]⟩ ?_
  rintro m σ o ⟨i, rfl, hi3, rfl, rfl⟩ _
  refine xU ?_
  refine xO ?_
  refine xE [1, 2, 13, 50, 51, 52, 53] ?_
  rintro -
  refine W_seq ?_
  refine W_cond rfl ?_ ?_
  · intro h53
    have hi4 : i < G.length := by simpa using h53
    have hst := clip_step (fr := fr) hi4
    have hcl := clip_len (fr := fr) (l := G.take i)
    have f1 : ((clipS fr (G.take i)).length + 1) * 16 ≤ 140737488355328 := by simp at hcl; omega
    have f2 : (clipS fr (G.take i)).length ≤ 140737488355327 := by simp at hcl; omega
    have hgi := hgm _ (nth_mem hi4)
    have w1 : IntKind.i64.wrap (fr - (nth G i).1) = fr - (nth G i).1 := wrap64 (by omega) (by omega)
    have w2 : IntKind.i64.wrap ((nth G i).2 - (fr - (nth G i).1)) = (nth G i).2 - (fr - (nth G i).1) := wrap64 (by omega) (by omega)
    refine W_skip ?_
    rintro -
    refine W_seq ?_
    refine W_block ?_
    refine xU ?_
    refine run_op rfl rfl rfl (by simp [eBlk, hi4]; exact .mk) ?_
    refine run_op rfl rfl rfl (by simp [-List.getElem?_map, map_get hi4, eObj]; exact .mk) ?_
    refine xO ?_
    refine run_op rfl rfl rfl (by simp [splice]; exact .mk) ?_
    refine xE [1, 2, 13, 15, 50, 51, 52] ?_
    rintro -
    refine W_seq ?_
    refine xU ?_
    iterate 2 refine xO ?_
    refine run_op rfl rfl rfl (by simp [eBlk]; exact .mk) ?_
    refine run_op rfl rfl rfl (by simp [w1]; exact .mk) ?_
    refine xO ?_
    refine xE [1, 2, 13, 15, 16, 50, 51, 52] ?_
    refine xT ?_
    iterate 2 refine xO ?_
    refine xE [1, 2, 13, 15, 16, 50, 51, 52, 61] ?_
    rintro -
    refine W_cond rfl ?_ ?_
    · intro h61
      have hcg : clipG fr (nth G i) = (fr, (nth G i).2 - (fr - (nth G i).1)) := by unfold clipG; rw [if_pos (by simpa using h61)]
      rw [hcg] at hst
      refine W_reg rfl ?_
      iterate 2 refine xO ?_
      refine run_op rfl rfl rfl (by simp [eBlk]; exact .mk) ?_
      refine xO ?_
      refine run_op rfl rfl rfl (by simp [w2]; exact .mk) ?_
      refine xO ?_
      refine run_op rfl rfl rfl (by simp [splice]; exact .mk) ?_
      refine xO ?_
      refine run_op rfl rfl rfl (by simp [splice]; exact .mk) ?_
      refine xE [1, 2, 13, 15, 50, 51, 52] ?_
      refine xT ?_
      refine xO ?_
      refine run_op rfl rfl rfl (by simp [eBlk]; exact .mk) ?_
      refine xO ?_
      refine xE [1, 2, 13, 15, 50, 51, 52, 71] ?_
      rintro -
      refine W_cond rfl ?_ ?_
      · intro h71
        rw [if_pos (by simpa using h71)] at hst
        refine W_reg rfl ?_
        refine xO ?_
        refine run_op rfl rfl rfl (by simp [eBlk]; exact .mk) ?_
        refine xO ?_
        refine run_op rfl rfl rfl (by simp [rows, f1, f2]; exact .mk) ?_
        refine xO ?_
        refine xE [1, 2, 13, 50, 51, 52] ?_
        rintro -
        refine W_reg rfl ?_
        iterate 2 refine xO ?_
        refine xE [1, 2, 13, 50, 51, 52] ?_
        refine rounds_kill [1, 2, 13, 50, 51, 52] ?_
        first
        | (refine rounds_drop 5 [1, 2, 13, 50, 51, 52] (by decide) (by rfl) (by rfl) ?_
           refine rounds_next (m' := G.length - (i+1)) (by omega) ⟨i+1, rfl, by omega, ?_, ?_⟩
           · rw [wrap64 (by omega) (by omega), hst]; rfl
           rw [hst]; rfl)
        | (refine rounds_kills [1, 2, 13, 50, 51, 52] rfl ?_
           refine rounds_swap 4 7 1 (by decide) (by simp) (by decide) rfl rfl ?_
           refine rounds_drop 5 [1, 2, 13, 50, 51, 52] (by decide) (by rfl) (by rfl) ?_
           refine rounds_next (m' := G.length - (i+1)) (by omega) ⟨i+1, rfl, by omega, ?_, ?_⟩
           · rw [wrap64 (by omega) (by omega), hst]; simp; try rfl
           rw [hst]; simp [eObj]; try rfl)
      intro h71
      rw [if_neg (by simpa using h71)] at hst
      rw [List.append_nil] at hst
      refine W_skip ?_
      rintro -
      refine W_reg rfl ?_
      iterate 2 refine xO ?_
      refine xE [1, 2, 13, 50, 51, 52] ?_
      refine rounds_kill [1, 2, 13, 50, 51, 52] ?_
      first
      | (refine rounds_drop 5 [1, 2, 13, 50, 51, 52] (by decide) (by rfl) (by rfl) ?_
         refine rounds_next (m' := G.length - (i+1)) (by omega) ⟨i+1, rfl, by omega, ?_, ?_⟩
         · rw [wrap64 (by omega) (by omega), hst]; rfl
         rw [hst]; rfl)
      | (refine rounds_kills [1, 2, 13, 50, 51, 52] rfl ?_
         refine rounds_swap 4 7 1 (by decide) (by simp) (by decide) rfl rfl ?_
         refine rounds_drop 5 [1, 2, 13, 50, 51, 52] (by decide) (by rfl) (by rfl) ?_
         refine rounds_next (m' := G.length - (i+1)) (by omega) ⟨i+1, rfl, by omega, ?_, ?_⟩
         · rw [wrap64 (by omega) (by omega), hst]; simp; try rfl
         rw [hst]; simp [eObj]; try rfl)
    intro h61
    have hcg : clipG fr (nth G i) = nth G i := by unfold clipG; rw [if_neg (by simpa using h61)]
    rw [hcg] at hst
    refine W_skip ?_
    refine xT ?_
    refine xO ?_
    refine run_op rfl rfl rfl (by simp [eBlk]; exact .mk) ?_
    refine xO ?_
    refine xE [1, 2, 13, 15, 50, 51, 52, 71] ?_
    rintro -
    refine W_cond rfl ?_ ?_
    · intro h71
      rw [if_pos (by simpa using h71)] at hst
      refine W_reg rfl ?_
      refine xO ?_
      refine run_op rfl rfl rfl (by simp [eBlk]; exact .mk) ?_
      refine xO ?_
      refine run_op rfl rfl rfl (by simp [rows, f1, f2]; exact .mk) ?_
      refine xO ?_
      refine xE [1, 2, 13, 50, 51, 52] ?_
      rintro -
      refine W_reg rfl ?_
      iterate 2 refine xO ?_
      refine xE [1, 2, 13, 50, 51, 52] ?_
      refine rounds_kill [1, 2, 13, 50, 51, 52] ?_
      first
      | (refine rounds_drop 5 [1, 2, 13, 50, 51, 52] (by decide) (by rfl) (by rfl) ?_
         refine rounds_next (m' := G.length - (i+1)) (by omega) ⟨i+1, rfl, by omega, ?_, ?_⟩
         · rw [wrap64 (by omega) (by omega), hst]; rfl
         rw [hst]; rfl)
      | (refine rounds_kills [1, 2, 13, 50, 51, 52] rfl ?_
         refine rounds_swap 4 7 1 (by decide) (by simp) (by decide) rfl rfl ?_
         refine rounds_drop 5 [1, 2, 13, 50, 51, 52] (by decide) (by rfl) (by rfl) ?_
         refine rounds_next (m' := G.length - (i+1)) (by omega) ⟨i+1, rfl, by omega, ?_, ?_⟩
         · rw [wrap64 (by omega) (by omega), hst]; simp; try rfl
         rw [hst]; simp [eObj]; try rfl)
    intro h71
    rw [if_neg (by simpa using h71)] at hst
    rw [List.append_nil] at hst
    refine W_skip ?_
    rintro -
    refine W_reg rfl ?_
    iterate 2 refine xO ?_
    refine xE [1, 2, 13, 50, 51, 52] ?_
    refine rounds_kill [1, 2, 13, 50, 51, 52] ?_
    first
    | (refine rounds_drop 5 [1, 2, 13, 50, 51, 52] (by decide) (by rfl) (by rfl) ?_
       refine rounds_next (m' := G.length - (i+1)) (by omega) ⟨i+1, rfl, by omega, ?_, ?_⟩
       · rw [wrap64 (by omega) (by omega), hst]; rfl
       rw [hst]; rfl)
    | (refine rounds_kills [1, 2, 13, 50, 51, 52] rfl ?_
       refine rounds_swap 4 7 1 (by decide) (by simp) (by decide) rfl rfl ?_
       refine rounds_drop 5 [1, 2, 13, 50, 51, 52] (by decide) (by rfl) (by rfl) ?_
       refine rounds_next (m' := G.length - (i+1)) (by omega) ⟨i+1, rfl, by omega, ?_, ?_⟩
       · rw [wrap64 (by omega) (by omega), hst]; simp; try rfl
       rw [hst]; simp [eObj]; try rfl)
  intro h53
  obtain rfl : i = G.length := by simp at h53; omega
  rw [List.take_length]
  have hcl := clip_len (fr := fr) (l := G)
  obtain ⟨V, hV⟩ : ∃ V, V = clipS fr G := ⟨_, rfl⟩
  rw [← hV] at hr hcl ⊢
  have c206 := ct206 g V (by omega) size
  obtain ⟨b, hbb⟩ : ∃ b, b = bestS V size := ⟨_, rfl⟩
  rw [← hbb] at hr c206
  refine W_exit ?_
  refine xT ?_
  iterate 2 refine xO ?_
  refine run_call0 rfl rfl rfl rfl (by simp; exact .mk) (by simp; exact .mk) (c206) (by simp) (by simp; exact .mk) ?_
  iterate 4 refine xO ?_
  refine run_op rfl rfl rfl (by simp [splice]; exact .mk) ?_
  refine xO ?_
  refine xE [17, 18] ?_
  refine xT ?_
  refine xO ?_
  refine run_op rfl rfl rfl (by simp [eBlk]; exact .mk) ?_
  iterate 3 refine xO ?_
  refine xE [6, 7] ?_
  rintro -
  refine W_ret ?_
  refine xR (by simp [Tryz.f164]; exact .mk) ?_
  first | (simp [nrmR, nrmRs, nrmK, kindsOf, kinds, Tryz.f164, hr]; done) | (simp [nrmR, nrmRs, nrmK, kindsOf, kinds, Tryz.f164, hr]; cases b <;> simp [eObj])

end Go.Proofs

set_option maxHeartbeats 4000000
set_option maxRecDepth 4000
namespace Go.Proofs
open Go.Awp
theorem ct125 (g : Gl) (s : Stt) (hs : s.Ok) (hR : sttS s = true) : CtAt Tryz.prog g 125 [eStt s] (.tup [oStt (downStep s).1, vI (downStep s).2]) := by
  refine ctAt_of_W Tryz.func125 rfl rfl (Nat.le_of_ble_eq_true rfl) fun B S => ?_
  simp only [eStt, List.map, argD_agg, argD_v]
  have q0 := hs.h1
  have hb := superS_b (sttS_super hR)
  have e1 : IntKind.i64.wrap (s.base - 1) = s.base - 1 := wrap64 (by omega) (by omega)
  have c22 := ct22 g s hs
  obtain ⟨l, hL⟩ : ∃ l, l = twosO s.slots := ⟨_, rfl⟩
  obtain ⟨I, hI⟩ : ∃ I, I = twosI s.slots := ⟨_, rfl⟩
  rw [← hL, ← hI] at c22
  obtain ⟨hll, hIl, hlaid, hlb⟩ := down_facts hs hR
  rw [← hL] at hll hIl hlaid hlb
  rw [← hI] at hIl
  obtain ⟨ms, hM⟩ : ∃ ms, ms = matesS s.base l (s.base - 1) := ⟨_, rfl⟩
  obtain ⟨M, hMM⟩ : ∃ M : List Int, M = ms.map fun (k : Nat) => (k : Int) := ⟨_, rfl⟩
  have hMl : ms.length = M.length := by rw [hMM, List.length_map]
  have hml : ms.length ≤ l.length := by rw [hM, matesS]; exact Nat.le_trans (List.length_filter_le _ _) (by simp)
  have c165 := ct165 g s.base (s.base - 1) l hll (fun i hi => (hlb i hi).2) hlaid (by omega)
  rw [← hM, ← hMM] at c165
  have hmm : ∀ i, i < ms.length → nth ms i < l.length := fun i hi => by
    have := nth_mem hi
    rw [hM] at this
    simp only [matesS, List.mem_filter, List.mem_range] at this
    rw [hM]; exact this.1
  have hrow : (ms.map fun (k : Nat) => vI k) = M.map vI := by rw [hMM, List.map_map]; rfl
  have c168 : ∀ i : Nat, CtAt Tryz.prog g 168 [rI M, vI i] (.v (.bool (ms.contains i))) := fun i => by
    have := ct168 g M i (by omega)
    rw [hMM, castN_contains] at this
    rw [hMM]; exact this
  refine xU ?_
  iterate 3 refine xO ?_
  refine xE [1, 2] ?_
  refine xT ?_
  refine xO ?_
  refine run_op rfl rfl rfl (by simp [eSlot]; exact .mk) ?_
  refine xO ?_
  refine run_op rfl rfl rfl (by simp [splice]; exact .mk) ?_
  refine xE [1, 2, 4] ?_
  rintro -
  refine W_seq ?_
  refine xU ?_
  refine xO ?_
  refine run_op rfl rfl rfl (by simp [eSlot]; exact .mk) ?_
  refine xO ?_
  refine xE [1, 2, 4, 21] ?_
  rintro -
  refine W_cond rfl ?_ ?_
  · intro h21
    have hq : s.base = 0 := by simpa using h21
    have hr : downStep s = (turnS s 1 0, 0) := by unfold downStep; rw [if_pos hq]
    refine xU ?_
    refine run_op rfl rfl rfl (by simp [eSlot]; exact .mk) ?_
    refine run_call0 rfl rfl rfl rfl (by simp; exact .mk) (by simp [row_rows, Function.comp_def]; exact .mk) (ct122 g s hs 1 0 (by omega)) (by simp) (by simp [oStt]; exact .mk) ?_
    iterate 2 refine xO ?_
    refine run_op rfl rfl rfl (by simp [splice]; exact .mk) ?_
    refine xO ?_
    refine xE [2, 3] ?_
    rintro -
    refine W_ret ?_
    refine end_ret (by simp [Tryz.f125]; exact .mk) (by simp; exact .mk) ?_ (by simp [oStt])
    first | (simp [nrmR, nrmRs, nrmK, kindsOf, kinds, Tryz.f125, hr, oStt, ownR]; done) | (simp [nrmR, nrmRs, nrmK, kindsOf, kinds, Tryz.f125, hr, oStt, zStt, ownR, turnS]; done)
  intro h21
  have hq : s.base ≠ 0 := by simpa using h21
  refine W_skip ?_
  refine xT ?_
  refine run_op rfl rfl rfl (by simp [eSlot]; exact .mk) ?_
  refine run_call0 rfl rfl rfl rfl (by simp; exact .mk) (by simp [row_rows, Function.comp_def]; exact .mk) (c22) (by simp) (by simp [oStt]; exact .mk) ?_
  iterate 4 refine xO ?_
  refine run_op rfl rfl rfl (by simp [splice]; exact .mk) ?_
  refine xO ?_
  refine xE [1, 2, 4, 5, 6] ?_
  refine xT ?_
  refine xO ?_
  iterate 2 (refine run_op rfl rfl rfl (by simp [eSlot]; exact .mk) ?_)
  refine xO ?_
  refine run_op rfl rfl rfl (by simp [eSlot]; exact .mk) ?_
  refine run_op rfl rfl rfl (by simp [e1]; exact .mk) ?_
  refine run_call0 rfl rfl rfl rfl (by simp; exact .mk) (by simp [row_rows, Function.comp_def]; exact .mk) (c165) (by simp) (by simp [oStt]; exact .mk) ?_
  refine xO ?_
  refine xE [1, 2, 4, 5, 6, 7] ?_
  rintro -
  refine W_seq ?_
  refine xU ?_
  iterate 3 refine xO ?_
  refine xE [1, 2, 4, 5, 6, 7, 40] ?_
  rintro -
  refine W_cond rfl ?_ ?_
  · intro h40
    have hc : ms = [] := List.length_eq_zero_iff.1 (by rw [hMl]; simp at h40; simp [h40])
    have hr : downStep s = (turnS s s.mode (-1), 0) := by unfold downStep; rw [← hL, ← hM, if_neg hq, if_pos hc]
    refine xU ?_
    refine run_op rfl rfl rfl (by simp [eSlot]; exact .mk) ?_
    refine xO ?_
    refine run_op rfl rfl rfl (by simp [eSlot]; exact .mk) ?_
    refine run_call0 rfl rfl rfl rfl (by simp; exact .mk) (by simp [row_rows, Function.comp_def]; exact .mk) (ct122 g s hs s.mode (-1) (by omega)) (by simp) (by simp [oStt]; exact .mk) ?_
    iterate 2 refine xO ?_
    refine run_op rfl rfl rfl (by simp [splice]; exact .mk) ?_
    refine xO ?_
    refine xE [2, 3] ?_
    rintro -
    refine W_ret ?_
    refine end_ret (by simp [Tryz.f125]; exact .mk) (by simp; exact .mk) ?_ (by simp [oStt])
    first | (simp [nrmR, nrmRs, nrmK, kindsOf, kinds, Tryz.f125, hr, oStt, ownR]; done) | (simp [nrmR, nrmRs, nrmK, kindsOf, kinds, Tryz.f125, hr, oStt, zStt, ownR, turnS]; done)
  intro h40
  have hne : ms ≠ [] := fun e => by rw [e] at hMl; simp at h40; simp [List.length_eq_zero_iff] at hMl; exact absurd hMl.symm (by simpa using h40)
  obtain ⟨j, hj⟩ : ∃ j, j = leastS l ms := ⟨_, rfl⟩
  have hm0 : 0 < ms.length := List.length_pos_iff.2 hne
  have hjl : j < l.length := by have := leastS_in (l := l) hne hmm (i := ms.length) hm0; rwa [List.take_length, ← hj] at this
  have hjI : j < I.length := by omega
  have c166 := fun o0 o1 o2 o4 => in166 g o0 o1 o2 o4 l ms hll (by omega) hne hmm (fun k hk => ⟨by have := hlb k hk; omega, by have := hlb k hk; omega⟩)
  simp only [hrow, ← hj, hMl] at c166
  have hr0 : downStep s = (match roomS s false (nth l j).2 with | some a => moveS s (nth I j) false a | none => match placeS (s.base - 1) (restS l ms) (nth l j).2 with | some a => moveS s (nth I j) true a | none => (zStt, 10)) := by unfold downStep; rw [← hL, ← hI, ← hM, if_neg hq, if_neg hne, ← hj]; rfl
  refine W_skip ?_
  refine xT ?_
  iterate 2 refine xO ?_
  refine run_inl0 rfl rfl rfl rfl (by simp; exact .mk) ⟨_, Tryz.func166, rfl, rfl⟩ (c166 _ _ _ _) (.inl (by simp)) ?_
  refine xO ?_
  refine xE [2, 4, 5, 6, 7, 8] ?_
  refine xT ?_
  refine run_op rfl rfl rfl (by simp [eSlot]; exact .mk) ?_
  refine xO ?_
  refine run_op rfl rfl rfl (by simp [eSlot, hjl]; exact .mk) ?_
  refine xO ?_
  refine run_op rfl rfl rfl (by simp [-List.getElem?_map, map_get hjl, eObj]; exact .mk) ?_
  refine xO ?_
  refine xE [2, 4, 5, 6, 7, 8, 9] ?_
  rintro -
  refine W_seq ?_
  refine xU ?_
  refine run_op rfl rfl rfl (by simp [eSlot]; exact .mk) ?_
  refine xO ?_
  refine run_call0 rfl rfl rfl rfl (by simp; exact .mk) (by simp [row_rows, Function.comp_def]; exact .mk) (ct38 g s hs false (nth l j).2) (by simp) (by simp [oStt]; exact .mk) ?_
  iterate 5 refine xO ?_
  refine xE [2, 4, 5, 6, 7, 8, 9, 10, 11] ?_
  refine xT ?_
  refine xO ?_
  refine xE [2, 4, 5, 6, 7, 8, 9, 10, 61] ?_
  rintro -
  refine W_cond rfl ?_ ?_
  · intro h61
    obtain ⟨a, ha⟩ : ∃ a, roomS s false (nth l j).2 = some a := Option.isSome_iff_exists.1 (by simpa using h61)
    rw [ha] at hr0 ⊢
    have hr : downStep s = moveS s (nth I j) false a := hr0
    refine W_seq ?_
    refine W_regD (by kernel_rfl) [] 4 [0, 1, 2, 3, 4, 5, 6, 7, 8, 9, 10] (by decide +kernel) ?_
    refine run_op rfl rfl rfl (by simp [eSlot]; exact .mk) ?_
    iterate 2 refine xO ?_
    refine run_op rfl rfl rfl (by simp [eSlot, hjI]; exact .mk) ?_
    refine run_op rfl rfl rfl (by simp [-List.getElem?_map, map_get hjI]; exact .mk) ?_
    refine xO ?_
    refine run_call0 rfl rfl rfl rfl (by simp; exact .mk) (by simp [row_rows, Function.comp_def]; exact .mk) (ct45 g s hs (nth I j) false a) (by simp) (by simp [oStt]; exact .mk) ?_
    iterate 2 refine xO ?_
    refine run_op rfl rfl rfl (by simp [splice]; exact .mk) ?_
    refine xO ?_
    refine xE [2, 3] ?_
    rintro -
    refine W_ret ?_
    refine end_ret (by simp [Tryz.f125]; exact .mk) (by simp; exact .mk) ?_ (by simp [oStt])
    first | (simp [nrmR, nrmRs, nrmK, kindsOf, kinds, Tryz.f125, hr, oStt, ownR]; done) | (simp [nrmR, nrmRs, nrmK, kindsOf, kinds, Tryz.f125, hr, oStt, zStt, ownR, turnS]; done)
  intro h61
  have ha : roomS s false (nth l j).2 = none := by simpa using h61
  rw [ha] at hr0
  refine W_skip ?_
  refine xT ?_
  refine xO ?_
  refine xE [2, 4, 5, 6, 7, 8, 9, 12] ?_
  rintro -
  refine W_seq ?_
  refine xU ?_
  refine run_op rfl rfl rfl (by simp [eSlot]; exact .mk) ?_
  iterate 2 refine xO ?_
  refine xE [2, 4, 6, 7, 8, 9, 12, 71, 72, 73] ?_
  rintro -
  refine W_block ?_
  obtain ⟨R, hRR⟩ : ∃ R : Nat → List (Int × Int), R = fun i => ((List.range i).filter fun i => !ms.contains i).map (nth l) := ⟨_, rfl⟩
  have hR0 : R 0 = [] := by rw [hRR]; rfl
  have hRl : R l.length = restS l ms := by rw [hRR]; rfl
  have hRn : ∀ i, (R i).length ≤ i := fun i => by rw [hRR]; simp only [List.length_map]; exact Nat.le_trans (List.length_filter_le _ _) (by simp)
  have hR1 : ∀ i, R (i + 1) = R i ++ (if ms.contains i = true then [] else [nth l i]) := fun i => by
    rw [hRR]; simp only [List.range_succ, List.filter_append, List.map_append]; congr 1
    cases hq : ms.contains i <;> simp only [List.filter_cons, List.filter_nil, hq] <;> rfl
  refine W_rounds (fun m σ o => ∃ i : Nat, m = l.length - i ∧ i ≤ l.length ∧ σ = slots [(2, .ptr 1 0 0), (4, .ptr 2 0 0), (6, .hdr 4 0 I.length), (7, .hdr 6 0 M.length), (8, .d (vI j)), (9, .d (vI (nth l j).2)), (12, .hdr 7 0 (R i).length), (71, .hdr 3 0 l.length), (72, .d (vI l.length)), (73, .d (vI i))] ∧ o = [.var 144 [.d (vI s.sh.pages), .d (vI s.sh.slots), .d (vI s.sh.roots), .d (vI s.sh.room), .d (vI s.mode), .d (vI s.base), .d (rSl s.slots), .d (rR s.roots), .d (rBB s.data)], .var 28 [.d (vI 0), .d (vI 0), .d (vI 0), .d (vI 0), .d (vI 0), .d (vI 0), .d (.v (.slice none 0 0)), .d (.v (.slice none 0 0)), .d (.v (.slice none 0 0))], .var 28 [.d (vI s.sh.pages), .d (vI s.sh.slots), .d (vI s.sh.roots), .d (vI s.sh.room), .d (vI s.mode), .d (vI s.base), .d (rSl s.slots), .d (rR s.roots), .d (rBB s.data)], .row 2 (l.map eObj), .row 1 (I.map vI), .var 32 [.hdr 3 0 l.length], .row 1 (M.map vI), .row 2 ((R i).map eObj)]) l.length
    (Weak.trans (Weak.nilRow 12 2 rfl) (Weak.kills [2, 4, 6, 7, 8, 9, 12, 71, 72, 73] rfl) (fun _ _ _ h1 h2 => by rw [← h1.len]; exact h2)) ⟨0, by simp, by simp, by simp [hR0], by simp [hR0]⟩ ?_
  rintro m σ o ⟨i, rfl, hi, rfl, rfl⟩ _
  refine xU ?_
  refine xO ?_
  refine xE [2, 4, 6, 7, 8, 9, 12, 71, 72, 73, 74] ?_
  rintro -
  refine W_seq ?_
  refine W_cond rfl ?_ ?_
  · intro h74
    have hi2 : i < l.length := by simpa using h74
    have hRi := hR1 i
    have e4 : ((R i).length + 1) * 16 ≤ 140737488355328 := by have := hRn i; omega
    have e5 : (R i).length ≤ 140737488355327 := by have := hRn i; omega
    refine W_skip ?_
    rintro -
    refine W_seq ?_
    refine W_block ?_
    refine xU ?_
    refine xO ?_
    refine run_op rfl rfl rfl (by simp [eSlot, hi2]; exact .mk) ?_
    refine run_op rfl rfl rfl (by simp [-List.getElem?_map, map_get hi2, eObj]; exact .mk) ?_
    iterate 2 refine xO ?_
    refine run_op rfl rfl rfl (by simp [splice]; exact .mk) ?_
    refine xE [2, 4, 6, 7, 8, 9, 12, 13, 14, 71, 72, 73] ?_
    refine xT ?_
    iterate 2 refine xO ?_
    refine run_call0 rfl rfl rfl rfl (by simp; exact .mk) (by simp [row_rows, Function.comp_def]; exact .mk) (c168 i) (by simp) (by simp [oStt]; exact .mk) ?_
    refine xO ?_
    refine xE [2, 4, 6, 7, 8, 9, 12, 14, 71, 72, 73, 81] ?_
    rintro -
    refine W_cond rfl ?_ ?_
    · intro h81
      have hc : ms.contains i = false := by simpa using h81
      rw [if_neg (by rw [hc]; simp)] at hRi
      refine W_reg rfl ?_
      refine xO ?_
      refine run_op rfl rfl rfl (by simp [eSlot]; exact .mk) ?_
      refine xO ?_
      refine run_op rfl rfl rfl (by simp [rows, e4, e5]; exact .mk) ?_
      refine xO ?_
      refine xE [2, 4, 6, 7, 8, 9, 12, 71, 72, 73] ?_
      rintro -
      refine W_reg rfl ?_
      iterate 2 refine xO ?_
      refine xE [2, 4, 6, 7, 8, 9, 12, 71, 72, 73] ?_
      refine rounds_kill [2, 4, 6, 7, 8, 9, 12, 71, 72, 73] ?_
      first
      | (refine rounds_drop 8 [2, 4, 6, 7, 8, 9, 12, 71, 72, 73] (by decide) (by rfl) (by rfl) ?_
         refine rounds_next (m' := l.length - (i+1)) (by omega) ⟨i+1, rfl, by omega, ?_, ?_⟩
         · rw [wrap64 (by omega) (by omega), hRi]; rfl
         rw [hRi]; rfl)
      | (refine rounds_kills [2, 4, 6, 7, 8, 9, 12, 71, 72, 73] rfl ?_
         refine rounds_swap 7 10 1 (by decide) (by simp) (by decide) rfl rfl ?_
         refine rounds_drop 8 [2, 4, 6, 7, 8, 9, 12, 71, 72, 73] (by decide) (by rfl) (by rfl) ?_
         refine rounds_next (m' := l.length - (i+1)) (by omega) ⟨i+1, rfl, by omega, ?_, ?_⟩
         · rw [wrap64 (by omega) (by omega), hRi]; simp; try rfl
         rw [hRi]; simp [eObj]; try rfl)
    intro h81
    have hc : ms.contains i = true := by simpa using h81
    rw [if_pos hc, List.append_nil] at hRi
    refine W_skip ?_
    rintro -
    refine W_reg rfl ?_
    iterate 2 refine xO ?_
    refine xE [2, 4, 6, 7, 8, 9, 12, 71, 72, 73] ?_
    refine rounds_kill [2, 4, 6, 7, 8, 9, 12, 71, 72, 73] ?_
    first
    | (refine rounds_drop 8 [2, 4, 6, 7, 8, 9, 12, 71, 72, 73] (by decide) (by rfl) (by rfl) ?_
       refine rounds_next (m' := l.length - (i+1)) (by omega) ⟨i+1, rfl, by omega, ?_, ?_⟩
       · rw [wrap64 (by omega) (by omega), hRi]; rfl
       rw [hRi]; rfl)
    | (refine rounds_kills [2, 4, 6, 7, 8, 9, 12, 71, 72, 73] rfl ?_
       refine rounds_swap 7 10 1 (by decide) (by simp) (by decide) rfl rfl ?_
       refine rounds_drop 8 [2, 4, 6, 7, 8, 9, 12, 71, 72, 73] (by decide) (by rfl) (by rfl) ?_
       refine rounds_next (m' := l.length - (i+1)) (by omega) ⟨i+1, rfl, by omega, ?_, ?_⟩
       · rw [wrap64 (by omega) (by omega), hRi]; simp; try rfl
       rw [hRi]; simp [eObj]; try rfl)
  intro h74
  obtain rfl : i = l.length := by simp at h74; omega
  rw [hRl]
  obtain ⟨V, hV⟩ : ∃ V, V = restS l ms := ⟨_, rfl⟩
  have hVn := hRn l.length
  rw [hRl] at hVn
  have hVb : ∀ k, k < V.length → (nth V k).1 ≤ 2^40 := by rw [hV]; exact rest_b (fun k hk => (hlb k hk).2)
  rw [← hV] at hr0 hVn ⊢
  have c152 := ct152 g (s.base - 1) V (by omega) hVb (nth l j).2
  refine W_exit ?_
  rintro -
  refine W_seq ?_
  refine xU ?_
  refine xO ?_
  refine run_op rfl rfl rfl (by simp [eSlot]; exact .mk) ?_
  refine run_op rfl rfl rfl (by simp [e1]; exact .mk) ?_
  iterate 2 refine xO ?_
  refine run_call0 rfl rfl rfl rfl (by simp; exact .mk) (by simp [row_rows, Function.comp_def]; exact .mk) (c152) (by simp) (by simp [oStt]; exact .mk) ?_
  iterate 5 refine xO ?_
  refine xE [2, 4, 6, 8, 15, 16] ?_
  refine xT ?_
  refine xO ?_
  refine xE [2, 4, 6, 8, 15, 96] ?_
  rintro -
  refine W_cond rfl ?_ ?_
  · intro h96
    obtain ⟨a, ha2⟩ : ∃ a, placeS (s.base - 1) V (nth l j).2 = some a := Option.isSome_iff_exists.1 (by simpa using h96)
    rw [ha2] at hr0 ⊢
    have hr : downStep s = moveS s (nth I j) true a := hr0
    refine W_seq ?_
    refine W_regD (by kernel_rfl) [] 4 [0, 1, 2, 3, 4, 5, 6, 7, 8, 9, 10] (by decide +kernel) ?_
    refine run_op rfl rfl rfl (by simp [eSlot]; exact .mk) ?_
    iterate 2 refine xO ?_
    refine run_op rfl rfl rfl (by simp [eSlot, hjI]; exact .mk) ?_
    refine run_op rfl rfl rfl (by simp [-List.getElem?_map, map_get hjI]; exact .mk) ?_
    refine xO ?_
    refine run_call0 rfl rfl rfl rfl (by simp; exact .mk) (by simp [row_rows, Function.comp_def]; exact .mk) (ct45 g s hs (nth I j) true a) (by simp) (by simp [oStt]; exact .mk) ?_
    iterate 2 refine xO ?_
    refine run_op rfl rfl rfl (by simp [splice]; exact .mk) ?_
    refine xO ?_
    refine xE [2, 3] ?_
    rintro -
    refine W_ret ?_
    refine end_ret (by simp [Tryz.f125]; exact .mk) (by simp; exact .mk) ?_ (by simp [oStt])
    first | (simp [nrmR, nrmRs, nrmK, kindsOf, kinds, Tryz.f125, hr, oStt, ownR]; done) | (simp [nrmR, nrmRs, nrmK, kindsOf, kinds, Tryz.f125, hr, oStt, zStt, ownR, turnS]; done)
  intro h96
  have ha2 : placeS (s.base - 1) V (nth l j).2 = none := by simpa using h96
  rw [ha2] at hr0
  have hr : downStep s = (zStt, 10) := hr0
  refine W_skip ?_
  refine xT ?_
  iterate 2 (refine run_op rfl rfl rfl (by simp [splice]; exact .mk) ?_)
  refine xO ?_
  refine xE [2, 3] ?_
  rintro -
  refine W_ret ?_
  refine end_ret (by simp [Tryz.f125]; exact .mk) (by simp; exact .mk) ?_ (by simp [oStt])
  first | (simp [nrmR, nrmRs, nrmK, kindsOf, kinds, Tryz.f125, hr, oStt, ownR]; done) | (simp [nrmR, nrmRs, nrmK, kindsOf, kinds, Tryz.f125, hr, oStt, zStt, ownR, turnS]; done)

end Go.Proofs

set_option maxHeartbeats 4000000
set_option maxRecDepth 4000
namespace Go.Proofs
open Go.Awp
theorem ct124 (g : Gl) (s : Stt) (hs : s.Ok) (hR : sttS s = true) : CtAt Tryz.prog g 124 [eStt s] (.tup [oStt (upStep s).1, vI (upStep s).2]) := by
  refine ctAt_of_W Tryz.func124 rfl rfl (Nat.le_of_ble_eq_true rfl) fun B S => ?_
  simp only [eStt, List.map, argD_agg, argD_v]
  have q0 := hs.h1
  have hb := superS_b (sttS_super hR)
  have e1 : IntKind.i64.wrap (s.base + 1) = s.base + 1 := wrap64 (by omega) (by omega)
  have e2 : IntKind.i64.wrap ((s.base + 1) * 32) = (s.base + 1) * 32 := wrap64 (by omega) (by omega)
  refine xU ?_
  iterate 3 refine xO ?_
  refine xE [1, 2] ?_
  refine xT ?_
  refine xO ?_
  refine run_op rfl rfl rfl (by simp [eSlot]; exact .mk) ?_
  refine xO ?_
  refine run_op rfl rfl rfl (by simp [splice]; exact .mk) ?_
  refine xE [1, 2, 4] ?_
  refine xT ?_
  refine xO ?_
  refine run_op rfl rfl rfl (by simp [eSlot]; exact .mk) ?_
  refine run_op rfl rfl rfl (by simp [e1]; exact .mk) ?_
  refine run_op rfl rfl rfl (by simp [e1, e2]; exact .mk) ?_
  refine xO ?_
  refine xE [1, 2, 4, 5] ?_
  refine xT ?_
  refine run_op rfl rfl rfl (by simp [eSlot]; exact .mk) ?_
  refine run_call0 rfl rfl rfl rfl (by simp; exact .mk) (by simp [row_rows, Function.comp_def]; exact .mk) (ct28 g s hs) (by simp) (by simp [oStt]; exact .mk) ?_
  refine xO ?_
  refine xE [1, 2, 4, 5, 6] ?_
  rintro -
  refine W_seq ?_
  refine W_block ?_
  refine xU ?_
  refine xO ?_
  refine run_op rfl rfl rfl (by simp [eSlot]; exact .mk) ?_
  iterate 2 refine xO ?_
  refine run_op rfl rfl rfl (by simp [eSlot]; exact .mk) ?_
  iterate 2 refine xO ?_
  refine xE [1, 2, 4, 5, 6, 20] ?_
  rintro -
  refine W_cond rfl ?_ ?_
  · intro h20
    have hq : s.base = s.sh.pages := by simpa using h20
    have hr : upStep s = (turnS s 2 0, 0) := by unfold upStep; rw [if_pos hq]
    refine xU ?_
    refine run_op rfl rfl rfl (by simp [eSlot]; exact .mk) ?_
    refine run_call0 rfl rfl rfl rfl (by simp; exact .mk) (by simp [row_rows, Function.comp_def]; exact .mk) (ct122 g s hs 2 0 (by omega)) (by simp) (by simp [oStt]; exact .mk) ?_
    iterate 2 refine xO ?_
    refine run_op rfl rfl rfl (by simp [splice]; exact .mk) ?_
    refine xO ?_
    refine xE [2, 3] ?_
    rintro -
    refine W_ret ?_
    refine end_ret (by simp [Tryz.f124]; exact .mk) (by simp; exact .mk) ?_ (by simp [oStt])
    first | (simp [nrmR, nrmRs, nrmK, kindsOf, kinds, Tryz.f124, hr, oStt, ownR]; done) | (simp [nrmR, nrmRs, nrmK, kindsOf, kinds, Tryz.f124, hr, oStt, zStt, ownR, turnS]; done)
  intro h20
  have hq : s.base ≠ s.sh.pages := by simpa using h20
  refine xU ?_
  iterate 4 refine xO ?_
  refine xI ?_
  refine run_if rfl (by simp; exact .mk) rfl (by simp <;> first | omega | grind) (fun hb => by simp at hb; have hl0 := List.length_pos_iff.2 hb; simp [hl0]; exact .mk) ?_
  refine xI ?_
  refine run_if rfl (by simp; exact .mk) rfl (by simp <;> first | omega | grind) (fun hb => by simp at hb; have hl0 := List.length_pos_iff.2 hb; simp [-List.getElem?_map, map_get hl0, eBlk]; exact .mk) ?_
  iterate 2 refine xI ?_
  refine xP ?_
  refine xB ?_
  refine xE [1, 2, 4, 5, 6, 31] ?_
  rintro -
  refine W_cond rfl ?_ ?_
  · intro h31
    have hc : onesS s.slots = [] ∨ (s.base + 1) * 32 ≤ (nth (onesS s.slots) 0).at_ := by simp at h31; exact h31
    have hr : upStep s = (turnS s s.mode 1, 0) := by unfold upStep; rw [if_neg hq, if_pos hc]
    refine xU ?_
    refine run_op rfl rfl rfl (by simp [eSlot]; exact .mk) ?_
    refine xO ?_
    refine run_op rfl rfl rfl (by simp [eSlot]; exact .mk) ?_
    refine run_call0 rfl rfl rfl rfl (by simp; exact .mk) (by simp [row_rows, Function.comp_def]; exact .mk) (ct122 g s hs s.mode 1 (by omega)) (by simp) (by simp [oStt]; exact .mk) ?_
    iterate 2 refine xO ?_
    refine run_op rfl rfl rfl (by simp [splice]; exact .mk) ?_
    refine xO ?_
    refine xE [2, 3] ?_
    rintro -
    refine W_ret ?_
    refine end_ret (by simp [Tryz.f124]; exact .mk) (by simp; exact .mk) ?_ (by simp [oStt])
    first | (simp [nrmR, nrmRs, nrmK, kindsOf, kinds, Tryz.f124, hr, oStt, ownR]; done) | (simp [nrmR, nrmRs, nrmK, kindsOf, kinds, Tryz.f124, hr, oStt, zStt, ownR, turnS]; done)
  intro h31
  have hc : ¬ (onesS s.slots = [] ∨ (s.base + 1) * 32 ≤ (nth (onesS s.slots) 0).at_) := by simp at h31 ⊢; exact h31
  have hne : onesS s.slots ≠ [] := fun e => hc (.inl e)
  obtain ⟨k, hk, hk1, hk2⟩ := ones_head hne
  have hsl : (nth (onesS s.slots) 0).slot = (k : Int) := by rw [hk2]; rfl
  have hl0 := List.length_pos_iff.2 hne
  have hr0 : upStep s = (match roomS s true (nth s.slots k).len with | some a => moveS s k true a | none => match behindS s ((s.base + 1) * 32) (nth (onesS s.slots) 0).len with | some a => moveS s k false a | none => (zStt, 10)) := by unfold upStep lenAt; rw [if_neg hq, if_neg hc, hsl]; rfl
  refine W_skip ?_
  refine xT ?_
  refine xO ?_
  refine run_op rfl rfl rfl (by simp [eSlot, hl0]; exact .mk) ?_
  refine xO ?_
  refine run_op rfl rfl rfl (by simp [-List.getElem?_map, map_get hl0, eBlk, hsl]; exact .mk) ?_
  refine xO ?_
  refine xE [1, 2, 4, 5, 6, 7] ?_
  rintro -
  refine W_seq ?_
  refine W_seq ?_
  refine W_regD (by kernel_rfl) [] 4 [0, 1, 2, 3, 4, 5, 6, 7, 8, 9, 10, 11, 12] (by decide +kernel) ?_
  refine run_op rfl rfl rfl (by simp [eSlot]; exact .mk) ?_
  refine xO ?_
  refine run_op rfl rfl rfl (by simp [eSlot]; exact .mk) ?_
  refine xO ?_
  refine run_op rfl rfl rfl (by simp [eSlot, hk]; exact .mk) ?_
  refine xO ?_
  refine run_op rfl rfl rfl (by simp [eSlot]; exact .mk) ?_
  refine run_call0 rfl rfl rfl rfl (by simp; exact .mk) (by simp [row_rows, Function.comp_def]; exact .mk) (ct38 g s hs true (nth s.slots k).len) (by simp) (by simp [oStt]; exact .mk) ?_
  iterate 5 refine xO ?_
  refine xE [1, 2, 4, 5, 6, 7, 8, 9] ?_
  refine xT ?_
  refine xO ?_
  refine xE [1, 2, 4, 5, 6, 7, 8, 64] ?_
  rintro -
  refine W_cond rfl ?_ ?_
  · intro h64
    obtain ⟨a, ha⟩ : ∃ a, roomS s true (nth s.slots k).len = some a := Option.isSome_iff_exists.1 (by simpa using h64)
    rw [ha] at hr0 ⊢
    have hr : upStep s = moveS s k true a := hr0
    refine xU ?_
    refine run_op rfl rfl rfl (by simp [eSlot]; exact .mk) ?_
    iterate 2 refine xO ?_
    refine run_call0 rfl rfl rfl rfl (by simp; exact .mk) (by simp [row_rows, Function.comp_def]; exact .mk) (ct45 g s hs k true a) (by simp) (by simp [oStt]; exact .mk) ?_
    iterate 2 refine xO ?_
    refine run_op rfl rfl rfl (by simp [splice]; exact .mk) ?_
    refine xO ?_
    refine xE [2, 3] ?_
    rintro -
    refine W_ret ?_
    refine end_ret (by simp [Tryz.f124]; exact .mk) (by simp; exact .mk) ?_ (by simp [oStt])
    first | (simp [nrmR, nrmRs, nrmK, kindsOf, kinds, Tryz.f124, hr, oStt, ownR]; done) | (simp [nrmR, nrmRs, nrmK, kindsOf, kinds, Tryz.f124, hr, oStt, zStt, ownR, turnS]; done)
  intro h64
  have ha : roomS s true (nth s.slots k).len = none := by simpa using h64
  rw [ha] at hr0
  refine W_skip ?_
  rintro -
  refine W_seq ?_
  refine W_seq ?_
  refine W_regD (by kernel_rfl) [] 4 [0, 1, 2, 3, 4, 5, 6, 7, 8, 9, 10, 11] (by decide +kernel) ?_
  refine run_op rfl rfl rfl (by simp [eSlot]; exact .mk) ?_
  iterate 2 refine xO ?_
  refine run_op rfl rfl rfl (by simp [eSlot, hl0]; exact .mk) ?_
  refine xO ?_
  refine run_op rfl rfl rfl (by simp [-List.getElem?_map, map_get hl0, eBlk]; exact .mk) ?_
  refine run_call0 rfl rfl rfl rfl (by simp; exact .mk) (by simp [row_rows, Function.comp_def]; exact .mk) (ct164 g s hs hR ((s.base + 1) * 32) (nth (onesS s.slots) 0).len (by omega)) (by simp) (by simp [oStt]; exact .mk) ?_
  iterate 5 refine xO ?_
  refine xE [2, 4, 7, 10, 11] ?_
  refine xT ?_
  refine xO ?_
  refine xE [2, 4, 7, 10, 81] ?_
  rintro -
  refine W_cond rfl ?_ ?_
  · intro h81
    obtain ⟨a, ha2⟩ : ∃ a, behindS s ((s.base + 1) * 32) (nth (onesS s.slots) 0).len = some a := Option.isSome_iff_exists.1 (by simpa using h81)
    rw [ha2] at hr0 ⊢
    have hr : upStep s = moveS s k false a := hr0
    refine xU ?_
    refine run_op rfl rfl rfl (by simp [eSlot]; exact .mk) ?_
    iterate 2 refine xO ?_
    refine run_call0 rfl rfl rfl rfl (by simp; exact .mk) (by simp [row_rows, Function.comp_def]; exact .mk) (ct45 g s hs k false a) (by simp) (by simp [oStt]; exact .mk) ?_
    iterate 2 refine xO ?_
    refine run_op rfl rfl rfl (by simp [splice]; exact .mk) ?_
    refine xO ?_
    refine xE [2, 3] ?_
    rintro -
    refine W_ret ?_
    refine end_ret (by simp [Tryz.f124]; exact .mk) (by simp; exact .mk) ?_ (by simp [oStt])
    first | (simp [nrmR, nrmRs, nrmK, kindsOf, kinds, Tryz.f124, hr, oStt, ownR]; done) | (simp [nrmR, nrmRs, nrmK, kindsOf, kinds, Tryz.f124, hr, oStt, zStt, ownR, turnS]; done)
  intro h81
  have ha2 : behindS s ((s.base + 1) * 32) (nth (onesS s.slots) 0).len = none := by simpa using h81
  rw [ha2] at hr0
  have hr : upStep s = (zStt, 10) := hr0
  refine W_skip ?_
  refine xT ?_
  iterate 2 (refine run_op rfl rfl rfl (by simp [splice]; exact .mk) ?_)
  refine xO ?_
  refine xE [2, 3] ?_
  rintro -
  refine W_ret ?_
  refine end_ret (by simp [Tryz.f124]; exact .mk) (by simp; exact .mk) ?_ (by simp [oStt])
  first | (simp [nrmR, nrmRs, nrmK, kindsOf, kinds, Tryz.f124, hr, oStt, ownR]; done) | (simp [nrmR, nrmRs, nrmK, kindsOf, kinds, Tryz.f124, hr, oStt, zStt, ownR, turnS]; done)

end Go.Proofs

set_option maxHeartbeats 4000000
set_option maxRecDepth 4000
namespace Go.Proofs
open Go.Awp
theorem ct123 (g : Gl) : CtAt Tryz.prog g 123 [] (.tup [oStt zStt, vI 12]) := by
  refine ctAt_of_W Tryz.func123 rfl rfl (Nat.le_of_ble_eq_true rfl) fun B S => ?_
  refine xU ?_
  iterate 2 refine xO ?_
  refine xE [0] ?_
  refine xT ?_
  iterate 2 (refine run_op rfl rfl rfl (by simp [splice]; exact .mk) ?_)
  refine xO ?_
  refine xE [0, 1] ?_
  rintro -
  refine W_ret ?_
  refine end_ret (by simp [Tryz.f123]; exact .mk) (by simp; exact .mk) ?_ (by simp [oStt])
  simp [nrmR, nrmRs, nrmK, kindsOf, kinds, Tryz.f123, oStt, zStt, ownR]

theorem ct119 (g : Gl) (s : Stt) : CtAt Tryz.prog g 119 [eStt s] (.v (.bool (movingS s))) := by
  refine ctAt_of_W Tryz.func119 rfl rfl (Nat.le_of_ble_eq_true rfl) fun B S => ?_
  simp only [eStt, List.map, argD_agg, argD_v]
  refine xU ?_
  iterate 2 refine xO ?_
  refine xE [1] ?_
  refine xT ?_
  iterate 4 refine xO ?_
  iterate 3 refine xI ?_
  refine xP ?_
  refine xB ?_
  refine xE [2] ?_
  rintro -
  refine W_ret ?_
  refine xR (by simp [Tryz.f119]; exact .mk) ?_
  first | (simp [nrmR, nrmRs, nrmK, kindsOf, kinds, Tryz.f119, movingS]; done) | (simp [nrmR, nrmRs, nrmK, kindsOf, kinds, Tryz.f119, movingS] at *; grind)

end Go.Proofs
