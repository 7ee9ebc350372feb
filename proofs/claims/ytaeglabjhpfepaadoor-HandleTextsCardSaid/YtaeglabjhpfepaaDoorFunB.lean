/- Plain facts about handles, their codes, texts and order, and what a row's arguments and laid tables are; no condition but those that each lemma names. -/
import Derived.Test.YtaeglabjhpfepaaDoorFunA
import Derived.Lib.LaidTab
import Derived.Stop.LaidErr
import Derived.Test.YtaeglabjhpfepaaDoorRows
import Derived.ProofKit
import Derived.LaidMore
import Derived.OpenShut
import Derived.Stop.Joined
set_option linter.all false
set_option linter.unusedSimpArgs false
namespace Go.Proofs
open Go.Awp
theorem getD_pre {α : Type} {a b : List α} {x d : α} : (a ++ x :: b).getD a.length d = x := by
  rw [List.getD_eq_getElem?_getD, List.getElem?_append_right (Nat.le_refl _)]; simp
theorem decode_one {a b : List UInt8} {x : UInt8} (h : x.toNat < 128) : Utf8.decode (strB (a ++ x :: b)) a.length = (x.toNat, 1) := by
  have e : ((strB (a ++ x :: b)).get! (a.length + 0)).toNat = x.toNat := by
    have hl : a.length < ((a ++ x :: b).toArray).size := by simp
    show ((a ++ x :: b).toArray[a.length + 0]!).toNat = x.toNat
    rw [Nat.add_zero, getElem!_pos (a ++ x :: b).toArray a.length hl]
    simp
  unfold Utf8.decode
  simp only [e]
  rw [if_pos h]
theorem numW_one {a b : List UInt8} {x : UInt8} {n : Int} (h1 : 48 ≤ x.toNat) (h2 : x.toNat ≤ 57) (hn : n < 65536) : numW (strB (a ++ x :: b)) a.length n = numW (strB (a ++ x :: b)) (a.length + 1) (10 * n + ((x.toNat : Int) - 48)) := by
  have hd := decode_one (a := a) (b := b) (x := x) (by omega)
  rw [numW_t (by simp) (by rw [hd]; simp only; omega), hd]
theorem byteD {k : Nat} (h : k < 10) : (UInt8.ofNat (48 + k)).toNat = 48 + k := by
  simp; omega
theorem numW_dec : ∀ (u : Nat) (rest : List UInt8), u ≤ 65536 → numW (strB (Lib.decDigits u ++ rest)) 0 0 = numW (strB (Lib.decDigits u ++ rest)) (Lib.decDigits u).length u := by
  intro u
  induction u using Nat.strongRecOn with
  | _ u ih =>
    intro rest hu
    by_cases h : u < 10
    · rw [dec_small h]
      have := numW_one (a := []) (b := rest) (x := UInt8.ofNat (48 + u)) (n := 0) (by rw [byteD h]; omega) (by rw [byteD h]; omega) (by omega)
      simp only [List.nil_append, List.length_nil] at this
      show numW (strB (UInt8.ofNat (48 + u) :: rest)) 0 0 = _
      rw [this, byteD h]
      show numW _ (0 + 1) _ = numW _ 1 _
      congr 1; omega
    · have hb := dec_big h
      have hr : u % 10 < 10 := by omega
      have ih2 := ih (u / 10) (by omega) (UInt8.ofNat (48 + u % 10) :: rest) (by omega)
      have hs := numW_one (a := Lib.decDigits (u / 10)) (b := rest) (x := UInt8.ofNat (48 + u % 10)) (n := ((u / 10 : Nat) : Int)) (by rw [byteD hr]; omega) (by rw [byteD hr]; omega) (by omega)
      rw [hb, List.append_assoc, List.singleton_append, ih2, hs, byteD hr]
      simp only [List.length_append, List.length_singleton]
      congr 1; omega
theorem dec_ne {u : Nat} : Lib.decDigits u ≠ [] := by
  intro h
  have := Lib.decDigits_length u
  rw [h] at this
  have := Lib.nDigits_pos u
  simp at *; omega
theorem numS_dec {u : Nat} (hu : u ≤ 65536) : numS (strB (Lib.decDigits u)) = u := by
  unfold numS
  rw [if_neg (by rw [strB_toList]; exact dec_ne)]
  have := numW_dec u [] hu
  rw [List.append_nil] at this
  rw [this, numW_end (by simp)]
/-- All digits. -/
theorem dec_digits : ∀ (u : Nat) (b : UInt8), b ∈ Lib.decDigits u → 48 ≤ b.toNat ∧ b.toNat ≤ 57 := by
  intro u
  induction u using Nat.strongRecOn with
  | _ u ih =>
    intro b hb
    by_cases h : u < 10
    · rw [dec_small h] at hb
      simp only [List.mem_singleton] at hb
      rw [hb, byteD h]; omega
    · rw [dec_big h] at hb
      rcases List.mem_append.1 hb with hb | hb
      · exact ih (u / 10) (by omega) b hb
      · simp only [List.mem_singleton] at hb
        rw [hb, byteD (by omega)]; omega
theorem idx_pre : ∀ (a b : List UInt8), (∀ x ∈ a, x ≠ 46) → Lib.indexByte (a ++ 46 :: b) 46 = a.length
  | [], b, _ => rfl
  | x :: a, b, h => by
    have ih := idx_pre a b (fun y hy => h y (by simp [hy]))
    have hx := h x (by simp)
    show (if (x == 46) = true then 0 else if (Lib.indexByte (a ++ 46 :: b) 46 == -1) = true then -1 else Lib.indexByte (a ++ 46 :: b) 46 + 1) = _
    rw [if_neg (by simpa using hx), ih, if_neg (by simp)]
    simp
theorem dec_no46 {u : Nat} : ∀ x ∈ Lib.decDigits u, x ≠ 46 := fun x hx e => by
  have := dec_digits u x hx
  rw [e] at this
  revert this; decide
theorem strB_extract (l : List UInt8) (i j : Nat) : (strB l).extract i j = strB ((l.drop i).take (j - i)) := by
  apply ByteArray.ext
  simp [strB, ByteArray.data_extract]
theorem cut_dec {a b : List UInt8} (h : ∀ x ∈ a, x ≠ 46) : cutH (strB (a ++ 46 :: b)) = (strB a, strB b) := by
  unfold cutH
  rw [strB_data, idx_pre a b h, if_pos (by omega)]
  simp only [Int.toNat_natCast, strB_extract]
  rw [List.drop_zero, Nat.sub_zero, List.take_left, strB_size]
  congr 2
  rw [show a.length + 1 = (a ++ [46]).length by simp, show a ++ 46 :: b = (a ++ [46]) ++ b by simp, List.drop_left]
  exact List.take_of_length_le (by simp; omega)
theorem okH_nat {h : Hd} (hk : okH h = true) : ∃ i j : Nat, h = ((i : Int), (j : Int)) ∧ i < 32 ∧ j < 65536 := by
  simp [okH] at hk
  exact ⟨h.1.toNat, h.2.toNat, by ext <;> simp <;> omega, by omega, by omega⟩
theorem text_nat {i j : Nat} (hi : i < 32) (hj : j < 65536) : textB ((i : Int), (j : Int)) = Lib.decDigits i ++ 46 :: Lib.decDigits j := by
  unfold textB
  rw [if_pos (by simp [okH]; omega)]
  simp
theorem candP_text {h : Hd} (hk : okH h = true) : candP (strB (textB h)) = h := by
  obtain ⟨i, j, rfl, hi, hj⟩ := okH_nat hk
  rw [text_nat hi hj]
  unfold candP
  rw [cut_dec dec_no46, numS_dec (by omega), numS_dec (by omega)]
theorem digF_dec : ∀ (u : Nat) (rest : List UInt8) (f : Nat), digF (strB (Lib.decDigits u ++ rest)) ((Lib.decDigits u).length + f) 0 0 = digF (strB (Lib.decDigits u ++ rest)) f (Lib.decDigits u).length u := by
  intro u
  induction u using Nat.strongRecOn with
  | _ u ih =>
    intro rest f
    have step : ∀ (a b : List UInt8) (x : UInt8) (n : Int) (f : Nat), 48 ≤ x.toNat → x.toNat ≤ 57 → digF (strB (a ++ x :: b)) (f + 1) a.length n = digF (strB (a ++ x :: b)) f (a.length + 1) (n * 10 + ((x.toNat : Int) - 48)) := by
      intro a b x n f h1 h2
      rw [digF_s, strB_data, getD_pre, if_neg (by omega)]
    by_cases h : u < 10
    · rw [dec_small h]
      have := step [] rest (UInt8.ofNat (48 + u)) 0 f (by rw [byteD h]; omega) (by rw [byteD h]; omega)
      simp only [List.nil_append, List.length_nil] at this
      show digF (strB (UInt8.ofNat (48 + u) :: rest)) (1 + f) 0 0 = _
      rw [Nat.add_comm 1 f, this, byteD h]
      show digF _ _ (0 + 1) _ = digF _ _ 1 _
      congr 1; omega
    · have hb := dec_big h
      have hr : u % 10 < 10 := by omega
      have ih2 := ih (u / 10) (by omega) (UInt8.ofNat (48 + u % 10) :: rest) (f + 1)
      have hs := step (Lib.decDigits (u / 10)) rest (UInt8.ofNat (48 + u % 10)) ((u / 10 : Nat) : Int) f (by rw [byteD hr]; omega) (by rw [byteD hr]; omega)
      rw [hb, List.append_assoc, List.singleton_append]
      simp only [List.length_append, List.length_singleton]
      rw [show (Lib.decDigits (u / 10)).length + 1 + f = (Lib.decDigits (u / 10)).length + (f + 1) by omega, ih2, hs, byteD hr]
      congr 1; omega
theorem digR_dec {u : Nat} {most : Int} (h : ((Lib.decDigits u).length : Int) ≤ most) : digR (strB (Lib.decDigits u)) most = u := by
  unfold digR
  rw [if_neg (by
    rw [strB_size]
    have := List.length_pos_iff.2 (dec_ne (u := u))
    omega)]
  have := digF_dec u [] 0
  rw [List.append_nil, Nat.add_zero] at this
  rw [strB_size, this]; rfl
theorem dotF_pre : ∀ (p a b : List UInt8) (f : Nat), (∀ x ∈ a, x ≠ 46) → dotF (strB (p ++ (a ++ 46 :: b))) (a.length + 1 + f) p.length = p.length + a.length
  | p, [], b, f, _ => by
    rw [show ([] : List UInt8).length + 1 + f = f + 1 by simp; omega, dotF_s, strB_data, List.nil_append, getD_pre, if_pos rfl]; simp
  | p, x :: a, b, f, h => by
    have hx := h x (by simp)
    have ih := dotF_pre (p ++ [x]) a b f (fun y hy => h y (by simp [hy]))
    rw [show (x :: a).length + 1 + f = (a.length + 1 + f) + 1 by simp; omega, dotF_s, strB_data, List.cons_append, getD_pre, if_neg hx]
    rw [show p ++ x :: (a ++ 46 :: b) = (p ++ [x]) ++ (a ++ 46 :: b) by simp, show p.length + 1 = (p ++ [x]).length by simp, ih]
    simp; omega
theorem dot_dec {a b : List UInt8} (h : ∀ x ∈ a, x ≠ 46) : dotR (strB (a ++ 46 :: b)) = a.length := by
  unfold dotR
  have := dotF_pre [] a b b.length h
  rw [strB_size, show (a ++ 46 :: b).length = a.length + 1 + b.length by simp; omega]
  simpa using this
theorem candR_text {h : Hd} (hk : okH h = true) : candR (strB (textB h)) = h := by
  obtain ⟨i, j, rfl, hi, hj⟩ := okH_nat hk
  rw [text_nat hi hj]
  unfold candR
  rw [dot_dec dec_no46, strB_size, if_pos (by simp)]
  simp only [strB_extract]
  rw [List.drop_zero, Nat.sub_zero, List.take_left]
  have e : (((Lib.decDigits i ++ 46 :: Lib.decDigits j).drop ((Lib.decDigits i).length + 1)).take ((Lib.decDigits i ++ 46 :: Lib.decDigits j).length - ((Lib.decDigits i).length + 1))) = Lib.decDigits j := by
    rw [show (Lib.decDigits i).length + 1 = (Lib.decDigits i ++ [46]).length by simp, show Lib.decDigits i ++ 46 :: Lib.decDigits j = (Lib.decDigits i ++ [46]) ++ Lib.decDigits j by simp, List.drop_left]
    exact List.take_of_length_le (by simp; omega)
  rw [e, digR_dec ?_, digR_dec ?_]
  · have := decLen (u := j) (by omega); omega
  · have : Lib.nDigits i ≤ 2 := by
      by_cases h1 : i < 10 ^ 1
      · rw [Lib.nDigits_small (by omega)]; omega
      · rw [Lib.nDigits_unique 1 i (by omega) (by omega)]; omega
    rw [Lib.decDigits_length]; omega
theorem parseC_iff {c : Hd} {s : ByteArray} (h : (okH c && (textB c == s.toList)) = true) : okH c = true ∧ s = strB (textB c) := by
  simp only [Bool.and_eq_true, beq_iff_eq] at h
  refine ⟨h.1, ?_⟩
  rw [h.2, toList_eq, strB_self]
theorem parse_eq (s : ByteArray) : parseH s = parseR s := by
  unfold parseH parseR
  by_cases h1 : (okH (candP s) && (textB (candP s) == s.toList)) = true
  · obtain ⟨a, b⟩ := parseC_iff h1
    have : candR s = candP s := by
      have := candR_text a
      rwa [← b] at this
    rw [this]
  · by_cases h2 : (okH (candR s) && (textB (candR s) == s.toList)) = true
    · obtain ⟨a, b⟩ := parseC_iff h2
      have : candP s = candR s := by
        have := candP_text a
        rwa [← b] at this
      rw [this]
    · unfold parseC; rw [if_neg h1, if_neg h2]
theorem parse_text {h : Hd} (hk : okH h = true) : parseH (strB (textB h)) = (h, 0) := by
  unfold parseH
  rw [candP_text hk, parseC, if_pos (by simp [hk])]
theorem parse_ok {s : ByteArray} (h : (parseH s).2 = 0) : okH (parseH s).1 = true ∧ textB (parseH s).1 = s.toList := by
  unfold parseH parseC at h ⊢
  split
  · rename_i h1
    simp only [Bool.and_eq_true, beq_iff_eq] at h1
    exact h1
  · rename_i h1; rw [if_neg h1] at h; simp at h
theorem code_of {h : Hd} (hk : okH h = true) : ofH (codeH h).1 = (h, true) := by
  have hk2 := hk
  simp [okH] at hk2
  unfold ofH codeH
  rw [if_pos hk]
  simp only
  rw [if_neg (by omega), Int.tdiv_eq_ediv_of_nonneg (by omega), Int.tmod_eq_emod_of_nonneg (by omega)]
  ext <;> simp <;> omega
theorem of_code {n : Int} (h : (ofH n).2 = true) : codeH (ofH n).1 = (n, 0) := by
  unfold ofH at h ⊢
  split
  · rename_i h1; rw [if_pos h1] at h; simp at h
  · rename_i h1
    have e1 : (n - 1).tdiv 65536 = (n - 1) / 65536 := Int.tdiv_eq_ediv_of_nonneg (by omega)
    have e2 : (n - 1).tmod 65536 = (n - 1) % 65536 := Int.tmod_eq_emod_of_nonneg (by omega)
    simp only [e1, e2]
    unfold codeH
    rw [if_pos (by simp [okH]; omega)]
    simp only [Prod.mk.injEq, and_true]
    omega
end Go.Proofs

set_option linter.unusedSimpArgs false
namespace Go.Proofs
open Go.Awp
theorem text12 : textB (1, 2) = [49, 46, 50] := by
  have := text_nat (i := 1) (j := 2) (by omega) (by omega)
  rw [dec_small (by omega), dec_small (by omega)] at this
  exact this
theorem parse12 : parseH ⟨#[49, 46, 50]⟩ = ((1, 2), 0) := by
  have := parse_text (h := (1, 2)) rfl
  rw [text12] at this
  exact this
theorem cand102 : candR ⟨#[49, 46, 48, 50]⟩ = (1, 2) := by decide +kernel
theorem parse102 : parseH ⟨#[49, 46, 48, 50]⟩ = ((0, 0), 3) := by
  rw [parse_eq, parseR, cand102, parseC, text12, toList_eq, if_neg (by decide)]
theorem s1 : CtAt Tryd.prog glD 9 [eH (1, 2)] (.tup [vI 65539, vI 0]) := ct9 (1, 2)
theorem s2 : CtAt Tryd.prog glD 11 [vI 65539] (.tup [eH (1, 2), vT true]) := by
  have := ct11 65539
  rwa [show ofH 65539 = ((1, 2), true) by decide +kernel] at this
theorem s3 : CtAt Tryd.prog glD 15 [vS ⟨#[49, 46, 50]⟩] (.tup [eH (1, 2), vI 0]) := by
  have := ct15 ⟨#[49, 46, 50]⟩ (by decide)
  rwa [parse12] at this
theorem s4 : CtAt Tryd.prog glD 15 [vS ⟨#[49, 46, 48, 50]⟩] (.tup [eH (0, 0), vI 3]) := by
  have := ct15 ⟨#[49, 46, 48, 50]⟩ (by decide)
  rwa [parse102] at this
theorem s5 : CtAt Tryd.prog glD 16 [eH (1, 2)] (vS ⟨#[49, 46, 50]⟩) := by
  have := ct16 (1, 2)
  rwa [text12] at this
theorem cmpH_b (a b : Hd) : -1 ≤ cmpH a b ∧ cmpH a b ≤ 1 := by
  unfold cmpH cmpI; repeat' split
  all_goals omega
theorem cmpH_neg (a b : Hd) : cmpH b a = -cmpH a b := by
  unfold cmpH cmpI; repeat' split
  all_goals omega
theorem cmpH_zero (a b : Hd) : (cmpH a b == 0) = (a.1 == b.1 && a.2 == b.2) := by
  have : cmpH a b = 0 ↔ a.1 = b.1 ∧ a.2 = b.2 := by
    unfold cmpH cmpI; repeat' split
    all_goals omega
  by_cases h : cmpH a b = 0
  · rw [h]; simp [this.1 h]
  · have h2 := fun e => h (this.2 e)
    rw [show (cmpH a b == 0) = false by simpa using h]
    symm
    simp only [Bool.and_eq_false_iff, beq_eq_false_iff_ne]
    by_cases e : a.1 = b.1
    · right; intro e2; exact h2 ⟨e, e2⟩
    · left; exact e
theorem cmp_code {a b : Hd} (ha : okH a = true) (hb : okH b = true) : decide (cmpH a b < 0) = decide ((codeH a).1 < (codeH b).1) ∧ (cmpH a b == 0) = ((codeH a).1 == (codeH b).1) := by
  have ka := ha
  have kb := hb
  simp [okH] at ka kb
  unfold codeH
  rw [if_pos ha, if_pos hb]
  constructor
  · rw [decide_eq_decide]
    unfold cmpH cmpI; repeat' split
    all_goals simp only; omega
  · rw [Bool.eq_iff_iff]
    simp only [beq_iff_eq]
    unfold cmpH cmpI; repeat' split
    all_goals omega
theorem code_err {h : Hd} : ((codeH h).2 == 0) = okH h := by
  unfold codeH; cases hk : okH h <;> simp
theorem step_in {h : Hd} (hk : okH h = true) (hg : h.2 < 65535) : ofH ((codeH h).1 + 1) = ((h.1, h.2 + 1), true) ∧ cmpH h (h.1, h.2 + 1) = -1 := by
  have k := hk
  simp [okH] at k
  constructor
  · unfold ofH codeH
    rw [if_pos hk]
    simp only
    rw [if_neg (by omega), Int.tdiv_eq_ediv_of_nonneg (by omega), Int.tmod_eq_emod_of_nonneg (by omega)]
    ext <;> simp <;> omega
  · unfold cmpH cmpI
    simp
    omega
theorem step_out {h : Hd} (hk : okH h = true) (hg : ¬ h.2 < 65535) : (ofH ((codeH h).1 + 1)).2 = decide (h.1 < 31) ∧ (h.1 < 31 → (ofH ((codeH h).1 + 1)).1 = (h.1 + 1, 0) ∧ cmpH h (h.1 + 1, 0) = -1) := by
  have k := hk
  simp [okH] at k
  unfold ofH codeH
  rw [if_pos hk]
  simp only
  by_cases h31 : h.1 < 31
  · rw [if_neg (by omega), Int.tdiv_eq_ediv_of_nonneg (by omega), Int.tmod_eq_emod_of_nonneg (by omega)]
    refine ⟨by simp [h31], fun _ => ⟨by ext <;> simp <;> omega, ?_⟩⟩
    have e : cmpI h.1 (h.1 + 1) = -1 := by unfold cmpI; rw [if_pos (by omega)]
    unfold cmpH
    simp only [e]
    rw [if_neg (by omega), if_pos (by omega)]
  · rw [if_pos (by omega)]
    exact ⟨by simp [h31], fun e => absurd e h31⟩
end Go.Proofs

namespace Go.Proofs
open Go.Awp Go.RowKit
theorem op3 : Opens Tryd.prog 3 fun n : Int => [vI n] := opens_int Tryd.underlying3
theorem op9 : Opens Tryd.prog 9 fun s : {s : ByteArray // s.size < 2^63} => [vS s.1] := .mk fun e W sp hd fuel cs x hx => by
  obtain ⟨s, rfl, _, hs⟩ := DataW.trod_string Tryd.underlying9 hx
  exact ⟨⟨s, by have : maxLen = 2^63 - 1 := rfl; omega⟩, .cons (F := []) (G := []) (.v rfl) .nil⟩
theorem op23 : Opens Tryd.prog 23 fun p : Hd => [vI p.1, vI p.2] :=
  (opens_struct (n := 2) Tryd.underlying23 (by kernel_rfl) (fs_cons rfl (size := 1) (by kernel_rfl) op3 (fs_cons rfl (size := 1) (by kernel_rfl) op3 (fs_nil (by decide))))).map (fun p => (p.1, p.2.1)) fun _ => rfl
theorem own : ownKnob Tryd.prog.godebug = none := by kernel_rfl
theorem laidOut : laidOutB Tryd.prog = true := by kernel_rfl
theorem tabT : (Tryd.prog.globals[1]?).map (·.type) = some 64 := by kernel_rfl
def laid3 : List (String × DataW Unit) := [("math/bits.deBruijn32tab", YtaeglabjhpfepaaDoor.Rows.laid_math_bits_deBruijn32tab), ("math/bits.deBruijn64tab", YtaeglabjhpfepaaDoor.Rows.laid_math_bits_deBruijn64tab), ("internal/strconv.uint64pow10", YtaeglabjhpfepaaDoor.Rows.laid_internal_strconv_uint64pow10)]
theorem door_met (os : Os) (args : Array Value) : laidMetH Tryd.prog laid3 ((World.doorLaid Tryd.prog 400 os).forCall (fun _ _ => 0) ⟨#[], args, []⟩).memory :=
  laidMetH_of_parts3 (fuel := 8) (laidMet_of_run' 8 (by kernel_rfl) (by kernel_rfl)) (by kernel_rfl) (by kernel_rfl)
theorem tab_of_laid {W : World} (h : laidMetH Tryd.prog laid3 W) : glD.G W ∧ glD.N ≤ W.heap.size := by
  rw [MakeChecks.laidMetH_plain _ _ _ (by kernel_rfl)] at h
  have ht : tabW W := Lib.tabIs_of_head (k := .u64) (zs := Lib.pow10Tab) (n := 20) (e := 54) tabG tabT (by kernel_rfl) (by kernel_rfl) (by kernel_rfl) (by kernel_rfl) (laidMet.tail (laidMet.tail h))
  refine ⟨ht, ?_⟩
  have hc := ht.cell tabG 0 (by decide)
  cases hW : W.heap[1]? with
  | none => simp [World.cell?, hW] at hc
  | some o => have := (Array.getElem?_eq_some_iff.1 hW).1; show 2 ≤ _; omega
end Go.Proofs
