/- Contracts of the program's functions and plain facts, for arguments as each lemma says. -/
import Derived.Test.YtokgokbgidgfeaaGreatCC
import Derived.Test.YtokgokbgidgfeaaGreatAwpC
import Derived.Test.YtokgokbgidgfeaaGreatCA
import Derived.Test.YtokgokbgidgfeaaGreatAwpD
set_option linter.all false
namespace Go.Proofs
open Go.Awp
section
variable {α : Type} [Inhabited α] {lt : α → α → Bool} {R Q : α → α → Prop}
structure Keys (lt : α → α → Bool) (R Q : α → α → Prop) : Prop where
 tr : ∀ {x y z}, R x y → R y z → R x z
 no : ∀ {x y}, Q x y → lt y x = false → R x y
 on : ∀ {x y}, Q x y → lt y x = true → R y x
 sa : ∀ {x y}, Q x y → R x y → lt y x = false
variable (K : Keys lt R Q)
include K
theorem cross {A B : List α} {u v : α} {A' B' : List α} (hA : A = A' ++ [u]) (hB : B = v :: B') (sA : A.Pairwise R) (sB : B.Pairwise R) (h : R u v) : ∀ x ∈ A, ∀ y ∈ B, R x y := by
 subst hA hB
 have h1 : ∀ x ∈ A', R x u := fun x hx => (List.pairwise_append.1 sA).2.2 x hx u (by simp)
 have h2 : ∀ y ∈ B', R v y := (List.pairwise_cons.1 sB).1
 intro x hx y hy
 have a1 : R x v := by
  rcases List.mem_append.1 hx with hx | hx
  · exact K.tr (h1 x hx) h
  · simp at hx; subst hx; exact h
 rcases List.mem_cons.1 hy with rfl | hy
 · exact a1
 · exact K.tr a1 (h2 y hy)
theorem symF_ok : ∀ (f a m b : Nat) (P L M S : List α), a = P.length → m = a + L.length → b = m + M.length → L.length + M.length ≤ f → 0 < L.length → 0 < M.length → L.Pairwise R → M.Pairwise R →
    (∀ x ∈ L, ∀ y ∈ M, Q x y) → ∃ X, symF lt f a m b (P ++ (L ++ (M ++ S))) = P ++ (X ++ S) ∧ X.Perm (L ++ M) ∧ X.Pairwise R
 | 0, a, m, b, P, L, M, S, _, _, _, hf, hL, _, _, _, _ => by omega
 | f + 1, a, m, b, P, L, M, S, ha, hm, hb, hf, hL, hM, sL, sM, hQ => by
  have nL : ∀ c, a ≤ c → c < m → ∀ (h : c - a < L.length), nth (P ++ (L ++ (M ++ S))) c = L[c - a] := fun c h1 h2 h => nth_at (by
    rw [List.getElem?_append_right (by omega), List.getElem?_append_left (by omega), List.getElem?_eq_getElem (by omega)]; simp only [ha])
  have nM : ∀ c, m ≤ c → c < b → ∀ (h : c - m < M.length), nth (P ++ (L ++ (M ++ S))) c = M[c - m] := fun c h1 h2 h => nth_at (by
    rw [List.getElem?_append_right (by omega), List.getElem?_append_right (by omega), List.getElem?_append_left (by omega), List.getElem?_eq_getElem (by omega)]
    simp only [show c - P.length - L.length = c - m by omega])
  have oL : ∀ i j (hi : i < L.length) (hj : j < L.length), i < j → R L[i] L[j] := fun i j hi hj h => List.pairwise_iff_getElem.1 sL i j hi hj h
  have oM : ∀ i j (hi : i < M.length) (hj : j < M.length), i < j → R M[i] M[j] := fun i j hi hj h => List.pairwise_iff_getElem.1 sM i j hi hj h
  by_cases k1 : m - a = 1
  · obtain ⟨x, rfl⟩ : ∃ x, L = [x] := List.length_eq_one_iff.1 (by omega)
    have hx : nth (P ++ ([x] ++ (M ++ S))) a = x := nth_mid (S := M ++ S) ha
    have hp : ∀ c, m ≤ c → ∀ (h : c - m < M.length), lt (nth (P ++ ([x] ++ (M ++ S))) c) (nth (P ++ ([x] ++ (M ++ S))) a) = lt M[c - m] x := fun c h1 h => by rw [hx, nM c h1 (by omega) h]
    have sp := bsS_spec (p := fun h => lt (nth (P ++ ([x] ++ (M ++ S))) h) (nth (P ++ ([x] ++ (M ++ S))) a)) (i := m) (j := b) (by omega) (fun c d h1 h2 h3 h4 => by
      rw [hp d (by omega) (by omega)] at h4
      rw [hp c h1 (by omega)]
      have r1 := K.on (hQ x (by simp) _ (List.getElem_mem _)) h4
      have r2 := K.tr (oM (c - m) (d - m) (by omega) (by omega) (by omega)) r1
      cases hl : lt M[c - m] x with
      | true => rfl
      | false =>
        have r3 := K.no (hQ x (by simp) _ (List.getElem_mem _)) hl
        have := K.sa (hQ x (by simp) _ (List.getElem_mem _)) (K.tr r3 (oM (c - m) (d - m) (by omega) (by omega) (by omega)))
        rw [h4] at this; cases this)
    have hbd := bsS_le (p := fun h => lt (nth (P ++ ([x] ++ (M ++ S))) h) (nth (P ++ ([x] ++ (M ++ S))) a)) (i := m) (j := b) (by omega)
    unfold symF
    rw [if_pos k1]
    simp only
    generalize bsS (fun h => lt (nth (P ++ ([x] ++ (M ++ S))) h) (nth (P ++ ([x] ++ (M ++ S))) a)) m b = i at sp hbd
    have e : P ++ ([x] ++ (M ++ S)) = P ++ x :: (M.take (i - m) ++ (M.drop (i - m) ++ S)) := by
     rw [← List.append_assoc (M.take (i - m)), List.take_append_drop]; rfl
    rw [e, upF_mid (i - 1 - a) a P (M.take (i - m)) (M.drop (i - m) ++ S) x (by simp at hm ⊢; omega) ha]
    refine ⟨M.take (i - m) ++ x :: M.drop (i - m), by simp, ?_, ?_⟩
    · refine List.perm_middle.trans ?_
      simp
    · have h1 : ∀ y ∈ M.take (i - m), R y x := fun y hy => by
       obtain ⟨k, hk, rfl⟩ := List.getElem_of_mem hy
       simp only [List.length_take] at hk
       rw [List.getElem_take]
       have h := sp.1 (m + k) (by omega) (by omega)
       rw [hp _ (by omega) (by omega)] at h
       simp only [Nat.add_sub_cancel_left] at h
       exact K.on (hQ x (by simp) _ (List.getElem_mem _)) h
      have h2 : ∀ y ∈ M.drop (i - m), R x y := fun y hy => by
       obtain ⟨k, hk, rfl⟩ := List.getElem_of_mem hy
       simp only [List.length_drop] at hk
       rw [List.getElem_drop]
       have h := sp.2 (i + k) (by omega) (by omega)
       rw [hp _ (by omega) (by omega)] at h
       simp only [show i + k - m = i - m + k by omega] at h
       exact K.no (hQ x (by simp) _ (List.getElem_mem _)) h
      have sM' : (M.take (i - m) ++ M.drop (i - m)).Pairwise R := by rw [List.take_append_drop]; exact sM
      obtain ⟨s1, s2, s3⟩ := List.pairwise_append.1 sM'
      refine List.pairwise_append.2 ⟨s1, List.pairwise_cons.2 ⟨h2, s2⟩, fun y hy z hz => ?_⟩
      rcases List.mem_cons.1 hz with rfl | hz
      · exact h1 y hy
      · exact s3 y hy z hz
  by_cases k2 : b - m = 1
  · obtain ⟨y, rfl⟩ : ∃ y, M = [y] := List.length_eq_one_iff.1 (by omega)
    have hy : nth (P ++ (L ++ ([y] ++ S))) m = y := by
     rw [show P ++ (L ++ ([y] ++ S)) = (P ++ L) ++ y :: S by simp]
     exact nth_mid (by simp; omega)
    have hp : ∀ c, a ≤ c → ∀ (h : c - a < L.length), lt (nth (P ++ (L ++ ([y] ++ S))) m) (nth (P ++ (L ++ ([y] ++ S))) c) = lt y L[c - a] := fun c h1 h => by rw [hy, nL c h1 (by omega) h]
    have sp := bsS_spec (p := fun h => !lt (nth (P ++ (L ++ ([y] ++ S))) m) (nth (P ++ (L ++ ([y] ++ S))) h)) (i := a) (j := m) (by omega) (fun c d h1 h2 h3 h4 => by
      simp only [Bool.not_eq_true'] at h4 ⊢
      rw [hp d (by omega) (by omega)] at h4
      rw [hp c h1 (by omega)]
      exact K.sa (hQ _ (List.getElem_mem _) y (by simp)) (K.tr (oL (c - a) (d - a) (by omega) (by omega) (by omega)) (K.no (hQ _ (List.getElem_mem _) y (by simp)) h4)))
    have hbd := bsS_le (p := fun h => !lt (nth (P ++ (L ++ ([y] ++ S))) m) (nth (P ++ (L ++ ([y] ++ S))) h)) (i := a) (j := m) (by omega)
    unfold symF
    rw [if_neg k1, if_pos k2]
    simp only
    generalize bsS (fun h => !lt (nth (P ++ (L ++ ([y] ++ S))) m) (nth (P ++ (L ++ ([y] ++ S))) h)) a m = i at sp hbd
    have e : P ++ (L ++ ([y] ++ S)) = (P ++ L.take (i - a)) ++ (L.drop (i - a) ++ y :: S) := by
     rw [List.append_assoc, ← List.append_assoc (L.take (i - a)), List.take_append_drop]; rfl
    rw [e, dnF_mid (m - i) m (P ++ L.take (i - a)) (L.drop (i - a)) S y (by simp; omega) (by simp; omega)]
    refine ⟨L.take (i - a) ++ y :: L.drop (i - a), by simp, ?_, ?_⟩
    · refine List.perm_middle.trans ?_
      rw [List.take_append_drop]
      exact (List.perm_append_comm (l₁ := [y]) (l₂ := L))
    · have h1 : ∀ x ∈ L.take (i - a), R x y := fun x hx => by
       obtain ⟨k, hk, rfl⟩ := List.getElem_of_mem hx
       simp only [List.length_take] at hk
       rw [List.getElem_take]
       have h := sp.1 (a + k) (by omega) (by omega)
       simp only [Bool.not_eq_true'] at h
       rw [hp _ (by omega) (by omega)] at h
       simp only [Nat.add_sub_cancel_left] at h
       exact K.no (hQ _ (List.getElem_mem _) y (by simp)) h
      have h2 : ∀ x ∈ L.drop (i - a), R y x := fun x hx => by
       obtain ⟨k, hk, rfl⟩ := List.getElem_of_mem hx
       simp only [List.length_drop] at hk
       rw [List.getElem_drop]
       have h := sp.2 (i + k) (by omega) (by omega)
       simp only [Bool.not_eq_false'] at h
       rw [hp _ (by omega) (by omega)] at h
       simp only [show i + k - a = i - a + k by omega] at h
       exact K.on (hQ _ (List.getElem_mem _) y (by simp)) h
      have sL' : (L.take (i - a) ++ L.drop (i - a)).Pairwise R := by rw [List.take_append_drop]; exact sL
      obtain ⟨s1, s2, s3⟩ := List.pairwise_append.1 sL'
      refine List.pairwise_append.2 ⟨s1, List.pairwise_cons.2 ⟨h2, s2⟩, fun x hx z hz => ?_⟩
      rcases List.mem_cons.1 hz with rfl | hz
      · exact h1 x hx
      · exact s3 x hx z hz
  -- the general step
  obtain ⟨mid, hmid⟩ : ∃ mid, mid = (a + b) / 2 := ⟨_, rfl⟩
  obtain ⟨N, hN⟩ : ∃ N, N = mid + m := ⟨_, rfl⟩
  obtain ⟨s0, hs0⟩ : ∃ s0, s0 = if mid < m then N - b else a := ⟨_, rfl⟩
  obtain ⟨r0, hr0⟩ : ∃ r0, r0 = if mid < m then mid else m := ⟨_, rfl⟩
  have hsr : a ≤ s0 ∧ s0 ≤ r0 ∧ r0 ≤ m ∧ r0 ≤ mid ∧ N ≤ b + s0 := by
   rw [hs0, hr0]; split <;> omega
  have hrange : ∀ c, s0 ≤ c → c < r0 → a ≤ c ∧ c < m ∧ m ≤ N - 1 - c ∧ N - 1 - c < b := fun c h1 h2 => by omega
  have hp : ∀ c (h1 : s0 ≤ c) (h2 : c < r0), lt (nth (P ++ (L ++ (M ++ S))) (N - 1 - c)) (nth (P ++ (L ++ (M ++ S))) c) = lt (M[N - 1 - c - m]'(by have := hrange c h1 h2; omega)) (L[c - a]'(by have := hrange c h1 h2; omega)) := fun c h1 h2 => by
   have := hrange c h1 h2
   rw [nL c (by omega) (by omega) (by omega), nM (N - 1 - c) (by omega) (by omega) (by omega)]
  obtain ⟨st, hst⟩ : ∃ st, bsS (fun c => !lt (nth (P ++ (L ++ (M ++ S))) (N - 1 - c)) (nth (P ++ (L ++ (M ++ S))) c)) s0 r0 = st := ⟨_, rfl⟩
  have sp := bsS_spec (p := fun c => !lt (nth (P ++ (L ++ (M ++ S))) (N - 1 - c)) (nth (P ++ (L ++ (M ++ S))) c)) (i := s0) (j := r0) (by omega) (fun c d h1 h2 h3 h4 => by
    simp only [Bool.not_eq_true'] at h4 ⊢
    have q1 := hrange c h1 (by omega)
    have q2 := hrange d (by omega) h3
    rw [hp d (by omega) h3] at h4
    rw [hp c h1 (by omega)]
    refine K.sa (hQ _ (List.getElem_mem _) _ (List.getElem_mem _)) (K.tr (oL (c - a) (d - a) (by omega) (by omega) (by omega)) (K.tr (K.no (hQ _ (List.getElem_mem _) _ (List.getElem_mem _)) h4) (oM (N - 1 - d - m) (N - 1 - c - m) (by omega) (by omega) (by omega)))))
  have hbd := bsS_le (p := fun c => !lt (nth (P ++ (L ++ (M ++ S))) (N - 1 - c)) (nth (P ++ (L ++ (M ++ S))) c)) (i := s0) (j := r0) (by omega)
  rw [hst] at sp hbd
  obtain ⟨en, hen⟩ : ∃ en, en = N - st := ⟨_, rfl⟩
  rw [symF_gen k1 k2 hmid hN rfl hs0 hr0 hst hen]
  have hb1 : a ≤ st ∧ st ≤ m ∧ m ≤ en ∧ en ≤ b ∧ st ≤ mid := by omega
  have hp1 : ∀ c, s0 ≤ c → c < st → ∀ (h1 : c - a < L.length) (h2 : N - 1 - c - m < M.length), R L[c - a] M[N - 1 - c - m] := fun c h1 h2 h3 h4 => by
   have h := sp.1 c h1 h2
   simp only [Bool.not_eq_true'] at h
   rw [hp c h1 (by omega)] at h
   exact K.no (hQ _ (List.getElem_mem _) _ (List.getElem_mem _)) h
  have hp2 : ∀ c, st ≤ c → c < r0 → ∀ (h1 : c - a < L.length) (h2 : N - 1 - c - m < M.length), R M[N - 1 - c - m] L[c - a] := fun c h1 h2 h3 h4 => by
   have h := sp.2 c h1 h2
   simp only [Bool.not_eq_false'] at h
   rw [hp c (by omega) h2] at h
   exact K.on (hQ _ (List.getElem_mem _) _ (List.getElem_mem _)) h
  -- the parts
  obtain ⟨L1, L2, rfl, hL1⟩ : ∃ L1 L2, L = L1 ++ L2 ∧ L1.length = st - a := ⟨L.take (st - a), L.drop (st - a), by simp, by simp; omega⟩
  obtain ⟨M1, M2, rfl, hM1⟩ : ∃ M1 M2, M = M1 ++ M2 ∧ M1.length = en - m := ⟨M.take (en - m), M.drop (en - m), by simp, by simp; omega⟩
  simp only [List.length_append] at hm hb hf hL hM
  obtain ⟨sL1, sL2, sL12⟩ := List.pairwise_append.1 sL
  obtain ⟨sM1, sM2, sM12⟩ := List.pairwise_append.1 sM
  have c1 : ∀ x ∈ L1, ∀ y ∈ M2, R x y := by
   rcases Nat.eq_zero_or_pos L1.length with h | h
   · rw [List.length_eq_zero_iff] at h; subst h; simp
   rcases Nat.eq_zero_or_pos M2.length with h' | h'
   · rw [List.length_eq_zero_iff] at h'; subst h'; simp
   have hs : s0 < st := by
    rcases Nat.lt_or_ge s0 st with h | h
    · exact h
    · exfalso; have : st = s0 := by omega
      rw [hs0] at this; split at this <;> omega
   have hr := hp1 (st - 1) (by omega) (by omega) (by simp; omega) (by simp; omega)
   have e1 : (L1 ++ L2)[st - 1 - a]'(by simp; omega) = L1[L1.length - 1]'(by omega) := by rw [List.getElem_append_left (by omega)]; congr 1; omega
   have e2 : (M1 ++ M2)[N - 1 - (st - 1) - m]'(by simp; omega) = M2[0]'h' := by rw [List.getElem_append_right (by omega)]; congr 1; omega
   rw [e1, e2] at hr
   have hA : L1 = L1.dropLast ++ [L1[L1.length - 1]'(by omega)] := by
    have := List.dropLast_concat_getLast (l := L1) (by intro e; subst e; simp at h)
    rw [List.getLast_eq_getElem] at this; exact this.symm
   have hB : M2 = M2[0]'h' :: M2.tail := by cases M2 with
    | nil => simp at h'
    | cons z t => rfl
   exact cross K hA hB sL1 sM2 hr
  have c2 : ∀ x ∈ M1, ∀ y ∈ L2, R x y := by
   rcases Nat.eq_zero_or_pos M1.length with h | h
   · rw [List.length_eq_zero_iff] at h; subst h; simp
   rcases Nat.eq_zero_or_pos L2.length with h' | h'
   · rw [List.length_eq_zero_iff] at h'; subst h'; simp
   have hs : st < r0 := by
    rcases Nat.lt_or_ge st r0 with h | h
    · exact h
    · exfalso; have : st = r0 := by omega
      rw [hr0] at this; split at this <;> omega
   have hr := hp2 st (Nat.le_refl _) hs (by simp; omega) (by simp; omega)
   have e1 : (L1 ++ L2)[st - a]'(by simp; omega) = L2[0]'h' := by rw [List.getElem_append_right (by omega)]; congr 1; omega
   have e2 : (M1 ++ M2)[N - 1 - st - m]'(by simp; omega) = M1[M1.length - 1]'(by omega) := by rw [List.getElem_append_left (by omega)]; congr 1; omega
   rw [e1, e2] at hr
   have hA : M1 = M1.dropLast ++ [M1[M1.length - 1]'(by omega)] := by
    have := List.dropLast_concat_getLast (l := M1) (by intro e; subst e; simp at h)
    rw [List.getLast_eq_getElem] at this; exact this.symm
   have hB : L2 = L2[0]'h' :: L2.tail := by cases L2 with
    | nil => simp at h'
    | cons z t => rfl
   exact cross K hA hB sM1 sL2 hr
  have hl1 : (if st < m ∧ m < en then rotS st m en (P ++ (L1 ++ L2 ++ (M1 ++ M2 ++ S))) else P ++ (L1 ++ L2 ++ (M1 ++ M2 ++ S))) = P ++ (L1 ++ (M1 ++ (L2 ++ (M2 ++ S)))) := by
   split
   · rw [show P ++ (L1 ++ L2 ++ (M1 ++ M2 ++ S)) = (P ++ L1) ++ (L2 ++ (M1 ++ (M2 ++ S))) by simp]
     rw [rotS_mid (by omega) (by omega) (by simp; omega) (by omega) (by omega)]; simp
   · rename_i h
     have : L2.length = 0 ∨ M1.length = 0 := by omega
     rcases this with h | h <;> (rw [List.length_eq_zero_iff] at h; subst h; simp)
  simp only [hl1]
  obtain ⟨X1, hX1, pX1, sX1⟩ : ∃ X1, (if a < st ∧ st < mid then symF lt f a st mid (P ++ (L1 ++ (M1 ++ (L2 ++ (M2 ++ S))))) else P ++ (L1 ++ (M1 ++ (L2 ++ (M2 ++ S))))) = P ++ (X1 ++ (L2 ++ (M2 ++ S))) ∧ X1.Perm (L1 ++ M1) ∧ X1.Pairwise R := by
   split
   · exact symF_ok f a st mid P L1 M1 (L2 ++ (M2 ++ S)) ha (by omega) (by omega) (by omega) (by omega) (by omega) sL1 sM1 (fun x hx y hy => hQ x (by simp [hx]) y (by simp [hy]))
   · rename_i h
     have : L1.length = 0 ∨ M1.length = 0 := by omega
     refine ⟨L1 ++ M1, by simp, .refl _, ?_⟩
     rcases this with h | h <;> (rw [List.length_eq_zero_iff] at h; subst h; simpa)
  rw [hX1]
  have hX1l : X1.length = mid - a := by rw [pX1.length_eq, List.length_append]; omega
  obtain ⟨X2, hX2, pX2, sX2⟩ : ∃ X2, (if mid < en ∧ en < b then symF lt f mid en b (P ++ (X1 ++ (L2 ++ (M2 ++ S)))) else P ++ (X1 ++ (L2 ++ (M2 ++ S)))) = P ++ (X1 ++ (X2 ++ S)) ∧ X2.Perm (L2 ++ M2) ∧ X2.Pairwise R := by
   split
   · obtain ⟨X2, h1, h2, h3⟩ := symF_ok f mid en b (P ++ X1) L2 M2 S (by simp; omega) (by omega) (by omega) (by omega) (by omega) (by omega) sL2 sM2 (fun x hx y hy => hQ x (by simp [hx]) y (by simp [hy]))
     exact ⟨X2, by rw [show P ++ (X1 ++ (L2 ++ (M2 ++ S))) = (P ++ X1) ++ (L2 ++ (M2 ++ S)) by simp, h1]; simp, h2, h3⟩
   · rename_i h
     have : L2.length = 0 ∨ M2.length = 0 := by omega
     refine ⟨L2 ++ M2, by simp, .refl _, ?_⟩
     rcases this with h | h <;> (rw [List.length_eq_zero_iff] at h; subst h; simpa)
  rw [hX2]
  refine ⟨X1 ++ X2, by simp, ?_, List.pairwise_append.2 ⟨sX1, sX2, fun x hx y hy => ?_⟩⟩
  · refine (pX1.append pX2).trans ?_
    rw [List.append_assoc, List.append_assoc]
    refine List.Perm.append_left L1 ?_
    rw [← List.append_assoc, ← List.append_assoc]
    exact List.Perm.append_right M2 List.perm_append_comm
  · have hx := pX1.mem_iff.1 hx
    have hy := pX2.mem_iff.1 hy
    rcases List.mem_append.1 hx with hx | hx <;> rcases List.mem_append.1 hy with hy | hy
    · exact sL12 x hx y hy
    · exact c1 x hx y hy
    · exact c2 x hx y hy
    · exact sM12 x hx y hy
theorem sink_ok : ∀ (j : Nat) (a : Nat) (P X S : List α) (y : α), a = P.length → j = a + X.length → ∃ A C, X = A ++ C ∧ sink lt a j (P ++ (X ++ y :: S)) = P ++ (A ++ y :: (C ++ S)) ∧ (∀ c ∈ C, lt y c = true) ∧ (∀ A' u, A = A' ++ [u] → lt y u = false)
 | 0, a, P, X, S, y, ha, hj => by
  have : X.length = 0 := by omega
  rw [List.length_eq_zero_iff] at this; subst this
  exact ⟨[], [], rfl, rfl, by simp, fun A' u h => by simp at h⟩
 | j + 1, a, P, X, S, y, ha, hj => by
  rcases nil_or_snoc X with rfl | ⟨X', u, rfl⟩
  · refine ⟨[], [], rfl, ?_, by simp, fun A' u h => by simp at h⟩
    unfold sink
    rw [if_neg (by simp at hj; omega)]; rfl
  · simp only [List.length_append, List.length_cons, List.length_nil] at hj
    have h1 : nth (P ++ ((X' ++ [u]) ++ y :: S)) (j + 1) = y := by
     rw [show P ++ ((X' ++ [u]) ++ y :: S) = (P ++ (X' ++ [u])) ++ y :: S by simp]
     exact nth_mid (by simp; omega)
    have h2 : nth (P ++ ((X' ++ [u]) ++ y :: S)) j = u := by
     rw [show P ++ ((X' ++ [u]) ++ y :: S) = (P ++ X') ++ u :: (y :: S) by simp]
     exact nth_mid (by simp; omega)
    unfold sink
    rw [h1, h2]
    split
    · rename_i h
      have e : swp (P ++ ((X' ++ [u]) ++ y :: S)) (j + 1) j = P ++ (X' ++ y :: (u :: S)) := by
       rw [show P ++ ((X' ++ [u]) ++ y :: S) = (P ++ X') ++ u :: y :: S by simp, swp_adj' (by simp; omega) (by simp; omega)]; simp
      rw [e]
      obtain ⟨A, C, r1, r2, r3, r4⟩ := sink_ok j a P X' (u :: S) y ha (by omega)
      refine ⟨A, C ++ [u], by rw [r1]; simp, by rw [r2]; simp, fun c hc => ?_, r4⟩
      rcases List.mem_append.1 hc with hc | hc
      · exact r3 c hc
      · simp at hc; subst hc; exact h.2
    · rename_i h
      refine ⟨X' ++ [u], [], by simp, by simp, by simp, fun A' v hA => ?_⟩
      have := List.append_inj_right' hA rfl
      simp at this; subst this
      cases hl : lt y u with
      | false => rfl
      | true => exact absurd ⟨by omega, hl⟩ h
theorem insF_ok : ∀ (k i a : Nat) (P X Y S : List α), a = P.length → i = a + X.length → Y.length = k → X.Pairwise R → Y.Pairwise Q → (∀ x ∈ X, ∀ y ∈ Y, Q x y) →
    ∃ Z, insF lt a k i (P ++ (X ++ (Y ++ S))) = P ++ (Z ++ S) ∧ Z.Perm (X ++ Y) ∧ Z.Pairwise R
 | 0, i, a, P, X, Y, S, ha, hi, hY, sX, sY, hQ => by
  rw [List.length_eq_zero_iff] at hY; subst hY
  exact ⟨X, by simp [insF], by simp, sX⟩
 | k + 1, i, a, P, X, y :: Y, S, ha, hi, hY, sX, sY, hQ => by
  obtain ⟨A, C, rfl, r2, r3, r4⟩ := sink_ok K (lt := lt) i a P X (Y ++ S) y ha hi
  obtain ⟨sA, sC, sAC⟩ := List.pairwise_append.1 sX
  obtain ⟨sy, sY⟩ := List.pairwise_cons.1 sY
  have hC : ∀ c ∈ C, R y c := fun c hc => K.on (hQ c (by simp [hc]) y (by simp)) (r3 c hc)
  have hA : ∀ x ∈ A, R x y := by
   rcases nil_or_snoc A with rfl | ⟨A', u, rfl⟩
   · simp
   · have hu : R u y := K.no (hQ u (by simp) y (by simp)) (r4 A' u rfl)
     intro x hx
     rcases List.mem_append.1 hx with hx | hx
     · exact K.tr ((List.pairwise_append.1 sA).2.2 x hx u (by simp)) hu
     · simp at hx; subst hx; exact hu
  have sN : (A ++ y :: C).Pairwise R := by
   refine List.pairwise_append.2 ⟨sA, List.pairwise_cons.2 ⟨hC, sC⟩, fun x hx z hz => ?_⟩
   rcases List.mem_cons.1 hz with rfl | hz
   · exact hA x hx
   · exact sAC x hx z hz
  have pN : (A ++ y :: C).Perm (A ++ C ++ [y]) := (List.perm_middle).trans (List.perm_append_comm (l₁ := [y]) (l₂ := A ++ C))
  obtain ⟨Z, z1, z2, z3⟩ := insF_ok k (i + 1) a P (A ++ y :: C) Y S ha (by simp at hi ⊢; omega) (by simpa using hY) sN sY (fun x hx z hz => by
    rcases List.mem_append.1 (pN.mem_iff.1 hx) with hx | hx
    · exact hQ x hx z (by simp [hz])
    · simp at hx; subst hx; exact sy z hz)
  refine ⟨Z, ?_, z2.trans ?_, z3⟩
  · unfold insF
    rw [show P ++ ((A ++ C) ++ ((y :: Y) ++ S)) = P ++ ((A ++ C) ++ y :: (Y ++ S)) by simp, r2]
    rw [show P ++ (A ++ y :: (C ++ (Y ++ S))) = P ++ ((A ++ y :: C) ++ (Y ++ S)) by simp]
    exact z1
  · have := pN.append_right Y
    simpa using this
theorem insS_ok {a b : Nat} {P X S : List α} (ha : a = P.length) (hb : b = a + X.length) (sX : X.Pairwise Q) : ∃ Z, insS lt a b (P ++ (X ++ S)) = P ++ (Z ++ S) ∧ Z.Perm X ∧ Z.Pairwise R := by
 cases X with
 | nil =>
  refine ⟨[], ?_, .refl _, .nil⟩
  unfold insS
  rw [show b - (a + 1) = 0 by simp at hb; omega]; rfl
 | cons x X =>
  obtain ⟨sx, sX⟩ := List.pairwise_cons.1 sX
  obtain ⟨Z, z1, z2, z3⟩ := insF_ok K (b - (a + 1)) (a + 1) a P [x] X S ha (by simp) (by simp at hb; omega) (by simp) sX (fun u hu y hy => by simp at hu; subst hu; exact sx y hy)
  exact ⟨Z, by unfold insS; simpa using z1, by simpa using z2, z3⟩
end
open Go.Awp
section
variable {α : Type} [Inhabited α] {lt : α → α → Bool} {R Q : α → α → Prop}
inductive Blks (R Q : α → α → Prop) (bs : Nat) : List α → Prop
 | last {B : List α} (h : B.length ≤ bs) (s : B.Pairwise R) : Blks R Q bs B
 | cons {B r : List α} (h : B.length = bs) (s : B.Pairwise R) (t : Blks R Q bs r) (c : ∀ x ∈ B, ∀ y ∈ r, Q x y) : Blks R Q bs (B ++ r)
theorem Blks.head {bs : Nat} {r : List α} (h : Blks R Q bs r) (hl : bs ≤ r.length) : ∃ B r', r = B ++ r' ∧ B.length = bs ∧ B.Pairwise R ∧ Blks R Q bs r' ∧ ∀ x ∈ B, ∀ y ∈ r', Q x y := by
 cases h with
 | last h s => exact ⟨r, [], by simp, by omega, s, .last (by simp) .nil, by simp⟩
 | cons h s t c => exact ⟨_, _, rfl, h, s, t, c⟩
theorem Blks.one {bs : Nat} {r : List α} (h : Blks R Q bs r) (hl : r.length ≤ bs) : r.Pairwise R := by
 cases h with
 | last h s => exact s
 | @cons B r h s t c =>
  have : r.length = 0 := by simp at hl; omega
  rw [List.length_eq_zero_iff] at this; subst this; simpa using s
theorem pairF_ok (K : Keys lt R Q) {bs : Nat} (hbs : 0 < bs) : ∀ (f a : Nat) (P r : List α), a = P.length → r.length ≤ f → Blks R Q bs r → ∃ r', pairF lt bs f a (P ++ r) = P ++ r' ∧ r'.Perm r ∧ Blks R Q (2 * bs) r' := by
 have small : ∀ (a : Nat) (P r : List α), a = P.length → r.length < 2 * bs → Blks R Q bs r → ∃ r', lastP lt bs a (P ++ r) = P ++ r' ∧ r'.Perm r ∧ Blks R Q (2 * bs) r' := by
  intro a P r ha hr hB
  unfold lastP
  split
  · rename_i h
    simp only [List.length_append] at h
    obtain ⟨B, r1, rfl, h1, h2, h3, h4⟩ := hB.head (by omega)
    simp only [List.length_append] at h hr
    obtain ⟨X, x1, x2, x3⟩ := symF_ok K (P.length + (B.length + r1.length) - a) a (a + bs) (P.length + (B.length + r1.length)) P B r1 [] ha (by omega) (by omega) (by omega) (by omega) (by omega) h2 (h3.one (by omega)) h4
    refine ⟨X, ?_, x2, .last (by rw [x2.length_eq]; simp; omega) x3⟩
    unfold symS
    simpa using x1
  · rename_i h
    simp only [List.length_append] at h
    exact ⟨r, rfl, .refl _, .last (by omega) (hB.one (by omega))⟩
 intro f
 induction f with
 | zero =>
  intro a P r ha hf hB
  unfold pairF
  exact small a P r ha (by omega) hB
 | succ f ih =>
  intro a P r ha hf hB
  unfold pairF
  split
  · rename_i h
    simp only [List.length_append] at h
    obtain ⟨B, r1, rfl, h1, h2, h3, h4⟩ := hB.head (by omega)
    simp only [List.length_append] at h hf
    obtain ⟨C, r2, rfl, k1, k2, k3, k4⟩ := h3.head (by omega)
    simp only [List.length_append] at h hf
    obtain ⟨X, x1, x2, x3⟩ := symF_ok K (a + 2 * bs - a) a (a + bs) (a + 2 * bs) P B C r2 ha (by omega) (by omega) (by omega) (by omega) (by omega) h2 k2 (fun x hx y hy => h4 x hx y (by simp [hy]))
    unfold symS
    rw [x1]
    have hX : X.length = 2 * bs := by rw [x2.length_eq]; simp; omega
    obtain ⟨r3, y1, y2, y3⟩ := ih (a + 2 * bs) (P ++ X) r2 (by simp; omega) (by omega) k3
    refine ⟨X ++ r3, by rw [← List.append_assoc, y1, List.append_assoc], ?_, .cons hX x3 y3 fun x hx y hy => ?_⟩
    · have := x2.append y2
      simpa using this
    · have hy := y2.mem_iff.1 hy
      rcases List.mem_append.1 (x2.mem_iff.1 hx) with hx | hx
      · exact h4 x hx y (by simp [hy])
      · exact k4 x hx y hy
  · rename_i h
    simp only [List.length_append] at h
    exact small a P r ha (by omega) hB
theorem mrgF_ok (K : Keys lt R Q) : ∀ (f bs : Nat) (l : List α), 0 < bs → l.length ≤ f + bs → Blks R Q bs l → (mrgF lt f bs l).Pairwise R
 | 0, bs, l, h0, hl, hB => by unfold mrgF; exact hB.one (by omega)
 | f + 1, bs, l, h0, hl, hB => by
  unfold mrgF
  split
  · obtain ⟨r', h1, h2, h3⟩ := pairF_ok K h0 l.length 0 [] l rfl (Nat.le_refl _) hB
    rw [show ([] : List α) ++ l = l from rfl] at h1
    rw [h1, List.nil_append]
    exact mrgF_ok K f (2 * bs) r' (by omega) (by rw [h2.length_eq]; omega) h3
  · exact hB.one (by omega)
theorem blkF_ok (K : Keys lt R Q) : ∀ (f a : Nat) (P r : List α), a = P.length → r.length ≤ f → r.Pairwise Q → ∃ r', blkF lt f a (P ++ r) = P ++ r' ∧ r'.Perm r ∧ Blks R Q 20 r' := by
 have small : ∀ (a : Nat) (P r : List α), a = P.length → r.length < 20 → r.Pairwise Q → ∃ r', insS lt a (P ++ r).length (P ++ r) = P ++ r' ∧ r'.Perm r ∧ Blks R Q 20 r' := by
  intro a P r ha hr hQ
  obtain ⟨Z, z1, z2, z3⟩ := insS_ok K (P := P) (X := r) (S := []) (a := a) (b := (P ++ r).length) ha (by simp; omega) hQ
  exact ⟨Z, by simpa using z1, z2, .last (by rw [z2.length_eq]; omega) z3⟩
 intro f
 induction f with
 | zero =>
  intro a P r ha hf hQ
  unfold blkF
  exact small a P r ha (by omega) hQ
 | succ f ih =>
  intro a P r ha hf hQ
  unfold blkF
  split
  · rename_i h
    simp only [List.length_append] at h
    obtain ⟨X, r1, rfl, hX⟩ : ∃ X r1, r = X ++ r1 ∧ X.length = 20 := ⟨r.take 20, r.drop 20, by simp, by simp; omega⟩
    simp only [List.length_append] at h hf
    obtain ⟨q1, q2, q3⟩ := List.pairwise_append.1 hQ
    obtain ⟨Z, z1, z2, z3⟩ := insS_ok K (P := P) (X := X) (S := r1) (a := a) (b := a + 20) ha (by omega) q1
    rw [z1]
    obtain ⟨r2, y1, y2, y3⟩ := ih (a + 20) (P ++ Z) r1 (by simp [z2.length_eq]; omega) (by omega) q2
    refine ⟨Z ++ r2, by rw [← List.append_assoc, y1, List.append_assoc], z2.append y2, .cons (by rw [z2.length_eq]; exact hX) z3 y3 fun x hx y hy => q3 x (z2.mem_iff.1 hx) y (y2.mem_iff.1 hy)⟩
  · rename_i h
    simp only [List.length_append] at h
    exact small a P r ha (by omega) hQ
theorem stS_ok (K : Keys lt R Q) {l : List α} (h : l.Pairwise Q) : (stS lt l).Pairwise R := by
 obtain ⟨r', h1, h2, h3⟩ := blkF_ok K l.length 0 [] l rfl (Nat.le_refl _) h
 rw [show ([] : List α) ++ l = l from rfl, List.nil_append] at h1
 unfold stS
 rw [h1]
 exact mrgF_ok K _ _ _ (by omega) (by rw [h2.length_eq]; omega) h3
end
def beforeB (x y : Blk) : Prop := x.at_ < y.at_ ∨ (x.at_ = y.at_ ∧ x.slot < y.slot)
def aheadB (x y : Blk) : Prop := x.slot < y.slot
theorem keysB : Keys ltB beforeB aheadB := by
 have hlt : ∀ x y : Blk, ltB x y = decide (x.at_ < y.at_) := fun x y => by
  unfold ltB cmpI
  split
  · simp [*]
  · split <;> simp [*]
 constructor
 · intro x y z h1 h2; unfold beforeB at *; omega
 · intro x y h1 h2; rw [hlt] at h2; unfold beforeB aheadB at *; simp at h2; omega
 · intro x y h1 h2; rw [hlt] at h2; unfold beforeB aheadB at *; simp at h2; omega
 · intro x y h1 h2; rw [hlt]; unfold beforeB aheadB at *; simp; omega
set_option maxHeartbeats 4000000
open Go.Awp
def covers (a : Spot) (x : Nat) : Prop := a.page ≤ (x : Int) ∧ (x : Int) < a.page + a.count
abbrev spotI (pages : Int) (l : List (Int × Int)) (i : Nat) : Spot := (spotS pages (nth l i)).1
structure Free (pages : Int) (l : List (Int × Int)) (i : Nat) : Prop where
 k : ∀ x : Nat, (x : Int) < pages → (∀ j, j < i → ¬ covers (spotI pages l j) x) → nth (stI pages l i).1 x = -1
 b : ∀ x c : Nat, x < 64 → (nth (stI pages l i).2 x).testBit c = true → ∃ j, j < i ∧ (spotI pages l j).small = true ∧ (spotI pages l j).page = x ∧ (spotI pages l j).cell = c
theorem fillF_ok {p : Nat} : ∀ {f j : Nat} {l : List Int}, (∀ t, j ≤ t → t < j + f → nth l (p + t) = -1) → p + j + f ≤ l.length → (fillF p f j l).1 = true
 | 0, j, l, _, _ => rfl
 | f + 1, j, l, h, hl => by
  rw [fillF_t (h j (by omega) (by omega))]
  exact fillF_ok (fun t h1 h2 => by rw [nth_set2 (by omega), if_neg (by omega)]; exact h t (by omega) (by omega)) (by simp; omega)
theorem bit_and {m c : Nat} (h : m.testBit c = false) : m &&& 2 ^ c = 0 := by
 apply Nat.eq_of_testBit_eq
 intro i
 rw [Nat.testBit_and, Nat.testBit_two_pow, Nat.zero_testBit]
 by_cases e : c = i
 · subst e; simp [h]
 · simp [e]
theorem lay_all {pages : Int} {l : List (Int × Int)} (h0 : 0 ≤ pages) (hp : pages ≤ 64) (hs : ∀ i, i < l.length → (spotS pages (nth l i)).2 = true)
    (ha : ∀ i j, i < j → j < l.length → apartS (spotI pages l i) (spotI pages l j)) : ∀ i, i ≤ l.length → (∀ j, j < i → okI pages l j = true) ∧ Free pages l i
 | 0, _ => ⟨fun j hj => by omega, fun x hx _ => by
     show nth (List.replicate pages.toNat (-1)) x = -1
     rw [nth_eq (by rw [List.length_replicate]; omega), List.getElem_replicate], fun x c hx hb => by
     exfalso
     have : nth (stI pages l 0).2 x = 0 := by
       show nth (List.replicate 64 0) x = 0
       rw [nth_eq (by rw [List.length_replicate]; omega), List.getElem_replicate]
     rw [this] at hb; simp at hb⟩
 | i + 1, hi => by
  obtain ⟨hok, hF⟩ := lay_all h0 hp hs ha i (by omega)
  have hsp := hs i (by omega)
  have hg := (spot_words hsp).good
  have hgj : ∀ j, j < i → GoodSpot pages (spotI pages l j) := fun j hj => (spot_words (hs j (by omega))).good
  have hold := laid_holds hp (pages := pages) (l := l) hok
  obtain ⟨l1, l2⟩ := stI_len (pages := pages) (l := l) (i := i)
  obtain ⟨b, hb⟩ : ∃ b, b = spotI pages l i := ⟨_, rfl⟩
  have hb' : (spotS pages (nth l i)).1 = b := hb.symm
  rw [hb'] at hg
  have hap : ∀ j, j < i → apartS (spotI pages l j) b := fun j hj => by rw [hb]; exact ha j i hj (by omega)
  have g0 := hg.p0
  have g1 := hg.c1
  have g2 := hg.p1
  have hpn : (b.page.toNat : Int) = b.page := by omega
  -- it is laid
  have hlay : (layS (stI pages l i).1 (stI pages l i).2 b.page.toNat b.count.toNat b.small b.cls b.cell.toNat).1 = true := by
   unfold layS
   cases hsm : b.small with
   | true =>
    obtain ⟨q1, q2, q3, q4, q5⟩ := hg.s1 hsm
    simp only [if_true]
    by_cases hex : ∃ j, j < i ∧ covers (spotI pages l j) b.page.toNat
    · obtain ⟨j, hj, hc⟩ := hex
      have hA := hap j hj
      unfold covers at hc
      rcases hA with ⟨a1, a2, a3, a4⟩ | hA | hA
      · have hgs := (hgj j hj).s1 a1
        have hpe : (spotI pages l j).page = b.page := by omega
        have hk := ((hold j hj).1 a1).1
        rw [show (spotS pages (nth l j)).1.page.toNat = b.page.toNat by rw [show (spotS pages (nth l j)).1.page = b.page from hpe]] at hk
        have hbit : (nth (stI pages l i).2 b.page.toNat).testBit b.cell.toNat = false := by
         cases hq : (nth (stI pages l i).2 b.page.toNat).testBit b.cell.toNat with
         | false => rfl
         | true =>
          exfalso
          obtain ⟨j2, hj2, r1, r2, r3⟩ := hF.b _ _ (by omega) hq
          rcases hap j2 hj2 with ⟨_, _, _, s4⟩ | s | s
          · omega
          · have := ((hgj j2 hj2).s1 r1).1; omega
          · omega
        rw [if_pos ⟨hk.trans a3, bit_and hbit⟩]
      · omega
      · omega
    · have hfree := hF.k b.page.toNat (by omega) (fun j hj hc => hex ⟨j, hj, hc⟩)
      rw [if_neg (fun h => by rw [hfree] at h; omega), if_pos hfree]
   | false =>
    simp only [Bool.false_eq_true, if_false]
    rw [if_pos (fillF_ok (fun t h1 h2 => hF.k _ (by omega) (fun j hj hc => by
      unfold covers at hc
      rcases hap j hj with ⟨_, a2, _⟩ | hA | hA
      · rw [hsm] at a2; cases a2
      · omega
      · omega)) (by omega))]
  have hoki : okI pages l i = true := by
   unfold okI layO
   rw [if_pos hsp, hb']
   exact hlay
  have hst : stI pages l (i + 1) = (layS (stI pages l i).1 (stI pages l i).2 b.page.toNat b.count.toNat b.small b.cls b.cell.toNat).2 := by
   rw [(okI_lay hoki).1, hb']
  refine ⟨fun j hj => ?_, ?_, ?_⟩
  · by_cases e : j = i
    · subst e; exact hoki
    · exact hok j (by omega)
  · intro x hx hc
    have hx1 : nth (stI pages l i).1 x = -1 := hF.k x hx (fun j hj => hc j (by omega))
    have hx2 : ¬ covers b x := by rw [hb]; exact hc i (by omega)
    unfold covers at hx2
    rw [hst]
    unfold layS at hlay ⊢
    cases hsm : b.small with
    | true =>
     obtain ⟨q1, _⟩ := hg.s1 hsm
     simp only [if_true]
     split
     · exact hx1
     · split
       · simp only; rw [nth_set2 (by omega), if_neg (by omega)]; exact hx1
       · exact hx1
    | false =>
     simp only [hsm, Bool.false_eq_true, if_false] at hlay ⊢
     by_cases hf : (fillF b.page.toNat b.count.toNat 0 (stI pages l i).1).1 = true
     · rw [if_pos hf]
       simp only
       rw [nth_set2 (by rw [fillF_len]; omega), if_neg (by omega), (fillF_spec hf (by omega)).2, if_neg (by omega)]; exact hx1
     · rw [if_neg hf] at hlay; cases hlay
  · intro x c hx hbit
    rw [hst] at hbit
    unfold layS at hlay hbit
    have old : (nth (stI pages l i).2 x).testBit c = true → ∃ j, j < i + 1 ∧ (spotI pages l j).small = true ∧ (spotI pages l j).page = x ∧ (spotI pages l j).cell = c := fun h => by
     obtain ⟨j, hj, r⟩ := hF.b x c hx h
     exact ⟨j, by omega, r⟩
    cases hsm : b.small with
    | true =>
     obtain ⟨q1, q2, q3, q4, q5⟩ := hg.s1 hsm
     have new : b.page.toNat = x → b.cell.toNat = c → ∃ j, j < i + 1 ∧ (spotI pages l j).small = true ∧ (spotI pages l j).page = x ∧ (spotI pages l j).cell = c := fun h1 h2 =>
      ⟨i, by omega, by rw [← hb]; exact hsm, by rw [← hb]; omega, by rw [← hb]; omega⟩
     simp only [hsm, if_true] at hbit
     split at hbit
     · simp only at hbit
       rw [nth_set2 (by omega)] at hbit
       split at hbit
       · rename_i e
         rw [Nat.testBit_or, Bool.or_eq_true] at hbit
         rcases hbit with h | h
         · exact old (by rw [← e]; exact h)
         · rw [Nat.testBit_two_pow] at h
           exact new e (by simpa using h)
       · exact old hbit
     · split at hbit
       · simp only at hbit
         rw [nth_set2 (by omega)] at hbit
         split at hbit
         · rename_i e
           rw [Nat.testBit_two_pow] at hbit
           exact new e (by simpa using hbit)
         · exact old hbit
       · exact old hbit
    | false =>
     simp only [hsm, Bool.false_eq_true, if_false] at hbit
     split at hbit <;> exact old hbit
theorem laid_iff {pages : Int} {l : List (Int × Int)} : (laidS pages l).isSome = true ↔ (0 ≤ pages ∧ pages ≤ 64) ∧ (∀ i, i < l.length → (spotS pages (nth l i)).2 = true) ∧ ∀ i j, i < j → j < l.length → apartS (spotI pages l i) (spotI pages l j) := by
 unfold laidS
 constructor
 · intro h
   split at h
   · rename_i h2
     simp only [Bool.and_eq_true, decide_eq_true_eq, List.all_eq_true, List.mem_range] at h2
     exact ⟨h2.1, fun i hi => okI_spot (h2.2 i hi), fun i j hij hj => laid_apart h2.1.2 (fun k hk => h2.2 k (by omega)) hij⟩
   · simp at h
 · rintro ⟨⟨h0, h1⟩, h2, h3⟩
   have := (lay_all h0 h1 h2 h3 l.length (Nat.le_refl _)).1
   rw [if_pos (by simp only [Bool.and_eq_true, decide_eq_true_eq, List.all_eq_true, List.mem_range]; exact ⟨⟨h0, h1⟩, this⟩)]
   rfl
open Go.Awp
def disjI (p q : Int × Int) : Prop := p.1 + p.2 ≤ q.1 ∨ q.1 + q.2 ≤ p.1
theorem gapsOk_iff {to : Int} : ∀ {l : List (Int × Int)} {a : Int}, l.Pairwise (fun p q => p.1 ≤ q.1) →
    (gapsOk to a l = true ↔ (∀ p ∈ l, a ≤ p.1 ∧ 4 ≤ p.2 ∧ p.1 + p.2 ≤ to ∧ p.1.tmod 4 = 0 ∧ p.2.tmod 4 = 0) ∧ l.Pairwise disjI)
 | [], a, _ => by simp [gapsOk]
 | p :: l, a, hs => by
  obtain ⟨s1, s2⟩ := List.pairwise_cons.1 hs
  have ih := gapsOk_iff (to := to) (l := l) (a := p.1 + p.2) s2
  simp only [gapsOk, Bool.and_eq_true, gapBad, Bool.not_eq_true', decide_eq_false_iff_not]
  rw [ih, List.pairwise_cons]
  constructor
  · rintro ⟨h1, h2, h3⟩
    refine ⟨fun q hq => ?_, fun q hq => .inl (h2 q hq).1, h3⟩
    rcases List.mem_cons.1 hq with rfl | hq
    · refine ⟨by omega, by omega, by omega, ?_, ?_⟩ <;> (have := h1; grind)
    · have := h2 q hq
      exact ⟨by omega, this.2⟩
  · rintro ⟨h1, h2, h3⟩
    have hp := h1 p (by simp)
    refine ⟨by omega, fun q hq => ?_, h3⟩
    have hq1 := h1 q (by simp [hq])
    have hq2 := h2 q hq
    have hq3 := s1 q hq
    unfold disjI at hq2
    exact ⟨by omega, hq1.2⟩
theorem nth_pair {α : Type} [Inhabited α] {R : α → α → Prop} {l : List α} : (∀ i j, i < j → j < l.length → R (nth l i) (nth l j)) ↔ l.Pairwise R := by
 rw [List.pairwise_iff_getElem]
 constructor
 · intro h i j hi hj hij
   have := h i j hij hj
   rwa [nth_eq hi, nth_eq hj] at this
 · intro h i j hij hj
   rw [nth_eq (by omega), nth_eq hj]
   exact h i j (by omega) hj hij
theorem nth_all {α : Type} [Inhabited α] {R : α → Prop} {l : List α} : (∀ i, i < l.length → R (nth l i)) ↔ ∀ x ∈ l, R x := by
 constructor
 · intro h x hx
   obtain ⟨i, hi, rfl⟩ := List.getElem_of_mem hx
   have := h i hi
   rwa [nth_eq hi] at this
 · intro h i hi
   exact h _ (nth_mem hi)
theorem range_pair {R : Nat → Nat → Prop} {n : Nat} : (List.range n).Pairwise R ↔ ∀ i j, i < j → j < n → R i j := by
 rw [List.pairwise_iff_getElem]
 simp only [List.length_range, List.getElem_range]
 exact ⟨fun h i j hij hj => h i j (by omega) hj hij, fun h i j hi hj hij => h i j hij hj⟩
def fitsS (s : Stt) (x : Slot) : Prop := if x.two = true then (spotS s.base (x.at_, x.len)).2 = true else s.base * 32 ≤ x.at_ ∧ x.at_.tmod 4 = 0 ∧ x.at_ + (needS x.len).1 ≤ s.sh.pages * 32
def clearS (base : Int) (x y : Slot) : Prop := (x.two = true → y.two = true → apartS (spotS base (x.at_, x.len)).1 (spotS base (y.at_, y.len)).1) ∧
 (x.two = false → y.two = false → disjI (x.at_, (needS x.len).1) (y.at_, (needS y.len).1))
theorem disjI_symm {p q : Int × Int} (h : disjI p q) : disjI q p := h.symm
theorem twos_all {R : Int × Int → Prop} {l : List Slot} : (∀ o ∈ twosO l, R o) ↔ ∀ i, i < l.length → isTwo (nth l i) = true → R ((nth l i).at_, (nth l i).len) := by
 simp only [twosO, twoIx, List.mem_map, List.mem_filter, List.mem_range]
 constructor
 · intro h i hi ht; exact h _ ⟨i, ⟨hi, ht⟩, rfl⟩
 · rintro h o ⟨i, ⟨hi, ht⟩, rfl⟩; exact h i hi ht
theorem twos_pair {R : Int × Int → Int × Int → Prop} {l : List Slot} : (twosO l).Pairwise R ↔ ∀ i j, i < j → j < l.length → isTwo (nth l i) = true → isTwo (nth l j) = true → R ((nth l i).at_, (nth l i).len) ((nth l j).at_, (nth l j).len) := by
 rw [twosO, List.pairwise_map, twoIx, List.pairwise_filter, range_pair]
 exact Iff.rfl
theorem onesR_all {R : Blk → Prop} {l : List Slot} : (∀ o ∈ onesR l, R o) ↔ ∀ i, i < l.length → isOne (nth l i) = true → R (blkAt l i) := by
 simp only [onesR, oneIx, List.mem_map, List.mem_filter, List.mem_range]
 constructor
 · intro h i hi ht; exact h _ ⟨i, ⟨hi, ht⟩, rfl⟩
 · rintro h o ⟨i, ⟨hi, ht⟩, rfl⟩; exact h i hi ht
theorem onesR_pair {R : Blk → Blk → Prop} {l : List Slot} : (onesR l).Pairwise R ↔ ∀ i j, i < j → j < l.length → isOne (nth l i) = true → isOne (nth l j) = true → R (blkAt l i) (blkAt l j) := by
 rw [onesR, List.pairwise_map, oneIx, List.pairwise_filter, range_pair]
theorem onesR_ahead {l : List Slot} : (onesR l).Pairwise aheadB := by
 rw [onesR_pair]
 intro i j hij _ _ _
 show (i : Int) < j
 omega
theorem onesS_sorted {l : List Slot} : (onesS l).Pairwise beforeB := stS_ok keysB onesR_ahead
theorem needS_quad {n : Int} (h : 1 ≤ n ∧ n ≤ 2048) : (needS n).1.tmod 4 = 0 := by
 unfold needS; rw [if_neg (by omega)]
 simp only [upS]
 rw [Int.tmod_eq_emod_of_nonneg]
 · omega
 · have : 0 ≤ (2 + (n + 8 - 1).tdiv 8 + 4 - 1).tdiv 4 := by
    rw [Int.tdiv_eq_ediv_of_nonneg (a := n + 8 - 1) (by omega), Int.tdiv_eq_ediv_of_nonneg (by omega)]; omega
   omega
theorem gaps_head {sh : Shape} {mode base : Int} (h : superS sh mode base = true) : gapsHead (base * 32) (sh.pages * 32) = true := by
 have := superS_b h
 simp only [gapsHead, decide_eq_true_eq]
 rw [Int.tmod_eq_emod_of_nonneg (by omega), Int.tmod_eq_emod_of_nonneg (by omega)]
 omega
def modeP (mode : Int) (x : Slot) : Prop := (mode = 1 → x.two = false) ∧ (mode = 2 → x.two = true)
theorem sttS_iff {s : Stt} : sttS s = true ↔ superS s.sh s.mode s.base = true ∧ rowsS s = true ∧ (∀ i, i < s.slots.length → (nth s.slots i).live = true → fitsS s (nth s.slots i) ∧ modeP s.mode (nth s.slots i)) ∧
    ∀ i j, i < j → j < s.slots.length → (nth s.slots i).live = true → (nth s.slots j).live = true → clearS s.base (nth s.slots i) (nth s.slots j) := by
 unfold sttS
 simp only [Bool.and_eq_true]
 constructor
 · rintro ⟨h1, h2, h3, h4, h5⟩
   obtain ⟨_, l2, l3⟩ := laid_iff.1 h3
   rw [nth_all (R := fun o => (spotS s.base o).2 = true), twos_all] at l2
   rw [nth_pair (R := fun o p => apartS (spotS s.base o).1 (spotS s.base p).1), twos_pair] at l3
   simp only [gapsS, Bool.and_eq_true] at h4
   have hsort : (spansS s.slots).Pairwise (fun p q => p.1 ≤ q.1) := by
    rw [spansS, List.pairwise_map]
    exact onesS_sorted.imp fun {x y} h => by unfold beforeB at h; show x.at_ ≤ y.at_; omega
   obtain ⟨g1, g2⟩ := (gapsOk_iff hsort).1 h4.2
   have g3 : ∀ b ∈ onesR s.slots, s.base * 32 ≤ b.at_ ∧ 4 ≤ b.len ∧ b.at_ + b.len ≤ s.sh.pages * 32 ∧ b.at_.tmod 4 = 0 ∧ b.len.tmod 4 = 0 := fun b hb =>
    g1 (spanOf b) (by rw [spansS]; exact List.mem_map_of_mem ((stS_perm (lt := ltB) _).mem_iff.2 hb))
   rw [onesR_all] at g3
   have g4 : (onesR s.slots).Pairwise (fun x y => disjI (spanOf x) (spanOf y)) := by
    rw [spansS, List.pairwise_map] at g2
    exact ((stS_perm (lt := ltB) _).pairwise_iff (fun h => disjI_symm h)).1 g2
   rw [onesR_pair] at g4
   refine ⟨h1, h2, fun i hi hl => ⟨?_, ?_⟩, fun i j hij hj hl1 hl2 => ⟨fun t1 t2 => l3 i j hij hj (by simp [isTwo, hl1, t1]) (by simp [isTwo, hl2, t2]), fun t1 t2 => g4 i j hij hj (by simp [isOne, hl1, t1]) (by simp [isOne, hl2, t2])⟩⟩
   · unfold fitsS
     split
     · rename_i ht; exact l2 i hi (by simp [isTwo, hl, ht])
     · rename_i ht
       have := g3 i hi (by simp [isOne, hl, ht])
       exact ⟨this.1, this.2.2.2.1, this.2.2.1⟩
   · unfold modeOk at h5
     constructor
     · intro hm
       rw [if_pos hm] at h5
       have : (twosO s.slots).length = 0 := by simpa using h5
       cases ht : (nth s.slots i).two with
       | false => rfl
       | true =>
        obtain ⟨a, ha, _⟩ := twos_at hi (show isTwo (nth s.slots i) = true by simp [isTwo, hl, ht])
        omega
     · intro hm
       rw [if_neg (by omega), if_pos hm] at h5
       have : (onesR s.slots).length = 0 := by
        have q := of_decide_eq_true h5
        rwa [spansS, List.length_map, onesS, nodup_of_stS] at q
       cases ht : (nth s.slots i).two with
       | true => rfl
       | false =>
        exfalso
        have hm : blkAt s.slots i ∈ onesR s.slots := by
         rw [onesR]; exact List.mem_map_of_mem (by simp only [oneIx, List.mem_filter, List.mem_range]; exact ⟨hi, by simp [isOne, hl, ht]⟩)
        rw [List.length_eq_zero_iff] at this
        rw [this] at hm; cases hm
 · rintro ⟨h1, h2, h3, h4⟩
   have ht := rowsS_t h2
   have hb := superS_b h1
   have live2 : ∀ {x : Slot}, isTwo x = true → x.live = true ∧ x.two = true := fun h => by simpa [isTwo] using h
   have live1 : ∀ {x : Slot}, isOne x = true → x.live = true ∧ x.two = false := fun h => by simpa [isOne] using h
   refine ⟨h1, h2, ?_, ?_, ?_⟩
   · refine laid_iff.2 ⟨by omega, ?_, ?_⟩
     · rw [nth_all (R := fun o => (spotS s.base o).2 = true), twos_all]
       intro i hi hx
       have := (h3 i hi (live2 hx).1).1
       unfold fitsS at this; rwa [if_pos (live2 hx).2] at this
     · rw [nth_pair (R := fun o p => apartS (spotS s.base o).1 (spotS s.base p).1), twos_pair]
       intro i j hij hj hx hy
       exact (h4 i j hij hj (live2 hx).1 (live2 hy).1).1 (live2 hx).2 (live2 hy).2
   · simp only [gapsS, Bool.and_eq_true]
     have hsort : (spansS s.slots).Pairwise (fun p q => p.1 ≤ q.1) := by
      rw [spansS, List.pairwise_map]
      exact onesS_sorted.imp fun {x y} h => by unfold beforeB at h; show x.at_ ≤ y.at_; omega
     refine ⟨gaps_head h1, (gapsOk_iff hsort).2 ⟨fun p hp => ?_, ?_⟩⟩
     · rw [spansS] at hp
       obtain ⟨b, hb', rfl⟩ := List.mem_map.1 hp
       obtain ⟨i, hi, hx, rfl⟩ := onesS_mem hb'
       have hf := (h3 i hi (live1 hx).1).1
       unfold fitsS at hf
       rw [if_neg (by simp [(live1 hx).2])] at hf
       have hs := slotS1_live (tableS_slot ht i hi) (live1 hx).1
       exact ⟨hf.1, needS_pos (by omega), hf.2.2, hf.2.1, needS_quad (by omega)⟩
     · rw [spansS, List.pairwise_map]
       refine ((stS_perm (lt := ltB) (onesR s.slots)).pairwise_iff (fun h => disjI_symm h)).2 ?_
       rw [onesR_pair]
       intro i j hij hj hx hy
       exact (h4 i j hij hj (live1 hx).1 (live1 hy).1).2 (live1 hx).2 (live1 hy).2
   · unfold modeOk
     split
     · rename_i hm
       rw [decide_eq_true_eq]
       have : ∀ o ∈ twosO s.slots, False := by
        rw [twos_all (R := fun _ => False)]
        intro i hi hx
        have := (h3 i hi (live2 hx).1).2.1 hm
        rw [(live2 hx).2] at this; cases this
       cases hq : twosO s.slots with
       | nil => rfl
       | cons o t => exact (this o (by simp [hq])).elim
     · split
       · rename_i hm
         rw [decide_eq_true_eq]
         have : ∀ o ∈ onesR s.slots, False := by
          rw [onesR_all (R := fun _ => False)]
          intro i hi hx
          have := (h3 i hi (live1 hx).1).2.2 hm
          rw [(live1 hx).2] at this; cases this
         have h0 : onesR s.slots = [] := by
          cases hq : onesR s.slots with
          | nil => rfl
          | cons o t => exact (this o (by simp [hq])).elim
         rw [spansS, List.length_map, onesS, nodup_of_stS, h0]; rfl
       · rfl
open Go.Awp
def openT (x : Slot) : Bool := !x.live && decide (x.gen ≠ 65535)
def sizedN (n : Int) : Bool := decide (1 ≤ n ∧ n ≤ 2048)
def nextF (l : List Slot) : Nat → Nat → Option Nat
 | 0, _ => none
 | f + 1, i => if openT (nth l i) = true then some i else nextF l f (i + 1)
def nextS (l : List Slot) : Option Nat := (List.range l.length).find? fun i => openT (nth l i)
@[simp high] theorem slice_rows3 {α : Type} {P : Program} {objs : List Awp.Obj} {t : TypeId} {k : Nat} {f : α → D} {l : List α} {lo : Option Int} {q : Int} : sliceA P objs t (.d (rows k f l)) lo (some q) (some q) = (match ty P t with
    | some { k := .slice e, .. } => match ty P e with
      | some T => if k = T.size ∧ 0 ≤ lo.getD 0 ∧ lo.getD 0 ≤ q ∧ q ≤ l.length then some (.cut k (((l.drop (lo.getD 0).toNat).take (q.toNat - (lo.getD 0).toNat)).map f)) else none
      | none => none
    | _ => none) := by
 unfold rows sliceA
 cases ty P t with
 | none => rfl
 | some T =>
  obtain ⟨sz, by', K, z⟩ := T
  cases K with
  | slice e =>
   simp only
   cases ty P e with
   | none => rfl
   | some T => simp
  | _ => rfl
set_option maxRecDepth 4000
open Go.Awp
open Go.Awp
theorem ct31 (g : Gl) (x y : List Int) (hx : x.length ≤ 2^40) : CtAt Tryz.prog g 31 [rI x, rI y] (.v (.bool (sameL (fun a b => a == b) x y))) := by
 refine ctAt_of_W Tryz.func31 rfl rfl (Nat.le_of_ble_eq_true rfl) fun B S => ?_
 refine xU ?_
 refine xO ?_
 refine xF [0,1] ?_
 refine W_seq (xU ?_)
 iterate 5 refine xO ?_
 refine xF [0,1,10] ?_
 refine W_cond rfl ?_ ?_
 · intro h10
   have hr : sameL (fun a b => a == b) x y = false := sameL_len (by simp at h10; omega)
   refine xU ?_
   refine xO ?_
   refine xF [4] ?_
   refine W_ret (xR (by simp [Tryz.f31]; exact .mk) ?_)
   simp [Tryz.f31, hr]
 intro h10
 have hxy : x.length = y.length := by simp at h10; omega
 refine W_skip ?_
 rintro -
 refine W_seq (xU ?_)
 refine xO ?_
 refine xF [0,1,5] ?_
 refine W_block (W_rounds (fun m σ o => ∃ i : Nat, m = x.length - i ∧ i ≤ x.length ∧ (∀ j, j < i → (fun a b => a == b) (nth x j) (nth y j) = true) ∧ σ = slots [(0, .d (rI x)), (1, .d (rI y)), (5, .d (vI i))] ∧ o = []) x.length .refl ⟨0, by simp, by simp, by simp, rfl, rfl⟩ ?_)
 rintro m σ o ⟨i, rfl, hi, hinv, rfl, rfl⟩ _
 refine W_seq (xU ?_)
 iterate 4 refine xO ?_
 refine xF [0,1,5,14] ?_
 refine W_cond rfl ?_ ?_
 · intro h14
   have h2 : i < x.length := by simpa using h14
   have h3 : i < y.length := by omega
   refine W_skip ?_
   rintro -
   refine W_seq (W_block ?_)
   refine W_seq ?_
   refine W_regD (by kernel_rfl) [] 4 [0,1,2,3,4,5,6,7,8] (by decide +kernel) ?_
   iterate 2 refine xO ?_
   refine xO ?_ (h := by simp [*]; exact .mk)
   iterate 3 refine xO ?_
   refine xO ?_ (h := by simp [*]; exact .mk)
   iterate 2 refine xO ?_
   refine xF [0,1,5,25] ?_
   refine W_cond rfl ?_ ?_
   · intro h25
     have hr : sameL (fun a b => a == b) x y = false := sameL_bad h2 (by simpa using h25)
     refine xU ?_
     refine xO ?_
     refine xF [4] ?_
     refine W_ret (xR (by simp [Tryz.f31]; exact .mk) ?_)
     simp [Tryz.f31, hr]
   intro h25
   refine W_skip ?_
   rintro -
   refine W_reg rfl ?_
   iterate 3 refine xO ?_
   refine xE [0,1,5] ?_
   refine rounds_kill [0,1,5] ?_
   refine rounds_next (m' := x.length - (i+1)) (by omega) ⟨i+1, rfl, by omega, ?_, ?_, rfl⟩
   · intro j hj
     rcases Nat.lt_succ_iff_lt_or_eq.1 hj with hj | rfl
     · exact hinv j hj
     simpa using h25
   rw [wrap64 (by omega) (by omega)]; rfl
 intro h14
 have hr : sameL (fun a b => a == b) x y = true := sameL_good hxy (fun j hj => hinv j (by simp at h14; omega))
 refine W_exit (xT ?_)
 refine xO ?_
 refine xF [4] ?_
 refine W_ret (xR (by simp [Tryz.f31]; exact .mk) ?_)
 simp [Tryz.f31, hr]

theorem ct82 (g : Gl) (x y : List (List UInt8)) (hx : x.length ≤ 2^40) : CtAt Tryz.prog g 82 [rBB x, rBB y] (.v (.bool (sameL (fun a b => (str a).toList == (str b).toList) x y))) := by
 refine ctAt_of_W Tryz.func82 rfl rfl (Nat.le_of_ble_eq_true rfl) fun B S => ?_
 refine xU ?_
 refine xO ?_
 refine xF [0,1] ?_
 refine W_seq (xU ?_)
 iterate 5 refine xO ?_
 refine xF [0,1,10] ?_
 refine W_cond rfl ?_ ?_
 · intro h10
   have hr : sameL (fun a b => (str a).toList == (str b).toList) x y = false := sameL_len (by simp at h10; omega)
   refine xU ?_
   refine xO ?_
   refine xF [4] ?_
   refine W_ret (xR (by simp [Tryz.f82]; exact .mk) ?_)
   simp [Tryz.f82, hr]
 intro h10
 have hxy : x.length = y.length := by simp at h10; omega
 refine W_skip ?_
 rintro -
 refine W_seq (xU ?_)
 refine xO ?_
 refine xF [0,1,5] ?_
 refine W_block (W_rounds (fun m σ o => ∃ i : Nat, m = x.length - i ∧ i ≤ x.length ∧ (∀ j, j < i → (fun a b => (str a).toList == (str b).toList) (nth x j) (nth y j) = true) ∧ σ = slots [(0, .d (rBB x)), (1, .d (rBB y)), (5, .d (vI i))] ∧ o = []) x.length .refl ⟨0, by simp, by simp, by simp, rfl, rfl⟩ ?_)
 rintro m σ o ⟨i, rfl, hi, hinv, rfl, rfl⟩ _
 refine W_seq (xU ?_)
 iterate 4 refine xO ?_
 refine xF [0,1,5,14] ?_
 refine W_cond rfl ?_ ?_
 · intro h14
   have h2 : i < x.length := by simpa using h14
   have h3 : i < y.length := by omega
   refine W_skip ?_
   rintro -
   refine W_seq (W_block ?_)
   refine W_seq ?_
   refine W_regD (by kernel_rfl) [] 4 [0,1,2,3,5,6,7,8,4,9,10] (by decide +kernel) ?_
   iterate 2 refine xO ?_
   refine xO ?_ (h := by simp [*]; exact .mk)
   iterate 3 refine xO ?_
   refine xO ?_ (h := by simp [*]; exact .mk)
   refine xO ?_
   iterate 2 (refine xO ?_ (h := by simp [conv_rB]; exact .mk))
   refine xO ?_
   refine xF [0,1,5,27] ?_
   refine W_cond rfl ?_ ?_
   · intro h27
     have hr : sameL (fun a b => (str a).toList == (str b).toList) x y = false := sameL_bad h2 (by simpa using h27)
     refine xU ?_
     refine xO ?_
     refine xF [4] ?_
     refine W_ret (xR (by simp [Tryz.f82]; exact .mk) ?_)
     simp [Tryz.f82, hr]
   intro h27
   refine W_skip ?_
   rintro -
   refine W_reg rfl ?_
   iterate 3 refine xO ?_
   refine xE [0,1,5] ?_
   refine rounds_kill [0,1,5] ?_
   refine rounds_next (m' := x.length - (i+1)) (by omega) ⟨i+1, rfl, by omega, ?_, ?_, rfl⟩
   · intro j hj
     rcases Nat.lt_succ_iff_lt_or_eq.1 hj with hj | rfl
     · exact hinv j hj
     simpa using h27
   rw [wrap64 (by omega) (by omega)]; rfl
 intro h14
 have hr : sameL (fun a b => (str a).toList == (str b).toList) x y = true := sameL_good hxy (fun j hj => hinv j (by simp at h14; omega))
 refine W_exit (xT ?_)
 refine xO ?_
 refine xF [4] ?_
 refine W_ret (xR (by simp [Tryz.f82]; exact .mk) ?_)
 simp [Tryz.f82, hr]

theorem ct81 (g : Gl) (x y : List Root) (hx : x.length ≤ 2^40) : CtAt Tryz.prog g 81 [rR x, rR y] (.v (.bool (sameL sameRoot x y))) := by
 refine ctAt_of_W Tryz.func81 rfl rfl (Nat.le_of_ble_eq_true rfl) fun B S => ?_
 refine xU ?_
 refine xO ?_
 refine xF [0,1] ?_
 refine W_seq (xU ?_)
 iterate 5 refine xO ?_
 refine xF [0,1,10] ?_
 refine W_cond rfl ?_ ?_
 · intro h10
   have hr : sameL sameRoot x y = false := sameL_len (by simp at h10; omega)
   refine xU ?_
   refine xO ?_
   refine xF [4] ?_
   refine W_ret (xR (by simp [Tryz.f81]; exact .mk) ?_)
   simp [Tryz.f81, hr]
 intro h10
 have hxy : x.length = y.length := by simp at h10; omega
 refine W_skip ?_
 rintro -
 refine W_seq (xU ?_)
 refine xO ?_
 refine xF [0,1,5] ?_
 refine W_block (W_rounds (fun m σ o => ∃ i : Nat, m = x.length - i ∧ i ≤ x.length ∧ (∀ j, j < i → sameRoot (nth x j) (nth y j) = true) ∧ σ = slots [(0, .d (rR x)), (1, .d (rR y)), (5, .d (vI i))] ∧ o = []) x.length .refl ⟨0, by simp, by simp, by simp, rfl, rfl⟩ ?_)
 rintro m σ o ⟨i, rfl, hi, hinv, rfl, rfl⟩ _
 refine W_seq (xU ?_)
 iterate 4 refine xO ?_
 refine xF [0,1,5,14] ?_
 refine W_cond rfl ?_ ?_
 · intro h14
   have h2 : i < x.length := by simpa using h14
   have h3 : i < y.length := by omega
   refine W_skip ?_
   rintro -
   refine W_seq (W_block ?_)
   refine W_seq ?_
   refine W_regD (by kernel_rfl) [] 4 [0,1,2,3,4,5,6,7,8] (by decide +kernel) ?_
   iterate 2 refine xO ?_
   refine xO ?_ (h := by simp [eRoot, *]; exact .mk)
   refine xO ?_ (h := by simp [eRoot]; exact .mk)
   iterate 2 refine xO ?_
   refine xO ?_ (h := by simp [eRoot, *]; exact .mk)
   refine xO ?_ (h := by simp [eRoot]; exact .mk)
   refine xO ?_
   refine xF [0,1,5,25] ?_
   refine W_cond rfl ?_ ?_
   · intro h25
     have hr : sameL sameRoot x y = false := sameL_bad h2 (and3_f h25)
     refine xU ?_
     refine xO ?_
     refine xF [4] ?_
     refine W_ret (xR (by simp [Tryz.f81]; exact .mk) ?_)
     simp [Tryz.f81, hr]
   intro h25
   refine W_skip ?_
   rintro -
   refine W_reg rfl ?_
   iterate 3 refine xO ?_
   refine xE [0,1,5] ?_
   refine rounds_kill [0,1,5] ?_
   refine rounds_next (m' := x.length - (i+1)) (by omega) ⟨i+1, rfl, by omega, ?_, ?_, rfl⟩
   · intro j hj
     rcases Nat.lt_succ_iff_lt_or_eq.1 hj with hj | rfl
     · exact hinv j hj
     exact and3_t h25
   rw [wrap64 (by omega) (by omega)]; rfl
 intro h14
 have hr : sameL sameRoot x y = true := sameL_good hxy (fun j hj => hinv j (by simp at h14; omega))
 refine W_exit (xT ?_)
 refine xO ?_
 refine xF [4] ?_
 refine W_ret (xR (by simp [Tryz.f81]; exact .mk) ?_)
 simp [Tryz.f81, hr]

open Go.Awp
theorem ct101 (g : Gl) (x y : List UInt8) : CtAt Tryz.prog g 101 [rB x, rB y] (.v (.bool ((str x).toList == (str y).toList))) := by
 refine ctAt_of_W Tryz.func101 rfl rfl (Nat.le_of_ble_eq_true rfl) fun B S => ?_
 refine xU ?_
 refine xO ?_
 refine xG [0,1] ?_
 refine xO ?_
 refine xO ?_ (h := by simp [conv_rB]; exact .mk)
 refine xO ?_
 refine xO ?_ (h := by simp [conv_rB]; exact .mk)
 iterate 2 refine xO ?_
 refine xF [4] ?_
 refine W_ret (xR (by simp [Tryz.f101]; exact .mk) ?_)
 simp [Tryz.f101]

theorem ct99 (g : Gl) (x y : List Root) (hx : x.length ≤ 2^40) : CtAt Tryz.prog g 99 [rR x, rR y] (.v (.bool (sameL sameRoot x y))) := by
 refine ctAt_of_W Tryz.func99 rfl rfl (Nat.le_of_ble_eq_true rfl) fun B S => ?_
 refine xU ?_
 refine xO ?_
 refine xF [0,1] ?_
 refine W_seq (xU ?_)
 iterate 5 refine xO ?_
 refine xF [0,1,10] ?_
 refine W_cond rfl ?_ ?_
 · intro h10
   have hr : sameL sameRoot x y = false := sameL_len (by simp at h10; omega)
   refine xU ?_
   refine xO ?_
   refine xF [4] ?_
   refine W_ret (xR (by simp [Tryz.f99]; exact .mk) ?_)
   simp [Tryz.f99, hr]
 intro h10
 have hxy : x.length = y.length := by simp at h10; omega
 refine W_skip ?_
 rintro -
 refine W_seq (xU ?_)
 iterate 3 refine xO ?_
 refine xF [0,1,12,13] ?_
 refine W_block (W_rounds (fun m σ o => ∃ i : Nat, m = x.length - i ∧ i ≤ x.length ∧ (∀ j, j < i → sameRoot (nth x j) (nth y j) = true) ∧ σ = slots [(0, .d (rR x)), (1, .d (rR y)), (12, .d (vI x.length)), (13, .d (vI i))] ∧ o = []) x.length .refl ⟨0, by simp, by simp, by simp, rfl, rfl⟩ ?_)
 rintro m σ o ⟨i, rfl, hi, hinv, rfl, rfl⟩ _
 refine xU ?_
 refine xO ?_
 refine xF [0,1,12,13,14] ?_
 refine W_seq (W_cond rfl ?_ ?_)
 · intro h14
   have h2 : i < x.length := by simpa using h14
   have h3 : i < y.length := by omega
   refine W_skip ?_
   rintro -
   refine W_seq (W_block ?_)
   refine xU ?_
   iterate 2 refine xO ?_
   refine xF [0,1,5,12,13] ?_
   refine W_seq ?_
   refine W_regD (by kernel_rfl) [] 4 [0,1,2,3,4,5,6,7,8] (by decide +kernel) ?_
   iterate 2 refine xO ?_
   refine xO ?_ (h := by simp [eRoot, *]; exact .mk)
   refine xO ?_ (h := by simp [eRoot]; exact .mk)
   iterate 2 refine xO ?_
   refine xO ?_ (h := by simp [eRoot, *]; exact .mk)
   refine xO ?_ (h := by simp [eRoot]; exact .mk)
   refine xO ?_
   refine xF [0,1,12,13,24] ?_
   refine W_cond rfl ?_ ?_
   · intro h24
     have hr : sameL sameRoot x y = false := sameL_bad h2 (by simp [sameRoot] at h24 ⊢; grind)
     refine xU ?_
     refine xO ?_
     refine xF [4] ?_
     refine W_ret (xR (by simp [Tryz.f99]; exact .mk) ?_)
     simp [Tryz.f99, hr]
   intro h24
   refine W_skip ?_
   rintro -
   refine W_reg rfl ?_
   iterate 2 refine xO ?_
   refine xE [0,1,12,13] ?_
   refine rounds_kill [0,1,12,13] ?_
   refine rounds_next (m' := x.length - (i+1)) (by omega) ⟨i+1, rfl, by omega, ?_, ?_, rfl⟩
   · intro j hj
     rcases Nat.lt_succ_iff_lt_or_eq.1 hj with hj | rfl
     · exact hinv j hj
     simp [sameRoot] at h24 ⊢; grind
   rw [wrap64 (by omega) (by omega)]; rfl
 intro h14
 have hr : sameL sameRoot x y = true := sameL_good hxy (fun j hj => hinv j (by simp at h14; omega))
 refine W_exit (xT ?_)
 refine xO ?_
 refine xF [4] ?_
 refine W_ret (xR (by simp [Tryz.f99]; exact .mk) ?_)
 simp [Tryz.f99, hr]

theorem in100 (g : Gl) (objs : List Awp.Obj) (x y : List (List UInt8)) (hx : x.length ≤ 2^40) : ∀ B S, CallsA Tryz.prog g B S ⟨objs.length, true⟩ 100 [.d (rBB x), .d (rBB y), .fn (.func 101) [] []] objs
    (fun a o => a = .d (.v (.bool (sameL (fun a b => (str a).toList == (str b).toList) x y))) ∧ o = objs) := by
 refine callsA_at Tryz.func100 rfl (Nat.le_of_ble_eq_true rfl) fun B S => ?_
 refine xU ?_
 refine xO ?_
 refine xF [0,1,2] ?_
 refine W_seq (xU ?_)
 iterate 5 refine xO ?_
 refine xF [0,1,2,14] ?_
 refine W_cond rfl ?_ ?_
 · intro h14
   have hr : sameL (fun a b => (str a).toList == (str b).toList) x y = false := sameL_len (by simp at h14; omega)
   refine xU ?_
   refine xO ?_
   refine xF [6] ?_
   refine W_ret (endAt_ret (by simp [Tryz.f100]; exact .mk) ?_ ?_)
   · simp [hr]
   rfl
 intro h14
 have hxy : x.length = y.length := by simp at h14; omega
 refine W_skip ?_
 rintro -
 refine W_seq (xU ?_)
 iterate 3 refine xO ?_
 refine xF [1,2,15,16,17] ?_
 refine W_block (W_rounds (fun m σ o => ∃ i : Nat, m = x.length - i ∧ i ≤ x.length ∧ (∀ j, j < i → (fun a b => (str a).toList == (str b).toList) (nth x j) (nth y j) = true) ∧ σ = slots [(1, .d (rBB y)), (2, .fn (.func 101) [] []), (15, .d (rBB x)), (16, .d (vI x.length)), (17, .d (vI i))] ∧ o = objs) x.length .refl ⟨0, by simp, by simp, by simp, rfl, rfl⟩ ?_)
 rintro m σ o ⟨i, rfl, hi, hinv, rfl, rfl⟩ _
 refine xU ?_
 refine xO ?_
 refine xF [1,2,15,16,17,18] ?_
 refine W_seq (W_cond rfl ?_ ?_)
 · intro h18
   have h2 : i < x.length := by simpa using h18
   have h3 : i < y.length := by omega
   refine W_skip ?_
   rintro -
   refine W_seq (W_block ?_)
   refine xU ?_
   refine xO ?_
   refine xO ?_ (h := by simp [*]; exact .mk)
   iterate 3 refine xO ?_
   refine xG [1,2,7,8,15,16,17] ?_
   iterate 2 refine xO ?_
   refine xO ?_ (h := by simp [*]; exact .mk)
   iterate 2 refine xO ?_
   refine xG [1,2,8,9,15,16,17] ?_
   iterate 3 refine xO ?_
   refine xC (ct101 g _ _) ?_
   refine xO ?_
   refine xF [1,2,15,16,17,30] ?_
   refine W_cond rfl ?_ ?_
   · intro h30
     have hr : sameL (fun a b => (str a).toList == (str b).toList) x y = false := sameL_bad h2 (by simpa using h30)
     refine xU ?_
     refine xO ?_
     refine xF [6] ?_
     refine W_ret (endAt_ret (by simp [Tryz.f100]; exact .mk) ?_ ?_)
     · simp [hr]
     rfl
   intro h30
   refine W_skip ?_
   rintro -
   refine W_reg rfl ?_
   iterate 2 refine xO ?_
   refine xE [1,2,15,16,17] ?_
   refine rounds_kill [1,2,15,16,17] ?_
   refine rounds_next (m' := x.length - (i+1)) (by omega) ⟨i+1, rfl, by omega, ?_, ?_, rfl⟩
   · intro j hj
     rcases Nat.lt_succ_iff_lt_or_eq.1 hj with hj | rfl
     · exact hinv j hj
     simpa using h30
   rw [wrap64 (by omega) (by omega)]; rfl
 intro h18
 have hr : sameL (fun a b => (str a).toList == (str b).toList) x y = true := sameL_good hxy (fun j hj => hinv j (by simp at h18; omega))
 refine W_exit (xT ?_)
 refine xO ?_
 refine xF [6] ?_
 refine W_ret (endAt_ret (by simp [Tryz.f100]; exact .mk) ?_ ?_)
 · simp [hr]
 rfl

open Go.Awp
theorem ct77 (g : Gl) (l : List Root) (hl : l.length ≤ 2^40) : CtAt Tryz.prog g 77 [rR l] (oR l) := by
 refine ctAt_of_W Tryz.func77 rfl rfl (Nat.le_of_ble_eq_true rfl) fun B S => ?_
 refine xU ?_
 refine xO ?_
 refine xF [0] ?_
 refine W_seq (W_seq ?_)
 refine W_region rfl (WR_cut (hard := []) [0] [1] ?_)
 refine xO ?_
 refine xE [0,3] ?_
 refine WR_nilcmp rfl rfl rfl (.inl rfl) rfl ⟨_, Tryz.underlying25⟩ (by simp; rfl) ?_
 intro nb hnb
 refine WR_run (hard := []) ?_
 refine xF [0,4] ?_
 refine W_cond rfl ?_ ?_
 · intro h4
   have hl0 : l = [] := List.eq_nil_of_length_eq_zero (hnb (by simpa using h4))
   subst hl0
   refine xU ?_
   refine xO ?_
   refine xF [2] ?_
   refine W_ret (xR (by simp [Tryz.f77]; exact .mk) ?_)
   simp [Tryz.f77, ownR]
 intro h4
 refine W_skip ?_
 rintro -
 refine W_seq ?_
 have e1 : l.length * 32 ≤ 140737488355328 := by omega
 have e2 : l.length ≤ 140737488355328 := by omega
 have e3 : l.length * 8 ≤ 140737488355328 := by omega
 refine W_reg rfl ?_
 iterate 2 refine xO ?_
 refine xO ?_ (h := by simp [rows, e1, e2, e3]; exact .mk)
 refine xO ?_
 refine xF [2] ?_
 refine W_ret (xR (by simp [Tryz.f77]; exact .mk) ?_)
 simp [Tryz.f77, ownR]

theorem ct79 (g : Gl) (l : List UInt8) (hl : l.length ≤ 2^40) : CtAt Tryz.prog g 79 [rB l] (oB l) := by
 refine ctAt_of_W Tryz.func79 rfl rfl (Nat.le_of_ble_eq_true rfl) fun B S => ?_
 refine xU ?_
 refine xO ?_
 refine xF [0] ?_
 refine W_seq (W_seq ?_)
 refine W_region rfl (WR_cut (hard := []) [0] [1] ?_)
 refine xO ?_
 refine xE [0,3] ?_
 refine WR_nilcmp rfl rfl rfl (.inl rfl) rfl ⟨_, Tryz.underlying71⟩ (by simp; rfl) ?_
 intro nb hnb
 refine WR_run (hard := []) ?_
 refine xF [0,4] ?_
 refine W_cond rfl ?_ ?_
 · intro h4
   have hl0 : l = [] := List.eq_nil_of_length_eq_zero (hnb (by simpa using h4))
   subst hl0
   refine xU ?_
   refine xO ?_
   refine xF [2] ?_
   refine W_ret (xR (by simp [Tryz.f79]; exact .mk) ?_)
   simp [Tryz.f79, ownR]
 intro h4
 refine W_skip ?_
 rintro -
 refine W_seq ?_
 have e1 : l.length * 32 ≤ 140737488355328 := by omega
 have e2 : l.length ≤ 140737488355328 := by omega
 have e3 : l.length * 8 ≤ 140737488355328 := by omega
 refine W_reg rfl ?_
 iterate 2 refine xO ?_
 refine xO ?_ (h := by simp [rows, e1, e2, e3]; exact .mk)
 refine xO ?_
 refine xF [2] ?_
 refine W_ret (xR (by simp [Tryz.f79]; exact .mk) ?_)
 simp [Tryz.f79, ownR]

open Go.Awp
open Go.Awp
open Go.Awp
open Go.Awp
@[simp] theorem eqOk23 : eqOk Tryz.prog 23 = true := by kernel_rfl
def sameShape (a b : Shape) : Bool := a.pages == b.pages && (a.slots == b.slots && (a.roots == b.roots && a.room == b.room))
def sameSlot (a b : Slot) : Bool := a.gen == b.gen && (a.live == b.live && (a.two == b.two && (a.at_ == b.at_ && a.len == b.len)))
def sameB (x y : List (List UInt8)) : Bool := sameL (fun x y => (str x).toList == (str y).toList) x y
def sameStt (a b : Stt) : Bool := sameShape a.sh b.sh && (a.mode == b.mode && (a.base == b.base && (sameL sameSlot a.slots b.slots && (sameL sameRoot a.roots b.roots && sameB a.data b.data))))

theorem sameStt_refl (a : Stt) : sameStt a a = true := by
 simp only [sameStt, sameB, sameShape]
 rw [sameL_refl (fun s => by simp [sameSlot]), sameL_refl (fun s => by simp [sameRoot]), sameL_refl (fun s => by simp)]
 simp
def okMode (mode : Int) : Bool := decide (mode = 1 ∨ mode = 2)
def newR (sh : Shape) (mode : Int) : Stt × Int := if shapeS sh && okMode mode then (firstStt sh mode, 0) else (zStt, 1)
open Go.Awp
theorem ct98 (g : Gl) (x y : List Slot) (hx : x.length ≤ 2^40) : CtAt Tryz.prog g 98 [rSl x, rSl y] (.v (.bool (sameL sameSlot x y))) := by
 refine ctAt_of_W Tryz.func98 rfl rfl (Nat.le_of_ble_eq_true rfl) fun B S => ?_
 refine xU ?_
 refine xO ?_
 refine xF [0,1] ?_
 refine W_seq (xU ?_)
 iterate 5 refine xO ?_
 refine xF [0,1,10] ?_
 refine W_cond rfl ?_ ?_
 · intro h10
   have hr : sameL sameSlot x y = false := sameL_len (by simp at h10; omega)
   refine xU ?_
   refine xO ?_
   refine xF [4] ?_
   refine W_ret (xR (by simp [Tryz.f98]; exact .mk) ?_)
   simp [Tryz.f98, hr]
 intro h10
 have hxy : x.length = y.length := by simp at h10; omega
 refine W_skip ?_
 rintro -
 refine W_seq (xU ?_)
 iterate 3 refine xO ?_
 refine xF [0,1,12,13] ?_
 refine W_block (W_rounds (fun m σ o => ∃ i : Nat, m = x.length - i ∧ i ≤ x.length ∧ (∀ j, j < i → sameSlot (nth x j) (nth y j) = true) ∧ σ = slots [(0, .d (rSl x)), (1, .d (rSl y)), (12, .d (vI x.length)), (13, .d (vI i))] ∧ o = []) x.length .refl ⟨0, by simp, by simp, by simp, rfl, rfl⟩ ?_)
 rintro m σ o ⟨i, rfl, hi, hinv, rfl, rfl⟩ _
 refine xU ?_
 refine xO ?_
 refine xF [0,1,12,13,14] ?_
 refine W_seq (W_cond rfl ?_ ?_)
 · intro h14
   have h2 : i < x.length := by simpa using h14
   have h3 : i < y.length := by omega
   refine W_skip ?_
   rintro -
   refine W_seq (W_block ?_)
   refine xU ?_
   iterate 2 refine xO ?_
   refine xF [0,1,5,12,13] ?_
   refine W_seq ?_
   refine W_regD (by kernel_rfl) [] 4 [0,1,2,3,4,5,6,7,8] (by decide +kernel) ?_
   iterate 2 refine xO ?_
   refine xO ?_ (h := by simp [eSlot, *]; exact .mk)
   refine xO ?_ (h := by simp [eSlot]; exact .mk)
   iterate 2 refine xO ?_
   refine xO ?_ (h := by simp [eSlot, *]; exact .mk)
   refine xO ?_ (h := by simp [eSlot]; exact .mk)
   refine xO ?_
   refine xF [0,1,12,13,24] ?_
   refine W_cond rfl ?_ ?_
   · intro h24
     have hr : sameL sameSlot x y = false := sameL_bad h2 (by simp [sameSlot] at h24 ⊢; grind)
     refine xU ?_
     refine xO ?_
     refine xF [4] ?_
     refine W_ret (xR (by simp [Tryz.f98]; exact .mk) ?_)
     simp [Tryz.f98, hr]
   intro h24
   refine W_skip ?_
   rintro -
   refine W_reg rfl ?_
   iterate 2 refine xO ?_
   refine xE [0,1,12,13] ?_
   refine rounds_kill [0,1,12,13] ?_
   refine rounds_next (m' := x.length - (i+1)) (by omega) ⟨i+1, rfl, by omega, ?_, ?_, rfl⟩
   · intro j hj
     rcases Nat.lt_succ_iff_lt_or_eq.1 hj with hj | rfl
     · exact hinv j hj
     simp [sameSlot] at h24 ⊢; grind
   rw [wrap64 (by omega) (by omega)]; rfl
 intro h14
 have hr : sameL sameSlot x y = true := sameL_good hxy (fun j hj => hinv j (by simp at h14; omega))
 refine W_exit (xT ?_)
 refine xO ?_
 refine xF [4] ?_
 refine W_ret (xR (by simp [Tryz.f98]; exact .mk) ?_)
 simp [Tryz.f98, hr]

theorem ct76 (g : Gl) (l : List Slot) (hl : l.length ≤ 2^40) : CtAt Tryz.prog g 76 [rSl l] (oSl l) := by
 refine ctAt_of_W Tryz.func76 rfl rfl (Nat.le_of_ble_eq_true rfl) fun B S => ?_
 refine xU ?_
 refine xO ?_
 refine xF [0] ?_
 refine W_seq (W_seq ?_)
 refine W_region rfl (WR_cut (hard := []) [0] [1] ?_)
 refine xO ?_
 refine xE [0,3] ?_
 refine WR_nilcmp rfl rfl rfl (.inl rfl) rfl ⟨_, Tryz.underlying24⟩ (by simp; rfl) ?_
 intro nb hnb
 refine WR_run (hard := []) ?_
 refine xF [0,4] ?_
 refine W_cond rfl ?_ ?_
 · intro h4
   have hl0 : l = [] := List.eq_nil_of_length_eq_zero (hnb (by simpa using h4))
   subst hl0
   refine xU ?_
   refine xO ?_
   refine xF [2] ?_
   refine W_ret (xR (by simp [Tryz.f76]; exact .mk) ?_)
   simp [Tryz.f76, ownR]
 intro h4
 refine W_skip ?_
 rintro -
 refine W_seq ?_
 have e1 : l.length * 32 ≤ 140737488355328 := by omega
 have e2 : l.length ≤ 140737488355328 := by omega
 refine W_reg rfl ?_
 iterate 2 refine xO ?_
 refine xO ?_ (h := by simp [rows, e1, e2]; exact .mk)
 refine xO ?_
 refine xF [2] ?_
 refine W_ret (xR (by simp [Tryz.f76]; exact .mk) ?_)
 simp [Tryz.f76, ownR]

theorem in78q (g : Gl) (o0 o1 o2 o3 : Awp.Obj) (l : List (List UInt8)) (hl : l.length ≤ 2^40) : ∀ B S, CallsA Tryz.prog g B S ⟨4, true⟩ 78 [.d (rBB l)] [o0, o1, o2, o3]
    (fun x r => x = .hdr 5 0 l.length ∧ r = [o0, o1, o2, o3, .dead, .row 1 (l.map rB)]) := by
 refine callsA_at Tryz.func78 rfl (Nat.le_of_ble_eq_true rfl) fun B S => ?_
 refine xU ?_
 refine xO ?_
 refine xF [0] ?_
 refine W_seq (W_seq ?_)
 refine W_region rfl (WR_cut (hard := []) [0] [1] ?_)
 refine xO ?_
 refine xE [0,3] ?_
 refine WR_nilcmp rfl rfl rfl (.inl rfl) rfl ⟨_, Tryz.underlying26⟩ (by simp; rfl) ?_
 intro nb hnb
 refine WR_run (hard := []) ?_
 refine xF [0,4] ?_
 refine W_cond rfl ?_ ?_
 · intro h4
   have hl0 : l = [] := List.eq_nil_of_length_eq_zero (hnb (by simpa using h4))
   subst hl0
   refine xU ?_
   refine xO ?_
   refine xE [2] ?_
   refine then_weak Weak.pad ?_
   refine then_weak (s2 := slots [(2, .hdr 5 0 0), (2, .d (.v (.slice none 0 0)))]) (objs2 := [o0, o1, o2, o3, .dead, .row 1 []]) (Weak.nilRow 2 1 rfl) ?_
   rintro -
   refine W_ret (endAt_ret (by simp [Tryz.f78]; exact .mk) ?_ ?_)
   · simp
   simp
 intro h4
 refine W_skip ?_
 rintro -
 refine W_seq ?_
 have e1 : l.length * 24 ≤ 140737488355328 := by omega
 have e2 : l.length ≤ 140737488355328 := by omega
 refine W_reg rfl ?_
 iterate 2 refine xO ?_
 refine xO ?_ (h := by simp [rows, e1, e2]; exact .mk)
 refine xO ?_
 refine xF [2] ?_
 refine W_ret (endAt_ret (by simp [Tryz.f78]; exact .mk) ?_ ?_)
 · simp
 simp

theorem ct34 (g : Gl) (s t : Stt) (hs : s.Ok) : CtAt Tryz.prog g 34 [eStt s, eStt t] (.v (.bool (sameStt s t))) := by
 refine ctAt_of_W Tryz.func34 rfl rfl (Nat.le_of_ble_eq_true rfl) fun B S => ?_
 simp only [eStt, List.map, argD_agg]
 refine xU ?_
 iterate 3 refine xO ?_
 refine xG [2,3] ?_
 iterate 6 refine xO ?_
 iterate 5 refine xI ?_
 refine xP ?_
 refine xB ?_
 iterate 5 refine xI ?_
 refine xP ?_
 refine xB ?_
 refine xG [2,3,5] ?_
 iterate 2 refine xO ?_
 iterate 4 refine xI ?_
 refine run_call rfl (by simp; exact .mk) rfl rfl (by simp) (by simp; exact .mk) (by simp; exact .mk) (fun hb => ct98 g _ _ hs.h1) (by simp) (by simp; exact .mk) (by simp) ?_
 refine xP ?_
 refine xB ?_
 iterate 4 refine xI ?_
 refine run_call rfl (by simp; exact .mk) rfl rfl (by simp) (by simp; exact .mk) (by simp; exact .mk) (fun hb => ct99 g _ _ hs.h2) (by simp) (by simp; exact .mk) (by simp) ?_
 refine xP ?_
 refine xB ?_
 iterate 4 refine xI ?_
 refine run_inlG rfl (by simp; exact .mk) rfl rfl (by simp) (by simp; exact .mk) ⟨_, Tryz.func100, rfl, rfl⟩ (fun hb => in100 g _ _ _ hs.h3) ?_
 refine xP ?_
 refine xB ?_
 refine xF [4] ?_
 refine W_ret (xR (by simp [Tryz.f34]; exact .mk) ?_)
 simp [Tryz.f34, sameShape, sameStt, sameB, Bool.and_assoc]

theorem ct24 (g : Gl) (s : Stt) (hs : s.Ok) : CtAt Tryz.prog g 24 [eStt s] (oStt s) := by
 refine ctAt_of_W Tryz.func24 rfl rfl (Nat.le_of_ble_eq_true rfl) fun B S => ?_
 simp only [eStt, List.map, argD_agg]
 refine xU ?_
 iterate 2 refine xO ?_
 refine xF [1,2] ?_
 refine W_seq ?_
 refine W_regD (by kernel_rfl) [] 4 [0,1,3,4,6,7,2,9,5,8,10,11,12,13,14] (by decide +kernel) ?_
 iterate 6 refine xO ?_
 refine xC (ct76 g _ hs.h1) ?_
 refine xO ?_
 refine xC (ct77 g _ hs.h2) ?_
 refine run_inl0 rfl rfl rfl rfl (by simp; exact .mk) ⟨_, Tryz.func78, rfl, rfl⟩ (in78q g _ _ _ _ s.data hs.h3) (.inr ⟨_, rfl⟩) ?_
 refine xO ?_ (h := by simp [splice]; exact .mk)
 refine xO ?_
 refine xO ?_ (h := by simp [splice]; exact .mk)
 refine xO ?_
 refine xO ?_ (h := by simp [splice]; exact .mk)
 refine xF [1,2] ?_
 refine W_seq (xU ?_)
 iterate 4 refine xO ?_
 refine xF [1,2,18,19] ?_
 refine W_block (W_rounds (fun m σ r => ∃ i : Nat, m = s.data.length - i ∧ i ≤ s.data.length ∧ σ = slots [(1, .ptr 0 0 0), (2, .ptr 1 0 0), (18, .d (vI s.data.length)), (19, .d (vI i))] ∧ r = [.var 28 [.d (vI s.sh.pages), .d (vI s.sh.slots), .d (vI s.sh.roots), .d (vI s.sh.room), .d (vI s.mode), .d (vI s.base), .hdr 2 0 s.slots.length, .hdr 3 0 s.roots.length, .hdr 5 0 s.data.length], .var 28 [.d (vI 0), .d (vI 0), .d (vI 0), .d (vI 0), .d (vI 0), .d (vI 0), .d (.v (.slice none 0 0)), .d (.v (.slice none 0 0)), .d (.v (.slice none 0 0))], .row 5 (s.slots.map eSlot), .row 3 (s.roots.map eRoot), .dead, .row 1 (mixB i s.data)]) s.data.length .refl ⟨0, by simp, by simp, rfl, by rw [mixB_zero]⟩ ?_)
 have q2 := hs.h3
 rintro m σ r ⟨i, rfl, hi, rfl, rfl⟩ _
 refine xU ?_
 refine xO ?_
 refine xF [1,2,18,19,20] ?_
 refine W_seq (W_cond rfl ?_ ?_)
 · intro h20
   have hi2 : i < s.data.length := by simpa using h20
   refine W_skip ?_
   rintro -
   refine W_seq (W_block ?_)
   refine xU ?_
   iterate 2 refine xO ?_
   refine xF [1,2,3,18,19] ?_
   refine W_regD (by kernel_rfl) [] 4 [0,1,2,3,4,5,6,7,8,9,10] (by decide +kernel) ?_
   iterate 6 refine xO ?_
   refine xO ?_ (h := by simp [hi2]; exact .mk)
   refine xO ?_ (h := by simp [-List.getElem?_map, mixB_get hi2]; exact .mk)
   refine xC (ct79 g _ (hs.h4 i hi2)) ?_
   refine xO ?_ (h := by simp [hi2]; exact .mk)
   refine xO ?_ (h := by simp [splice, -List.getElem?_map, mixB_get hi2, nrmL, nrm, putC]; exact .mk)
   refine xF [1,2,18,19] ?_
   refine W_reg rfl ?_
   iterate 2 refine xO ?_
   refine xE [1,2,18,19] ?_
   refine rounds_drop 6 [1,2,18,19] (by simp) (by simp [boxA, AV.cells, AV.isCell]) (by simp [boxA, AV.cells, AV.isCell]) ?_
   refine rounds_next (m' := s.data.length - (i+1)) (by omega) ⟨i+1, rfl, by omega, ?_, ?_⟩
   · rw [wrap64 (by omega) (by omega)]; rfl
   rw [← mixB_set hi2]; simp; rfl
 intro h20
 obtain rfl : i = s.data.length := by simp at h20; omega
 rw [mixB_all]
 refine W_exit (xT ?_)
 refine xO ?_
 refine xO ?_ (h := by simp [splice]; exact .mk)
 refine xF [2] ?_
 refine W_ret (end_ret (by simp [Tryz.f24]; exact .mk) (by simp; exact .mk) ?_ (by simp [oStt]))
 simp [Tryz.f24, oStt, ownR]

open Go.Awp
def liveT (l : List Slot) (k : Int) : Bool := decide (0 ≤ k) && (decide (k < l.length) && (nth l k.toNat).live)
def liveS (s : Stt) (k : Int) : Bool := sttS s && liveT s.slots k
def goneS (x : Slot) : Slot := ⟨if 65535 < x.gen + 1 then 65535 else x.gen + 1, false, false, 0, 0⟩
def freeT (l : List Slot) (k : Int) : List Slot × Int := if tableS l = true ∧ liveT l k = true then (l.set k.toNat (goneS (nth l k.toNat)), 0) else ([], 1)
def atS (x : Slot) (two : Bool) (at_ : Int) : Slot := { x with two := two, at_ := at_ }
def layAt (s : Stt) (k : Nat) (two : Bool) (at_ : Int) : Stt := { s with slots := s.slots.set k (atS (nth s.slots k) two at_) }
theorem sttS_rowsS {s : Stt} (h : sttS s = true) : rowsS s = true := (sttS_iff.1 h).2.1
def takeAt (s : Stt) (n : Nat) : Stt := { s with slots := s.slots.set n (goneS (nth s.slots n)), data := s.data.set n [] }
def takeS (s : Stt) (k : Int) : Stt × Int := if liveS s k = true then (takeAt s k.toNat, 0) else (zStt, 1)
def moveS (s : Stt) (k : Int) (two : Bool) (at_ : Int) : Stt × Int := if liveS s k = true then (if sttS (layAt s k.toNat two at_) = true then (layAt s k.toNat two at_, 0) else (zStt, 10)) else (zStt, 1)
def tookS (x : Slot) (gen : Int) : Slot := { x with live := true, gen := gen }
def takeT (l : List Slot) (x : Slot) : List Slot × (Int × Int) × Int := if tableS l = true then (match nextS l with
  | none => ([], (0, 0), 9)
  | some k => if slotS1 (tookS x (nth l k).gen) = true then (l.set k (tookS x (nth l k).gen), ((k : Int), (nth l k).gen), 0) else ([], (0, 0), 1)) else ([], (0, 0), 1)
open Go.Awp
open Go.Awp
open Go.Awp
def betterS (p q : Int × Int) : Bool := decide (p.2 < q.2) || (decide (p.2 = q.2) && decide (p.1 < q.1))
def bestStep (size : Int) (o : Option (Int × Int)) (p : Int × Int) : Option (Int × Int) := if decide (size ≤ p.2) && (!o.isSome || betterS p (o.getD (0, 0))) then some p else o
def bestS (l : List (Int × Int)) (size : Int) : Option (Int × Int) := l.foldl (bestStep size) none
open Go.Awp
open Go.Awp
def cellsS (c : Int) : Int × Int := if c < 0 ∨ 6 ≤ c then (0, 1) else ((28 : Int).tdiv (nth wordsL c.toNat), 0)
def cellS (c k : Int) : Int × Int := if c < 0 ∨ 6 ≤ c ∨ k < 0 ∨ (cellsS c).1 ≤ k then (0, 1) else (4 + k * nth wordsL c.toNat, 0)
def gapE (a b : Int) : List (Int × Int) := if a < b then [(a, b - a)] else []
def gapsF (to : Int) : Int → List (Int × Int) → List (Int × Int)
 | a, [] => gapE a to
 | a, p :: l => gapE a p.1 ++ gapsF to (p.1 + p.2) l
open Go.Awp
theorem gapBad_f {to a : Int} {p : Int × Int} (h : gapBad to a p = false) : a ≤ p.1 ∧ p.1 ≤ to ∧ 4 ≤ p.2 ∧ p.2 ≤ to - p.1 ∧ p.1.tmod 4 = 0 ∧ p.2.tmod 4 = 0 := by
 simp only [gapBad, decide_eq_false_iff_not, not_or, Decidable.not_not] at h
 omega
def oneS (s : Stt) (n : Int) : Option Int := if (needS n).2 ≠ 0 then none else (bestS (gapsF (s.sh.pages * 32) (s.base * 32) (spansS s.slots)) (needS n).1).map (·.1)
open Go.Awp
def bumpR (l : List (Int × Int)) : List (Int × Int) := l.set (l.length - 1) ((nth l (l.length - 1)).1, (nth l (l.length - 1)).2 + 1)
def runsI (ks : List Int) : Nat → List (Int × Int) × Bool
 | 0 => ([], false)
 | i + 1 => if nth ks i = -1 then (if (runsI ks i).2 = true then (bumpR (runsI ks i).1, true) else ((runsI ks i).1 ++ [((i : Int), 1)], true)) else ((runsI ks i).1, false)
def runsS (ks : List Int) : List (Int × Int) := (runsI ks ks.length).1
structure RunOk (ks : List Int) (i : Nat) (g : Int × Int) : Prop where
 h0 : 0 ≤ g.1
 h1 : 1 ≤ g.2
 h2 : g.1 + g.2 ≤ i
 h3 : ∀ x : Nat, g.1 ≤ x → (x : Int) < g.1 + g.2 → nth ks x = -1
def ShutR (ks : List Int) (i : Nat) (g : Int × Int) : Prop := g.1 + g.2 < (i : Int) ∧ nth ks (g.1 + g.2).toNat ≠ -1
structure RunInv (ks : List Int) (i : Nat) (st : List (Int × Int) × Bool) : Prop where
 ok : ∀ g ∈ st.1, RunOk ks i g
 cov : ∀ x : Nat, x < i → nth ks x = -1 → ∃ g ∈ st.1, g.1 ≤ x ∧ (x : Int) < g.1 + g.2
 op : st.2 = true → ∃ (l : List (Int × Int)) (g : Int × Int), st.1 = l ++ [g] ∧ g.1 + g.2 = (i : Int) ∧ ∀ h ∈ l, ShutR ks i h
 cl : st.2 = false → ∀ g ∈ st.1, ShutR ks i g
def bestRStep (n : Int) (o : Option (Int × Int)) (g : Int × Int) : Option (Int × Int) := if decide (1 ≤ n) && (decide (n ≤ g.2) && (!o.isSome || decide (g.2 < (o.getD (0, 0)).2))) then some g else o
def bestR (ks : List Int) (n : Int) : Option (Int × Int) := (runsS ks).foldl (bestRStep n) none
def openC (ks : List Int) (ms : List Nat) (of : Int) (m : Nat) (p : Nat) : Option Nat := if nth ks p = of then (List.range m).find? (fun k => !(nth ms p).testBit k) else none
def slabR (ks : List Int) (ms : List Nat) (of : Int) : Option Nat := (List.range ks.length).find? fun p => (openC ks ms of (cellsS of).1.toNat p).isSome
def freeR (ks : List Int) : Option Nat := (List.range ks.length).find? fun p => decide (nth ks p = -1)
def cellR (ks : List Int) (ms : List Nat) (of : Int) : Option Int := match slabR ks ms of with
 | some p => some ((p : Int) * 32 + (cellS of ((openC ks ms of (cellsS of).1.toNat p).getD 0 : Nat)).1)
 | none => (freeR ks).map fun (p : Nat) => (p : Int) * 32 + 4
def placeS (pages : Int) (l : List (Int × Int)) (n : Int) : Option Int := match laidS pages l with
 | none => none
 | some st => if (classS n).2 = true then cellR st.1 st.2 (classS n).1 else if (pagesS n).2 ≠ 0 then none else (bestR st.1 (pagesS n).1).map fun g => g.1 * 32
theorem laidS_some {pages : Int} {l : List (Int × Int)} {st} (h : laidS pages l = some st) : (0 ≤ pages ∧ pages ≤ 64) ∧ (∀ j, j < l.length → okI pages l j = true) ∧ st = stI pages l l.length := by
 unfold laidS at h
 split at h
 · rename_i h2
   simp only [Bool.and_eq_true, decide_eq_true_eq, List.all_eq_true, List.mem_range] at h2
   cases h
   exact ⟨h2.1, h2.2, rfl⟩
 · cases h
structure LaidP (pages : Int) (l : List (Int × Int)) (ks : List Int) (ms : List Nat) : Prop where
 p0 : 0 ≤ pages ∧ pages ≤ 64
 len : ks.length = pages.toNat
 len2 : ms.length = 64
 good : ∀ j, j < l.length → GoodSpot pages (spotI pages l j)
 free : ∀ x : Nat, (x : Int) < pages → (∀ j, j < l.length → ¬ covers (spotI pages l j) x) → nth ks x = -1
 sm : ∀ j, j < l.length → (spotI pages l j).small = true → nth ks (spotI pages l j).page.toNat = (spotI pages l j).cls ∧ (nth ms (spotI pages l j).page.toNat).testBit (spotI pages l j).cell.toNat = true
 lg : ∀ j, j < l.length → (spotI pages l j).small = false → ∀ x : Nat, covers (spotI pages l j) x → nth ks x = 7 ∨ nth ks x = 6
 bit : ∀ x c : Nat, x < 64 → (nth ms x).testBit c = true → ∃ j, j < l.length ∧ (spotI pages l j).small = true ∧ (spotI pages l j).page = x ∧ (spotI pages l j).cell = c
theorem laidP {pages : Int} {l : List (Int × Int)} {st} (h : laidS pages l = some st) : LaidP pages l st.1 st.2 := by
 obtain ⟨h0, h1, rfl⟩ := laidS_some h
 obtain ⟨_, l2, l3⟩ := laid_iff.1 (show (laidS pages l).isSome = true by rw [h]; rfl)
 obtain ⟨_, hF⟩ := lay_all h0.1 h0.2 l2 l3 l.length (Nat.le_refl _)
 obtain ⟨e1, e2⟩ := stI_len (pages := pages) (l := l) (i := l.length)
 have hg : ∀ j, j < l.length → GoodSpot pages (spotI pages l j) := fun j hj => (spot_words (l2 j hj)).good
 have hold := laid_holds h0.2 h1
 refine ⟨h0, e1, e2, hg, hF.k, fun j hj hs => (hold j hj).1 hs, fun j hj hs x hx => ?_, hF.b⟩
 have g := hg j hj
 have := (hold j hj).2 hs (x - (spotI pages l j).page.toNat) (by have := hx.1; have := hx.2; have := g.p0; show ((x - (spotI pages l j).page.toNat : Nat) : Int) < (spotI pages l j).count; omega)
 rw [show (spotS pages (nth l j)).1.page.toNat + (x - (spotI pages l j).page.toNat) = x by have := hx.1; have := g.p0; show (spotI pages l j).page.toNat + (x - (spotI pages l j).page.toNat) = x; omega] at this
 exact this
theorem cells_tab : ∀ c : Nat, c < 6 → ∀ k : Nat, k < 14 → (k : Int) < (cellsS c).1 → whichS c (cellS c k).1 = ((k : Int), true) ∧ 4 ≤ (cellS c k).1 ∧ (cellS c k).1 < 32 := by decide +kernel
theorem cells_max : ∀ c : Nat, c < 6 → (cellsS c).1 ≤ 14 ∧ 1 ≤ (cellsS c).1 := by decide +kernel
theorem pagesS_b {n : Int} (h : (pagesS n).2 = 0) : 1 ≤ (pagesS n).1 := by
 unfold pagesS at h ⊢
 split
 · rename_i q; rw [if_pos q] at h; cases h
 · rename_i q
   show 1 ≤ (n + 256 - 1).tdiv 256
   rw [Int.tdiv_eq_ediv_of_nonneg (by omega)]; omega
theorem classS_c {n : Int} (h : (classS n).2 = true) : ∃ c : Nat, c < 6 ∧ (classS n).1 = c := by
 obtain ⟨_, k, h1, h2, _⟩ := classS_spec h
 exact ⟨k, h1, h2⟩
open Go.Awp
def roomW (s : Stt) (two : Bool) (n : Int) : Option Int := if two = true then placeS s.base (twosO s.slots) n else oneS s n
@[simp high] theorem cells_ownR {α : Type} {k : Nat} {f : α → D} {l : List α} : (ownR k f l).cells = [ownR k f l] := rfl
@[simp high] theorem nrmL_ownR {α : Type} {k k' : Nat} {f : α → D} {l : List α} {m : M} {xs : List D} : nrmL [ownR k f l] [D.row m k' xs] = [D.row m k' xs] := rfl
@[simp high] theorem putC_ownR {α : Type} {k : Nat} {f : α → D} {l : List α} {d : D} : putC (ownR k f l) 0 [d] = d := rfl
@[simp] theorem roedc_eObj : D.roed ∘ eObj = eObj := funext roed_eObj
@[simp] theorem roedc_eSlot : D.roed ∘ eSlot = eSlot := funext roed_eSlot
@[simp] theorem roedc_eRoot : D.roed ∘ eRoot = eRoot := funext roed_eRoot
@[simp] theorem roedc_eBlk : D.roed ∘ eBlk = eBlk := funext roed_eBlk
@[simp] theorem roedc_vI : D.roed ∘ vI = vI := funext fun _ => roed_v _
@[simp] theorem roedc_vB : D.roed ∘ vB = vB := funext fun _ => roed_v _
@[simp] theorem roedc_rB : D.roed ∘ rB = rB := funext roed_rB
@[simp] theorem roedc_oB : D.roed ∘ oB = rB := funext fun x => by simp
open Go.Awp
def roomS (s : Stt) (two : Bool) (n : Int) : Option Int := if (sttS s && sizedN n) = true then roomW s two n else none
def tryR (s : Stt) (n : Int) (two : Bool) : Option (Bool × Int) := (roomS s two n).map fun a => (two, a)
def firstP (s : Stt) (n : Int) : Option (Bool × Int) := if s.mode = 1 then tryR s n false else if s.mode = 2 then tryR s n true else if s.mode = 3 then (tryR s n true).or (tryR s n false) else if s.mode = 4 then (tryR s n false).or (tryR s n true) else none
def modeB (mode : Int) (two : Bool) : Prop := (mode = 1 → two = false) ∧ (mode = 2 → two = true)
def putAt (s : Stt) (k : Nat) (y : Slot) (d : List UInt8) : Stt := { s with slots := s.slots.set k y, data := s.data.set k d }
theorem rowsS_iff {s : Stt} : rowsS s = true ↔ ((s.slots.length : Int) = s.sh.slots ∧ (s.roots.length : Int) = s.sh.roots ∧ s.data.length = s.slots.length) ∧ (∀ i, i < s.slots.length → slotS1 (nth s.slots i) = true) ∧ tnewOk s.slots.length = true ∧ rootsS s.roots = true ∧ ∀ i, i < s.slots.length → ((nth s.data i).length : Int) = (nth s.slots i).len := by
 simp only [rowsS, tableS, lenOk, Bool.and_eq_true, decide_eq_true_eq, List.all_eq_true, List.mem_range]
 constructor
 · rintro ⟨h1, ⟨h2, h3⟩, h4, h5⟩; exact ⟨h1, h2, h3, h4, h5⟩
 · rintro ⟨h1, h2, h3, h4, h5⟩; exact ⟨h1, ⟨h2, h3⟩, h4, h5⟩
def newSlot (gen n : Int) (two : Bool) (a : Int) : Slot := ⟨gen, true, two, a, n⟩
def zerosB (n : Int) : List UInt8 := List.replicate n.toNat 0
def putS (s : Stt) (n : Int) : Stt × (Int × Int) × Int := if (sttS s && sizedN n) = true then (match nextS s.slots with
  | none => (zStt, (0, 0), 9)
  | some k => match firstP s n with
    | none => (zStt, (0, 0), 10)
    | some p => (putAt s k (newSlot (nth s.slots k).gen n p.1 p.2) (zerosB n), ((k : Int), (nth s.slots k).gen), 0)) else (zStt, (0, 0), 1)
def rszB (d : List UInt8) (n : Int) : List UInt8 := d.take n.toNat ++ List.replicate (n.toNat - d.length) 0
def lenS (x : Slot) (n : Int) : Slot := { x with len := n }
def sizeAt (s : Stt) (k : Nat) (n : Int) : Stt := putAt s k (lenS (nth s.slots k) n) (rszB (nth s.data k) n)
def rszS (s : Stt) (k n : Int) : Stt × Int := if (liveS s k && sizedN n) = true then (if sttS (sizeAt s k.toNat n) = true then (sizeAt s k.toNat n, 0) else match firstP s n with
  | none => (zStt, 10)
  | some p => (layAt (sizeAt s k.toNat n) k.toNat p.1 p.2, 0)) else (zStt, 1)
def pickB (ok : Bool → Bool) (two : Bool) : Option Bool := if ok two = true then none else some two
def firstB (mode : Int) (ok : Bool → Bool) : Option Bool := if mode = 1 then pickB ok false else if mode = 2 then pickB ok true else if mode = 3 then (pickB ok true).or (pickB ok false) else if mode = 4 then (pickB ok false).or (pickB ok true) else none
open Go.Awp
/- The document's answers, in plain Lean: layouts. -/
theorem stI_take {pages : Int} {l : List (Int × Int)} {n : Nat} : ∀ {i : Nat}, i ≤ n → stI pages (l.take n) i = stI pages l i
 | 0, _ => rfl
 | i + 1, h => by simp only [stI]; rw [stI_take (i := i) (by omega), nth_take (by omega)]
theorem okI_take {pages : Int} {l : List (Int × Int)} {n i : Nat} (h : i < n) : okI pages (l.take n) i = okI pages l i := by
 simp only [okI]; rw [stI_take (by omega), nth_take h]
theorem laid_take {pages : Int} {l : List (Int × Int)} {i : Nat} (h0 : 0 ≤ pages ∧ pages ≤ 64) (hi : i ≤ l.length) (h : ∀ j, j < i → okI pages l j = true) : laidS pages (l.take i) = some (stI pages l i) := by
 have hl : (l.take i).length = i := by simp; omega
 unfold laidS
 rw [hl, stI_take (Nat.le_refl _), if_pos]
 simp only [Bool.and_eq_true, decide_eq_true_eq, List.all_eq_true, List.mem_range]
 exact ⟨h0, fun j hj => by rw [okI_take hj]; exact h j hj⟩
theorem mul_words {c w : Int} : (c + 1) * w = c * w + w := by rw [Int.add_mul, Int.one_mul]
theorem cell_bit {pages : Int} {l : List (Int × Int)} {ks ms} (L : LaidP pages l ks ms) (hs : ∀ j, j < l.length → (spotS pages (nth l j)).2 = true) {a : Int} {p c k : Nat} (hk : nth ks p = c) (hc : c < 6) (hp : p < 64) (ha : a = 32 * (p : Int) + 4 + k * nth wordsL c) (hq : 4 + ((k : Int) + 1) * nth wordsL c ≤ 32) :
    (nth ms p).testBit k = true ↔ ∃ j, j < l.length ∧ (nth l j).1 = a := by
 have hw := wordsL_k hc
 obtain ⟨w, hwe⟩ : ∃ w, w = nth wordsL c := ⟨_, rfl⟩
 rw [← hwe] at hw ha hq
 have x0 : 0 ≤ (k : Int) * w := Int.mul_nonneg (by omega) (by omega)
 have x1 := mul_words (c := (k : Int)) (w := w)
 constructor
 · intro h
   obtain ⟨j, hj, j1, j2, j3⟩ := L.bit p k hp h
   obtain ⟨c', hc', e1, e2, _, _⟩ := (spot_words (hs j hj)).sm j1
   have q := (L.sm j hj j1).1
   have e3 : (spotI pages l j).page.toNat = p := by omega
   rw [e3, hk] at q
   have e4 : c' = c := by have : (spotI pages l j).cls = c' := e1; omega
   subst e4
   refine ⟨j, hj, ?_⟩
   rw [e2, ha, hwe]
   rw [show (spotS pages (nth l j)).1.page = (p : Int) from j2, show (spotS pages (nth l j)).1.cell = (k : Int) from j3]
 · rintro ⟨j, hj, he⟩
   have W := spot_words (hs j hj)
   have g := W.good
   cases hsm : (spotS pages (nth l j)).1.small with
   | true =>
    obtain ⟨c', hc', e1, e2, _, e3⟩ := W.sm hsm
    obtain ⟨q1, q2⟩ := L.sm j hj hsm
    obtain ⟨_, _, _, g4, _⟩ := g.s1 hsm
    have hw' := wordsL_k hc'
    have y0 : 0 ≤ (spotS pages (nth l j)).1.cell * nth wordsL c' := Int.mul_nonneg g4 (by omega)
    rw [mul_words] at e3
    have hpg : (spotS pages (nth l j)).1.page = p := by omega
    have hpt : (spotI pages l j).page.toNat = p := by show (spotS pages (nth l j)).1.page.toNat = p; omega
    rw [hpt] at q1 q2
    have e4 : c' = c := by have : (spotI pages l j).cls = c' := e1; omega
    subst e4
    have e5 : (spotS pages (nth l j)).1.cell * w = (k : Int) * w := by rw [← hwe] at e2; omega
    have e6 := Int.eq_of_mul_eq_mul_right (by omega) e5
    have e7 : (spotI pages l j).cell.toNat = k := by show (spotS pages (nth l j)).1.cell.toNat = k; omega
    rwa [e7] at q2
   | false =>
    have e2 := (W.lg hsm).1
    rw [he, ha] at e2
    omega
theorem spot_cell {pages : Int} {o : Int × Int} (h : (spotS pages o).2 = true) (hsm : (spotS pages o).1.small = true) : ∃ p c k : Nat, (spotS pages o).1.page = p ∧ (spotS pages o).1.cls = c ∧ (spotS pages o).1.cell = k ∧ c < 6 ∧ (p : Int) < pages ∧ k < 64 ∧ o.1 = 32 * (p : Int) + 4 + k * nth wordsL c ∧ 4 + ((k : Int) + 1) * nth wordsL c ≤ 32 := by
 have W := spot_words h
 have g := W.good
 obtain ⟨c, hc, e1, e2, _, e3⟩ := W.sm hsm
 obtain ⟨s1, _, _, s4, s5⟩ := g.s1 hsm
 have g0 := g.p0
 have g1 := g.p1
 have e4 : ((spotS pages o).1.page.toNat : Int) = (spotS pages o).1.page := by omega
 have e5 : ((spotS pages o).1.cell.toNat : Int) = (spotS pages o).1.cell := by omega
 refine ⟨(spotS pages o).1.page.toNat, c, (spotS pages o).1.cell.toNat, by omega, e1, by omega, hc, by omega, by omega, by rw [e4, e5]; exact e2, by rw [e5]; exact e3⟩
section
variable {pages : Int} {l : List (Int × Int)} {i : Nat}
theorem okI_eq (hs : (spotS pages (nth l i)).2 = true) : layO pages (stI pages l i) (nth l i) = layS (stI pages l i).1 (stI pages l i).2 (spotI pages l i).page.toNat (spotI pages l i).count.toNat (spotI pages l i).small (spotI pages l i).cls (spotI pages l i).cell.toNat := by
 unfold layO; rw [if_pos hs]
theorem okI_bad (hs : (spotS pages (nth l i)).2 = false) : okI pages l i = false := by
 unfold okI layO; rw [if_neg (by simp [hs])]
theorem ok_spots (h : ∀ j, j < i → okI pages l j = true) : ∀ j, j < i → (spotS pages (nth l j)).2 = true := fun j hj => okI_spot (h j hj)
theorem small_kind (hs : (spotS pages (nth l i)).2 = true) (hsm : (spotI pages l i).small = true) (h1 : nth (stI pages l i).1 (spotI pages l i).page.toNat ≠ -1) (h2 : nth (stI pages l i).1 (spotI pages l i).page.toNat ≠ (spotI pages l i).cls) : okI pages l i = false := by
 unfold okI; rw [okI_eq hs, layS, if_pos hsm, if_neg (by simp [h2]), if_neg h1]
theorem small_had (h0 : 0 ≤ pages ∧ pages ≤ 64) (hi : i < l.length) (h : ∀ j, j < i → okI pages l j = true) (hs : (spotS pages (nth l i)).2 = true) (hsm : (spotI pages l i).small = true) {j : Nat} (hj : j < i) (hat : (nth l j).1 = (nth l i).1) : okI pages l i = false := by
 have hl : (l.take i).length = i := by simp; omega
 have L := laidP (laid_take h0 (by omega) h)
 obtain ⟨p, c, k, e1, e2, e3, hc, hp, hk, ha, hq⟩ := spot_cell hs hsm
 have hsp : ∀ j, j < (l.take i).length → (spotS pages (nth (l.take i) j)).2 = true := fun j hj => by rw [nth_take (by omega)]; exact ok_spots h j (by omega)
 have hw := wordsL_k hc
 have x0 : 0 ≤ (k : Int) * nth wordsL c := Int.mul_nonneg (by omega) (by omega)
 rw [mul_words] at hq
 have hpt : (spotI pages l i).page.toNat = p := by show (spotS pages (nth l i)).1.page.toNat = p; omega
 have hkt : (spotI pages l i).cell.toNat = k := by show (spotS pages (nth l i)).1.cell.toNat = k; omega
 have W := spot_words (hsp j (by omega))
 have g := W.good
 rw [nth_take hj] at W g
 -- the other one is small, and stands on this page
 have hjs : (spotS pages (nth l j)).1.small = true := by
  cases hz : (spotS pages (nth l j)).1.small with
  | true => rfl
  | false => have := (W.lg hz).1; rw [hat, ha] at this; omega
 obtain ⟨c', hc', f1, f2, _, f3⟩ := W.sm hjs
 obtain ⟨_, _, _, g4, _⟩ := g.s1 hjs
 have hw' := wordsL_k hc'
 have y0 : 0 ≤ (spotS pages (nth l j)).1.cell * nth wordsL c' := Int.mul_nonneg g4 (by omega)
 rw [mul_words] at f3
 have hpg : (spotS pages (nth l j)).1.page = p := by omega
 obtain ⟨q1, q2⟩ := L.sm j (by omega) (by show (spotS pages (nth (l.take i) j)).1.small = true; rw [nth_take hj]; exact hjs)
 have t1 : (spotI pages (l.take i) j).page.toNat = p := by show (spotS pages (nth (l.take i) j)).1.page.toNat = p; rw [nth_take hj]; omega
 rw [t1] at q1
 have t2 : (spotI pages (l.take i) j).cls = c' := by show (spotS pages (nth (l.take i) j)).1.cls = c'; rw [nth_take hj]; exact f1
 rw [t2] at q1
 unfold okI; rw [okI_eq hs, layS, if_pos hsm, hpt, hkt]
 show (if _ ∧ _ then _ else _ : Bool × List Int × List Nat).1 = false
 rw [if_neg, if_neg (by omega)]
 rintro ⟨z1, z2⟩
 have z3 : (spotI pages l i).cls = c := e2
 have hb := (cell_bit L hsp (a := (nth l i).1) (p := p) (c := c) (k := k) (by rw [z1]; exact z3) hc (by omega) ha (by rw [mul_words]; exact hq)).2 ⟨j, by omega, by rw [nth_take hj]; exact hat⟩
 rw [and_pow z2] at hb; cases hb
theorem small_ok (h0 : 0 ≤ pages ∧ pages ≤ 64) (hi : i < l.length) (h : ∀ j, j < i → okI pages l j = true) (hs : (spotS pages (nth l i)).2 = true) (hsm : (spotI pages l i).small = true)
    (hk : nth (stI pages l i).1 (spotI pages l i).page.toNat = -1 ∨ nth (stI pages l i).1 (spotI pages l i).page.toNat = (spotI pages l i).cls) (hn : ∀ j, j < i → (nth l j).1 ≠ (nth l i).1) :
    okI pages l i = true ∧ (stI pages l (i + 1)).1 = (stI pages l i).1.set (spotI pages l i).page.toNat (spotI pages l i).cls := by
 have hl : (l.take i).length = i := by simp; omega
 have L := laidP (laid_take h0 (by omega) h)
 obtain ⟨p, c, k, e1, e2, e3, hc, hp, hkk, ha, hq⟩ := spot_cell hs hsm
 have hsp : ∀ j, j < (l.take i).length → (spotS pages (nth (l.take i) j)).2 = true := fun j hj => by rw [nth_take (by omega)]; exact ok_spots h j (by omega)
 have hpt : (spotI pages l i).page.toNat = p := by show (spotS pages (nth l i)).1.page.toNat = p; omega
 have hkt : (spotI pages l i).cell.toNat = k := by show (spotS pages (nth l i)).1.cell.toNat = k; omega
 have hct : (spotI pages l i).cls = c := e2
 rw [hpt, hct] at hk ⊢
 have hpl : p < (stI pages l i).1.length := by rw [stI_len.1]; omega
 have e : layO pages (stI pages l i) (nth l i) = layS (stI pages l i).1 (stI pages l i).2 p (spotI pages l i).count.toNat true c k := by rw [okI_eq hs, hpt, hkt, hct, hsm]
 unfold okI
 simp only [stI]
 rw [e, layS, if_pos rfl]
 rcases hk with hk | hk
 · rw [if_neg (by omega), if_pos hk]; exact ⟨rfl, rfl⟩
 · have hb : (nth (stI pages l i).2 p).testBit k = false := by
    cases hz : (nth (stI pages l i).2 p).testBit k with
    | false => rfl
    | true =>
     obtain ⟨j, hj, he⟩ := (cell_bit L hsp (a := (nth l i).1) hk hc (by omega) ha hq).1 hz
     rw [nth_take (by omega)] at he
     exact absurd he (hn j (by omega))
   rw [if_pos ⟨hk, bit_and hb⟩]
   refine ⟨rfl, ?_⟩
   show (stI pages l i).1 = _
   rw [← hk]
   apply List.ext_getElem?
   intro x
   rw [List.getElem?_set]
   split
   · rename_i hx; subst hx; rw [nth_eq hpl]; simp [hpl]
   · rfl
theorem large_eq (hs : (spotS pages (nth l i)).2 = true) (hsm : (spotI pages l i).small = false) :
    okI pages l i = (fillF (spotI pages l i).page.toNat (spotI pages l i).count.toNat 0 (stI pages l i).1).1 ∧ (okI pages l i = true → (stI pages l (i + 1)).1 = (fillF (spotI pages l i).page.toNat (spotI pages l i).count.toNat 0 (stI pages l i).1).2.set (spotI pages l i).page.toNat 6) := by
 unfold okI
 simp only [stI]
 rw [okI_eq hs, layS, hsm]
 simp only [Bool.false_eq_true, if_false]
 split
 · rename_i hf; exact ⟨by rw [hf], fun _ => rfl⟩
 · rename_i hf; exact ⟨by simp at hf; rw [hf], fun h => by cases h⟩
end
def kindsR (pages : Int) (l : List (Int × Int)) : List Int × Bool := match laidS pages l with
 | some st => (st.1, true)
 | none => ([], false)
theorem kindsR_bad {pages : Int} {l : List (Int × Int)} {i : Nat} (hi : i < l.length) (h : okI pages l i = false) : kindsR pages l = ([], false) := by
 unfold kindsR laidS; rw [if_neg]
 simp only [Bool.and_eq_true, not_and]; intro _; rw [all_bad hi h]; simp
theorem kindsR_good {pages : Int} {l : List (Int × Int)} (h0 : 0 ≤ pages ∧ pages ≤ 64) (h : ∀ i, i < l.length → okI pages l i = true) : kindsR pages l = ((stI pages l l.length).1, true) := by
 unfold kindsR laidS; rw [if_pos]
 simp only [Bool.and_eq_true, decide_eq_true_eq]; exact ⟨h0, all_good h⟩
theorem kindsR_out {pages : Int} {l : List (Int × Int)} (h0 : ¬ (0 ≤ pages ∧ pages ≤ 64)) : kindsR pages l = ([], false) := by
 unfold kindsR laidS; rw [if_neg (by simp [h0])]
def cellO (o : Int × Int) : (Int × Int × Int) × Bool := if (classS o.2).2 = false ∨ o.1 < 0 then ((0, 0, 0), false) else ((o.1.tdiv 32, (classS o.2).1, (whichS (classS o.2).1 (o.1.tmod 32)).1), (whichS (classS o.2).1 (o.1.tmod 32)).2)
def spanR (pages : Int) (o : Int × Int) : (Int × Int) × Bool := if (cellO o).2 = true then (((cellO o).1.1, 1), decide ((cellO o).1.1 < pages)) else if (pagesS o.2).2 ≠ 0 ∨ o.1 < 0 ∨ o.1.tmod 32 ≠ 0 then ((0, 0), false)
 else ((o.1.tdiv 32, (pagesS o.2).1), decide (o.1.tdiv 32 ≤ pages) && decide ((pagesS o.2).1 ≤ pages - o.1.tdiv 32))
theorem classS_pages {n : Int} (h : (classS n).2 = true) : (pagesS n).2 ≠ 0 := by
 obtain ⟨h1, k, hk, h2, h3⟩ := classS_spec h
 have := wordsL_k hk
 unfold pagesS; rw [if_pos (by omega)]; decide
theorem spanR_eq {pages : Int} {o : Int × Int} : (spanR pages o).2 = (spotS pages o).2 ∧ ((spotS pages o).2 = true → (spanR pages o).1 = ((spotS pages o).1.page, (spotS pages o).1.count) ∧ (cellO o).2 = (spotS pages o).1.small ∧ ((spotS pages o).1.small = true → (cellO o).1 = ((spotS pages o).1.page, (spotS pages o).1.cls, (spotS pages o).1.cell))) := by
 unfold spanR
 by_cases ha : o.1 < 0
 · have : (cellO o).2 = false := by unfold cellO; rw [if_pos (.inr ha)]
   rw [this]
   simp only [Bool.false_eq_true, if_false]
   rw [if_pos (.inr (.inl ha))]
   unfold spotS; rw [if_pos ha]; simp
 · cases hc : (classS o.2).2 with
   | true =>
    have hp := classS_pages hc
    have ec : cellO o = ((o.1.tdiv 32, (classS o.2).1, (whichS (classS o.2).1 (o.1.tmod 32)).1), (whichS (classS o.2).1 (o.1.tmod 32)).2) := by unfold cellO; rw [if_neg (by simp [hc, ha])]
    have es : spotS pages o = (⟨o.1.tdiv 32, 1, true, (classS o.2).1, (whichS (classS o.2).1 (o.1.tmod 32)).1⟩, (whichS (classS o.2).1 (o.1.tmod 32)).2 && decide (o.1.tdiv 32 < pages)) := by unfold spotS; rw [if_neg ha, if_pos hc]
    rw [ec, es]
    simp only
    cases hw : (whichS (classS o.2).1 (o.1.tmod 32)).2 with
    | true => simp
    | false => simp [hp]
   | false =>
    have ec : (cellO o).2 = false := by unfold cellO; rw [if_pos (.inl hc)]
    have es : spotS pages o = (⟨o.1.tdiv 32, (pagesS o.2).1, false, (classS o.2).1, 0⟩, decide ((pagesS o.2).2 = 0) && decide (o.1.tmod 32 = 0) && decide (o.1.tdiv 32 < pages) && decide ((pagesS o.2).1 ≤ pages - o.1.tdiv 32)) := by
     unfold spotS; rw [if_neg ha, if_neg (by simp [hc])]
    rw [ec, es]
    simp only [Bool.false_eq_true, if_false]
    by_cases hz : (pagesS o.2).2 ≠ 0 ∨ o.1 < 0 ∨ o.1.tmod 32 ≠ 0
    · rw [if_pos hz]
      rcases hz with hz | hz | hz
      · simp [hz]
      · exact absurd hz ha
      · simp [hz]
    · rw [if_neg hz]
      have h1 : (pagesS o.2).2 = 0 := Classical.byContradiction fun q => hz (.inl q)
      have h2 : o.1.tmod 32 = 0 := Classical.byContradiction fun q => hz (.inr (.inr q))
      have h3 := pagesS_b h1
      simp [h1, h2]
      rw [← Bool.decide_and, ← Bool.decide_and]; exact decide_eq_decide.2 (by omega)
set_option maxHeartbeats 4000000
open Go.Awp
/- Facts about classes, for the document's walks. -/
theorem wordsL_8 {j : Nat} (h : j < 6) : 8 * nth wordsL j ≤ 120 ∧ 2 ≤ nth wordsL j ∧ nth wordsL j ≤ 15 := by have := wordsL_k h; omega
theorem classS_at {n : Int} {i : Nat} (hi : i < 6) (h : 1 ≤ n ∧ n ≤ 8 * nth wordsL i) (hn : ∀ j, j < i → ¬ (1 ≤ n ∧ n ≤ 8 * nth wordsL j)) : classS n = ((i : Int), true) := by
 have := wordsL_8 hi
 unfold classS
 rw [if_neg (by omega)]
 have hf : wordsL.findIdx? (fun w => decide (n ≤ w * 8)) = some i := by
  rw [List.findIdx?_eq_some_iff_getElem]
  refine ⟨hi, by rw [← nth_eq (l := wordsL) hi]; simp; omega, fun j hj => ?_⟩
  have h6 : j < wordsL.length := Nat.lt_trans hj hi
  have := hn j hj
  rw [← nth_eq h6]; simp; omega
 rw [hf]
theorem classS_no {n : Int} (hn : ∀ j, j < 6 → ¬ (1 ≤ n ∧ n ≤ 8 * nth wordsL j)) : classS n = (0, false) := by
 have := hn 5 (by omega)
 have e : nth wordsL 5 = 15 := rfl
 unfold classS
 rw [if_pos (by omega)]
theorem which_tab0 : ∀ c : Nat, c < 6 → ∀ o : Nat, o < 32 → (∀ k : Nat, k < 14 → (k : Int) < (cellsS c).1 → (cellS c k).1 ≠ (o : Int)) → whichS c o = (0, false) := by decide +kernel
theorem which_at {c off : Int} {k : Nat} (hc : 0 ≤ c ∧ c < 6) (hk : (k : Int) < (cellsS c).1) (h : (cellS c k).1 = off) : whichS c off = ((k : Int), true) := by
 obtain ⟨d, rfl⟩ : ∃ d : Nat, c = d := ⟨c.toNat, by omega⟩
 have := (cells_max d (by omega)).1
 rw [← h]
 exact (cells_tab d (by omega) k (by omega) hk).1
theorem which_no {c off : Int} (hc : 0 ≤ c ∧ c < 6) (ho : 0 ≤ off ∧ off < 32) (h : ∀ k : Nat, (k : Int) < (cellsS c).1 → (cellS c k).1 ≠ off) : whichS c off = (0, false) := by
 obtain ⟨d, rfl⟩ : ∃ d : Nat, c = d := ⟨c.toNat, by omega⟩
 obtain ⟨o, rfl⟩ : ∃ o : Nat, off = o := ⟨off.toNat, by omega⟩
 exact which_tab0 d (by omega) o (by omega) fun k _ => h k
theorem cellS_b {c : Int} {k : Nat} (hc : 0 ≤ c ∧ c < 6) (hk : (k : Int) < (cellsS c).1) : cellS c k = (4 + k * nth wordsL c.toNat, 0) ∧ 4 + (k : Int) * nth wordsL c.toNat ≤ 400 ∧ 0 ≤ (k : Int) * nth wordsL c.toNat := by
 obtain ⟨d, rfl⟩ : ∃ d : Nat, c = d := ⟨c.toNat, by omega⟩
 have h14 := (cells_max d (by omega)).1
 have hw := wordsL_8 (j := d) (by omega)
 have h0 : 0 ≤ (k : Int) * nth wordsL d := Int.mul_nonneg (by omega) (by omega)
 refine ⟨by unfold cellS; rw [if_neg (by omega)], ?_, by simpa using h0⟩
 have : (k : Int) * nth wordsL d ≤ 14 * 15 := Int.mul_le_mul (by omega) (by omega) (by omega) (by omega)
 simp only [Int.toNat_natCast]; omega
theorem cellsS_b {c : Int} (hc : 0 ≤ c ∧ c < 6) : 1 ≤ (cellsS c).1 ∧ (cellsS c).1 ≤ 14 ∧ (cellsS c).2 = 0 ∧ (cellsS c).1 = (28 : Int).tdiv (nth wordsL c.toNat) := by
 obtain ⟨d, rfl⟩ : ∃ d : Nat, c = d := ⟨c.toNat, by omega⟩
 have := cells_max d (by omega)
 refine ⟨this.2, this.1, ?_, ?_⟩ <;> (unfold cellsS; rw [if_neg (by omega)])
def openIx (l : List Slot) (i : Nat) : List Nat := (List.range i).filter fun j => openT (nth l j)
def chainS (l : List Slot) : List Int := (openIx l l.length).map fun (j : Nat) => (j : Int)
set_option maxRecDepth 4000
open Go.Awp
open Go.Awp
open Go.Awp
open Go.Awp
open Go.Awp
open Go.Awp
open Go.Awp
open Go.Awp
open Go.Awp
open Go.Awp
open Go.Awp
open Go.Awp
def sh1 : Shape := ⟨1, 2, 2, 30⟩
def stO : Stt := firstStt sh1 1
def stA : Stt := (putS stO 16).1
def stB : Stt := (putS stA 16).1
def stC : Stt := (rszS stB 0 17).1
def stT : Stt := firstStt sh1 2
def stU : Stt := (putS stT 121).1
def otherOk (a b : Stt) (k : Int) (i : Nat) : Bool := decide ((i : Int) = k) || (sameSlot (nth a.slots i) (nth b.slots i) && (str (nth a.data i)).toList == (str (nth b.data i)).toList)
def othersS (a b : Stt) (k : Int) : Bool := decide (a.slots.length = b.slots.length) && (decide (a.data.length = b.data.length) && (a.mode == b.mode && (a.base == b.base && (sameShape a.sh b.sh && (List.range (min a.slots.length a.data.length)).all (otherOk a b k)))))
open Go.Awp
open Go.Awp
end Go.Proofs
