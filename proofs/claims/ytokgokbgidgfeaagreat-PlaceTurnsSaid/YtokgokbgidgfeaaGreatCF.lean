/- Contracts of the program's functions and plain facts, for arguments as each lemma says. -/
import Derived.Test.YtokgokbgidgfeaaGreatCE
import Derived.Test.YtokgokbgidgfeaaGreatAwpD
import Derived.Test.YtokgokbgidgfeaaGreatCD
set_option linter.all false
set_option maxHeartbeats 4000000
set_option maxRecDepth 4000
namespace Go.Proofs
open Go.Awp
theorem in208 (g : Gl) (ks : List Int) (ms : List Nat) (h1 : ms.length = 64) (h2 : ks.length ≤ 64) (h3 : ∀ i, i < 64 → nth ms i < 2^64) (c : Nat) (hc : c < 6) : ∀ B S, CallsA Tryz.prog g B S ⟨4, true⟩ 208 [.ptr 3 0 0, .d (vI c)] [.var 157 [.ptr 3 0 0], .var 4 [.d (vT true)], .row 1 (ks.map vI), .var 163 (AV.hdr 2 0 ks.length :: ms.map cU)]
    (fun x r => x = .tup [.d (vI ((cellR ks ms c).getD 0)), .d (vT (cellR ks ms c).isSome)] ∧ r = [.var 157 [.ptr 3 0 0], .var 4 [.d (vT true)], .row 1 (ks.map vI), .var 163 (AV.hdr 2 0 ks.length :: ms.map cU)]) := by
 refine callsA_at Tryz.func208 rfl (Nat.le_of_ble_eq_true rfl) fun B S => ?_
 obtain ⟨m, hm⟩ : ∃ m : Nat, (cellsS c).1 = m := ⟨(cellsS c).1.toNat, by have := cells_max c hc; omega⟩
 have hmm : (cellsS c).1.toNat = m := by omega
 have hm14 : m ≤ 14 := by have := cells_max c hc; omega
 refine xU ?_
 refine xO2 ?_
 refine xG [0,1] ?_
 refine xO ?_
 refine xC (ct238 g c) ?_
 refine xO5 ?_
 refine xF [0,1,6] ?_
 refine W_seq (xU ?_)
 iterate 6 refine xO ?_
 refine xF [0,1,6,23,24,25] ?_
 refine W_block (W_rounds (fun f σ o => ∃ p : Nat, f = ks.length - p ∧ p ≤ ks.length ∧ (∀ q, q < p → (openC ks ms c m q).isSome = false) ∧ σ = slots [(0, .ptr 3 0 0), (1, .d (vI c)), (6, .d (vI m)), (23, .hdr 2 0 ks.length), (24, .d (vI ks.length)), (25, .d (vI p))] ∧ o = [.var 157 [.ptr 3 0 0], .var 4 [.d (vT true)], .row 1 (ks.map vI), .var 163 (AV.hdr 2 0 ks.length :: ms.map cU)]) ks.length (Weak.kills [0,1,6,23,24,25] (by simp [pickL, hm])) ⟨0, by simp, by simp, by simp, rfl, rfl⟩ ?_)
 rintro f σ o ⟨p, rfl, hp, hinv, rfl, rfl⟩ _
 refine xU ?_
 refine xH [0,1,6,23,24,25,26] ?_
 refine W_seq (W_cond rfl ?_ ?_)
 · intro h26
   have hp2 : p < ks.length := by simpa using h26
   have q1 : (p : Int) < 64 := by omega
   have r1 : p < ms.length := by omega
   have d1 := drop_cons_nth (f := cU) r1
   refine W_skip fun _ => ?_
   refine W_seq (W_block ?_)
   refine xU ?_
   refine xO ?_
   refine xO ?_ (h := by simp [hp2]; exact .mk)
   refine xO ?_ (h := by simp [-List.getElem?_map, map_get hp2]; exact .mk)
   refine xO2 ?_
   refine xG [0,1,6,8,9,23,24,25] ?_
   refine xH2 [0,1,6,8,9,23,24,25,30,31] ?_
   refine W_block (W_rounds (fun f σ o => ∃ k : Nat, f = m - k ∧ k ≤ m ∧ (nth ks p = c → ∀ j, j < k → (nth ms p).testBit j = true) ∧ σ = slots [(0, .ptr 3 0 0), (1, .d (vI c)), (6, .d (vI m)), (8, .d (vI p)), (9, .d (vI (nth ks p))), (23, .hdr 2 0 ks.length), (24, .d (vI ks.length)), (25, .d (vI p)), (30, .d (vI m)), (31, .d (vI k))] ∧ o = [.var 157 [.ptr 3 0 0], .var 4 [.d (vT true)], .row 1 (ks.map vI), .var 163 (AV.hdr 2 0 ks.length :: ms.map cU)]) m .refl ⟨0, by simp, by simp, by simp, rfl, rfl⟩ ?_)
   rintro f σ o ⟨k, rfl, hk, hin2, rfl, rfl⟩ _
   refine xU ?_
   refine xH [0,1,6,8,9,23,24,25,30,31,32] ?_
   refine W_seq (W_cond rfl ?_ ?_)
   · intro h32
     have hk2 : k < m := by simpa using h32
     have hk64 : k < 64 := by omega
     have hg := h3 p (by omega)
     obtain ⟨z, hz⟩ : ∃ z : Nat, z = nth ms p >>> k := ⟨_, rfl⟩
     have b1 := shrO (m := nth ms p) hk64
     rw [← hz] at b1
     have hz64 : z < 2 ^ 64 := by rw [hz, Nat.shiftRight_eq_div_pow]; exact Nat.lt_of_le_of_lt (Nat.div_le_self _ _) hg
     have b2 := andO (b := 1) hz64 (by decide)
     have hbit := bit2 hz
     refine W_skip fun _ => ?_
     refine W_seq (W_block ?_)
     refine xU ?_
     refine xO2 ?_
     refine xG [0,1,6,8,9,10,23,24,25,30,31] ?_
     refine xO4 ?_
     iterate 4 refine xI ?_
     refine xI ?_ (h := fun hb => by simp [indexAddrA, q1]; exact .mk)
     refine xI ?_ (h := fun hb => by simp [cU, d1]; exact .mk)
     refine xI ?_
     refine xI ?_ (h := fun hb => by simp [b1]; exact .mk)
     refine xI ?_ (h := fun hb => by simp [b2]; exact .mk)
     refine xI ?_
     refine xP ?_
     refine xQ [0,1,6,8,9,10,23,24,25,30,31,48] ?_ ?_
     · intro h48
       have hh : nth ks p = c ∧ (nth ms p).testBit k = false := by rw [hbit]; simp at h48 ⊢; omega
       have ho : openC ks ms c m p = some k := openC_some hh.1 hk2 (hin2 hh.1) hh.2
       have hsl : slabR ks ms c = some p := slabR_some (m := m) hmm hp2 hinv ho
       have hr : cellR ks ms c = some ((p : Int) * 32 + (cellS c k).1) := by unfold cellR; rw [hsl]; simp only; rw [hmm, ho]; rfl
       have ct := cells_tab c hc k (by omega) (by omega)
       have w1 : IntKind.i64.wrap ((p : Int) * 32) = (p : Int) * 32 := wrap64 (by omega) (by omega)
       have w2 : IntKind.i64.wrap ((p : Int) * 32 + (cellS c k).1) = (p : Int) * 32 + (cellS c k).1 := wrap64 (by omega) (by omega)
       refine xU ?_
       refine xO2 ?_
       refine xC (ct239 g c k) ?_
       refine xO5 ?_
       refine xG [8,11] ?_
       refine xO ?_
       refine xO ?_ (h := by simp [w1]; exact .mk)
       refine xO ?_
       refine xO ?_ (h := by simp [w1, w2]; exact .mk)
       refine xH2 [4,5] ?_
       refine W_ret (endAt_ret (by simp [Tryz.f208]; exact .mk) ?_ ?_)
       · simp [hr]
       rfl
     intro h48
     refine W_skip fun _ => ?_
     refine xY ?_
     refine xO2 ?_
     refine xE [0,1,6,8,9,23,24,25,30,31] ?_
     refine rounds_kill [0,1,6,8,9,23,24,25,30,31] ?_
     refine rounds_next (m' := m - (k+1)) (by omega) ⟨k+1, rfl, by omega, fun e j hj => ?_, ?_, rfl⟩
     · rcases Nat.lt_succ_iff_lt_or_eq.1 hj with hj | rfl
       · exact hin2 e j hj
       rw [hbit]; simp [e] at h48 ⊢; omega
     rw [wrap64 (by omega) (by omega)]; rfl
   intro h32
   obtain rfl : k = m := by simp at h32; omega
   refine W_exit ?_
   rintro -
   refine xY ?_
   refine xO2 ?_
   refine xE [0,1,6,23,24,25] ?_
   refine rounds_kill [0,1,6,23,24,25] ?_
   refine rounds_next (m' := ks.length - (p+1)) (by omega) ⟨p+1, rfl, by omega, fun q hq => ?_, ?_, rfl⟩
   · rcases Nat.lt_succ_iff_lt_or_eq.1 hq with hq | rfl
     · exact hinv q hq
     exact openC_none hin2
   rw [wrap64 (by omega) (by omega)]; rfl
 intro h26
 obtain rfl : p = ks.length := by simp at h26; omega
 have hsl : slabR ks ms c = none := slabR_none (m := m) hmm hinv
 have hr0 : cellR ks ms c = (freeR ks).map fun (p : Nat) => (p : Int) * 32 + 4 := by unfold cellR; rw [hsl]
 refine W_exit ?_
 rintro -
 refine W_seq (xU ?_)
 iterate 6 refine xO ?_
 refine xF [64,65,66] ?_
 refine W_block (W_rounds (fun f σ o => ∃ p : Nat, f = ks.length - p ∧ p ≤ ks.length ∧ (∀ q, q < p → nth ks q ≠ -1) ∧ σ = slots [(64, .hdr 2 0 ks.length), (65, .d (vI ks.length)), (66, .d (vI p))] ∧ o = [.var 157 [.ptr 3 0 0], .var 4 [.d (vT true)], .row 1 (ks.map vI), .var 163 (AV.hdr 2 0 ks.length :: ms.map cU)]) ks.length .refl ⟨0, by simp, by simp, by simp, rfl, rfl⟩ ?_)
 rintro f σ o ⟨p, rfl, hp, hin3, rfl, rfl⟩ _
 refine xU ?_
 refine xH [64,65,66,67] ?_
 refine W_seq (W_cond rfl ?_ ?_)
 · intro h67
   have hp2 : p < ks.length := by simpa using h67
   refine W_skip fun _ => ?_
   refine W_seq (W_block ?_)
   refine xU ?_
   refine xO ?_
   refine xO ?_ (h := by simp [hp2]; exact .mk)
   refine xO ?_ (h := by simp [-List.getElem?_map, map_get hp2]; exact .mk)
   refine xO2 ?_
   refine xG [13,14,64,65,66] ?_
   refine xO2 ?_
   refine xQ [13,64,65,66,72] ?_ ?_
   · intro h72
     have hk : nth ks p = -1 := by simpa using h72
     have hr : cellR ks ms c = some ((p : Int) * 32 + 4) := by rw [hr0, freeR_some hp2 hk hin3]; rfl
     have w1 : IntKind.i64.wrap ((p : Int) * 32) = (p : Int) * 32 := wrap64 (by omega) (by omega)
     have w2 : IntKind.i64.wrap ((p : Int) * 32 + 4) = (p : Int) * 32 + 4 := wrap64 (by omega) (by omega)
     refine xU ?_
     refine xO ?_
     refine xO ?_ (h := by simp [w1]; exact .mk)
     refine xO ?_ (h := by simp [w1, w2]; exact .mk)
     refine xH2 [4,5] ?_
     refine W_ret (endAt_ret (by simp [Tryz.f208]; exact .mk) ?_ ?_)
     · simp [hr]
     rfl
   intro h72
   refine W_skip fun _ => ?_
   refine xY ?_
   refine xO2 ?_
   refine xE [64,65,66] ?_
   refine rounds_kill [64,65,66] ?_
   refine rounds_next (m' := ks.length - (p+1)) (by omega) ⟨p+1, rfl, by omega, fun q hq => ?_, ?_, rfl⟩
   · rcases Nat.lt_succ_iff_lt_or_eq.1 hq with hq | rfl
     · exact hin3 q hq
     simpa using h72
   rw [wrap64 (by omega) (by omega)]; rfl
 intro h67
 have hr : cellR ks ms c = none := by rw [hr0, freeR_none (fun q hq => hin3 q (by simp at h67; omega))]; rfl
 refine W_exit (xT ?_)
 refine xH2 [4,5] ?_
 refine W_ret (endAt_ret (by simp [Tryz.f208]; exact .mk) ?_ ?_)
 · simp [hr]
 rfl

open Go.Awp
theorem ct152 (g : Gl) (pages : Int) (l : List (Int × Int)) (hl : l.length ≤ 2^40) (ho : ∀ i, i < l.length → (nth l i).1 ≤ 2^40) (n : Int) : CtAt Tryz.prog g 152 [vI pages, rO l, vI n] (.tup [vI ((placeS pages l n).getD 0), .v (.bool (placeS pages l n).isSome)]) := by
 refine xA Tryz.func152 fun B S => ?_
 have hc := in141 g pages l hl ho
 refine xU ?_
 refine xH2 [0,1,2] ?_
 refine W_seq ?_
 cases hr0 : laidS pages l
 · skip
   simp only [hr0] at hc
   have hr : placeS pages l n = none := by unfold placeS; rw [hr0]
   refine xY ?_
   refine xO2 ?_
   refine run_inl0 rfl rfl rfl rfl (by simp; exact .mk) ⟨_, Tryz.func141, rfl, rfl⟩ hc (.inl (by simp)) ?_
   refine xO5 ?_
   refine xF [2,8,9] ?_
   refine W_seq (xU ?_)
   refine xO2 ?_
   refine xQ [2,8,23] ?_ ?_
   · intro h23
     refine xU ?_
     refine xH2 [6,7] ?_
     refine W_ret (xR (by simp [Tryz.f152]; exact .mk) ?_)
     first | (simp [Tryz.f152, hr]; done) | (simp [Tryz.f152, hr]; cases b <;> simp)
   intro h23
   simp at h23
 skip
 rename_i y
 simp only [hr0] at hc
 have L := laidP hr0
 obtain ⟨hp0, hokk, hy⟩ := laidS_some hr0
 have hlt := stI_lt (pages := pages) (l := l) (i := l.length)
 rw [← hy] at hlt
 obtain ⟨ks, ms⟩ := y
 simp only at hc L hlt
 have hks := L.len
 rw [← hks] at hc
 refine xY ?_
 refine xO2 ?_
 refine run_inl0 rfl rfl rfl rfl (by simp; exact .mk) ⟨_, Tryz.func141, rfl, rfl⟩ hc (.inl (by simp)) ?_
 refine xO5 ?_
 refine xF [2,8,9] ?_
 refine W_seq (xU ?_)
 refine xO2 ?_
 refine xQ [2,8,23] ?_ ?_
 · intro h23
   simp at h23
 intro h23
 refine W_skip fun _ => ?_
 refine W_seq (xU ?_)
 refine xO ?_
 refine xC (ct207 g n) ?_ (he := by simp [show (D.roed ∘ vI) = vI from funext fun _ => roed_v _]; exact .mk)
 refine xO5 ?_
 refine xG [2,8,10,11] ?_
 refine xO ?_
 refine xQ [2,8,10,29] ?_ ?_
 · intro h29
   have hcl : (classS n).2 = true := h29
   obtain ⟨c, hc6, hcn⟩ := classS_c hcl
   have hr : placeS pages l n = cellR ks ms c := by unfold placeS; rw [hr0]; simp only; rw [if_pos hcl, hcn]
   rw [hcn]
   refine xU ?_
   refine xO2 ?_
   refine run_inl0 rfl rfl rfl rfl (by simp; exact .mk) ⟨_, Tryz.func208, rfl, rfl⟩ (in208 g ks ms L.len2 (by have := L.len; omega) hlt c hc6) (.inl (by simp)) ?_
   refine xO4 ?_
   refine xF [6,7] ?_
   refine W_ret (xR (by simp [Tryz.f152]; exact .mk) ?_)
   first | (simp [Tryz.f152, hr]; done) | (simp [Tryz.f152, hr]; cases b <;> simp)
 intro h29
 have hcl : ¬ (classS n).2 = true := by simpa using h29
 refine W_skip ?_
 refine xT ?_
 refine xO ?_
 refine xC (ct209 g n) ?_ (he := by simp [show (D.roed ∘ vI) = vI from funext fun _ => roed_v _]; exact .mk)
 refine xO5 ?_
 refine xF [8,12,13] ?_
 refine W_seq (xU ?_)
 refine xO2 ?_
 refine xQ [8,12,41] ?_ ?_
 · intro h41
   have hr : placeS pages l n = none := by unfold placeS; rw [hr0]; simp only; rw [if_neg hcl, if_pos (by simpa using h41)]
   refine xU ?_
   refine xH2 [6,7] ?_
   refine W_ret (xR (by simp [Tryz.f152]; exact .mk) ?_)
   first | (simp [Tryz.f152, hr]; done) | (simp [Tryz.f152, hr]; cases b <;> simp)
 intro h41
 have hr : placeS pages l n = (bestR ks (pagesS n).1).map fun g => g.1 * 32 := by unfold placeS; rw [hr0]; simp only; rw [if_neg hcl, if_neg (by simpa using h41)]
 have hbb := bestR_b (ks := ks) (n := (pagesS n).1)
 have c137 := ct210 g ks (by have := L.len; omega) (pagesS n).1
 obtain ⟨b, hb⟩ : ∃ b, b = bestR ks (pagesS n).1 := ⟨_, rfl⟩
 rw [← hb] at hr hbb c137
 have w1 : IntKind.i64.wrap ((b.getD (0, 0)).1 * 32) = (b.getD (0, 0)).1 * 32 := wrap64 (by omega) (by omega)
 refine W_skip ?_
 refine xT ?_
 refine xO5 ?_
 refine xC (c137) ?_ (he := by simp [show (D.roed ∘ vI) = vI from funext fun _ => roed_v _]; exact .mk)
 refine xO5 ?_
 refine xG [14,15] ?_
 refine xO ?_
 refine xO ?_ (h := by simp [w1]; exact .mk)
 refine xH3 [6,7] ?_
 refine W_ret (xR (by simp [Tryz.f152]; exact .mk) ?_)
 first | (simp [Tryz.f152, hr]; done) | (simp [Tryz.f152, hr]; cases b <;> simp)

open Go.Awp
theorem ct103 (g : Gl) (s : Stt) (hs : s.Ok) (hR : sttS s = true) (two : Bool) (n : Int) : CtAt Tryz.prog g 103 [eStt s, vT two, vI n] (.tup [vI ((roomW s two n).getD 0), .v (.bool (roomW s two n).isSome)]) := by
 refine xA Tryz.func103 fun B S => ?_
 simp only [eStt, List.map, argD_agg, argD_v]
 have hb := superS_b (sttS_super hR)
 have hT := sttS_rows hR
 have hl32 := tableS_len hT
 have htl := twosO_len (l := s.slots)
 refine xU ?_
 refine xH3 [1,2,3] ?_
 refine W_seq (xU ?_)
 refine xO2 ?_
 refine xQ [2,3,11] ?_ ?_
 · intro h11
   have hr : roomW s two n = oneS s n := by unfold roomW; rw [if_neg (by simpa using h11)]
   refine xU ?_
   refine xO2 ?_
   refine xC (ct151 g s hs hR n) ?_
   refine xO4 ?_
   refine xF [6,7] ?_
   refine W_ret (xR (by simp [Tryz.f103]; exact .mk) ?_)
   simp [Tryz.f103, hr]
 intro h11
 have hr : roomW s two n = placeS s.base (twosO s.slots) n := by unfold roomW; rw [if_pos (by simpa using h11)]
 refine W_skip ?_
 refine xT ?_
 refine xO ?_
 refine xC (ct22 g s hs) ?_
 refine xO5 ?_
 refine xG [2,3,8] ?_
 refine xO4 ?_
 refine xC (ct152 g s.base (twosO s.slots) (by omega) (twosO_le hT) n) ?_
 refine xO4 ?_
 refine xF [6,7] ?_
 refine W_ret (xR (by simp [Tryz.f103]; exact .mk) ?_)
 simp [Tryz.f103, hr]

theorem ct38 (g : Gl) (s : Stt) (hs : s.Ok) (two : Bool) (n : Int) : CtAt Tryz.prog g 38 [eStt s, vT two, vI n] (.tup [vI ((roomS s two n).getD 0), .v (.bool (roomS s two n).isSome)]) := by
 refine xA Tryz.func38 fun B S => ?_
 simp only [eStt, List.map, argD_agg, argD_v]
 refine xU ?_
 refine xH3 [1,2,3] ?_
 refine W_seq (xU ?_)
 refine xO ?_
 refine xC (ct32 g s hs) ?_
 refine xO2 ?_
 refine xI ?_
 refine run_call rfl (by simp; exact .mk) rfl rfl (by simp) (by simp; exact .mk) (by simp; exact .mk) (fun hb => ct102 g n) (by simp) (by simp; exact .mk) (by simp) ?_
 refine xI ?_
 refine xP ?_
 refine xQ [1,2,3,15] ?_ ?_
 · intro h15
   have hr : roomS s two n = none := by unfold roomS; rw [if_neg]; simp at h15 ⊢; grind
   refine xU ?_
   refine xH2 [6,7] ?_
   refine W_ret (xR (by simp [Tryz.f38]; exact .mk) ?_)
   simp [Tryz.f38, hr]
 intro h15
 have hR : sttS s = true ∧ sizedN n = true := by simp at h15; grind
 have hr : roomS s two n = roomW s two n := by unfold roomS; rw [if_pos (by simp [hR])]
 refine W_skip ?_
 refine xT ?_
 refine xO3 ?_
 refine xC (ct103 g s hs hR.1 two n) ?_
 refine xO4 ?_
 refine xF [6,7] ?_
 refine W_ret (xR (by simp [Tryz.f38]; exact .mk) ?_)
 simp [Tryz.f38, hr]

open Go.Awp
theorem in107 (g : Gl) (o0 o1 o2 o3 o4 : Awp.Obj) (mode : Int) : ∀ B S, CallsA Tryz.prog g B S ⟨5, true⟩ 107 [.d (vI mode)] [o0, o1, o2, o3, o4]
    (fun x r => x = .fn (.func 159) [] [.ptr 5 0 0] ∧ r = [o0, o1, o2, o3, o4, .var 3 [.d (vI mode)]]) := by
 refine callsA_at Tryz.func107 rfl (Nat.le_of_ble_eq_true rfl) fun B S => ?_
 refine xU ?_
 refine xO2 ?_
 refine xE [1] ?_
 refine xT ?_
 refine xO2 ?_
 refine xE [2] fun _ => ?_
 refine W_ret (endAt_ret (by simp [Tryz.f107]; exact .mk) ?_ ?_)
 · simp
 simp

theorem in159 (g : Gl) (mode : Int) (b lb : Nat) (c : LoopC) (L : List (Nat × AV)) (hc1 : c.params.size = 1) (hc2 : ∀ p ∈ c.params.toList, p < c.n) (a0 a1 a2 a3 a4 : Awp.Obj) (d2 d3 d4 : Bool → Awp.Obj) (ok : Bool → Bool)
    (z0 : a0.lt 8 = true) (z1 : a1.lt 8 = true) (z2 : a2.lt 8 = true) (z3 : a3.lt 8 = true) (z4 : a4.lt 8 = true) (y2 : ∀ t, (d2 t).lt 8 = true) (y3 : ∀ t, (d3 t).lt 8 = true) (y4 : ∀ t, (d4 t).lt 8 = true) (zL : (L.all fun p => p.2.lt 8) = true)
    (hround : ∀ two, ∀ B S, RoundI Tryz.prog g B S lb 7 c L [.d (vT two)] [a0, a1, a2, a3, a4, .var 3 [.d (vI mode)], .blk b, .lp lb c L .ready none] (fun bb o => bb = ok two ∧ o = if ok two = true then [a0, a1, a2, a3, a4, .var 3 [.d (vI mode)], .blk b, .lp lb c L .ready none] else [a0, a1, d2 two, d3 two, d4 two, .var 3 [.d (vI mode)], .blk b, .lp lb c L .done (some .ret)])) :
    ∀ B S, CallsA Tryz.prog g B S ⟨8, true⟩ 159 [.fn (.yield lb) [] [], .ptr 5 0 0] [a0, a1, a2, a3, a4, .var 3 [.d (vI mode)], .blk b, .lp lb c L .ready none] (fun x r => x = .tup [] ∧ r = (match firstB mode ok with | none => [a0, a1, a2, a3, a4, .var 3 [.d (vI mode)], .blk b, .lp lb c L .ready none] | some two => [a0, a1, d2 two, d3 two, d4 two, .var 3 [.d (vI mode)], .blk b, .lp lb c L .done (some .ret)])) := by
 refine callsA_WI Tryz.func159 rfl (Nat.le_of_ble_eq_true rfl) fun B S => ?_
 refine WI_seq ?_
 refine WI_reg rfl ?_ (by decide +kernel)
 refine xO ?_
 refine xE [0,3] fun _ => ?_
 refine WI_block ?_
 refine WI_seq ?_
 refine WI_reg rfl ?_ (by decide +kernel)
 refine xO2 ?_
 refine xE [0,3,4] fun _ => ?_
 refine WI_cond rfl ?_ ?_
 · intro h4
   have hm : mode = 1 := by simpa using h4
   refine WI_regN rfl ?_
   refine WRI_run [0] [1] rfl (by decide +kernel) ?_
   refine xB ?_
   refine run_nil ?_
   refine WRI_yield (fun bb o => bb = ok false ∧ o = if ok false = true then [a0, a1, a2, a3, a4, .var 3 [.d (vI mode)], .blk b, .lp lb c L .ready none] else [a0, a1, d2 false, d3 false, d4 false, .var 3 [.d (vI mode)], .blk b, .lp lb c L .done (some .ret)]) rfl (by simp; exact .mk) rfl rfl rfl (by simp) (by simp; exact .mk) (by simp; exact .mk) rfl hc1 hc2 (hround false) ?_
   rintro bb o2 ⟨rfl, rfl⟩
   cases hokf : ok false
   · skip
     have hr : firstB mode ok = some false := by simp [firstB, pickB, *]
     simp only [Bool.false_eq_true, if_false]
     refine WRI_ends [] (by decide +kernel) ?_
     refine xE [] ?_
     try simp only [thenI_ret, roundsI_ret, inBlkI_ret, thenI_exit, roundsI_exit, inBlkI_exit, inBlkI_normal, if_true]
     refine endInM_normal (fn := Tryz.f159) (rs := []) 8 .nil ?_ (Nat.le_refl _) ?_ ?_ ?_
     · simp [Tryz.f159]; exact .mk
     · rfl
     · simp [z0, z1, z2, z3, z4, y2, y3, y4, zL]
     exact ⟨rfl, by rw [hr]; rfl⟩
   skip
   have hr : firstB mode ok = none := by simp [firstB, pickB, *]
   simp only [if_true]
   refine WRI_ends [] (by decide +kernel) ?_
   refine xE [] ?_
   try simp only [thenI_ret, roundsI_ret, inBlkI_ret, thenI_exit, roundsI_exit, inBlkI_exit, inBlkI_normal, if_true]
   refine endInM_normal (fn := Tryz.f159) (rs := []) 8 .nil ?_ (Nat.le_refl _) ?_ ?_ ?_
   · simp [Tryz.f159]; exact .mk
   · rfl
   · simp [z0, z1, z2, z3, z4, y2, y3, y4, zL]
   exact ⟨rfl, by rw [hr]; rfl⟩
 intro h4
 have n1 : ¬ mode = 1 := by simpa using h4
 refine WI_seq ?_
 refine WI_reg rfl ?_ (by decide +kernel)
 refine xO2 ?_
 refine xE [0,3,8] fun _ => ?_
 refine WI_cond rfl ?_ ?_
 · intro h8
   have hm : mode = 2 := by simpa using h8
   refine WI_regN rfl ?_
   refine WRI_run [0] [1] rfl (by decide +kernel) ?_
   refine xB ?_
   refine run_nil ?_
   refine WRI_yield (fun bb o => bb = ok true ∧ o = if ok true = true then [a0, a1, a2, a3, a4, .var 3 [.d (vI mode)], .blk b, .lp lb c L .ready none] else [a0, a1, d2 true, d3 true, d4 true, .var 3 [.d (vI mode)], .blk b, .lp lb c L .done (some .ret)]) rfl (by simp; exact .mk) rfl rfl rfl (by simp) (by simp; exact .mk) (by simp; exact .mk) rfl hc1 hc2 (hround true) ?_
   rintro bb o2 ⟨rfl, rfl⟩
   cases hokt : ok true
   · skip
     have hr : firstB mode ok = some true := by simp [firstB, pickB, *]
     simp only [Bool.false_eq_true, if_false]
     refine WRI_ends [] (by decide +kernel) ?_
     refine xE [] ?_
     try simp only [thenI_ret, roundsI_ret, inBlkI_ret, thenI_exit, roundsI_exit, inBlkI_exit, inBlkI_normal, if_true]
     refine endInM_normal (fn := Tryz.f159) (rs := []) 8 .nil ?_ (Nat.le_refl _) ?_ ?_ ?_
     · simp [Tryz.f159]; exact .mk
     · rfl
     · simp [z0, z1, z2, z3, z4, y2, y3, y4, zL]
     exact ⟨rfl, by rw [hr]; rfl⟩
   skip
   have hr : firstB mode ok = none := by simp [firstB, pickB, *]
   simp only [if_true]
   refine WRI_ends [] (by decide +kernel) ?_
   refine xE [] ?_
   try simp only [thenI_ret, roundsI_ret, inBlkI_ret, thenI_exit, roundsI_exit, inBlkI_exit, inBlkI_normal, if_true]
   refine endInM_normal (fn := Tryz.f159) (rs := []) 8 .nil ?_ (Nat.le_refl _) ?_ ?_ ?_
   · simp [Tryz.f159]; exact .mk
   · rfl
   · simp [z0, z1, z2, z3, z4, y2, y3, y4, zL]
   exact ⟨rfl, by rw [hr]; rfl⟩
 intro h8
 have n2 : ¬ mode = 2 := by simpa using h8
 refine WI_seq ?_
 refine WI_reg rfl ?_ (by decide +kernel)
 refine xO2 ?_
 refine xE [0,3,12] fun _ => ?_
 refine WI_cond rfl ?_ ?_
 · intro h12
   have hm : mode = 3 := by simpa using h12
   refine WI_regN rfl ?_
   refine WRI_run [0] [1,2,3,4,5] rfl (by decide +kernel) ?_
   refine xB ?_
   refine run_nil ?_
   refine WRI_yield (fun bb o => bb = ok true ∧ o = if ok true = true then [a0, a1, a2, a3, a4, .var 3 [.d (vI mode)], .blk b, .lp lb c L .ready none] else [a0, a1, d2 true, d3 true, d4 true, .var 3 [.d (vI mode)], .blk b, .lp lb c L .done (some .ret)]) rfl (by simp; exact .mk) rfl rfl rfl (by simp) (by simp; exact .mk) (by simp; exact .mk) rfl hc1 hc2 (hround true) ?_
   rintro bb o2 ⟨rfl, rfl⟩
   cases hokt : ok true
   · skip
     have hr : firstB mode ok = some true := by simp [firstB, pickB, *]
     simp only [Bool.false_eq_true, if_false]
     refine WRI_ends [2,3,4,5] (by decide +kernel) ?_
     refine xB ?_
     iterate 2 (refine run_not (av := .d (.v (.bool false))) rfl (by simp; exact .mk) rfl ?_)
     refine xP ?_
     refine xE [] ?_
     try simp only [thenI_ret, roundsI_ret, inBlkI_ret, thenI_exit, roundsI_exit, inBlkI_exit, inBlkI_normal, if_true]
     refine endInM_normal (fn := Tryz.f159) (rs := []) 8 .nil ?_ (Nat.le_refl _) ?_ ?_ ?_
     · simp [Tryz.f159]; exact .mk
     · rfl
     · simp [z0, z1, z2, z3, z4, y2, y3, y4, zL]
     exact ⟨rfl, by rw [hr]; rfl⟩
   skip
   simp only [if_true]
   refine WRI_run [2,3] [4,5] rfl (by decide +kernel) ?_
   refine xB ?_
   refine xI ?_
   refine run_nil ?_
   refine WRI_yield (fun bb o => bb = ok false ∧ o = if ok false = true then [a0, a1, a2, a3, a4, .var 3 [.d (vI mode)], .blk b, .lp lb c L .ready none] else [a0, a1, d2 false, d3 false, d4 false, .var 3 [.d (vI mode)], .blk b, .lp lb c L .done (some .ret)]) rfl (by simp; exact .mk) rfl rfl rfl (by simp) (by simp; exact .mk) (by simp; exact .mk) rfl hc1 hc2 (hround false) ?_
   rintro bb o2 ⟨rfl, rfl⟩
   cases hokf : ok false
   · skip
     have hr : firstB mode ok = some false := by simp [firstB, pickB, *]
     simp only [Bool.false_eq_true, if_false]
     refine WRI_ends [5] (by decide +kernel) ?_
     refine xP ?_
     refine xE [] ?_
     try simp only [thenI_ret, roundsI_ret, inBlkI_ret, thenI_exit, roundsI_exit, inBlkI_exit, inBlkI_normal, if_true]
     refine endInM_normal (fn := Tryz.f159) (rs := []) 8 .nil ?_ (Nat.le_refl _) ?_ ?_ ?_
     · simp [Tryz.f159]; exact .mk
     · rfl
     · simp [z0, z1, z2, z3, z4, y2, y3, y4, zL]
     exact ⟨rfl, by rw [hr]; rfl⟩
   skip
   have hr : firstB mode ok = none := by simp [firstB, pickB, *]
   simp only [if_true]
   refine WRI_ends [5] (by decide +kernel) ?_
   refine xP ?_
   refine xE [] ?_
   try simp only [thenI_ret, roundsI_ret, inBlkI_ret, thenI_exit, roundsI_exit, inBlkI_exit, inBlkI_normal, if_true]
   refine endInM_normal (fn := Tryz.f159) (rs := []) 8 .nil ?_ (Nat.le_refl _) ?_ ?_ ?_
   · simp [Tryz.f159]; exact .mk
   · rfl
   · simp [z0, z1, z2, z3, z4, y2, y3, y4, zL]
   exact ⟨rfl, by rw [hr]; rfl⟩
 intro h12
 have n3 : ¬ mode = 3 := by simpa using h12
 refine WI_seq ?_
 refine WI_reg rfl ?_ (by decide +kernel)
 refine xO2 ?_
 refine xE [0,20] fun _ => ?_
 refine WI_cond rfl ?_ ?_
 · intro h20
   have hm : mode = 4 := by simpa using h20
   refine WI_regN rfl ?_
   refine WRI_run [0] [1,2,3,4,5] rfl (by decide +kernel) ?_
   refine xB ?_
   refine run_nil ?_
   refine WRI_yield (fun bb o => bb = ok false ∧ o = if ok false = true then [a0, a1, a2, a3, a4, .var 3 [.d (vI mode)], .blk b, .lp lb c L .ready none] else [a0, a1, d2 false, d3 false, d4 false, .var 3 [.d (vI mode)], .blk b, .lp lb c L .done (some .ret)]) rfl (by simp; exact .mk) rfl rfl rfl (by simp) (by simp; exact .mk) (by simp; exact .mk) rfl hc1 hc2 (hround false) ?_
   rintro bb o2 ⟨rfl, rfl⟩
   cases hokf : ok false
   · skip
     have hr : firstB mode ok = some false := by simp [firstB, pickB, *]
     simp only [Bool.false_eq_true, if_false]
     refine WRI_ends [2,3,4,5] (by decide +kernel) ?_
     refine xB ?_
     iterate 2 (refine run_not (av := .d (.v (.bool false))) rfl (by simp; exact .mk) rfl ?_)
     refine xP ?_
     refine xE [] ?_
     try simp only [thenI_ret, roundsI_ret, inBlkI_ret, thenI_exit, roundsI_exit, inBlkI_exit, inBlkI_normal, if_true]
     refine endInM_normal (fn := Tryz.f159) (rs := []) 8 .nil ?_ (Nat.le_refl _) ?_ ?_ ?_
     · simp [Tryz.f159]; exact .mk
     · rfl
     · simp [z0, z1, z2, z3, z4, y2, y3, y4, zL]
     exact ⟨rfl, by rw [hr]; rfl⟩
   skip
   simp only [if_true]
   refine WRI_run [2,3] [4,5] rfl (by decide +kernel) ?_
   refine xB ?_
   refine xI ?_
   refine run_nil ?_
   refine WRI_yield (fun bb o => bb = ok true ∧ o = if ok true = true then [a0, a1, a2, a3, a4, .var 3 [.d (vI mode)], .blk b, .lp lb c L .ready none] else [a0, a1, d2 true, d3 true, d4 true, .var 3 [.d (vI mode)], .blk b, .lp lb c L .done (some .ret)]) rfl (by simp; exact .mk) rfl rfl rfl (by simp) (by simp; exact .mk) (by simp; exact .mk) rfl hc1 hc2 (hround true) ?_
   rintro bb o2 ⟨rfl, rfl⟩
   cases hokt : ok true
   · skip
     have hr : firstB mode ok = some true := by simp [firstB, pickB, *]
     simp only [Bool.false_eq_true, if_false]
     refine WRI_ends [5] (by decide +kernel) ?_
     refine xP ?_
     refine xE [] ?_
     try simp only [thenI_ret, roundsI_ret, inBlkI_ret, thenI_exit, roundsI_exit, inBlkI_exit, inBlkI_normal, if_true]
     refine endInM_normal (fn := Tryz.f159) (rs := []) 8 .nil ?_ (Nat.le_refl _) ?_ ?_ ?_
     · simp [Tryz.f159]; exact .mk
     · rfl
     · simp [z0, z1, z2, z3, z4, y2, y3, y4, zL]
     exact ⟨rfl, by rw [hr]; rfl⟩
   skip
   have hr : firstB mode ok = none := by simp [firstB, pickB, *]
   simp only [if_true]
   refine WRI_ends [5] (by decide +kernel) ?_
   refine xP ?_
   refine xE [] ?_
   try simp only [thenI_ret, roundsI_ret, inBlkI_ret, thenI_exit, roundsI_exit, inBlkI_exit, inBlkI_normal, if_true]
   refine endInM_normal (fn := Tryz.f159) (rs := []) 8 .nil ?_ (Nat.le_refl _) ?_ ?_ ?_
   · simp [Tryz.f159]; exact .mk
   · rfl
   · simp [z0, z1, z2, z3, z4, y2, y3, y4, zL]
   exact ⟨rfl, by rw [hr]; rfl⟩
 intro h20
 have n4 : ¬ mode = 4 := by simpa using h20
 have hr : firstB mode ok = none := by simp [firstB, pickB, *]
 refine WI_skip ?_
 try simp only [thenI_ret, roundsI_ret, inBlkI_ret, thenI_exit, roundsI_exit, inBlkI_exit, inBlkI_normal, if_true]
 refine endInM_normal (fn := Tryz.f159) (rs := []) 8 .nil ?_ (Nat.le_refl _) ?_ ?_ ?_
 · simp [Tryz.f159]; exact .mk
 · rfl
 · simp [z0, z1, z2, z3, z4, y2, y3, y4, zL]
 exact ⟨rfl, by rw [hr]; rfl⟩

open Go.Awp
theorem in40 (g : Gl) (s : Stt) (hs : s.Ok) (n : Int) : ∀ B S, CallsA Tryz.prog g B S ⟨0, true⟩ 40 ([eStt s, vI n].map argD) [] (fun x r => x = .tup [.d (vT ((firstP s n).getD (false, 0)).1), .d (vI ((firstP s n).getD (false, 0)).2), .d (vT (firstP s n).isSome)] ∧ r = []) := by
 refine callsA_WI Tryz.func40 rfl (Nat.le_of_ble_eq_true rfl) fun B S => ?_
 simp only [eStt, List.map, argD_agg, argD_v]
 refine WI_seq ?_
 refine WI_reg rfl ?_ (by decide +kernel)
 refine xO5 ?_
 refine xE [2,3,4,5,6] fun _ => ?_
 refine WI_seq ?_
 refine WI_seq ?_
 refine WI_reg rfl ?_ (by decide +kernel)
 refine xO2 ?_
 refine run_inl0 rfl rfl rfl rfl (by simp; exact .mk) ⟨_, Tryz.func107, rfl, rfl⟩ (in107 g _ _ _ _ _ s.mode) (.inl (by simp)) ?_
 refine xE [2,3,4,5,6,12] fun _ => ?_
 refine WI_block ?_
 refine WI_rangeFunc [2,3,4,5,6] (by simp; exact .mk) ⟨_, Tryz.func159, rfl, rfl⟩ (by simp; exact .mk) _ (fun fn b lb B S => in159 g s.mode b lb _ _ rfl ?_ _ _ _ _ _ (fun two => .var 4 [.d (vT two)]) (fun two => .var 3 [.d (vI ((roomS s two n).getD 0))]) (fun _ => .var 4 [.d (vT true)]) (fun two => (roomS s two n).isNone) rfl rfl rfl rfl rfl (fun _ => rfl) (fun _ => rfl) (fun _ => rfl) rfl (fun two B S => ?_) B S) ?_
 · intro p hp2
   have hp3 : p = 13 := by simpa using hp2
   show p < 24
   rw [hp3]; decide
 · skip
   unfold RoundI
   refine WI_weak (Weak.kills [2,3,4,5,6,13] (L := [(2, .ptr 0 0 0), (3, .ptr 1 0 0), (4, .ptr 2 0 0), (5, .ptr 3 0 0), (6, .ptr 4 0 0), (13, .d (vT two))]) rfl) ?_
   refine WI_reg rfl ?_ (by decide +kernel)
   refine xO ?_
   refine xE [2,3,4,5,6,7] ?_
   refine ⟨rfl, rfl, rfl, fun _ => ?_⟩
   refine WI_block ?_
   refine WI_seq ?_
   refine WI_reg rfl ?_ (by decide +kernel)
   refine xO3 ?_
   refine xC (ct38 g s hs two n) ?_
   refine xO5 ?_
   refine xE [4,5,6,7,8,9] fun _ => ?_
   refine WI_seq ?_
   refine WI_reg rfl ?_ (by decide +kernel)
   refine xO ?_
   refine xE [4,5,6,7,8,21] fun _ => ?_
   refine WI_cond rfl ?_ ?_
   · intro h21
     have hf : (roomS s two n).isNone = false := by cases hq : roomS s two n <;> simp [hq] at h21 ⊢
     refine WI_seq ?_
     refine WI_reg rfl ?_ (by decide +kernel)
     refine xO2 ?_
     iterate 3 (refine xOs ?_)
     refine xE [4,5,6] fun _ => ?_
     refine WI_ret ?_
     simp only [thenI_ret, inBlkI_ret]
     refine ⟨rfl, hf.symm, ?_⟩
     rw [if_neg (by simp [hf])]; rfl
   intro h21
   have hf : (roomS s two n).isNone = true := by cases hq : roomS s two n <;> simp [hq] at h21 ⊢
   refine WI_skip ?_
   simp only [inBlkI_normal]
   refine ⟨rfl, hf.symm, ?_⟩
   rw [if_pos hf]; rfl
 rintro fn b lb av o ⟨rfl, rfl⟩
 cases hf : firstB s.mode (fun two => (roomS s two n).isNone) with
 | none =>
  refine ⟨_, _, rfl, by simp, ?_⟩
  have hr : firstP s n = none := by rw [firstP_B, hf]; rfl
  simp only [pending_none, inBlkI_normal]
  rintro -
  refine WI_seq ?_
  refine WI_reg rfl ?_ (by decide +kernel)
  iterate 3 (refine xOs ?_)
  refine xE [4,5,6] fun _ => ?_
  refine WI_ret ?_
  try simp only [thenI_ret, roundsI_ret, inBlkI_ret, thenI_exit, roundsI_exit, inBlkI_exit, inBlkI_normal, if_true]
  refine endInM_ret (fn := Tryz.f40) (rs := [.d (vT false), .d (vI 0), .d (vT false)]) 0 (.cons (r := 6) rfl .nil) ?_ (Nat.zero_le _) ?_ ?_ ?_
  · simp [Tryz.f40]; exact .mk
  · rfl
  · rfl
  rw [hr]; exact ⟨rfl, rfl⟩
 | some two =>
  refine ⟨_, _, rfl, by simp, ?_⟩
  have hr : firstP s n = some (two, (roomS s two n).getD 0) := by rw [firstP_B, hf]; rfl
  simp only [pending_ret, thenI_ret, inBlkI_ret]
  refine endInM_ret (fn := Tryz.f40) (rs := [.d (vT two), .d (vI ((roomS s two n).getD 0)), .d (vT true)]) 0 (.cons (r := 6) rfl .nil) ?_ (Nat.zero_le _) ?_ ?_ ?_
  · simp [Tryz.f40]; exact .mk
  · rfl
  · rfl
  rw [hr]; exact ⟨rfl, rfl⟩
theorem ct40 (g : Gl) (s : Stt) (hs : s.Ok) (n : Int) : CtAt Tryz.prog g 40 [eStt s, vI n] (.tup [vT ((firstP s n).getD (false, 0)).1, vI ((firstP s n).getD (false, 0)).2, vT (firstP s n).isSome]) :=
 ctAt_of_calls Tryz.func40 rfl rfl (in40 g s hs n) (by simp) (by simp)


open Go.Awp
theorem ct42 (g : Gl) (s : Stt) (hs : s.Ok) (n : Int) : CtAt Tryz.prog g 42 [eStt s, vI n] (.tup [oStt (putS s n).1, .agg [vI (putS s n).2.1.1, vI (putS s n).2.1.2], vI (putS s n).2.2]) := by
 refine xA Tryz.func42 fun B S => ?_
 simp only [eStt, List.map, argD_agg, argD_v]
 refine xU ?_
 refine xO4 ?_
 refine xG [1,2,4,5] ?_
 refine xH [1,2,4,5,7] ?_
 refine W_seq (xU ?_)
 refine xOl ?_
 refine xC (ct32 g s hs) ?_ (hi := by simp [oStt]; exact .mk)
 refine xO2 ?_
 refine xI ?_
 refine run_call rfl (by simp; exact .mk) rfl rfl (by simp) (by simp; exact .mk) (by simp; exact .mk) (fun hb => ct102 g n) (by simp) (by simp [oStt]; exact .mk) (by simp) ?_
 refine xI ?_
 refine xP ?_
 refine xQ [1,2,4,5,7,24] ?_ ?_
 · intro h24
   have hr : putS s n = (zStt, (0, 0), 1) := by unfold putS; rw [if_neg]; simp at h24 ⊢; grind
   refine xU ?_
   refine xO ?_
   refine xC (ct108 g 1) ?_ (hi := by simp [oStt]; exact .mk)
   refine xO3 ?_
   iterate 2 (refine xOs ?_)
   refine xH [4,5,6] ?_
   refine W_ret (end_ret (by simp [Tryz.f42]; exact .mk) (by simp; exact .mk) ?_ (by simp [oStt]))
   first | (simp [Tryz.f42, hr, oStt, zStt, ownR]; done) | (simp [Tryz.f42, hr, oStt, zStt, ownR, putAt, zerosB, List.map_set]; try exact ⟨rfl, rfl⟩)
 intro h24
 have hR : sttS s = true ∧ sizedN n = true := by simp at h24; grind
 have hR2 : (sttS s && sizedN n) = true := by simp [hR]
 have hn := sizedN_iff.1 hR.2
 refine W_skip fun _ => ?_
 refine W_seq (xU ?_)
 refine xO ?_
 refine xOl ?_
 refine xC (ct109 g s.slots hs.h1) ?_ (hi := by simp [oStt]; exact .mk)
 refine xO5 ?_
 refine xG [1,2,4,5,7,9] ?_
 refine xO2 ?_
 refine xQ [1,2,4,5,7,37] ?_ ?_
 · intro h37
   have hx : nextS s.slots = none := by simpa using h37
   have hr : putS s n = (zStt, (0, 0), 9) := by unfold putS; rw [if_pos hR2, hx]
   refine xU ?_
   refine xO ?_
   refine xC (ct108 g 9) ?_ (hi := by simp [oStt]; exact .mk)
   refine xO3 ?_
   iterate 2 (refine xOs ?_)
   refine xH [4,5,6] ?_
   refine W_ret (end_ret (by simp [Tryz.f42]; exact .mk) (by simp; exact .mk) ?_ (by simp [oStt]))
   first | (simp [Tryz.f42, hr, oStt, zStt, ownR]; done) | (simp [Tryz.f42, hr, oStt, zStt, ownR, putAt, zerosB, List.map_set]; try exact ⟨rfl, rfl⟩)
 intro h37
 obtain ⟨k, hk⟩ : ∃ k, nextS s.slots = some k := Option.isSome_iff_exists.1 (by simpa using h37)
 obtain ⟨hkl, hko, _⟩ := nextS_spec hk
 refine W_skip ?_
 refine xT ?_
 refine xOl ?_
 refine xO ?_
 refine xC (ct40 g s hs n) ?_ (hi := by simp [oStt]; exact .mk)
 iterate 7 refine xO ?_
 refine xF [1,2,4,5,7,10,11,12] ?_
 refine W_seq (xU ?_)
 refine xO2 ?_
 refine xQ [1,2,4,5,7,10,11,51] ?_ ?_
 · intro h51
   have hx : firstP s n = none := by simpa using h51
   have hr : putS s n = (zStt, (0, 0), 10) := by unfold putS; rw [if_pos hR2, hk]; simp only; rw [hx]
   refine xU ?_
   refine xO ?_
   refine xC (ct108 g 10) ?_ (hi := by simp [oStt]; exact .mk)
   refine xO3 ?_
   iterate 2 (refine xOs ?_)
   refine xH [4,5,6] ?_
   refine W_ret (end_ret (by simp [Tryz.f42]; exact .mk) (by simp; exact .mk) ?_ (by simp [oStt]))
   first | (simp [Tryz.f42, hr, oStt, zStt, ownR]; done) | (simp [Tryz.f42, hr, oStt, zStt, ownR, putAt, zerosB, List.map_set]; try exact ⟨rfl, rfl⟩)
 intro h51
 obtain ⟨p, hp⟩ : ∃ p, firstP s n = some p := Option.isSome_iff_exists.1 (by simpa using h51)
 have hr : putS s n = (putAt s k (newSlot (nth s.slots k).gen n p.1 p.2) (zerosB n), ((k : Int), (nth s.slots k).gen), 0) := by unfold putS; rw [if_pos hR2, hk]; simp only; rw [hp]
 obtain ⟨two, a⟩ := p
 have ht : takeT s.slots ⟨0, false, two, a, n⟩ = (s.slots.set k (newSlot (nth s.slots k).gen n two a), ((k : Int), (nth s.slots k).gen), 0) := put_take hR.1 hR.2 hk hp
 have c70 := ct110 g s.slots hs.h1 ⟨0, false, two, a, n⟩
 rw [ht] at c70
 rw [hp]
 have hkd : k < s.data.length := by have := rowsS_len (sttS_rowsS hR.1); omega
 have e1 : 0 ≤ n := by omega
 have e2 : n ≤ 140737488355328 := by omega
 refine W_skip ?_
 refine xT ?_
 refine xOl ?_
 refine xC (ct24 g s hs) ?_ (hi := by simp [oStt]; exact .mk)
 refine xO ?_
 refine xOs ?_
 refine xG [1,2,4,5,7,10,11,13] ?_
 refine xO ?_
 refine xOl ?_
 refine xO3 ?_
 refine xOs ?_
 refine xC (c70) ?_ (hi := by simp [oStt]; exact .mk)
 iterate 6 refine xO ?_
 refine xOs ?_
 refine xH [1,4,5,7,13,14,15,16] ?_
 refine W_seq (xU ?_)
 refine xO2 ?_
 refine xQ [1,4,5,7,13,14,15,16,71] ?_ ?_
 · intro h71
   simp at h71
 intro h71
 refine W_skip fun _ => ?_
 refine W_seq ?_
 refine W_regDSK (hard := []) [3,6,8] (keepOk_lt (by decide)) (by kernel_rfl) 4 [0,1,2,3,4,5,7,6,8,9,10] [[0,1,2,3,4,5,7,8,6,9,10], [0,1,2,4,5,7,6,3,8,9,10], [0,1,2,4,5,7,6,8,3,9,10], [0,1,2,4,5,7,8,3,6,9,10], [0,1,2,4,5,7,8,6,3,9,10]] (by decide +kernel) ?_
 refine xO ?_
 refine xOl ?_
 refine xO ?_
 refine xOl ?_
 refine xO3 ?_
 refine xO ?_ (h := by simp [e1, e2]; exact .mk)
 refine xOs ?_
 refine xO ?_ (h := by simp [eSlot, hkd]; exact .mk)
 refine xO ?_ (h := by simp [splice, hkd, nrmL, nrm, putC]; exact .mk)
 refine xE [4,5,13,15] ?_
 refine ⟨_, rfl, ⟨?_, ?_, ?_, ?_, ?_, trivial⟩, ?_⟩
 · skip
   refine xO ?_
   refine xOl ?_
   refine xO ?_
   refine xOl ?_
   refine xO3 ?_
   refine xOs ?_
   refine xO ?_ (h := by simp [e1, e2]; exact .mk)
   refine xO ?_ (h := by simp [eSlot, hkd]; exact .mk)
   refine xO ?_ (h := by simp [splice, hkd, nrmL, nrm, putC]; exact .mk)
   refine xE [4,5,13,15] ?_
   exact Weak.perm [0,1,2,3,4,5,6,7,8,9] [0,1,2,3,4,5,6,7,8,9] rfl rfl rfl
 · skip
   refine xO ?_
   refine xOl ?_
   refine xO4 ?_
   refine xO ?_ (h := by simp [e1, e2]; exact .mk)
   refine xOl ?_
   refine xOs ?_
   refine xO ?_ (h := by simp [eSlot, hkd]; exact .mk)
   refine xO ?_ (h := by simp [splice, hkd, nrmL, nrm, putC]; exact .mk)
   refine xE [4,5,13,15] ?_
   exact Weak.perm [0,1,2,3,4,5,6,7,8,9] [0,1,2,3,4,5,6,7,8,9] rfl rfl rfl
 · skip
   refine xO ?_
   refine xOl ?_
   refine xO4 ?_
   refine xO ?_ (h := by simp [e1, e2]; exact .mk)
   refine xOs ?_
   refine xOl ?_
   refine xO ?_ (h := by simp [eSlot, hkd]; exact .mk)
   refine xO ?_ (h := by simp [splice, hkd, nrmL, nrm, putC]; exact .mk)
   refine xE [4,5,13,15] ?_
   exact Weak.perm [0,1,2,3,4,5,6,7,8,9] [0,1,2,3,4,5,6,7,8,9] rfl rfl rfl
 · skip
   refine xO ?_
   refine xOl ?_
   refine xO4 ?_
   refine xOs ?_
   refine xOl ?_
   refine xO ?_ (h := by simp [e1, e2]; exact .mk)
   refine xO ?_ (h := by simp [eSlot, hkd]; exact .mk)
   refine xO ?_ (h := by simp [splice, hkd, nrmL, nrm, putC]; exact .mk)
   refine xE [4,5,13,15] ?_
   exact Weak.perm [0,1,2,3,4,5,6,7,8,9] [0,1,2,3,4,5,6,7,8,9] rfl rfl rfl
 · skip
   refine xO ?_
   refine xOl ?_
   refine xO4 ?_
   refine xOs ?_
   refine xO ?_ (h := by simp [e1, e2]; exact .mk)
   refine xOl ?_
   refine xO ?_ (h := by simp [eSlot, hkd]; exact .mk)
   refine xO ?_ (h := by simp [splice, hkd, nrmL, nrm, putC]; exact .mk)
   refine xE [4,5,13,15] ?_
   exact Weak.perm [0,1,2,3,4,5,6,7,8,9] [0,1,2,3,4,5,6,7,8,9] rfl rfl rfl
 rintro -
 refine W_seq ?_
 refine W_regDSK (hard := []) [1,2] (keepOk_lt (by decide)) (by kernel_rfl) 4 [0,1,2,3,4] [[0,2,1,3,4]] (by decide +kernel) ?_
 iterate 2 (refine xOl ?_)
 iterate 2 (refine xOs ?_)
 refine xO ?_
 refine xE [4,5,6] ?_
 refine ⟨_, rfl, ⟨?_, trivial⟩, ?_⟩
 · skip
   refine xOl ?_
   refine xOs ?_
   refine xOl ?_
   refine xOs ?_
   refine xO ?_
   refine xE [4,5,6] ?_
   exact Weak.perm [0,1,2,3,4,5,6,7,8,9] [0,1,2,3,4,5,6,7,8,9] rfl rfl rfl
 rintro -
 refine W_ret (end_ret (by simp [Tryz.f42]; exact .mk) (by simp; exact .mk) ?_ (by simp [oStt]))
 first | (simp [Tryz.f42, hr, oStt, zStt, ownR]; done) | (simp [Tryz.f42, hr, oStt, zStt, ownR, putAt, zerosB, List.map_set]; try exact ⟨rfl, rfl⟩)

open Go.Awp
theorem ct44 (g : Gl) (s : Stt) (hs : s.Ok) (k n : Int) : CtAt Tryz.prog g 44 [eStt s, vI k, vI n] (.tup [oStt (rszS s k n).1, vI (rszS s k n).2]) := by
 refine xA Tryz.func44 fun B S => ?_
 simp only [eStt, List.map, argD_agg, argD_v]
 refine xU ?_
 refine xH3 [1,2,3,6] ?_
 refine W_seq (xU ?_)
 refine xOl ?_
 refine xO ?_
 refine xC (ct111 g s hs k) ?_ (he := by simp [row_rows, Function.comp_def]; exact .mk) (hi := by simp [oStt]; exact .mk)
 refine xO2 ?_
 refine xI ?_
 refine run_call rfl (by simp; exact .mk) rfl rfl (by simp) (by simp; exact .mk) (by simp [row_rows, Function.comp_def]; exact .mk) (fun hb => ct102 g n) (by simp) (by simp [oStt]; exact .mk) (by simp) ?_
 refine xI ?_
 refine xP ?_
 refine xQ [1,2,3,6,21] ?_ ?_
 · intro h21
   have hr : rszS s k n = (zStt, 1) := by unfold rszS; rw [if_neg]; simp at h21 ⊢; grind
   refine xU ?_
   iterate 2 (refine xOs ?_)
   refine xH [6,7] ?_
   refine W_ret (end_ret (by simp [Tryz.f44]; exact .mk) (by simp; exact .mk) ?_ (by simp [oStt]))
   first | (simp [Tryz.f44, hr, oStt, zStt, ownR]; done) | (simp [Tryz.f44, hr, oStt, zStt, ownR, putAt, zerosB, List.map_set]; try exact ⟨rfl, rfl⟩)
 intro h21
 have hR : liveS s k = true ∧ sizedN n = true := by simp at h21; grind
 have hR2 : (liveS s k && sizedN n) = true := by simp [hR]
 have hn := sizedN_iff.1 hR.2
 obtain ⟨m, rfl, hm, hml, hmd, hg⟩ := liveS_nat hR.1
 have e1 : 0 ≤ n := by omega
 have e2 : n ≤ 140737488355328 := by omega
 have hz : (rszB (nth s.data m) n).length = n.toNat := by have := rszB_len (d := nth s.data m) e1; omega
 have hr0 : rszS s m n = (if sttS (sizeAt s m n) = true then (sizeAt s m n, (0 : Int)) else match firstP s n with
   | none => (zStt, 10)
   | some p => (layAt (sizeAt s m n) m p.1 p.2, 0)) := by unfold rszS; rw [if_pos hR2]; rfl
 refine W_skip ?_
 refine xT ?_
 refine xOl ?_
 refine xC (ct24 g s hs) ?_ (he := by simp [row_rows, Function.comp_def]; exact .mk) (hi := by simp [oStt]; exact .mk)
 refine xO ?_
 refine xOs ?_
 refine xG [1,2,3,6,8] ?_
 refine xO ?_
 refine xO ?_ (h := by simp [e1, e2]; exact .mk)
 refine xO ?_
 refine xG [1,2,3,6,8,9] ?_
 refine xO2 ?_
 refine xOl ?_
 refine xO ?_
 refine xO ?_ (h := by simp [eSlot, hmd]; exact .mk)
 refine xO ?_ (h := by simp [eSlot, -List.getElem?_map, map_get hmd]; exact .mk)
 refine xO ?_ (h := by simp [copyA]; exact .mk)
 refine xF [1,2,3,6,8,9] ?_
 refine W_seq ?_
 rw [resize_row, show (nth s.data m).take n.toNat ++ List.replicate (n.toNat - (nth s.data m).length) 0 = rszB (nth s.data m) n from rfl]
 refine W_regDSK (hard := []) [4,10] (keepOk_lt (by decide)) (by kernel_rfl) 4 [0,1,2,3,4,5,6,7,8,9,10,11,12] [[0,1,2,3,5,6,7,8,9,10,4,11,12]] (by decide +kernel) ?_
 refine xO ?_
 refine xOl ?_
 refine xO2 ?_
 refine xOl ?_
 refine xO3 ?_
 refine xO ?_ (h := by simp [eSlot, hm]; exact .mk)
 refine xO ?_
 refine xO ?_ (h := by simp [-List.getElem?_map, map_get hm, eSlot, nrmL, nrm, putC, splice]; exact .mk)
 refine xO ?_ (h := by simp [eSlot, hmd]; exact .mk)
 refine xO ?_ (h := by simp [splice, hz, -List.getElem?_map, map_get hmd]; exact .mk)
 refine xE [1,2,3,6,8] ?_
 refine ⟨_, rfl, ⟨?_, trivial⟩, ?_⟩
 · skip
   refine xO ?_
   refine xOl ?_
   refine xO5 ?_
   refine xO ?_ (h := by simp [eSlot, hm]; exact .mk)
   refine xO ?_
   refine xO ?_ (h := by simp [-List.getElem?_map, map_get hm, eSlot, nrmL, nrm, putC, splice]; exact .mk)
   refine xOl ?_
   refine xO ?_ (h := by simp [eSlot, hmd]; exact .mk)
   refine xO ?_ (h := by simp [splice, hz, -List.getElem?_map, map_get hmd]; exact .mk)
   refine xE [1,2,3,6,8] ?_
   exact Weak.perm [0,1,2,3,4,5,6] [0,1,2,3,4,5,6] rfl rfl rfl
 erw [putC_own1]
 simp only [foldSlot, foldData]
 obtain ⟨SL, hSL⟩ : ∃ x, x = s.slots.set m (lenS (nth s.slots m) n) := ⟨_, rfl⟩
 obtain ⟨DL, hDL⟩ : ∃ x, x = s.data.set m (rszB (nth s.data m) n) := ⟨_, rfl⟩
 have hX : sizeAt s m n = ⟨s.sh, s.mode, s.base, SL, s.roots, DL⟩ := by rw [hSL, hDL]; rfl
 rw [show s.slots.length = (s.slots.set m (lenS (nth s.slots m) n)).length by simp, show s.data.length = (s.data.set m (rszB (nth s.data m) n)).length by simp, ← hSL, ← hDL]
 rintro -
 refine W_seq (xU ?_)
 refine xOl ?_
 refine run_call0 rfl rfl rfl rfl (by simp; exact .mk) (by simp [row_rows, Function.comp_def]; exact .mk) (by have := ct32 g (sizeAt s m n) (sizeAt_ok hs hn); rw [hX] at this; exact this) (by simp) (by simp [oStt]; exact .mk) ?_
 refine xQ [1,2,3,6,8,46] ?_ ?_
 · intro h46
   have hr : rszS s m n = (⟨s.sh, s.mode, s.base, SL, s.roots, DL⟩, 0) := by rw [hr0, hX, if_pos (by simpa using h46)]
   refine xU ?_
   refine xOl ?_
   refine xOs ?_
   refine xH [6,7] ?_
   refine W_ret (end_ret (by simp [Tryz.f44]; exact .mk) (by simp; exact .mk) ?_ (by simp [oStt]))
   first | (simp [Tryz.f44, hr, oStt, zStt, ownR]; done) | (simp [Tryz.f44, hr, oStt, zStt, ownR, putAt, zerosB, List.map_set]; try exact ⟨rfl, rfl⟩)
 intro h46
 rw [hX, if_neg (by simpa using h46)] at hr0
 refine W_skip ?_
 refine xT ?_
 refine xOl ?_
 refine xO ?_
 refine xC (ct40 g s hs n) ?_ (he := by simp [row_rows, Function.comp_def]; exact .mk) (hi := by simp [oStt]; exact .mk)
 iterate 7 refine xO ?_
 refine xF [1,6,8,10,11,12] ?_
 refine W_seq (xU ?_)
 refine xO2 ?_
 refine xQ [1,6,8,10,11,56] ?_ ?_
 · intro h56
   have hx : firstP s n = none := by simpa using h56
   rw [hx] at hr0
   have hr := hr0
   refine xU ?_
   iterate 2 (refine xOs ?_)
   refine xH [6,7] ?_
   refine W_ret (end_ret (by simp [Tryz.f44]; exact .mk) (by simp; exact .mk) ?_ (by simp [oStt]))
   first | (simp [Tryz.f44, hr, oStt, zStt, ownR]; done) | (simp [Tryz.f44, hr, oStt, zStt, ownR, putAt, zerosB, List.map_set]; try exact ⟨rfl, rfl⟩)
 intro h56
 obtain ⟨p, hp⟩ : ∃ p, firstP s n = some p := Option.isSome_iff_exists.1 (by simpa using h56)
 rw [hp] at hr0 ⊢
 have hr := hr0
 refine W_skip ?_
 refine xT ?_
 refine xOl ?_
 refine xO3 ?_
 refine run_call0 rfl rfl rfl rfl (by simp; exact .mk) (by simp [row_rows, Function.comp_def]; exact .mk) (by have := ct113 g (sizeAt s m n) (sizeAt_ok hs hn) m p.1 p.2 (by simpa [sizeAt, putAt] using hm); rw [hX] at this; exact this) (by simp) (by simp [oStt]; exact .mk) ?_
 refine xOs ?_
 refine xH [6,7] ?_
 refine W_ret (end_ret (by simp [Tryz.f44]; exact .mk) (by simp; exact .mk) ?_ (by simp [oStt]))
 first | (simp [Tryz.f44, hr, oStt, zStt, ownR]; done) | (simp [Tryz.f44, hr, oStt, zStt, ownR, putAt, zerosB, List.map_set]; try exact ⟨rfl, rfl⟩)

open Go.Awp
theorem zStt_ok : zStt.Ok := ⟨by decide, by decide, by decide, fun i hi => absurd hi (Nat.not_lt_zero _), fun i hi => absurd hi (Nat.not_lt_zero _)⟩
theorem putAt_ok {s : Stt} {k : Nat} {y : Slot} {d : List UInt8} (h : s.Ok) (hd : d.length ≤ 2^40) : (putAt s k y d).Ok := by
 refine ⟨by simpa [putAt] using h.h1, h.h2, by simpa [putAt] using h.h3, fun i hi => ?_, h.h5⟩
 simp only [putAt, List.length_set] at hi ⊢
 by_cases hm : k < s.data.length
 · rw [nth_set2 hm]
   split
   · exact hd
   · exact h.h4 i hi
 · rw [List.set_eq_of_length_le (by omega)]
   exact h.h4 i hi
theorem putS_ok {s : Stt} {n : Int} (h : s.Ok) : (putS s n).1.Ok := by
 unfold putS
 split
 · rename_i hr
   simp only [Bool.and_eq_true] at hr
   have hn := sizedN_iff.1 hr.2
   cases nextS s.slots with
   | none => exact zStt_ok
   | some k => cases firstP s n with
    | none => exact zStt_ok
    | some p => exact putAt_ok h (by simp [zerosB]; omega)
 · exact zStt_ok
theorem rszS_ok {s : Stt} {k n : Int} (h : s.Ok) : (rszS s k n).1.Ok := by
 unfold rszS
 split
 · rename_i hr
   simp only [Bool.and_eq_true] at hr
   have hn := sizedN_iff.1 hr.2
   split
   · exact sizeAt_ok h hn
   · cases firstP s n with
     | none => exact zStt_ok
     | some p => exact layAt_ok (sizeAt_ok h hn)
 · exact zStt_ok
theorem takeS_ok {s : Stt} {k : Int} (h : s.Ok) : (takeS s k).1.Ok := by
 unfold takeS
 split
 · exact putAt_ok (y := goneS (nth s.slots k.toNat)) (d := []) h (by simp)
 · exact zStt_ok
theorem moveS_ok {s : Stt} {k : Int} {two : Bool} {a : Int} (h : s.Ok) : (moveS s k two a).1.Ok := by
 unfold moveS
 split
 · split
   · exact layAt_ok h
   · exact zStt_ok
 · exact zStt_ok
def sh1 : Shape := ⟨1, 2, 2, 30⟩
def stO : Stt := firstStt sh1 1
def stA : Stt := (putS stO 16).1
def stB : Stt := (putS stA 16).1
def stC : Stt := (rszS stB 0 17).1
def stT : Stt := firstStt sh1 2
def stU : Stt := (putS stT 121).1
theorem new_O : newS sh1 1 = (stO, 0) := by kernel_rfl
theorem new_T : newS sh1 2 = (stT, 0) := by kernel_rfl
theorem put_A : putS stO 16 = (stA, (0, 0), 0) := by kernel_rfl
theorem put_B : putS stA 16 = (stB, (1, 0), 0) := by kernel_rfl
theorem rsz_C : rszS stB 0 17 = (stC, 0) := by kernel_rfl
theorem put_U : putS stT 121 = (stU, (0, 0), 0) := by kernel_rfl
theorem put_V : putS stU 121 = (zStt, (0, 0), 10) := by kernel_rfl
theorem stC_len : stC.slots.length = 2 := by kernel_rfl
theorem stC_0 : (nth stC.slots 0).at_ = 8 := by kernel_rfl
theorem stC_1 : (nth stC.slots 1).at_ = 4 := by kernel_rfl
theorem stO_ok : stO.Ok := firstOk (sh := sh1) (mode := 1) (base := 0) (by kernel_rfl)
theorem stT_ok : stT.Ok := firstOk (sh := sh1) (mode := 2) (base := 1) (by kernel_rfl)
theorem stA_ok : stA.Ok := putS_ok stO_ok
theorem stB_ok : stB.Ok := putS_ok stA_ok
theorem stU_ok : stU.Ok := putS_ok stT_ok
def otherOk (a b : Stt) (k : Int) (i : Nat) : Bool := decide ((i : Int) = k) || (sameSlot (nth a.slots i) (nth b.slots i) && (str (nth a.data i)).toList == (str (nth b.data i)).toList)
def othersS (a b : Stt) (k : Int) : Bool := decide (a.slots.length = b.slots.length) && (decide (a.data.length = b.data.length) && (a.mode == b.mode && (a.base == b.base && (sameShape a.sh b.sh && (List.range (min a.slots.length a.data.length)).all (otherOk a b k)))))
open Go.Awp
open Go.Awp
open Go.Awp
theorem ct21 (g : Gl) (s : Stt) (hs : s.Ok) : CtAt Tryz.prog g 21 [eStt s] (oStt s) := by
 refine xA Tryz.func21 fun B S => ?_
 simp only [eStt, List.map, argD_agg, argD_v]
 have q0 := hs.h1
 have q1 := hs.h2
 have q3 := hs.h3
 have e1 : s.slots.length * 32 ≤ 140737488355328 := by omega
 have e2 : s.slots.length ≤ 140737488355328 := by omega
 have e3 : s.roots.length * 32 ≤ 140737488355328 := by omega
 have e4 : s.roots.length ≤ 140737488355328 := by omega
 refine xU ?_
 refine xO2 ?_
 refine xG [1,2] ?_
 refine xOl ?_
 refine xO ?_
 refine xOs ?_
 refine xG [1,2,3] ?_
 refine xO2 ?_
 refine xOl ?_
 refine xO ?_ (h := by simp [rows, e1, e2]; exact .mk)
 refine xO ?_
 refine xOs ?_
 refine xG [1,2,3] ?_
 refine xO2 ?_
 refine xOl ?_
 refine xO ?_ (h := by simp [rows, e3, e4]; exact .mk)
 refine xO ?_
 refine xOs ?_
 refine xG [1,2,3] ?_
 refine xO ?_
 refine xOs ?_
 refine xF [1,2,3] ?_
 refine W_seq (xU ?_)
 refine xH [1,2,3,4] ?_
 refine W_block (W_rounds (fun m σ o => ∃ i : Nat, m = s.data.length - i ∧ i ≤ s.data.length ∧ σ = slots [(1, .ptr 0 0 0), (2, .ptr 1 0 0), (3, .ptr 2 0 0), (4, .d (vI i))] ∧ o = [.var 28 [.d (vI s.sh.pages), .d (vI s.sh.slots), .d (vI s.sh.roots), .d (vI s.sh.room), .d (vI s.mode), .d (vI s.base), .d (rSl s.slots), .d (rR s.roots), .d (rBB s.data)], .var 28 [.d (vI 0), .d (vI 0), .d (vI 0), .d (vI 0), .d (vI 0), .d (vI 0), .d (.v (.slice none 0 0)), .d (.v (.slice none 0 0)), .d (.v (.slice none 0 0))], .var 28 [.d (vI s.sh.pages), .d (vI s.sh.slots), .d (vI s.sh.roots), .d (vI s.sh.room), .d (vI s.mode), .d (vI s.base), .hdr 4 0 s.slots.length, .hdr 6 0 s.roots.length, .hdr 7 0 i], .dead, .row 5 (s.slots.map eSlot), .dead, .row 3 (s.roots.map eRoot), .row 1 ((s.data.take i).map oB)]) s.data.length (Weak.nilCell 2 8 1 rfl rfl) ⟨0, by simp, by simp, rfl, rfl⟩ ?_)
 rintro m σ o ⟨i, rfl, hi, rfl, rfl⟩ _
 refine W_seq (xU ?_)
 refine xO2 ?_
 refine xOl ?_
 refine xO2 ?_
 refine xQ [1,2,3,4,21] ?_ ?_
 · intro h21
   have hi2 : i < s.data.length := by simpa using h21
   have hb := hs.h4 i hi2
   have f1 : (nth s.data i).length ≤ 140737488355328 := by omega
   have f2 : (i + 1) * 24 ≤ 140737488355328 := by omega
   have f3 : i ≤ 140737488355327 := by omega
   have f5 : (D.row M.own 1 ((nth s.data i).map vB)).noOwn = false := by first | rfl | simp [noOwn_row]
   have f4 : min i s.data.length = i := by omega
   refine W_skip fun _ => ?_
   refine W_seq (W_block ?_)
   refine W_regDT (hard := []) [1,2,8,9] (keepOk_lt (by decide)) (by kernel_rfl) 4 [[0,1,3,4,5,6,7,2,8,9,10,11,12], [0,3,4,5,6,7,2,1,8,9,10,11,12], [0,3,4,5,6,7,2,8,1,9,10,11,12], [0,3,4,5,6,7,2,8,9,1,10,11,12]] (by decide +kernel) ⟨?_, ?_, ?_, ?_, trivial⟩
   · skip
     refine xO ?_
     refine xOl ?_
     refine xO ?_
     refine xOl ?_
     refine xO ?_
     refine xO ?_ (h := by simp [eSlot, hi2]; exact .mk)
     refine xO ?_ (h := by simp [-List.getElem?_map, map_get hi2]; exact .mk)
     refine xO ?_
     refine xO ?_ (h := by simp [rows, f1]; exact .mk)
     refine xO ?_
     refine xO ?_ (h := by simp [rows, f5, f2, f3, f4]; exact .mk)
     refine xO ?_
     refine xOs ?_
     refine xF [1,2,3,4] ?_
     refine xY ?_
     refine xO3 ?_
     refine xE [1,2,3,4] ?_
     refine rounds_kill [1,2,3,4] ?_
     refine rounds_kills [1,2,3,4] rfl ?_
     refine rounds_swap 7 11 1 (by decide) (by simp) (by decide) rfl rfl ?_
     refine rounds_drop 8 [1,2,3,4] (by decide) (by rfl) (by rfl) ?_
     refine rounds_next (m' := s.data.length - (i+1)) (by omega) ⟨i+1, rfl, by omega, ?_, ?_⟩
     · rw [wrap64 (by omega) (by omega)]; rfl
     rw [take_succ hi2]; simp; try rfl
   · skip
     refine xO2 ?_
     refine xOl ?_
     refine xO ?_
     refine xO ?_ (h := by simp [eSlot, hi2]; exact .mk)
     refine xO ?_ (h := by simp [-List.getElem?_map, map_get hi2]; exact .mk)
     refine xO ?_
     refine xOl ?_
     refine xO ?_ (h := by simp [rows, f1]; exact .mk)
     refine xO ?_
     refine xO ?_ (h := by simp [rows, f5, f2, f3, f4]; exact .mk)
     refine xO ?_
     refine xOs ?_
     refine xF [1,2,3,4] ?_
     refine xY ?_
     refine xO3 ?_
     refine xE [1,2,3,4] ?_
     refine rounds_kill [1,2,3,4] ?_
     refine rounds_kills [1,2,3,4] rfl ?_
     refine rounds_swap 7 11 1 (by decide) (by simp) (by decide) rfl rfl ?_
     refine rounds_drop 8 [1,2,3,4] (by decide) (by rfl) (by rfl) ?_
     refine rounds_next (m' := s.data.length - (i+1)) (by omega) ⟨i+1, rfl, by omega, ?_, ?_⟩
     · rw [wrap64 (by omega) (by omega)]; rfl
     rw [take_succ hi2]; simp; try rfl
   · skip
     refine xO2 ?_
     refine xOl ?_
     refine xO ?_
     refine xO ?_ (h := by simp [eSlot, hi2]; exact .mk)
     refine xO ?_ (h := by simp [-List.getElem?_map, map_get hi2]; exact .mk)
     refine xO ?_
     refine xO ?_ (h := by simp [rows, f1]; exact .mk)
     refine xOl ?_
     refine xO ?_
     refine xO ?_ (h := by simp [rows, f5, f2, f3, f4]; exact .mk)
     refine xO ?_
     refine xOs ?_
     refine xF [1,2,3,4] ?_
     refine xY ?_
     refine xO3 ?_
     refine xE [1,2,3,4] ?_
     refine rounds_kill [1,2,3,4] ?_
     refine rounds_kills [1,2,3,4] rfl ?_
     refine rounds_swap 7 11 1 (by decide) (by simp) (by decide) rfl rfl ?_
     refine rounds_drop 8 [1,2,3,4] (by decide) (by rfl) (by rfl) ?_
     refine rounds_next (m' := s.data.length - (i+1)) (by omega) ⟨i+1, rfl, by omega, ?_, ?_⟩
     · rw [wrap64 (by omega) (by omega)]; rfl
     rw [take_succ hi2]; simp; try rfl
   skip
   refine xO2 ?_
   refine xOl ?_
   refine xO ?_
   refine xO ?_ (h := by simp [eSlot, hi2]; exact .mk)
   refine xO ?_ (h := by simp [-List.getElem?_map, map_get hi2]; exact .mk)
   refine xO ?_
   refine xO ?_ (h := by simp [rows, f1]; exact .mk)
   refine xO ?_
   refine xOl ?_
   refine xO ?_ (h := by simp [rows, f5, f2, f3, f4]; exact .mk)
   refine xO ?_
   refine xOs ?_
   refine xF [1,2,3,4] ?_
   refine xY ?_
   refine xO3 ?_
   refine xE [1,2,3,4] ?_
   refine rounds_kill [1,2,3,4] ?_
   refine rounds_kills [1,2,3,4] rfl ?_
   refine rounds_swap 7 11 1 (by decide) (by simp) (by decide) rfl rfl ?_
   refine rounds_drop 8 [1,2,3,4] (by decide) (by rfl) (by rfl) ?_
   refine rounds_next (m' := s.data.length - (i+1)) (by omega) ⟨i+1, rfl, by omega, ?_, ?_⟩
   · rw [wrap64 (by omega) (by omega)]; rfl
   rw [take_succ hi2]; simp; try rfl
 intro h21
 obtain rfl : i = s.data.length := by simp at h21; omega
 rw [show List.take s.data.length (s.data.map oB) = s.data.map oB by rw [List.take_of_length_le (by simp)]]
 refine W_exit (xT ?_)
 refine xOl ?_
 refine xOs ?_
 refine xF [2] ?_
 refine W_ret (end_ret (by simp [Tryz.f21]; exact .mk) (by simp; exact .mk) ?_ (by simp [oStt]))
 simp [Tryz.f21, oStt, ownR]

open Go.Awp
open Go.Awp
def turnS (s : Stt) (mode step : Int) : Stt := { s with mode := mode, base := s.base + step }
def clipG (fr : Int) (g : Int × Int) : Int × Int := if 0 < fr - g.1 then (fr, g.2 - (fr - g.1)) else g
def clipS (fr : Int) (l : List (Int × Int)) : List (Int × Int) := (l.map (clipG fr)).filter fun g => decide (0 < g.2)
def gapsOf (s : Stt) : List (Int × Int) := gapsF (s.sh.pages * 32) (s.base * 32) (spansS s.slots)
def behindS (s : Stt) (fr size : Int) : Option Int := (bestS (clipS fr (gapsOf s)) size).map (·.1)
def lenAt (s : Stt) (k : Int) : Int := (nth s.slots k.toNat).len
def upStep (s : Stt) : Stt × Int :=
 if s.base = s.sh.pages then (turnS s 2 0, 0)
 else if onesS s.slots = [] ∨ (s.base + 1) * 32 ≤ (nth (onesS s.slots) 0).at_ then (turnS s s.mode 1, 0)
 else match roomS s true (lenAt s (nth (onesS s.slots) 0).slot) with
  | some a => moveS s (nth (onesS s.slots) 0).slot true a
  | none => match behindS s ((s.base + 1) * 32) (nth (onesS s.slots) 0).len with
   | some a => moveS s (nth (onesS s.slots) 0).slot false a
   | none => (zStt, 10)
def coverB (pages : Int) (page : Int) (o : Int × Int) : Bool := decide ((spotS pages o).1.page ≤ page) && decide (page - (spotS pages o).1.page < (spotS pages o).1.count)
def matesS (pages : Int) (l : List (Int × Int)) (page : Int) : List Nat := (List.range l.length).filter fun i => coverB pages page (nth l i)
def leastS (l : List (Int × Int)) : List Nat → Nat
 | [] => 0
 | i :: t => t.foldl (fun m j => if (nth l j).1 < (nth l m).1 then j else m) i
def restS (l : List (Int × Int)) (ms : List Nat) : List (Int × Int) := ((List.range l.length).filter fun i => !ms.contains i).map (nth l)
def downStep (s : Stt) : Stt × Int :=
 if s.base = 0 then (turnS s 1 0, 0)
 else if matesS s.base (twosO s.slots) (s.base - 1) = [] then (turnS s s.mode (-1), 0)
 else match roomS s false (nth (twosO s.slots) (leastS (twosO s.slots) (matesS s.base (twosO s.slots) (s.base - 1)))).2 with
  | some a => moveS s (nth (twosI s.slots) (leastS (twosO s.slots) (matesS s.base (twosO s.slots) (s.base - 1)))) false a
  | none => match placeS (s.base - 1) (restS (twosO s.slots) (matesS s.base (twosO s.slots) (s.base - 1))) (nth (twosO s.slots) (leastS (twosO s.slots) (matesS s.base (twosO s.slots) (s.base - 1)))).2 with
   | some a => moveS s (nth (twosI s.slots) (leastS (twosO s.slots) (matesS s.base (twosO s.slots) (s.base - 1)))) true a
   | none => (zStt, 10)
def stepS (s : Stt) : Stt × Int := if sttS s = true then (if s.mode = 3 then upStep s else if s.mode = 4 then downStep s else (zStt, 12)) else (zStt, 1)
def frontB (s : Stt) (x : Slot) : Bool := isOne x && decide (x.at_ < (s.base + 1) * 32)
def frontN (s : Stt) : Nat := ((List.range s.slots.length).filter fun i => frontB s (nth s.slots i)).length
def leftU (s : Stt) : Nat := if s.base = s.sh.pages then 1 else 9 * (s.sh.pages - s.base - 1).toNat + frontN s + 2
open Go.Awp
/- The document's answers, in plain Lean: blocks in order, rows of free pages. -/
def insR : List Blk → Blk → List Blk
 | [], b => [b]
 | x :: l, b => if b.at_ < x.at_ then b :: x :: l else x :: insR l b
theorem insR_at {b : Blk} : ∀ {l : List Blk} {k : Nat}, k ≤ l.length → (∀ j, j < k → (nth l j).at_ ≤ b.at_) → (k < l.length → b.at_ < (nth l k).at_) → insR l b = l.take k ++ b :: l.drop k
 | [], k, h, _, _ => by
  obtain rfl : k = 0 := by simpa using h
  rfl
 | x :: l, 0, _, _, h2 => by
  have := h2 (by simp)
  unfold insR; rw [if_pos (by simpa [nth] using this)]; rfl
 | x :: l, k + 1, h, h1, h2 => by
  have h0 := h1 0 (by omega)
  unfold insR; rw [if_neg (by have : x.at_ ≤ b.at_ := by simpa [nth] using h0
                              omega)]
  rw [insR_at (l := l) (k := k) (by simpa using h) (fun j hj => by have := h1 (j + 1) (by omega); simpa [nth] using this) (fun hk => by have := h2 (by simpa using hk); simpa [nth] using this)]
  rfl
theorem insR_perm {b : Blk} : ∀ {l : List Blk}, (insR l b).Perm (b :: l)
 | [] => .refl _
 | x :: l => by
  unfold insR; split
  · exact .refl _
  · exact (List.Perm.cons x (insR_perm (l := l))).trans (List.Perm.swap b x l)
theorem insR_sorted {b : Blk} : ∀ {l : List Blk}, l.Pairwise beforeB → (∀ y ∈ l, y.slot < b.slot) → (insR l b).Pairwise beforeB
 | [], _, _ => by simp [insR]
 | x :: l, h, h2 => by
  rw [List.pairwise_cons] at h
  unfold insR; split
  · rename_i hx
    rw [List.pairwise_cons]
    refine ⟨fun y hy => ?_, List.pairwise_cons.2 h⟩
    rcases List.mem_cons.1 hy with rfl | hy
    · exact .inl hx
    · have := h.1 y hy; unfold beforeB at *; omega
  · rename_i hx
    rw [List.pairwise_cons]
    refine ⟨fun y hy => ?_, insR_sorted h.2 fun y hy => h2 y (by simp [hy])⟩
    rcases List.mem_cons.1 (insR_perm.mem_iff.1 hy) with rfl | hy
    · have := h2 x (by simp); unfold beforeB; omega
    · exact h.1 y hy
theorem before_uniq : ∀ {l m : List Blk}, l.Perm m → l.Pairwise beforeB → m.Pairwise beforeB → l = m
 | [], m, h, _, _ => (List.nil_perm.1 h).symm
 | a :: l, [], h, _, _ => by simpa using h.length_eq
 | a :: l, b :: m, h, h1, h2 => by
  rw [List.pairwise_cons] at h1 h2
  by_cases e : a = b
  · subst e; rw [before_uniq (List.Perm.cons_inv h) h1.2 h2.2]
  · exfalso
    have q1 : a ∈ m := (List.mem_cons.1 (h.mem_iff.1 (by simp))).resolve_left e
    have q2 : b ∈ l := (List.mem_cons.1 (h.mem_iff.2 (by simp))).resolve_left fun q => e q.symm
    have := h1.1 b q2; have := h2.1 a q1
    unfold beforeB at *; omega
def insI (l : List Slot) : Nat → List Blk
 | 0 => []
 | i + 1 => if isOne (nth l i) = true then insR (insI l i) (blkAt l i) else insI l i
theorem insI_perm {l : List Slot} : ∀ {i : Nat}, (insI l i).Perm ((oneIx l i).map (blkAt l))
 | 0 => .refl _
 | i + 1 => by
  unfold insI; split
  · rename_i h
    rw [oneIx_t h, List.map_append]
    exact insR_perm.trans ((List.Perm.cons _ insI_perm).trans (List.perm_append_comm (l₁ := [blkAt l i])))
  · rename_i h; rw [oneIx_f (by simpa using h)]; exact insI_perm
theorem insI_slot {l : List Slot} {i : Nat} : ∀ b ∈ insI l i, b.slot < (i : Int) := fun b hb => by
 have := insI_perm.mem_iff.1 hb
 simp only [List.mem_map] at this
 obtain ⟨k, hk, rfl⟩ := this
 have := (oneIx_mem hk).1
 show (k : Int) < i; omega
theorem insI_sorted {l : List Slot} : ∀ {i : Nat}, (insI l i).Pairwise beforeB
 | 0 => List.Pairwise.nil
 | i + 1 => by
  unfold insI; split
  · exact insR_sorted insI_sorted fun y hy => insI_slot y hy
  · exact insI_sorted
theorem insI_len {l : List Slot} {i : Nat} : (insI l i).length ≤ i := by
 rw [insI_perm.length_eq, List.length_map]; exact oneIx_len
theorem insI_onesS {l : List Slot} : insI l l.length = onesS l := before_uniq (insI_perm.trans (stS_perm _).symm) insI_sorted onesS_sorted
theorem runsI_skip {ks : List Int} {i : Nat} (h : nth ks i ≠ -1) : runsI ks (i + 1) = ((runsI ks i).1, false) := by
 conv => lhs; unfold runsI
 rw [if_neg h]
theorem runsI_free {ks : List Int} {i : Nat} (hf : (runsI ks i).2 = false) : ∀ {n : Nat}, (∀ t, t < n + 1 → nth ks (i + t) = -1) → runsI ks (i + (n + 1)) = ((runsI ks i).1 ++ [((i : Int), ((n + 1 : Nat) : Int))], true)
 | 0, h => by
  show runsI ks (i + 1) = _
  conv => lhs; unfold runsI
  rw [if_pos (by simpa using h 0 (by omega)), if_neg (by simp [hf])]; rfl
 | n + 1, h => by
  have ih := runsI_free hf (n := n) fun t ht => h t (by omega)
  show runsI ks ((i + (n + 1)) + 1) = _
  conv => lhs; unfold runsI
  rw [if_pos (h (n + 1) (by omega)), ih]
  simp only [if_true]
  rw [bumpR_last]; rfl
def gapsR (fr to : Int) (l : List (Int × Int)) : List (Int × Int) × Int := if gapsS fr to l = true then (gapsF to fr l, 0) else ([], 1)
open Go.Awp
theorem ct233 (g : Gl) : CtAt Tryz.prog g 233 [vI 64] (vI 13) := by
 refine xA Tryz.func233 fun B S => ?_
 refine xU ?_
 refine xH [0] ?_
 refine W_seq (xU ?_)
 refine xO2 ?_
 refine xQ [0,5] ?_ ?_
 · intro h5
   simp at h5
 intro h5
 refine W_skip ?_
 refine xT ?_
 iterate 7 refine xO ?_
 refine xG [0] ?_
 refine xO3 ?_
 refine xG [0] ?_
 refine xH2 [0,3] ?_
 refine W_seq (W_block ?_)
 refine W_rounds (fun m σ o => ((m = 3 ∧ σ = slots [(0, .d (vI 10)), (3, .d (vI 10))]) ∨ (m = 2 ∧ σ = slots [(0, .d (vI 2)), (3, .d (vI 12))]) ∨ (m = 1 ∧ σ = slots [(0, .d (vI 1)), (3, .d (vI 13))])) ∧ o = []) 3 .refl ⟨.inl ⟨rfl, rfl⟩, rfl⟩ ?_
 rintro m σ o ⟨⟨rfl, rfl⟩ | ⟨rfl, rfl⟩ | ⟨rfl, rfl⟩, rfl⟩ _
 · skip
   skip
   refine W_seq (xU ?_)
   refine xO2 ?_
   refine xQ [0,3,16] ?_ ?_
   · intro h16
     refine W_skip fun _ => ?_
     refine W_block (xU ?_)
     iterate 7 refine xO ?_
     refine xF [0,3] ?_
     refine xY ?_
     refine xO4 ?_
     refine xE [0,3] ?_
     refine rounds_kill [0,3] ?_
     exact rounds_next (m' := 2) (by omega) ⟨.inr (.inl ⟨rfl, rfl⟩), rfl⟩
   intro h16
   simp at h16
 · skip
   skip
   refine W_seq (xU ?_)
   refine xO2 ?_
   refine xQ [0,3,16] ?_ ?_
   · intro h16
     refine W_skip fun _ => ?_
     refine W_block (xU ?_)
     iterate 7 refine xO ?_
     refine xF [0,3] ?_
     refine xY ?_
     refine xO4 ?_
     refine xE [0,3] ?_
     refine rounds_kill [0,3] ?_
     exact rounds_next (m' := 1) (by omega) ⟨.inr (.inr ⟨rfl, rfl⟩), rfl⟩
   intro h16
   simp at h16
 skip
 skip
 refine W_seq (xU ?_)
 refine xO2 ?_
 refine xQ [0,3,16] ?_ ?_
 · intro h16
   simp at h16
 intro h16
 refine W_exit (xT ?_)
 refine xH2 [2] ?_
 refine W_ret (xR (by simp [Tryz.f233]; exact .mk) ?_)
 simp [Tryz.f233]

theorem ct202 (g : Gl) (s : Shape) (hs : sizedSh s = true) : CtAt Tryz.prog g 202 [eShape s] (.agg [vI 1, vI 2, vI s.room, vI (headsS s), vI (tableA s), vI (rootsA s), vI (treeA s), vI (heapA s), vI (linesA s)]) := by
 refine xA Tryz.func202 fun B S => ?_
 simp only [eShape, List.map, argD_agg]
 have hb : 1 ≤ s.pages ∧ s.pages ≤ 64 ∧ 1 ≤ s.room ∧ s.room ≤ 4096 ∧ 2 ≤ s.slots ∧ s.slots ≤ 32 ∧ 2 ≤ s.roots ∧ s.roots ≤ 8 := by simp [sizedSh] at hs; omega
 have d1 : 0 ≤ s.slots.tdiv 2 ∧ s.slots.tdiv 2 ≤ 16 := by rw [Int.tdiv_eq_ediv_of_nonneg (by omega)]; omega
 have d2 : 0 ≤ s.roots.tdiv 2 ∧ s.roots.tdiv 2 ≤ 4 := by rw [Int.tdiv_eq_ediv_of_nonneg (by omega)]; omega
 have q1 : headsS s = 2 + s.room * 2 := rfl
 have q2 : tableA s = headsS s + 1 := rfl
 have q3 : rootsA s = tableA s + s.slots.tdiv 2 := rfl
 have q4 : treeA s = rootsA s + s.roots.tdiv 2 := rfl
 have q5 : heapA s = treeA s + 26 := rfl
 have q6 : linesA s = heapA s + s.pages * 4 := rfl
 have e1 : IntKind.i64.wrap (2 * s.room) = 2 * s.room := wrap64 (by omega) (by omega)
 have e2 : IntKind.i64.wrap (2 + 2 * s.room) = headsS s := (wrap64 (by omega) (by omega)).trans (by omega)
 have e3 : IntKind.i64.wrap (headsS s + 1) = tableA s := (wrap64 (by omega) (by omega)).trans (by omega)
 have e4 : IntKind.i64.wrap (s.slots.tdiv 2) = s.slots.tdiv 2 := wrap64 (by omega) (by omega)
 have e5 : IntKind.i64.wrap (tableA s + s.slots.tdiv 2) = rootsA s := (wrap64 (by omega) (by omega)).trans (by omega)
 have e6 : IntKind.i64.wrap (s.roots.tdiv 2) = s.roots.tdiv 2 := wrap64 (by omega) (by omega)
 have e7 : IntKind.i64.wrap (rootsA s + s.roots.tdiv 2) = treeA s := (wrap64 (by omega) (by omega)).trans (by omega)
 have e8 : IntKind.i64.wrap 26 = 26 := rfl
 have e9 : IntKind.i64.wrap (treeA s + 26) = heapA s := (wrap64 (by omega) (by omega)).trans (by omega)
 have e10 : IntKind.i64.wrap (4 * s.pages) = 4 * s.pages := wrap64 (by omega) (by omega)
 have e11 : IntKind.i64.wrap (heapA s + 4 * s.pages) = linesA s := (wrap64 (by omega) (by omega)).trans (by omega)
 refine xU ?_
 refine xO2 ?_
 refine xG [1,2] ?_
 refine xO2 ?_
 iterate 2 (refine xOs ?_)
 refine xO ?_
 refine xOs ?_
 refine xG [1,2,3] ?_
 refine xO2 ?_
 refine xO ?_ (h := by simp [e1]; exact .mk)
 refine xO ?_ (h := by simp [e2]; exact .mk)
 refine xO ?_
 refine xOs ?_
 refine xG [1,2,3] ?_
 refine xO2 ?_
 refine xO ?_ (h := by simp [e3]; exact .mk)
 refine xO ?_
 refine xOs ?_
 refine xG [1,2,3] ?_
 refine xO4 ?_
 refine xO ?_ (h := by simp [e4]; exact .mk)
 refine xO ?_ (h := by simp [e5]; exact .mk)
 refine xO ?_
 refine xOs ?_
 refine xG [1,2,3] ?_
 refine xO4 ?_
 refine xO ?_ (h := by simp [e6]; exact .mk)
 refine xO ?_ (h := by simp [e7]; exact .mk)
 refine xO ?_
 refine xOs ?_
 refine xF [1,2,3] ?_
 refine W_seq ?_
 refine W_regD (by kernel_rfl) [] 4 [0,1,2,3,4,5,6] (by decide +kernel) ?_
 refine xO2 ?_
 refine xC (ct233 g) ?_
 refine xO ?_ (h := by simp [e8]; exact .mk)
 refine xO ?_ (h := by simp [e9]; exact .mk)
 refine xO ?_
 refine xOs ?_
 refine xG [1,2,3] ?_
 refine xO4 ?_
 refine xO ?_ (h := by simp [e10]; exact .mk)
 refine xO ?_ (h := by simp [e11]; exact .mk)
 refine xO ?_
 refine xOs ?_
 refine xG [2,3] ?_
 refine xO ?_
 refine xOs ?_
 refine xF [2] ?_
 refine W_ret (xR (by simp [Tryz.f202]; exact .mk) ?_)
 simp [Tryz.f202]

theorem ct144 (g : Gl) (s : Shape) : CtAt Tryz.prog g 144 [eShape s] (.v (.bool (shapeS s))) := by
 refine xA Tryz.func144 fun B S => ?_
 simp only [eShape, List.map, argD_agg]
 have m1 : 2 ≤ s.slots → (s.slots.tmod 2 = 0 ∨ s.slots.tmod 2 = 1) := fun h => by rw [Int.tmod_eq_emod_of_nonneg (by omega)]; omega
 have m2 : 2 ≤ s.roots → (s.roots.tmod 2 = 0 ∨ s.roots.tmod 2 = 1) := fun h => by rw [Int.tmod_eq_emod_of_nonneg (by omega)]; omega
 refine xU ?_
 refine xH2 [1] ?_
 refine W_seq (xU ?_)
 refine xO4 ?_
 iterate 3 refine xI ?_
 refine xP ?_
 refine xB ?_
 iterate 3 refine xI ?_
 refine xP ?_
 refine xB ?_
 iterate 3 refine xI ?_
 refine xP ?_
 refine xB ?_
 iterate 4 refine xI ?_
 refine xP ?_
 refine xB ?_
 iterate 3 refine xI ?_
 refine xP ?_
 refine xB ?_
 iterate 3 refine xI ?_
 refine xP ?_
 refine xB ?_
 iterate 4 refine xI ?_
 refine xP ?_
 refine xB ?_
 iterate 3 refine xI ?_
 refine xP ?_
 refine xB ?_
 iterate 3 refine xI ?_
 refine xP ?_
 refine xQ [1,52] ?_ ?_
 · intro h52
   have hz : sizedSh s = false := by simp [sizedSh] at h52 ⊢; omega
   have hr : shapeS s = false := by simp [shapeS, hz]
   refine xU ?_
   refine xH [2] ?_
   refine W_ret (xR (by simp [Tryz.f144]; exact .mk) ?_)
   simp [Tryz.f144, hr]
 intro h52
 have hz : sizedSh s = true := by simp [sizedSh] at h52 ⊢; omega
 have hr : shapeS s = decide (linesA s ≤ 4096) := by simp [shapeS, hz]
 refine W_skip ?_
 refine xT ?_
 refine xO ?_
 refine xC (ct202 g s hz) ?_
 refine xH3 [2] ?_
 refine W_ret (xR (by simp [Tryz.f144]; exact .mk) ?_)
 simp [Tryz.f144, hr]

theorem ct92 (g : Gl) (s : Shape) (mode base : Int) : CtAt Tryz.prog g 92 [eShape s, vI mode, vI base] (.v (.bool (superS s mode base))) := by
 refine xA Tryz.func92 fun B S => ?_
 simp only [eShape, List.map, argD_agg, argD_v]
 refine xU ?_
 refine xO2 ?_
 refine xG [1,2,3] ?_
 refine xO ?_
 refine xC (ct144 g s) ?_
 refine xH [1,2,3,7] ?_
 refine W_seq (xU ?_)
 refine xO3 ?_
 iterate 2 refine xI ?_
 refine xP ?_
 refine xB ?_
 iterate 4 refine xI ?_
 refine xP ?_
 refine xQ [1,2,3,21] ?_ ?_
 · intro h21
   refine xU ?_
   refine xH [6] ?_
   refine W_ret (xR (by simp [Tryz.f92]; exact .mk) ?_)
   first | (simp [Tryz.f92, superS, *]; done) | (simp [Tryz.f92, superS] at *; grind)
 intro h21
 refine W_skip fun _ => ?_
 refine W_seq (xU ?_)
 refine xH [2,3,22] ?_
 refine W_block (xU ?_)
 refine xO2 ?_
 refine xQ [2,3,22,23] ?_ ?_
 · intro h23
   refine xU ?_
   refine xH3 [6] ?_
   refine W_ret (xR (by simp [Tryz.f92]; exact .mk) ?_)
   first | (simp [Tryz.f92, superS, *]; done) | (simp [Tryz.f92, superS] at *; grind)
 intro h23
 refine xU ?_
 refine xO2 ?_
 refine xQ [2,3,22,27] ?_ ?_
 · intro h27
   refine xU ?_
   refine xO5 ?_
   refine xF [6] ?_
   refine W_ret (xR (by simp [Tryz.f92]; exact .mk) ?_)
   first | (simp [Tryz.f92, superS, *]; done) | (simp [Tryz.f92, superS] at *; grind)
 intro h27
 refine W_seq (xU ?_)
 refine xO2 ?_
 refine xQ [22,33] ?_ ?_
 · intro h33
   refine W_skip fun _ => ?_
   refine W_cond rfl ?_ ?_
   · intro h33'
     refine xU ?_
     refine xH [6] ?_
     refine W_ret (xR (by simp [Tryz.f92]; exact .mk) ?_)
     first | (simp [Tryz.f92, superS, *]; done) | (simp [Tryz.f92, superS] at *; grind)
   intro hq
   cases h33.symm.trans hq
 intro h33
 refine xY ?_
 refine xO2 ?_
 refine xQ [33] ?_ ?_
 · intro h33'
   refine xU ?_
   refine xH [6] ?_
   refine W_ret (xR (by simp [Tryz.f92]; exact .mk) ?_)
   first | (simp [Tryz.f92, superS, *]; done) | (simp [Tryz.f92, superS] at *; grind)
 intro h33'
 refine W_skip ?_
 refine xT ?_
 refine xH [6] ?_
 refine W_ret (xR (by simp [Tryz.f92]; exact .mk) ?_)
 first | (simp [Tryz.f92, superS, *]; done) | (simp [Tryz.f92, superS] at *; grind)

theorem ct145 (g : Gl) (s : Slot) : CtAt Tryz.prog g 145 [eSlot s] (.v (.bool (slotS1 s))) := by
 refine xA Tryz.func145 fun B S => ?_
 simp only [eSlot, List.map, argD_agg]
 refine xU ?_
 refine xH2 [1] ?_
 refine W_seq (xU ?_)
 refine xO4 ?_
 iterate 3 refine xI ?_
 refine xP ?_
 refine xQ [1,10] ?_ ?_
 · intro h10
   refine xU ?_
   refine xH [2] ?_
   refine W_ret (xR (by simp [Tryz.f145]; exact .mk) ?_)
   simp [Tryz.f145, slotS1] at *; grind
 intro h10
 refine W_skip fun _ => ?_
 refine W_seq (xU ?_)
 refine xO3 ?_
 refine xQ [1,13] ?_ ?_
 · intro h13
   refine xU ?_
   refine xO4 ?_
   iterate 3 refine xI ?_
   refine xP ?_
   refine xB ?_
   iterate 3 refine xI ?_
   refine xP ?_
   refine xB ?_
   refine xF [2] ?_
   refine W_ret (xR (by simp [Tryz.f145]; exact .mk) ?_)
   simp [Tryz.f145, slotS1] at *; grind
 intro h13
 refine W_skip ?_
 refine xT ?_
 refine xO4 ?_
 iterate 3 refine xI ?_
 refine xP ?_
 refine xB ?_
 iterate 3 refine xI ?_
 refine xP ?_
 refine xB ?_
 iterate 3 refine xI ?_
 refine xP ?_
 refine xB ?_
 refine xF [2] ?_
 refine W_ret (xR (by simp [Tryz.f145]; exact .mk) ?_)
 simp [Tryz.f145, slotS1] at *; grind

theorem ct93 (g : Gl) (l : List Slot) (hl : l.length ≤ 2^40) : CtAt Tryz.prog g 93 [rSl l] (.v (.bool (tableS l))) := by
 refine xA Tryz.func93 fun B S => ?_
 refine xU ?_
 refine xH [0] ?_
 refine W_seq (xU ?_)
 refine xH [0,3] ?_
 refine W_block (W_rounds (fun m σ o => ∃ i : Nat, m = l.length - i ∧ i ≤ l.length ∧ (∀ j, j < i → slotS1 (nth l j) = true) ∧ σ = slots [(0, .d (rSl l)), (3, .d (vI i))] ∧ o = []) l.length .refl ⟨0, by simp, by simp, by simp, rfl, rfl⟩ ?_)
 rintro m σ o ⟨i, rfl, hi, hinv, rfl, rfl⟩ _
 refine W_seq (xU ?_)
 refine xO4 ?_
 refine xQ [0,3,8] ?_ ?_
 · intro h8
   have hi2 : i < l.length := by simpa using h8
   refine W_skip fun _ => ?_
   refine W_seq (W_block ?_)
   refine xU ?_
   refine xO2 ?_
   refine xO ?_ (h := by simp [eSlot, hi2]; exact .mk)
   refine xO ?_ (h := by simp [-List.getElem?_map, map_get hi2, eSlot]; exact .mk)
   refine xC (ct145 g (nth l i)) ?_
   refine xO ?_
   refine xG [0,3,4] ?_
   refine xO2 ?_
   refine xQ [0,3,17] ?_ ?_
   · intro h17
     have hr : tableS l = false := by unfold tableS; rw [all_bad hi2 (by simpa using h17)]; rfl
     refine xU ?_
     refine xH [2] ?_
     refine W_ret (xR (by simp [Tryz.f93]; exact .mk) ?_)
     first | (simp [Tryz.f93, hr]; done) | (simp [Tryz.f93, hr, tnewOk, Bool.and_assoc]; try (first | done | grind))
   intro h17
   refine W_skip fun _ => ?_
   refine xY ?_
   refine xO3 ?_
   refine xE [0,3] ?_
   refine rounds_drop 0 [0,3] (by simp) (by simp) (by simp) ?_
   refine rounds_next (m' := l.length - (i+1)) (by omega) ⟨i+1, rfl, by omega, ?_, ?_, rfl⟩
   · intro j hj
     rcases Nat.lt_succ_iff_lt_or_eq.1 hj with hj | rfl
     · exact hinv j hj
     simpa using h17
   rw [wrap64 (by omega) (by omega)]; rfl
 intro h8
 have hr : tableS l = tnewOk l.length := by unfold tableS; rw [all_good (fun j hj => hinv j (by simp at h8; omega))]; rfl
 refine W_exit (xT ?_)
 refine xO4 ?_
 iterate 3 refine xI ?_
 refine xP ?_
 refine xB ?_
 iterate 4 refine xI ?_
 refine xP ?_
 refine xB ?_
 refine xF [2] ?_
 refine W_ret (xR (by simp [Tryz.f93]; exact .mk) ?_)
 first | (simp [Tryz.f93, hr]; done) | (simp [Tryz.f93, hr, tnewOk, Bool.and_assoc]; try (first | done | grind))

open Go.Awp
theorem ct163 (g : Gl) (l : List Slot) (hl : l.length ≤ 2^40) : CtAt Tryz.prog g 163 [rSl l] (oI (chainS l)) := by
 refine xA Tryz.func163 fun B S => ?_
 refine xU ?_
 refine xO ?_
 refine xG [0] ?_
 refine xH [0,3] ?_
 refine W_seq (xU ?_)
 refine xH [0,3,4] ?_
 refine W_block (W_rounds (fun m σ o => ∃ i : Nat, m = l.length - i ∧ i ≤ l.length ∧ σ = slots [(0, .d (rSl l)), (3, .hdr 0 0 (openIx l i).length), (4, .d (vI i))] ∧ o = [.row 1 ((openIx l i).map fun (j : Nat) => vI j)]) l.length (Weak.trans (Weak.nilRow 3 1 rfl) (Weak.kills [0,3,4] rfl) (fun _ _ _ h1 h2 => by rw [← h1.len]; exact h2)) ⟨0, by simp, by simp, by simp [openIx], by simp [openIx]⟩ ?_)
 rintro m σ o ⟨i, rfl, hi, rfl, rfl⟩ _
 have hle := openIx_len (l := l) (i := i)
 refine W_seq (xU ?_)
 refine xO4 ?_
 refine xQ [0,3,4,8] ?_ ?_
 · intro h8
   have hi2 : i < l.length := by simpa using h8
   refine W_skip fun _ => ?_
   refine W_seq (W_block ?_)
   refine xU ?_
   refine xO2 ?_
   refine xO ?_ (h := by simp [eSlot, hi2]; exact .mk)
   refine xO ?_
   refine xO ?_ (h := by simp [-List.getElem?_map, hi2, map_get hi2, eSlot]; exact .mk)
   refine xO2 ?_
   iterate 2 refine xI ?_
   refine xI ?_ (h := fun hb => by simp [eSlot, hi2]; exact .mk)
   refine xI ?_
   refine xI ?_ (h := fun hb => by simp [-List.getElem?_map, hi2, map_get hi2, eSlot]; exact .mk)
   refine xI ?_
   refine xP ?_
   refine xQ [0,3,4,24] ?_ ?_
   · intro h24
     have h2 : openT (nth l i) = true := by simpa [openT] using h24
     have e1 : ((openIx l i).length + 1) * 8 ≤ 140737488355328 := by omega
     have e2 : (openIx l i).length ≤ 140737488355327 := by omega
     refine xY ?_
     refine xO3 ?_
     refine xO ?_ (h := by simp [rows, e1, e2]; exact .mk)
     refine xH [0,3,4] ?_
     refine xY ?_
     refine xO3 ?_
     refine xE [0,3,4] ?_
     refine rounds_kill [0,3,4] ?_
     first
     | (refine rounds_kills [0,3,4] rfl ?_
        refine rounds_drop 1 [0,3,4] (by decide) (by rfl) (by rfl) ?_
        refine rounds_next (m' := l.length - (i+1)) (by omega) ⟨i+1, rfl, by omega, ?_, ?_⟩
        · rw [wrap64 (by omega) (by omega), openIx_f h2]; rfl
        rw [openIx_f h2]; rfl)
     | (refine rounds_kills [0,3,4] rfl ?_
        refine rounds_swap 0 2 1 (by decide) (by simp) (by decide) rfl rfl ?_
        refine rounds_drop 1 [0,3,4] (by decide) (by rfl) (by rfl) ?_
        refine rounds_next (m' := l.length - (i+1)) (by omega) ⟨i+1, rfl, by omega, ?_, ?_⟩
        · rw [wrap64 (by omega) (by omega), openIx_t h2]; simp; try rfl
        rw [openIx_t h2]; simp; try rfl)
   intro h24
   have h2 : openT (nth l i) = false := by simpa [openT] using h24
   refine W_skip fun _ => ?_
   refine xY ?_
   refine xO3 ?_
   refine xE [0,3,4] ?_
   refine rounds_kill [0,3,4] ?_
   first
   | (refine rounds_kills [0,3,4] rfl ?_
      refine rounds_drop 1 [0,3,4] (by decide) (by rfl) (by rfl) ?_
      refine rounds_next (m' := l.length - (i+1)) (by omega) ⟨i+1, rfl, by omega, ?_, ?_⟩
      · rw [wrap64 (by omega) (by omega), openIx_f h2]; rfl
      rw [openIx_f h2]; rfl)
   | (refine rounds_kills [0,3,4] rfl ?_
      refine rounds_swap 0 2 1 (by decide) (by simp) (by decide) rfl rfl ?_
      refine rounds_drop 1 [0,3,4] (by decide) (by rfl) (by rfl) ?_
      refine rounds_next (m' := l.length - (i+1)) (by omega) ⟨i+1, rfl, by omega, ?_, ?_⟩
      · rw [wrap64 (by omega) (by omega), openIx_t h2]; simp; try rfl
      rw [openIx_t h2]; simp; try rfl)
 intro h8
 obtain rfl : i = l.length := by simp at h8; omega
 refine W_exit (xT ?_)
 refine xH2 [2] ?_
 refine W_ret (xR (by simp [Tryz.f163]; exact .mk) ?_)
 simp [Tryz.f163, ownR, chainS]; try rfl

theorem ct115 (g : Gl) (l : List Slot) (hl : l.length ≤ 2^40) : CtAt Tryz.prog g 115 [rSl l] (.tup [vI (((nextS l).getD 0 : Nat) : Int), .v (.bool (nextS l).isSome)]) := by
 refine xA Tryz.func115 fun B S => ?_
 refine xU ?_
 refine xO2 ?_
 refine xG [0] ?_
 refine xO ?_
 refine xC (ct163 g l hl) ?_
 refine xH [4] ?_
 refine W_seq (xU ?_)
 refine xO3 ?_
 refine xQ [4,9] ?_ ?_
 · intro h9
   have hr := chain_nil (l := l) (by simpa using h9)
   refine xU ?_
   refine xH2 [2,3] ?_
   refine W_ret (xR (by simp [Tryz.f115]; exact .mk) ?_)
   first | (simp [Tryz.f115, hr]; done) | simp [Tryz.f115, hr, hr2]
 intro h9
 have hr0 := chain_cons (l := l) (by simpa using h9)
 have hc : 0 < (chainS l).length := Nat.pos_of_ne_zero (by simpa using h9)
 have hr := hr0.1
 have hr2 : (chainS l)[0] = (((nextS l).getD 0 : Nat) : Int) := by rw [← nth_eq hc]; exact hr0.2
 refine W_skip ?_
 refine xT ?_
 refine xO ?_
 refine xO ?_ (h := by simp [hc]; exact .mk)
 refine xO ?_ (h := by simp [-List.getElem?_map, hc, map_get hc]; exact .mk)
 refine xH2 [2,3] ?_
 refine W_ret (xR (by simp [Tryz.f115]; exact .mk) ?_)
 first | (simp [Tryz.f115, hr]; done) | simp [Tryz.f115, hr, hr2]

theorem ct211 (g : Gl) : CtAt Tryz.prog g 211 [] (oI wordsL) := by
 refine xA Tryz.func211 fun B S => ?_
 refine xU ?_
 refine xO ?_
 refine xG [] ?_
 refine xH2 [0] ?_
 refine W_ret (xR (by simp [Tryz.f211]; exact .mk) ?_)
 simp [Tryz.f211, ownR, wordsL]

theorem ct153 (g : Gl) (n : Int) : CtAt Tryz.prog g 153 [vI n] (.tup [vI (classS n).1, .v (.bool (classS n).2)]) := by
 refine xA Tryz.func153 fun B S => ?_
 refine xU ?_
 refine xO2 ?_
 refine xG [0] ?_
 refine xC (ct211 g) ?_
 refine xH [0,4] ?_
 refine W_seq (xU ?_)
 refine xH [0,4,5] ?_
 refine W_block (W_rounds (fun m σ o => ∃ i : Nat, m = 6 - i ∧ i ≤ 6 ∧ (∀ j, j < i → ¬ (1 ≤ n ∧ n ≤ 8 * nth wordsL j)) ∧ σ = slots [(0, .d (vI n)), (4, .hdr 0 0 6), (5, .d (vI i))] ∧ o = [.row 1 (wordsL.map vI)]) 6 .refl ⟨0, by simp, by simp, by simp, rfl, rfl⟩ ?_)
 rintro m σ o ⟨i, rfl, hi, hinv, rfl, rfl⟩ _
 refine W_seq (xU ?_)
 refine xO4 ?_
 refine xQ [0,4,5,10] ?_ ?_
 · intro h10
   have hi2 : i < 6 := by simp at h10; omega
   have hi4 : (i : Int) < 6 := by omega
   have hi3 : i < wordsL.length := hi2
   have hw := wordsL_8 hi2
   have w1 : IntKind.i64.wrap (8 * nth wordsL i) = 8 * nth wordsL i := wrap64 (by omega) (by omega)
   refine W_skip fun _ => ?_
   refine W_seq (W_block ?_)
   refine xU ?_
   refine xO3 ?_
   iterate 3 refine xI ?_
   refine xI ?_ (h := fun hb => by simp [hi2, hi3, hi4]; exact .mk)
   refine xI ?_ (h := fun hb => by simp [-List.getElem?_map, hi2, map_get hi3]; exact .mk)
   refine xI ?_ (h := fun hb => by simp [w1]; exact .mk)
   refine xI ?_
   refine xP ?_
   refine xQ [0,4,5,23] ?_ ?_
   · intro h23
     have hr := classS_at hi2 (by simpa using h23) hinv
     refine xU ?_
     refine xH3 [2,3] ?_
     refine W_ret (xR (by simp [Tryz.f153]; exact .mk) ?_)
     simp [Tryz.f153, hr]
   intro h23
   have hno : ¬ (1 ≤ n ∧ n ≤ 8 * nth wordsL i) := by simpa using h23
   refine W_skip fun _ => ?_
   refine xY ?_
   refine xO3 ?_
   refine xE [0,4,5] ?_
   refine rounds_kill [0,4,5] ?_
   refine rounds_next (m' := 6 - (i+1)) (by omega) ⟨i+1, rfl, by omega, ?_, ?_, rfl⟩
   · intro j hj
     rcases Nat.lt_succ_iff_lt_or_eq.1 hj with hj | rfl
     · exact hinv j hj
     exact hno
   rw [wrap64 (by omega) (by omega)]; rfl
 intro h10
 have hr : classS n = (0, false) := classS_no (fun j hj => hinv j (by simp at h10; omega))
 refine W_exit (xT ?_)
 refine xH2 [2,3] ?_
 refine W_ret (xR (by simp [Tryz.f153]; exact .mk) ?_)
 simp [Tryz.f153, hr]

theorem ct213 (g : Gl) (c : Int) : CtAt Tryz.prog g 213 [vI c] (.tup [vI (if c < 0 ∨ 6 ≤ c then 0 else nth wordsL c.toNat), vI (if c < 0 ∨ 6 ≤ c then 1 else 0)]) := by
 refine xA Tryz.func213 fun B S => ?_
 refine xU ?_
 refine xO2 ?_
 refine xG [0] ?_
 refine xC (ct211 g) ?_
 refine xH [0,4] ?_
 refine W_seq (xU ?_)
 refine xO3 ?_
 iterate 4 refine xI ?_
 refine xP ?_
 refine xQ [0,4,13] ?_ ?_
 · intro h13
   have hr : c < 0 ∨ 6 ≤ c := by simpa [wordsL] using h13
   refine xU ?_
   refine xH2 [2,3] ?_
   refine W_ret (xR (by simp [Tryz.f213]; exact .mk) ?_)
   first | (simp [Tryz.f213, hr]; done) | simp [Tryz.f213, hr, nth_eq hc]
 intro h13
 have hr : ¬ (c < 0 ∨ 6 ≤ c) := by simp [wordsL] at h13 ⊢; omega
 have hc : c.toNat < wordsL.length := by show c.toNat < 6; omega
 have hc2 : 0 ≤ c ∧ c < 6 := by omega
 have hc3 : c < (wordsL.length : Int) := hc2.2
 refine W_skip ?_
 refine xT ?_
 refine xO2 ?_
 refine xO ?_ (h := by simp [hc, hc2, hc3]; exact .mk)
 refine xO ?_ (h := by simp [-List.getElem?_map, hc, map_get hc]; exact .mk)
 refine xH2 [2,3] ?_
 refine W_ret (xR (by simp [Tryz.f213]; exact .mk) ?_)
 first | (simp [Tryz.f213, hr]; done) | simp [Tryz.f213, hr, nth_eq hc]

theorem ct156 (g : Gl) (c : Int) : CtAt Tryz.prog g 156 [vI c] (.tup [vI (cellsS c).1, vI (cellsS c).2]) := by
 refine xA Tryz.func156 fun B S => ?_
 have c213 := ct213 g c
 obtain ⟨w, hw⟩ : ∃ w, w = (if c < 0 ∨ 6 ≤ c then 0 else nth wordsL c.toNat) := ⟨_, rfl⟩
 obtain ⟨e, he⟩ : ∃ e : Int, e = (if c < 0 ∨ 6 ≤ c then 1 else 0) := ⟨_, rfl⟩
 rw [← hw, ← he] at c213
 refine xU ?_
 refine xO2 ?_
 refine xG [0] ?_
 refine xO ?_
 refine xC (c213) ?_
 refine xO5 ?_
 refine xF [4,5] ?_
 refine W_seq (xU ?_)
 refine xO2 ?_
 refine xQ [4,5,12] ?_ ?_
 · intro h12
   have hz : e ≠ 0 := by simpa using h12
   have hc : c < 0 ∨ 6 ≤ c := Classical.byContradiction fun q => by rw [if_neg q] at he; exact hz he
   rw [if_pos hc] at he
   have hr : cellsS c = (0, 1) := by unfold cellsS; rw [if_pos hc]
   refine xU ?_
   refine xH3 [2,3] ?_
   refine W_ret (xR (by simp [Tryz.f156]; exact .mk) ?_)
   simp [Tryz.f156, hr, *]
 intro h12
 have hz : e = 0 := by simpa using h12
 have hc : ¬ (c < 0 ∨ 6 ≤ c) := fun q => by rw [if_pos q] at he; omega
 rw [if_neg hc] at hw
 have hw8 := wordsL_8 (j := c.toNat) (by omega)
 have hw0 : w ≠ 0 := by omega
 have hd : 0 ≤ (28 : Int).tdiv w ∧ (28 : Int).tdiv w ≤ 28 := ⟨Int.tdiv_nonneg (by omega) (by omega), by rw [Int.tdiv_eq_ediv_of_nonneg (by omega)]; exact Int.ediv_le_self _ (by omega)⟩
 have w1 : IntKind.i64.wrap ((28 : Int).tdiv w) = (28 : Int).tdiv w := wrap64 (by omega) (by omega)
 have hr : cellsS c = ((28 : Int).tdiv w, 0) := by unfold cellsS; rw [if_neg hc, hw]
 refine W_skip ?_
 refine xT ?_
 refine xO ?_
 refine xO ?_ (h := by simp [hw0, w1]; exact .mk)
 refine xH2 [2,3] ?_
 refine W_ret (xR (by simp [Tryz.f156]; exact .mk) ?_)
 simp [Tryz.f156, hr, *]

theorem ct157 (g : Gl) (c : Int) (k : Nat) (hc : 0 ≤ c ∧ c < 6) (hk : k ≤ 14) : CtAt Tryz.prog g 157 [vI c, vI k] (.tup [vI (cellS c k).1, vI (cellS c k).2]) := by
 refine xA Tryz.func157 fun B S => ?_
 have c156 := ct156 g c
 have c213 := ct213 g c
 obtain ⟨b1, b2, b3, b4⟩ := cellsS_b hc
 rw [b3] at c156
 rw [if_neg (by omega), if_neg (by omega)] at c213
 refine xU ?_
 refine xO2 ?_
 refine xG [0,1] ?_
 refine xO ?_
 refine xC (c156) ?_
 refine xO5 ?_
 refine xF [0,1,6,7] ?_
 refine W_seq (xU ?_)
 refine xO3 ?_
 iterate 2 refine xI ?_
 refine xP ?_
 refine xB ?_
 iterate 3 refine xI ?_
 refine xP ?_
 refine xQ [0,1,25] ?_ ?_
 · intro h25
   have hr : cellS c k = (0, 1) := by unfold cellS; rw [if_pos]; simp at h25; omega
   refine xU ?_
   refine xH2 [4,5] ?_
   refine W_ret (xR (by simp [Tryz.f157]; exact .mk) ?_)
   first | (simp [Tryz.f157, hr]; done) | simp [Tryz.f157, d1]
 intro h25
 have hkc : (k : Int) < (cellsS c).1 := by simp at h25; omega
 obtain ⟨d1, d2, d3⟩ := cellS_b hc hkc
 have w1 : IntKind.i64.wrap (nth wordsL c.toNat * (k : Int)) = (k : Int) * nth wordsL c.toNat := (wrap64 (by rw [Int.mul_comm]; omega) (by rw [Int.mul_comm]; omega)).trans (Int.mul_comm _ _)
 have w2 : IntKind.i64.wrap (4 + (k : Int) * nth wordsL c.toNat) = 4 + (k : Int) * nth wordsL c.toNat := wrap64 (by omega) (by omega)
 refine W_skip ?_
 refine xT ?_
 refine xO ?_
 refine xC (c213) ?_
 refine xO5 ?_
 refine xG [1,8] ?_
 refine xO2 ?_
 refine xO ?_ (h := by simp [w1]; exact .mk)
 refine xO ?_ (h := by simp [w2]; exact .mk)
 refine xH2 [4,5] ?_
 refine W_ret (xR (by simp [Tryz.f157]; exact .mk) ?_)
 first | (simp [Tryz.f157, hr]; done) | simp [Tryz.f157, d1]

theorem ct204 (g : Gl) (c off : Int) (hc : 0 ≤ c ∧ c < 6) (ho : 0 ≤ off ∧ off < 32) : CtAt Tryz.prog g 204 [vI c, vI off] (.tup [vI (whichS c off).1, .v (.bool (whichS c off).2)]) := by
 refine xA Tryz.func204 fun B S => ?_
 have c156 := ct156 g c
 obtain ⟨b1, b2, b3, b4⟩ := cellsS_b hc
 rw [b3] at c156
 obtain ⟨N, hN⟩ : ∃ N : Nat, (cellsS c).1 = N := ⟨(cellsS c).1.toNat, by omega⟩
 refine xU ?_
 refine xO2 ?_
 refine xG [0,1] ?_
 refine xO ?_
 refine xC (c156) ?_
 refine xO5 ?_
 refine xF [0,1,6] ?_
 refine W_seq (xU ?_)
 refine xH [0,1,6,8] ?_
 refine W_block (W_rounds (fun m σ o => ∃ i : Nat, m = N - i ∧ i ≤ N ∧ (∀ j, j < i → (cellS c j).1 ≠ off) ∧ σ = slots [(0, .d (vI c)), (1, .d (vI off)), (6, .d (vI (cellsS c).1)), (8, .d (vI i))] ∧ o = []) (N) .refl ⟨0, by simp, by simp, by simp, rfl, rfl⟩ ?_)
 rintro m σ o ⟨i, rfl, hi, hinv, rfl, rfl⟩ _
 refine W_seq (xU ?_)
 refine xO3 ?_
 refine xQ [0,1,6,8,18] ?_ ?_
 · intro h18
   have hi2 : i < N := by rw [hN] at h18; simpa using h18
   refine W_skip fun _ => ?_
   refine W_seq (W_block ?_)
   refine xU ?_
   refine xO2 ?_
   refine xC (ct157 g c i hc (by omega)) ?_
   refine xO5 ?_
   refine xG [0,1,6,8,9] ?_
   refine xO3 ?_
   refine xQ [0,1,6,8,29] ?_ ?_
   · intro h29
     have hr := which_at (k := i) hc (by omega) (by simpa using h29)
     refine xU ?_
     refine xH3 [4,5] ?_
     refine W_ret (xR (by simp [Tryz.f204]; exact .mk) ?_)
     simp [Tryz.f204, hr]
   intro h29
   have hno : (cellS c i).1 ≠ off := by simpa using h29
   refine W_skip fun _ => ?_
   refine xY ?_
   refine xO3 ?_
   refine xE [0,1,6,8] ?_
   refine rounds_kill [0,1,6,8] ?_
   refine rounds_next (m' := N - (i+1)) (by omega) ⟨i+1, rfl, by omega, ?_, ?_, rfl⟩
   · intro j hj
     rcases Nat.lt_succ_iff_lt_or_eq.1 hj with hj | rfl
     · exact hinv j hj
     exact hno
   rw [wrap64 (by omega) (by omega)]; rfl
 intro h18
 have hr : whichS c off = (0, false) := which_no hc ho (fun j hj => hinv j (by rw [hN] at h18; simp at h18; omega))
 refine W_exit (xT ?_)
 refine xH2 [4,5] ?_
 refine W_ret (xR (by simp [Tryz.f204]; exact .mk) ?_)
 simp [Tryz.f204, hr]

theorem ct154 (g : Gl) (n : Int) : CtAt Tryz.prog g 154 [vI n] (.tup [vI (pagesS n).1, vI (pagesS n).2]) := by
 refine xA Tryz.func154 fun B S => ?_
 refine xU ?_
 refine xH2 [0] ?_
 refine W_seq (xU ?_)
 refine xO3 ?_
 iterate 2 refine xI ?_
 refine xP ?_
 refine xQ [0,9] ?_ ?_
 · intro h9
   have hr : pagesS n = (0, 1) := by unfold pagesS; rw [if_pos]; simp at h9; omega
   refine xU ?_
   refine xH2 [2,3] ?_
   refine W_ret (xR (by simp [Tryz.f154]; exact .mk) ?_)
   simp [Tryz.f154, hr]
 intro h9
 have hn : ¬ (n ≤ 120 ∨ 2048 < n) := by simp at h9; omega
 have hr : pagesS n = ((n + 256 - 1).tdiv 256, 0) := by unfold pagesS; rw [if_neg hn]
 have w1 : IntKind.i64.wrap (n + 256) = n + 256 := wrap64 (by omega) (by omega)
 have w2 : IntKind.i64.wrap (n + 256 - 1) = n + 256 - 1 := wrap64 (by omega) (by omega)
 have w3 : IntKind.i64.wrap ((n + 256 - 1).tdiv 256) = (n + 256 - 1).tdiv 256 := wrap64 (by rw [Int.tdiv_eq_ediv_of_nonneg (by omega)]; omega) (by rw [Int.tdiv_eq_ediv_of_nonneg (by omega)]; omega)
 refine W_skip ?_
 refine xT ?_
 refine xO ?_
 refine xO ?_ (h := by simp [w1]; exact .mk)
 refine xO ?_ (h := by simp [w2]; exact .mk)
 refine xO ?_ (h := by simp [w3]; exact .mk)
 refine xH2 [2,3] ?_
 refine W_ret (xR (by simp [Tryz.f154]; exact .mk) ?_)
 simp [Tryz.f154, hr]

theorem ct150 (g : Gl) (o : Int × Int) (hb : o.1 ≤ 2^62) : CtAt Tryz.prog g 150 [eObj o] (.tup [vI (cellO o).1.1, vI (cellO o).1.2.1, vI (cellO o).1.2.2, .v (.bool (cellO o).2)]) := by
 refine xA Tryz.func150 fun B S => ?_
 simp only [eObj, List.map, argD_agg]
 refine xU ?_
 refine xO5 ?_
 refine xG [1] ?_
 refine xO2 ?_
 refine xC (ct153 g o.2) ?_
 refine xO5 ?_
 refine xF [1,6,7] ?_
 refine W_seq (xU ?_)
 refine xO3 ?_
 iterate 3 refine xI ?_
 refine xP ?_
 refine xQ [1,6,22] ?_ ?_
 · intro h22
   have hr : cellO o = ((0, 0, 0), false) := by unfold cellO; rw [if_pos]; simp at h22; grind
   refine xU ?_
   refine xO4 ?_
   refine xF [2,3,4,5] ?_
   refine W_ret (xR (by simp [Tryz.f150]; exact .mk) ?_)
   simp [Tryz.f150, hr]
 intro h22
 have hz : (classS o.2).2 = true ∧ ¬ o.1 < 0 := by simp at h22; grind
 have hr : cellO o = ((o.1.tdiv 32, (classS o.2).1, (whichS (classS o.2).1 (o.1.tmod 32)).1), (whichS (classS o.2).1 (o.1.tmod 32)).2) := by unfold cellO; rw [if_neg (by simp [hz])]
 obtain ⟨c, hc6, hcc⟩ := classS_c hz.1
 have hm : 0 ≤ o.1.tmod 32 ∧ o.1.tmod 32 < 32 := by rw [Int.tmod_eq_emod_of_nonneg (by omega)]; omega
 have w1 : IntKind.i64.wrap (o.1.tmod 32) = o.1.tmod 32 := wrap64 (by omega) (by omega)
 have hd : 0 ≤ o.1.tdiv 32 ∧ o.1.tdiv 32 ≤ o.1 := by rw [Int.tdiv_eq_ediv_of_nonneg (by omega)]; omega
 have w2 : IntKind.i64.wrap (o.1.tdiv 32) = o.1.tdiv 32 := wrap64 (by omega) (by omega)
 have cw := ct204 g (classS o.2).1 (o.1.tmod 32) (by omega) hm
 refine W_skip ?_
 refine xT ?_
 refine xO3 ?_
 refine xO ?_ (h := by simp [w1]; exact .mk)
 refine xC (cw) ?_
 refine xO5 ?_
 refine xG [1,6,8,9] ?_
 refine xO2 ?_
 refine xO ?_ (h := by simp [w2]; exact .mk)
 iterate 7 refine xO ?_
 refine xF [2,3,4,5] ?_
 refine W_ret (xR (by simp [Tryz.f150]; exact .mk) ?_)
 simp [Tryz.f150, hr]

theorem ct149 (g : Gl) (pages : Int) (o : Int × Int) (hp : 0 ≤ pages ∧ pages ≤ 64) (hb : o.1 ≤ 2^62) : CtAt Tryz.prog g 149 [vI pages, eObj o] (.tup [eObj (spanR pages o).1, .v (.bool (spanR pages o).2)]) := by
 refine xA Tryz.func149 fun B S => ?_
 simp only [eObj, List.map, argD_agg, argD_v]
 have c150 := ct150 g o hb
 simp only [eObj] at c150
 have c154 := ct154 g o.2
 refine xU ?_
 refine xO3 ?_
 refine xG [0,3,4] ?_
 refine xO ?_
 refine xC (c150) ?_ (he := by simp [eObj]; exact .mk)
 iterate 9 refine xO ?_
 refine xF [0,3,4,6,9] ?_
 refine W_seq (xU ?_)
 refine xO ?_
 refine xQ [0,3,4,6,20] ?_ ?_
 · intro h20
   have hz : (cellO o).2 = true := by simpa using h20
   have hr : spanR pages o = (((cellO o).1.1, 1), decide ((cellO o).1.1 < pages)) := by unfold spanR; rw [if_pos hz]
   refine xU ?_
   refine xO ?_
   refine xOs ?_
   refine xO3 ?_
   refine xOs ?_
   refine xH [4,5] ?_
   refine W_ret (xR (by simp [Tryz.f149]; exact .mk) ?_)
   simp [Tryz.f149, hr, eObj]
 intro h20
 have hz : (cellO o).2 = false := by simpa using h20
 refine W_skip ?_
 refine xT ?_
 refine xO2 ?_
 refine xC (c154) ?_ (he := by simp [eObj]; exact .mk)
 refine xO5 ?_
 refine xF [0,3,4,10,11] ?_
 refine W_seq (xU ?_)
 refine xO3 ?_
 iterate 3 refine xI ?_
 refine xP ?_
 refine xB ?_
 iterate 4 refine xI ?_
 refine xP ?_
 refine xQ [0,3,4,10,44] ?_ ?_
 · intro h44
   have hq : (pagesS o.2).2 ≠ 0 ∨ o.1 < 0 ∨ o.1.tmod 32 ≠ 0 := by simp at h44; grind
   have hr : spanR pages o = ((0, 0), false) := by unfold spanR; rw [if_neg (by simp [hz]), if_pos hq]
   refine xU ?_
   iterate 2 (refine xOs ?_)
   refine xH [4,5] ?_
   refine W_ret (xR (by simp [Tryz.f149]; exact .mk) ?_)
   simp [Tryz.f149, hr, eObj]
 intro h44
 have hq : ¬ ((pagesS o.2).2 ≠ 0 ∨ o.1 < 0 ∨ o.1.tmod 32 ≠ 0) := by simp at h44; grind
 have hr : spanR pages o = ((o.1.tdiv 32, (pagesS o.2).1), decide (o.1.tdiv 32 ≤ pages) && decide ((pagesS o.2).1 ≤ pages - o.1.tdiv 32)) := by unfold spanR; rw [if_neg (by simp [hz]), if_neg hq]
 have hd : 0 ≤ o.1.tdiv 32 ∧ o.1.tdiv 32 ≤ o.1 := by rw [Int.tdiv_eq_ediv_of_nonneg (by omega)]; omega
 have w2 : IntKind.i64.wrap (o.1.tdiv 32) = o.1.tdiv 32 := wrap64 (by omega) (by omega)
 have w3 : IntKind.i64.wrap (pages - o.1.tdiv 32) = pages - o.1.tdiv 32 := wrap64 (by omega) (by omega)
 refine W_skip ?_
 refine xT ?_
 refine xO2 ?_
 refine xO ?_ (h := by simp [w2]; exact .mk)
 refine xO ?_
 refine xOs ?_
 refine xO ?_
 refine xOs ?_
 refine xF [0,4,12] ?_
 refine W_seq ?_
 refine W_regDS (hard := []) [7,10,14] (keepOk_lt (by decide)) (by kernel_rfl) 4 [[0,1,2,3,4,5,6,7,8,9,10,11,12,13,14,15], [0,1,2,3,4,5,6,7,8,9,14,10,11,12,13,15], [0,1,2,3,4,5,6,8,9,10,7,11,12,13,14,15], [0,1,2,3,4,5,6,8,9,10,11,14,7,12,13,15], [0,1,2,3,4,5,6,8,9,14,7,10,11,12,13,15], [0,1,2,3,4,5,6,8,9,14,10,7,11,12,13,15]] (by decide +kernel) ⟨?_, ?_, ?_, ?_, ?_, ?_, trivial⟩
 · skip
   iterate 6 refine xO ?_
   iterate 5 refine xI ?_
   refine xI ?_ (h := fun hb => by simp [w3]; exact .mk)
   refine xI ?_
   refine xP ?_
   refine run_op1 rfl rfl rfl (by simp <;> first | omega | grind) (by simp [splice]; exact .mk) ?_
   refine xB ?_
   refine xF [4,5] ?_
   refine W_ret (xR (by simp [Tryz.f149]; exact .mk) ?_)
   simp [Tryz.f149, hr, eObj]
 · skip
   iterate 6 refine xO ?_
   iterate 4 refine xI ?_
   refine run_op1 rfl rfl rfl (by simp <;> first | omega | grind) (by simp [splice]; exact .mk) ?_
   refine xI ?_
   refine xI ?_ (h := fun hb => by simp [w3]; exact .mk)
   refine xI ?_
   refine xP ?_
   refine xB ?_
   refine xF [4,5] ?_
   refine W_ret (xR (by simp [Tryz.f149]; exact .mk) ?_)
   simp [Tryz.f149, hr, eObj]
 · skip
   iterate 6 refine xO ?_
   iterate 5 refine xI ?_
   refine xI ?_ (h := fun hb => by simp [w3]; exact .mk)
   refine xI ?_
   refine xP ?_
   refine run_op1 rfl rfl rfl (by simp <;> first | omega | grind) (by simp [splice]; exact .mk) ?_
   refine xB ?_
   refine xF [4,5] ?_
   refine W_ret (xR (by simp [Tryz.f149]; exact .mk) ?_)
   simp [Tryz.f149, hr, eObj]
 · skip
   iterate 6 refine xO ?_
   iterate 4 refine xI ?_
   refine xI ?_ (h := fun hb => by simp [w3]; exact .mk)
   refine run_op1 rfl rfl rfl (by simp <;> first | omega | grind) (by simp [splice]; exact .mk) ?_
   iterate 2 refine xI ?_
   refine xP ?_
   refine xB ?_
   refine xF [4,5] ?_
   refine W_ret (xR (by simp [Tryz.f149]; exact .mk) ?_)
   simp [Tryz.f149, hr, eObj]
 · skip
   iterate 6 refine xO ?_
   iterate 3 refine xI ?_
   refine run_op1 rfl rfl rfl (by simp <;> first | omega | grind) (by simp [splice]; exact .mk) ?_
   iterate 2 refine xI ?_
   refine xI ?_ (h := fun hb => by simp [w3]; exact .mk)
   refine xI ?_
   refine xP ?_
   refine xB ?_
   refine xF [4,5] ?_
   refine W_ret (xR (by simp [Tryz.f149]; exact .mk) ?_)
   simp [Tryz.f149, hr, eObj]
 skip
 iterate 6 refine xO ?_
 iterate 3 refine xI ?_
 refine run_op1 rfl rfl rfl (by simp <;> first | omega | grind) (by simp [splice]; exact .mk) ?_
 iterate 2 refine xI ?_
 refine xI ?_ (h := fun hb => by simp [w3]; exact .mk)
 refine xI ?_
 refine xP ?_
 refine xB ?_
 refine xF [4,5] ?_
 refine W_ret (xR (by simp [Tryz.f149]; exact .mk) ?_)
 simp [Tryz.f149, hr, eObj]

end Go.Proofs
