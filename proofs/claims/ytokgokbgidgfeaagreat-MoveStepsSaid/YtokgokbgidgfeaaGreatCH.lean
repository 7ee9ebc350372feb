/- Contracts of the program's functions and plain facts, for arguments as each lemma says. -/
import Derived.Test.YtokgokbgidgfeaaGreatCG
import Derived.Test.YtokgokbgidgfeaaGreatAwpD
import Derived.Test.YtokgokbgidgfeaaGreatCB
import Derived.Test.YtokgokbgidgfeaaGreatCE
import Derived.Test.YtokgokbgidgfeaaGreatCC
set_option linter.all false
set_option maxHeartbeats 4000000
namespace Go.Proofs
open Go.Awp
def sh0 : Shape := ⟨4, 2, 2, 30⟩
theorem small_facts : ∃ A B C D E F : Stt, ∃ id : Int × Int, newS sh0 1 = (A, 0) ∧ startS A true = (B, 0) ∧ endS B = (C, 5, 0) ∧ C.mode = 2 ∧ putS A 16 = (D, id, 0) ∧ startS D true = (E, 0) ∧ endS E = (F, 7, 0) ∧ F.mode = 2 ∧ F.slots.length = 2 ∧ (nth F.slots 0).two = true ∧ (stepS A).2 = 12 ∧ fewStt A = true := by
 refine ⟨(newS sh0 1).1, (startS (newS sh0 1).1 true).1, (endS (startS (newS sh0 1).1 true).1).1, (putS (newS sh0 1).1 16).1, (startS (putS (newS sh0 1).1 16).1 true).1, (endS (startS (putS (newS sh0 1).1 16).1 true).1).1, (putS (newS sh0 1).1 16).2.1, ?_, ?_, ?_, ?_, ?_, ?_, ?_, ?_, ?_, ?_, ?_, ?_⟩
 · exact Prod.ext rfl (by decide +kernel)
 · exact Prod.ext rfl (by decide +kernel)
 · exact Prod.ext rfl (Prod.ext (by decide +kernel) (by decide +kernel))
 · decide +kernel
 · exact Prod.ext rfl (Prod.ext rfl (by decide +kernel))
 · exact Prod.ext rfl (by decide +kernel)
 · exact Prod.ext rfl (Prod.ext (by decide +kernel) (by decide +kernel))
 all_goals decide +kernel
theorem endS_Ok {s : Stt} (h : s.Ok) : (endS s).1.Ok := by
 have key : ∀ (f n : Nat) (s : Stt), s.Ok → (endF f n s).1.Ok := by
  intro f
  induction f with
  | zero => intro n s _; exact zStt_ok
  | succ f ih =>
   intro n s h
   unfold endF
   split
   · exact h
   · split
     · exact zStt_ok
     · exact ih _ _ (stepS_Ok h)
 exact key _ _ _ h
theorem startS_Ok {s : Stt} {up : Bool} (h : s.Ok) : (startS s up).1.Ok := by
 unfold startS
 split
 · exact zStt_ok
 · split
   · exact zStt_ok
   · split
     · exact zStt_ok
     · exact turn_ok h
open Go.Awp
open Go.Awp
theorem clipG_max {fr : Int} {g : Int × Int} : clipG fr g = (max g.1 fr, g.1 + g.2 - max g.1 fr) := by
 unfold clipG; split
 · rw [Int.max_eq_right (by omega)]; exact Prod.ext rfl (by show g.2 - (fr - g.1) = _; omega)
 · rw [Int.max_eq_left (by omega)]; exact Prod.ext rfl (by show g.2 = _; omega)
theorem gaps_b {s : Stt} (h : sttS s = true) : ∀ i, i < (gapsOf s).length → 0 ≤ (nth (gapsOf s) i).1 ∧ 0 < (nth (gapsOf s) i).2 ∧ (nth (gapsOf s) i).1 + (nth (gapsOf s) i).2 ≤ 2048 := fun i hi => by
 have hg := sttS_gaps h
 simp only [gapsS, Bool.and_eq_true] at hg
 have hb := superS_b (sttS_super h)
 obtain ⟨h1, h2, h3, _⟩ := gapsF_mem hg.2 _ (nth_mem hi)
 show 0 ≤ (nth (gapsF _ _ _) i).1 ∧ _
 have hh := gaps_head (sttS_super h)
 simp only [gapsHead, decide_eq_true_eq] at hh
 have e1 : (nth (gapsOf s) i) = nth (gapsF (s.sh.pages * 32) (s.base * 32) (spansS s.slots)) i := rfl
 rw [e1]
 omega
theorem up_facts {s : Stt} (hR : sttS s = true) : (onesS s.slots).length ≤ 2^40 ∧ (spansS s.slots).length = (onesS s.slots).length ∧ (gapsOf s).length ≤ 2^40 ∧ gapsR (s.base * 32) (s.sh.pages * 32) (spansS s.slots) = (gapsOf s, 0) := by
 have hT := tableS_len (sttS_rows hR)
 have hol := onesS_len (l := s.slots)
 have hsl : (spansS s.slots).length = (onesS s.slots).length := by simp [spansS]
 have hgl := gapsF_len (to := s.sh.pages * 32) (l := spansS s.slots) (a := s.base * 32)
 refine ⟨by omega, hsl, by show (gapsF _ _ _).length ≤ _; omega, ?_⟩
 unfold gapsR; rw [if_pos (sttS_gaps hR)]; rfl
set_option maxRecDepth 4000
open Go.Awp
theorem ct169 (g : Gl) (l : List (Int × Int)) (fr : Int) (hl : l.length ≤ 2^40) (hf : 0 ≤ fr ∧ fr ≤ 2^40) (hb : ∀ i, i < l.length → 0 ≤ (nth l i).1 ∧ 0 < (nth l i).2 ∧ (nth l i).1 + (nth l i).2 ≤ 2048) : CtAt Tryz.prog g 169 [rO l, vI fr] (oO (clipS fr l)) := by
 refine xA Tryz.func169 fun B S => ?_
 refine xU ?_
 refine xO ?_
 refine xG [0,1] ?_
 refine xH [0,1,5] ?_
 refine W_seq (xU ?_)
 refine xH [0,1,5,6] ?_
 refine W_block (W_rounds (fun m σ o => ∃ i : Nat, m = l.length - i ∧ i ≤ l.length ∧ σ = slots [(0, .d (rO l)), (1, .d (vI fr)), (5, .hdr 0 0 (clipS fr (l.take i)).length), (6, .d (vI i))] ∧ o = [.row 2 ((clipS fr (l.take i)).map eObj)]) l.length (Weak.trans (Weak.nilRow 5 2 rfl) (Weak.kills [0,1,5,6] rfl) (fun _ _ _ h1 h2 => by rw [← h1.len]; exact h2)) ⟨0, by simp, by simp, by simp [clipS], by simp [clipS]⟩ ?_)
 rintro m σ o ⟨i, rfl, hi, rfl, rfl⟩ _
 have hcl := clip_len (fr := fr) (l := l.take i)
 refine W_seq (xU ?_)
 refine xO4 ?_
 refine xQ [0,1,5,6,12] ?_ ?_
 · intro h12
   have hi2 : i < l.length := by simpa using h12
   have hst := clip_step (fr := fr) hi2
   rw [clipG_max] at hst
   obtain ⟨C, hC⟩ : ∃ C, C = clipS fr (l.take i) := ⟨_, rfl⟩
   rw [← hC] at hst hcl ⊢
   have hcl2 : C.length ≤ i := by simp at hcl; omega
   have f1 : (C.length + 1) * 16 ≤ 140737488355328 := by omega
   have f2 : C.length ≤ 140737488355327 := by omega
   have hpb := hb i hi2
   obtain ⟨p, hp⟩ : ∃ p, p = nth l i := ⟨_, rfl⟩
   rw [← hp] at hpb hst
   have w1 : IntKind.i64.wrap (p.1 + p.2) = p.1 + p.2 := wrap64 (by omega) (by omega)
   obtain ⟨q, hq⟩ : ∃ q, q = max p.1 fr := ⟨_, rfl⟩
   have hqb : 0 ≤ q ∧ q ≤ 2^41 := by omega
   have w2 : IntKind.i64.wrap (p.1 + p.2 - q) = p.1 + p.2 - q := wrap64 (by omega) (by omega)
   have hif : (if fr < p.1 then p.1 else fr) = q := by rw [hq]; omega
   have hif2 : (if p.1 < fr then fr else p.1) = q := by rw [hq]; omega
   rw [← hq] at hst
   refine W_skip fun _ => ?_
   refine W_seq (W_block ?_)
   refine W_seq ?_
   refine W_regD (by kernel_rfl) [] 4 [0,1,2,3,4,5,6,7,8,9,10,11] (by decide +kernel) ?_
   refine xO2 ?_
   refine xO ?_ (h := by simp [eObj, hi2]; exact .mk)
   refine xO ?_
   refine xO ?_ (h := by simp [-List.getElem?_map, map_get hi2, eObj, ← hp]; exact .mk)
   refine xO2 ?_
   refine xO ?_ (h := by simp [eObj, hi2]; exact .mk)
   refine xO ?_
   refine xO ?_ (h := by simp [-List.getElem?_map, map_get hi2, eObj, ← hp]; exact .mk)
   refine xO ?_ (h := by simp [w1]; exact .mk)
   refine xO ?_
   refine xG [0,1,5,6,7] ?_
   refine xO2 ?_
   refine xO ?_ (h := by simp [eObj, hi2]; exact .mk)
   refine xO ?_
   refine xO ?_ (h := by simp [-List.getElem?_map, map_get hi2, eObj, ← hp]; exact .mk)
   refine xO ?_
   refine xO ?_ (h := by simp [← hq, hif, hif2]; exact .mk)
   refine xO ?_
   refine xE [0,1,5,6,7,8] ?_
   simp only [hif2]
   refine xT ?_
   refine xO3 ?_
   refine xQ [0,1,5,6,7,8,35] ?_ ?_
   · intro h35
     rw [if_pos (by simp at h35; show 0 < p.1 + p.2 - q; omega)] at hst
     refine xY ?_
     refine xO4 ?_
     refine xO ?_ (h := by simp [w2]; exact .mk)
     refine xOs ?_
     refine xO ?_
     refine xO ?_ (h := by simp [rows, f1, f2]; exact .mk)
     refine xH [0,1,5,6] ?_
     refine xY ?_
     refine xO3 ?_
     refine xE [0,1,5,6] ?_
     refine rounds_kill [0,1,5,6] ?_
     first
     | (refine rounds_kills [0,1,5,6] rfl ?_
        refine rounds_next (m' := l.length - (i+1)) (by omega) ⟨i+1, rfl, by omega, ?_, ?_⟩
        · rw [wrap64 (by omega) (by omega), hst]; rfl
        rw [hst])
     | (refine rounds_kills [0,1,5,6] rfl ?_
        refine rounds_swap 0 2 1 (by decide) (by simp) (by decide) rfl rfl ?_
        refine rounds_drop 1 [0,1,5,6] (by decide) (by rfl) (by rfl) ?_
        refine rounds_next (m' := l.length - (i+1)) (by omega) ⟨i+1, rfl, by omega, ?_, ?_⟩
        · rw [wrap64 (by omega) (by omega), hst]; simp; try rfl
        rw [hst]; simp [eObj]; try rfl)
   intro h35
   rw [if_neg (by simp at h35; show ¬ 0 < p.1 + p.2 - q; omega), List.append_nil] at hst
   refine W_skip fun _ => ?_
   refine xY ?_
   refine xO3 ?_
   refine xE [0,1,5,6] ?_
   refine rounds_kill [0,1,5,6] ?_
   first
   | (refine rounds_kills [0,1,5,6] rfl ?_
      refine rounds_next (m' := l.length - (i+1)) (by omega) ⟨i+1, rfl, by omega, ?_, ?_⟩
      · rw [wrap64 (by omega) (by omega), hst]; rfl
      rw [hst])
   | (refine rounds_kills [0,1,5,6] rfl ?_
      refine rounds_swap 0 2 1 (by decide) (by simp) (by decide) rfl rfl ?_
      refine rounds_drop 1 [0,1,5,6] (by decide) (by rfl) (by rfl) ?_
      refine rounds_next (m' := l.length - (i+1)) (by omega) ⟨i+1, rfl, by omega, ?_, ?_⟩
      · rw [wrap64 (by omega) (by omega), hst]; simp; try rfl
      rw [hst]; simp [eObj]; try rfl)
 intro h12
 obtain rfl : i = l.length := by simp at h12; omega
 rw [List.take_length]
 refine W_exit (xT ?_)
 refine xH2 [4] ?_
 refine W_ret (xR (by simp [Tryz.f169]; exact .mk) ?_)
 simp [Tryz.f169, ownR]; try rfl

theorem ct126 (g : Gl) (s : Stt) (hs : s.Ok) (hR : sttS s = true) : CtAt Tryz.prog g 126 [eStt s] (.tup [oStt (upStep s).1, vI (upStep s).2]) := by
 refine xA Tryz.func126 fun B S => ?_
 simp only [eStt, List.map, argD_agg, argD_v]
 have q0 := hs.h1
 have hb := superS_b (sttS_super hR)
 obtain ⟨u1, u2, u3, u4⟩ := up_facts hR
 have e1 : IntKind.i64.wrap (s.base + 1) = s.base + 1 := wrap64 (by omega) (by omega)
 have e2 : IntKind.i64.wrap (32 * (s.base + 1)) = (s.base + 1) * 32 := (wrap64 (by omega) (by omega)).trans (Int.mul_comm _ _)
 have e3 : IntKind.i64.wrap (32 * s.base) = s.base * 32 := (wrap64 (by omega) (by omega)).trans (Int.mul_comm _ _)
 have e4 : IntKind.i64.wrap (32 * s.sh.pages) = s.sh.pages * 32 := (wrap64 (by omega) (by omega)).trans (Int.mul_comm _ _)
 obtain ⟨L, hLL⟩ : ∃ L, L = onesS s.slots := ⟨_, rfl⟩
 have c29 := ct29 g s hs
 have c96 := ct96 g L (by rw [hLL]; exact u1)
 rw [show L.map spanOf = spansS s.slots by rw [hLL]; rfl] at c96
 rw [← hLL] at c29 u1 u2
 have c105 := ct105 g (s.base * 32) (s.sh.pages * 32) (spansS s.slots) (by omega)
 rw [u4] at c105
 refine xU ?_
 refine xO3 ?_
 refine xG [1,2] ?_
 refine xOl ?_
 refine xC (ct21 g s hs) ?_ (he := by simp [row_rows, Function.comp_def]; exact .mk) (hi := by simp [oStt]; exact .mk)
 refine xO ?_
 refine xOs ?_
 refine xF [1,2,4] ?_
 refine W_seq (xU ?_)
 refine xO ?_
 refine xOl ?_
 refine xO2 ?_
 refine xOl ?_
 refine xO ?_
 refine xQ [1,2,4,21] ?_ ?_
 · intro h21
   have hq : s.base = s.sh.pages := by simpa using h21
   have hr : upStep s = (turnS s 2 0, 0) := by unfold upStep; rw [if_pos hq]
   refine xU ?_
   refine xO ?_
   refine xOs ?_
   refine xG [2,4] ?_
   refine xOl ?_
   refine xOs ?_
   refine xH [2,3] ?_
   refine W_ret (end_ret (by simp [Tryz.f126]; exact .mk) (by simp; exact .mk) ?_ (by simp [oStt]))
   first | (simp [Tryz.f126, hr, oStt, ownR]; done) | (simp [Tryz.f126, hr, oStt, zStt, ownR, turnS]; done)
 intro h21
 have hq : s.base ≠ s.sh.pages := by simpa using h21
 refine W_skip ?_
 refine xT ?_
 refine xO ?_
 refine xOl ?_
 refine xO ?_ (h := by simp [e1]; exact .mk)
 refine xO ?_ (h := by simp [e1, e2]; exact .mk)
 refine xO ?_
 refine xG [1,2,4,5] ?_
 refine xOl ?_
 refine xC (c29) ?_ (he := by simp [row_rows, Function.comp_def]; exact .mk) (hi := by simp [oStt]; exact .mk)
 refine xH [1,2,4,5,6] ?_
 refine W_seq (xU ?_)
 refine xO4 ?_
 refine xI ?_
 refine run_if rfl (by simp; exact .mk) rfl (by simp <;> first | omega | grind) (fun hb => by simp at hb; have hl0 := List.length_pos_iff.2 hb; simp [hl0]; exact .mk) ?_
 refine xI ?_
 refine run_if rfl (by simp; exact .mk) rfl (by simp <;> first | omega | grind) (fun hb => by simp at hb; have hl0 := List.length_pos_iff.2 hb; simp [-List.getElem?_map, map_get hl0, eBlk]; exact .mk) ?_
 iterate 2 refine xI ?_
 refine xP ?_
 refine xQ [1,2,4,5,6,40] ?_ ?_
 · intro h40
   have hc : onesS s.slots = [] ∨ (s.base + 1) * 32 ≤ (nth (onesS s.slots) 0).at_ := by rw [← hLL]; simp at h40; exact h40
   have hr : upStep s = (turnS s s.mode 1, 0) := by unfold upStep; rw [if_neg hq, if_pos hc]
   refine xU ?_
   refine xO ?_
   refine xOl ?_
   refine xO ?_ (h := by simp [e1]; exact .mk)
   refine xO ?_
   refine xOs ?_
   refine xG [2,4] ?_
   refine xOl ?_
   refine xOs ?_
   refine xH [2,3] ?_
   refine W_ret (end_ret (by simp [Tryz.f126]; exact .mk) (by simp; exact .mk) ?_ (by simp [oStt]))
   first | (simp [Tryz.f126, hr, oStt, ownR]; done) | (simp [Tryz.f126, hr, oStt, zStt, ownR, turnS]; done)
 intro h40
 have hc : ¬ (onesS s.slots = [] ∨ (s.base + 1) * 32 ≤ (nth (onesS s.slots) 0).at_) := by rw [← hLL]; simp at h40 ⊢; exact h40
 have hne : onesS s.slots ≠ [] := fun e => hc (.inl e)
 obtain ⟨k, hk, hk1, hk2⟩ := ones_head hne
 have hsl : (nth L 0).slot = (k : Int) := by rw [hLL, hk2]; rfl
 have hl0 : 0 < L.length := by rw [hLL]; exact List.length_pos_iff.2 hne
 have hr0 : upStep s = (match roomS s true (nth s.slots k).len with | some a => moveS s k true a | none => match behindS s ((s.base + 1) * 32) (nth L 0).len with | some a => moveS s k false a | none => (zStt, 10)) := by unfold upStep lenAt; rw [← hLL]; rw [← hLL] at hc; rw [if_neg hq, if_neg hc, hsl]; rfl
 refine W_skip ?_
 refine xT ?_
 refine xO ?_
 refine xO ?_ (h := by simp [eSlot, hl0]; exact .mk)
 refine xO ?_
 refine xO ?_ (h := by simp [-List.getElem?_map, map_get hl0, eBlk, hsl]; exact .mk)
 refine xH [1,2,5,6,7] ?_
 refine W_seq ?_
 refine W_regD (by kernel_rfl) [] 4 [0,1,2,3,4,5,6,7,8,9,10,11,12] (by decide +kernel) ?_
 refine xOl ?_
 refine xO ?_
 refine xOl ?_
 refine xO ?_
 refine xO ?_ (h := by simp [eSlot, hk]; exact .mk)
 refine xO ?_
 refine xO ?_ (h := by simp [-List.getElem?_map, map_get hk, eSlot]; exact .mk)
 refine xC (ct39 g s hs true (nth s.slots k).len) ?_ (he := by simp [row_rows, Function.comp_def]; exact .mk) (hi := by simp [oStt]; exact .mk)
 refine xO5 ?_
 refine xF [1,2,5,6,7,8,9] ?_
 refine W_seq (xU ?_)
 refine xO ?_
 refine xQ [1,2,5,6,7,8,61] ?_ ?_
 · intro h61
   have hz := h61
   obtain ⟨a, ha⟩ : ∃ a, roomS s true (nth s.slots k).len = some a := Option.isSome_iff_exists.1 (by simpa using hz)
   rw [ha] at hr0 ⊢
   have hr : upStep s = moveS s k true a := hr0
   refine xU ?_
   refine xOl ?_
   refine xO2 ?_
   refine xC (ct49 g s hs k true a) ?_ (he := by simp [row_rows, Function.comp_def]; exact .mk) (hi := by simp [oStt]; exact .mk)
   refine xO2 ?_
   refine xOs ?_
   refine xH [2,3] ?_
   refine W_ret (end_ret (by simp [Tryz.f126]; exact .mk) (by simp; exact .mk) ?_ (by simp [oStt]))
   first | (simp [Tryz.f126, hr, oStt, ownR]; done) | (simp [Tryz.f126, hr, oStt, zStt, ownR, turnS]; done)
 intro h61
 have ha : roomS s true (nth s.slots k).len = none := by simpa using h61
 rw [ha] at hr0
 obtain ⟨G, hG⟩ : ∃ G, G = gapsOf s := ⟨_, rfl⟩
 have hgb := gaps_b hR
 rw [← hG] at hgb u3 c105
 have c169 := ct169 g G ((s.base + 1) * 32) u3 (by omega) hgb
 obtain ⟨C, hC⟩ : ∃ C, C = clipS ((s.base + 1) * 32) G := ⟨_, rfl⟩
 have hcl := clip_len (fr := (s.base + 1) * 32) (l := G)
 rw [← hC] at c169 hcl
 have hbe : behindS s ((s.base + 1) * 32) (nth L 0).len = (bestS C (nth L 0).len).map (·.1) := by unfold behindS; rw [← hG, ← hC]
 obtain ⟨BB, hBB⟩ : ∃ BB, BB = bestS C (nth L 0).len := ⟨_, rfl⟩
 have c106 := ct106 g C (by omega) (nth L 0).len
 rw [← hBB] at hbe c106
 rw [hbe] at hr0
 refine W_skip fun _ => ?_
 refine W_seq ?_
 refine W_regD (by kernel_rfl) [] 4 [0,1,2,3,4,5,6,7,8,9,10,11,12,13,14] (by decide +kernel) ?_
 refine xO ?_
 refine xOl ?_
 refine xO ?_ (h := by simp [e3]; exact .mk)
 refine xO2 ?_
 refine xOl ?_
 refine xO ?_ (h := by simp [e4]; exact .mk)
 refine xO ?_
 refine xC (c96) ?_ (he := by simp [row_rows, Function.comp_def]; exact .mk) (hi := by simp [oStt]; exact .mk)
 refine xC (c105) ?_ (he := by simp [row_rows, Function.comp_def]; exact .mk) (hi := by simp [oStt]; exact .mk)
 refine xO5 ?_
 refine xF [1,2,5,6,7,10] ?_
 refine W_seq ?_
 refine W_regDTK (hard := []) [2,7,11] (keepOk_lt (by decide)) (by kernel_rfl) 4 [0,1,3,4,5,6,2,7,8,9,10,11,12,13] [[0,1,3,4,5,6,2,11,7,8,9,10,12,13], [0,1,3,4,5,6,11,2,7,8,9,10,12,13]] (by decide +kernel) ?_
 refine xO3 ?_
 refine xO ?_ (h := by simp [eSlot, hl0]; exact .mk)
 refine xO ?_
 refine xO ?_ (h := by simp [-List.getElem?_map, map_get hl0, eBlk]; exact .mk)
 refine xC (c169) ?_ (he := by simp [row_rows, Function.comp_def]; exact .mk) (hi := by simp [oStt]; exact .mk)
 refine xC (c106) ?_ (he := by simp [row_rows, Function.comp_def]; exact .mk) (hi := by simp [oStt]; exact .mk)
 refine xO4 ?_
 refine xOs ?_
 refine xO ?_
 refine xE [1,2,7,12,13] ?_
 refine ⟨_, rfl, ⟨?_, ?_, trivial⟩, ?_⟩
 · skip
   refine xO3 ?_
   refine xO ?_ (h := by simp [eSlot, hl0]; exact .mk)
   refine xO ?_
   refine xO ?_ (h := by simp [-List.getElem?_map, map_get hl0, eBlk]; exact .mk)
   refine xC (c169) ?_ (he := by simp [row_rows, Function.comp_def]; exact .mk) (hi := by simp [oStt]; exact .mk)
   refine xO ?_
   refine xC (c106) ?_ (he := by simp [row_rows, Function.comp_def]; exact .mk) (hi := by simp [oStt]; exact .mk)
   refine xO3 ?_
   refine xOs ?_
   refine xO ?_
   refine xE [1,2,7,12,13] ?_
   exact Weak.perm [0,1,2,3,4,5,6,7,8,9,10] [0,1,2,3,4,5,6,7,8,9,10] rfl rfl rfl
 · skip
   refine xO3 ?_
   refine xO ?_ (h := by simp [eSlot, hl0]; exact .mk)
   refine xO ?_
   refine xO ?_ (h := by simp [-List.getElem?_map, map_get hl0, eBlk]; exact .mk)
   refine xO ?_
   refine xC (c169) ?_ (he := by simp [row_rows, Function.comp_def]; exact .mk) (hi := by simp [oStt]; exact .mk)
   refine xC (c106) ?_ (he := by simp [row_rows, Function.comp_def]; exact .mk) (hi := by simp [oStt]; exact .mk)
   refine xO3 ?_
   refine xOs ?_
   refine xO ?_
   refine xE [1,2,7,12,13] ?_
   exact Weak.perm [0,1,2,3,4,5,6,7,8,10,9] [0,1,2,3,4,5,6,7,8,10,9] rfl rfl rfl
 rintro -
 refine W_seq (xU ?_)
 refine xO2 ?_
 refine xQ [1,2,7,12,93] ?_ ?_
 · intro h93
   have ha2 : BB = none := by simpa using h93
   rw [ha2] at hr0
   have hr : upStep s = (zStt, 10) := hr0
   refine xU ?_
   iterate 2 (refine xOs ?_)
   refine xH [2,3] ?_
   refine W_ret (end_ret (by simp [Tryz.f126]; exact .mk) (by simp; exact .mk) ?_ (by simp [oStt]))
   first | (simp [Tryz.f126, hr, oStt, ownR]; done) | (simp [Tryz.f126, hr, oStt, zStt, ownR, turnS]; done)
 intro h93
 obtain ⟨a, ha2⟩ : ∃ a, BB = some a := Option.isSome_iff_exists.1 (by simpa using h93)
 subst ha2
 have hr : upStep s = moveS s k false a.1 := hr0
 refine W_skip ?_
 refine xT ?_
 refine xOl ?_
 refine xO2 ?_
 refine xOl ?_
 refine xC (ct49 g s hs k false a.1) ?_ (he := by simp [row_rows, Function.comp_def]; exact .mk) (hi := by simp [oStt]; exact .mk)
 refine xO2 ?_
 refine xOs ?_
 refine xH [2,3] ?_
 refine W_ret (end_ret (by simp [Tryz.f126]; exact .mk) (by simp; exact .mk) ?_ (by simp [oStt]))
 first | (simp [Tryz.f126, hr, oStt, ownR]; done) | (simp [Tryz.f126, hr, oStt, zStt, ownR, turnS]; done)

open Go.Awp
theorem ct127 (g : Gl) (s : Stt) (hs : s.Ok) (hR : sttS s = true) : CtAt Tryz.prog g 127 [eStt s] (.tup [oStt (downStep s).1, vI (downStep s).2]) := by
 refine xA Tryz.func127 fun B S => ?_
 simp only [eStt, List.map, argD_agg, argD_v]
 have q0 := hs.h1
 have hb := superS_b (sttS_super hR)
 have e1 : IntKind.i64.wrap (s.base - 1) = s.base - 1 := wrap64 (by omega) (by omega)
 have c23 := ct23 g s hs
 obtain ⟨l, hL⟩ : ∃ l, l = twosO s.slots := ⟨_, rfl⟩
 obtain ⟨I, hI⟩ : ∃ I, I = twosI s.slots := ⟨_, rfl⟩
 rw [← hL, ← hI] at c23
 obtain ⟨hll, hIl, hlaid, hlb⟩ := down_facts hs hR
 rw [← hL] at hll hIl hlaid hlb
 rw [← hI] at hIl
 obtain ⟨ms, hM⟩ : ∃ ms, ms = matesS s.base l (s.base - 1) := ⟨_, rfl⟩
 obtain ⟨M, hMM⟩ : ∃ M : List Int, M = ms.map fun (k : Nat) => (k : Int) := ⟨_, rfl⟩
 have hMl : ms.length = M.length := by rw [hMM, List.length_map]
 have hml : ms.length ≤ l.length := by rw [hM, matesS]; exact Nat.le_trans (List.length_filter_le _ _) (by simp)
 have c170 := ct170 g s.base l (s.base - 1) (by omega) hll (fun i hi => by have := (hlb i hi).2; omega)
 rw [show matesR s.base l (s.base - 1) = ms by unfold matesR; rw [if_pos hlaid, hM], ← hMM] at c170
 have hmm : ∀ i, i < ms.length → nth ms i < l.length := fun i hi => by
  have := nth_mem hi
  rw [hM] at this
  simp only [matesS, List.mem_filter, List.mem_range] at this
  rw [hM]; exact this.1
 have hMn : ∀ i, i < ms.length → nth M i = ((nth ms i : Nat) : Int) := fun i hi => by rw [hMM, nth_map hi]
 refine xU ?_
 refine xO3 ?_
 refine xG [1,2] ?_
 refine xOl ?_
 refine xC (ct21 g s hs) ?_ (he := by simp [row_rows, Function.comp_def]; exact .mk) (hi := by simp [oStt]; exact .mk)
 refine xO ?_
 refine xOs ?_
 refine xF [1,2,4] ?_
 refine W_seq (xU ?_)
 refine xO ?_
 refine xOl ?_
 refine xO ?_
 refine xQ [1,2,4,20] ?_ ?_
 · intro h20
   have hq : s.base = 0 := by simpa using h20
   have hr : downStep s = (turnS s 1 0, 0) := by unfold downStep; rw [if_pos hq]
   refine xU ?_
   refine xO ?_
   refine xOs ?_
   refine xG [2,4] ?_
   refine xOl ?_
   refine xOs ?_
   refine xH [2,3] ?_
   refine W_ret (end_ret (by simp [Tryz.f127]; exact .mk) (by simp; exact .mk) ?_ (by simp [oStt]))
   first | (simp [Tryz.f127, hr, oStt, ownR]; done) | (simp [Tryz.f127, hr, oStt, zStt, ownR, turnS]; done) | (simp [Tryz.f127, hr, oStt, zStt, ownR, turnS]; omega)
 intro h20
 have hq : s.base ≠ 0 := by simpa using h20
 refine W_skip ?_
 refine xT ?_
 refine xOl ?_
 refine xC (c23) ?_ (he := by simp [row_rows, Function.comp_def]; exact .mk) (hi := by simp [oStt]; exact .mk)
 refine xO5 ?_
 refine xG [1,2,4,5,6] ?_
 refine xO ?_
 refine xOl ?_
 refine xO2 ?_
 refine xOl ?_
 refine xO ?_ (h := by simp [e1]; exact .mk)
 refine xC (c170) ?_ (he := by simp [row_rows, Function.comp_def]; exact .mk) (hi := by simp [oStt]; exact .mk)
 refine xH [1,2,4,5,6,7] ?_
 refine W_seq (xU ?_)
 refine xO3 ?_
 refine xQ [1,2,4,5,6,7,37] ?_ ?_
 · intro h37
   have hc : ms = [] := List.length_eq_zero_iff.1 (by rw [hMl]; simp at h37; simp [h37])
   have hr : downStep s = (turnS s s.mode (-1), 0) := by unfold downStep; rw [← hL, ← hM, if_neg hq, if_pos hc]
   refine xU ?_
   refine xO ?_
   refine xOl ?_
   refine xO ?_ (h := by simp [e1]; exact .mk)
   refine xO ?_
   refine xOs ?_
   refine xG [2,4] ?_
   refine xOl ?_
   refine xOs ?_
   refine xH [2,3] ?_
   refine W_ret (end_ret (by simp [Tryz.f127]; exact .mk) (by simp; exact .mk) ?_ (by simp [oStt]))
   first | (simp [Tryz.f127, hr, oStt, ownR]; done) | (simp [Tryz.f127, hr, oStt, zStt, ownR, turnS]; done) | (simp [Tryz.f127, hr, oStt, zStt, ownR, turnS]; omega)
 intro h37
 have hne : ms ≠ [] := fun e => by rw [e] at hMl; simp at h37; simp [List.length_eq_zero_iff] at hMl; exact absurd hMl.symm (by simpa using h37)
 obtain ⟨j, hj⟩ : ∃ j, j = leastS l ms := ⟨_, rfl⟩
 have hm0 : 0 < ms.length := List.length_pos_iff.2 hne
 have hM0 : 0 < M.length := by omega
 have hjl : j < l.length := by have := leastS_in (l := l) hne hmm (i := ms.length) hm0; rwa [List.take_length, ← hj] at this
 have hjI : j < I.length := by omega
 have hr0 : downStep s = (match roomS s false (nth l j).2 with | some a => moveS s (nth I j) false a | none => match placeS (s.base - 1) (restS l ms) (nth l j).2 with | some a => moveS s (nth I j) true a | none => (zStt, 10)) := by unfold downStep; rw [← hL, ← hI, ← hM, if_neg hq, if_neg hne, ← hj]; rfl
 refine W_skip ?_
 refine xT ?_
 refine xO ?_
 refine xO ?_ (h := by simp [eSlot, hM0]; exact .mk)
 refine xO ?_ (h := by simp [-List.getElem?_map, map_get hM0]; exact .mk)
 refine xO ?_
 refine xE [1,2,5,6,7,8] ?_
 rw [hMn 0 hm0, ← leastS_one (l := l) hne]
 rintro -
 refine W_seq (xU ?_)
 refine xH [1,2,5,6,7,8,9] ?_
 refine W_block (W_rounds (fun m σ o => ∃ i : Nat, m = ms.length - i ∧ 1 ≤ i ∧ i ≤ ms.length ∧ σ = slots [(1, .ptr 0 0 0), (2, .ptr 1 0 0), (5, .hdr 6 0 l.length), (6, .hdr 7 0 I.length), (7, .hdr 8 0 M.length), (8, .d (vI ((leastS l (ms.take i) : Nat) : Int))), (9, .d (vI i))] ∧ o = [.var 28 [.d (vI s.sh.pages), .d (vI s.sh.slots), .d (vI s.sh.roots), .d (vI s.sh.room), .d (vI s.mode), .d (vI s.base), .d (rSl s.slots), .d (rR s.roots), .d (rBB s.data)], .var 28 [.d (vI 0), .d (vI 0), .d (vI 0), .d (vI 0), .d (vI 0), .d (vI 0), .d (.v (.slice none 0 0)), .d (.v (.slice none 0 0)), .d (.v (.slice none 0 0))], .row 5 (s.slots.map eSlot), .row 3 (s.roots.map eRoot), .row 1 (s.data.map oB), .var 28 [.d (vI s.sh.pages), .d (vI s.sh.slots), .d (vI s.sh.roots), .d (vI s.sh.room), .d (vI s.mode), .d (vI s.base), .hdr 2 0 s.slots.length, .hdr 3 0 s.roots.length, .hdr 4 0 s.data.length], .row 2 (l.map eObj), .row 1 (I.map vI), .row 1 (M.map vI)]) (ms.length - 1) .refl ⟨1, rfl, by omega, by omega, rfl, rfl⟩ ?_)
 rintro m σ o ⟨i, rfl, hi1, hi, rfl, rfl⟩ _
 have hlin := leastS_in (l := l) hne hmm hi1 (i := i)
 refine W_seq (xU ?_)
 refine xO4 ?_
 refine xQ [1,2,5,6,7,8,9,49] ?_ ?_
 · intro h49
   have hi2 : i < ms.length := by rw [hMl]; simpa using h49
   have hi3 : i < M.length := by omega
   have hmi := hmm i hi2
   have hMi := hMn i hi2
   have hstp := leastS_step l hi1 hi2
   refine W_skip fun _ => ?_
   refine W_seq (W_block ?_)
   refine W_seq ?_
   refine W_regD (by kernel_rfl) [] 4 [0,1,2,3,4,5,6,7,8,9,10,11,12,13] (by decide +kernel) ?_
   refine xO3 ?_
   refine xO ?_ (h := by simp [eSlot, hi3]; exact .mk)
   refine xO ?_ (h := by simp [-List.getElem?_map, map_get hi3, hMi]; exact .mk)
   refine xO ?_ (h := by simp [eSlot, hmi]; exact .mk)
   refine xO ?_
   refine xO ?_ (h := by simp [-List.getElem?_map, map_get hmi, eObj]; exact .mk)
   refine xO2 ?_
   refine xO ?_ (h := by simp [eSlot, hlin]; exact .mk)
   refine xO ?_
   refine xO ?_ (h := by simp [-List.getElem?_map, map_get hlin, eObj]; exact .mk)
   refine xO ?_
   refine xQ [1,2,5,6,7,8,9,65] ?_ ?_
   · intro h65
     rw [if_pos (by simpa using h65)] at hstp
     refine xY ?_
     refine xO2 ?_
     refine xO ?_ (h := by simp [eSlot, hi3]; exact .mk)
     refine xO ?_ (h := by simp [-List.getElem?_map, map_get hi3, hMi]; exact .mk)
     refine xH [1,2,5,6,7,8,9] ?_
     refine xY ?_
     refine xO3 ?_
     refine xE [1,2,5,6,7,8,9] ?_
     refine rounds_kill [1,2,5,6,7,8,9] ?_
     refine rounds_next (m' := ms.length - (i+1)) (by omega) ⟨i+1, rfl, by omega, by omega, ?_, rfl⟩
     rw [wrap64 (by omega) (by omega), hstp]; rfl
   intro h65
   rw [if_neg (by simpa using h65)] at hstp
   refine W_skip fun _ => ?_
   refine xY ?_
   refine xO3 ?_
   refine xE [1,2,5,6,7,8,9] ?_
   refine rounds_kill [1,2,5,6,7,8,9] ?_
   refine rounds_next (m' := ms.length - (i+1)) (by omega) ⟨i+1, rfl, by omega, by omega, ?_, rfl⟩
   rw [wrap64 (by omega) (by omega), hstp]; rfl
 intro h49
 obtain rfl : i = ms.length := by have h9 := h49; rw [← hMl] at h9; simp at h9; omega
 rw [List.take_length, ← hj]
 refine W_exit ?_
 rintro -
 refine W_seq ?_
 refine W_regD (by kernel_rfl) [] 4 [0,1,2,3,4,5,6,7,8,9,10,11] (by decide +kernel) ?_
 refine xOl ?_
 refine xO2 ?_
 refine xO ?_ (h := by simp [eSlot, hjl]; exact .mk)
 refine xO ?_
 refine xO ?_ (h := by simp [-List.getElem?_map, map_get hjl, eObj]; exact .mk)
 refine xC (ct39 g s hs false (nth l j).2) ?_ (he := by simp [row_rows, Function.comp_def]; exact .mk) (hi := by simp [oStt]; exact .mk)
 refine xO5 ?_
 refine xF [1,2,5,6,7,8,10,11] ?_
 refine W_seq (xU ?_)
 refine xO ?_
 refine xQ [1,2,5,6,7,8,10,80] ?_ ?_
 · intro h80
   have hz := h80
   obtain ⟨a, ha⟩ : ∃ a, roomS s false (nth l j).2 = some a := Option.isSome_iff_exists.1 (by simpa using hz)
   rw [ha] at hr0 ⊢
   have hr : downStep s = moveS s (nth I j) false a := hr0
   refine W_seq ?_
   refine W_regD (by kernel_rfl) [] 4 [0,1,2,3,4,5,6,7,8,9,10] (by decide +kernel) ?_
   refine xOl ?_
   refine xO2 ?_
   refine xO ?_ (h := by simp [eSlot, hjI]; exact .mk)
   refine xO ?_ (h := by simp [-List.getElem?_map, map_get hjI]; exact .mk)
   refine xO ?_
   refine xC (ct49 g s hs (nth I j) false a) ?_ (he := by simp [row_rows, Function.comp_def]; exact .mk) (hi := by simp [oStt]; exact .mk)
   refine xO2 ?_
   refine xOs ?_
   refine xH [2,3] ?_
   refine W_ret (end_ret (by simp [Tryz.f127]; exact .mk) (by simp; exact .mk) ?_ (by simp [oStt]))
   first | (simp [Tryz.f127, hr, oStt, ownR]; done) | (simp [Tryz.f127, hr, oStt, zStt, ownR, turnS]; done) | (simp [Tryz.f127, hr, oStt, zStt, ownR, turnS]; omega)
 intro h80
 have ha : roomS s false (nth l j).2 = none := by simpa using h80
 rw [ha] at hr0
 refine W_skip ?_
 refine xT ?_
 refine xH [1,2,5,6,7,8,12] ?_
 refine W_seq (xU ?_)
 refine xH [1,2,5,6,7,8,12,13] ?_
 refine W_block ?_
 obtain ⟨R, hRR⟩ : ∃ R : Nat → List (Int × Int), R = fun i => ((List.range i).filter fun i => !ms.contains i).map (nth l) := ⟨_, rfl⟩
 have hR0 : R 0 = [] := by rw [hRR]; rfl
 have hRl : R l.length = restS l ms := by rw [hRR]; rfl
 have hRn : ∀ i, (R i).length ≤ i := fun i => by rw [hRR]; simp only [List.length_map]; exact Nat.le_trans (List.length_filter_le _ _) (by simp)
 have hR1 : ∀ i, R (i + 1) = R i ++ (if ms.contains i = true then [] else [nth l i]) := fun i => by
  rw [hRR]; simp only [List.range_succ, List.filter_append, List.map_append]; congr 1
  cases hq : ms.contains i <;> simp only [List.filter_cons, List.filter_nil, hq] <;> rfl
 refine W_rounds (fun m σ o => ∃ i : Nat, m = l.length - i ∧ i ≤ l.length ∧ σ = slots [(1, .ptr 0 0 0), (2, .ptr 1 0 0), (5, .hdr 6 0 l.length), (6, .hdr 7 0 I.length), (7, .hdr 8 0 M.length), (8, .d (vI j)), (12, .hdr 9 0 (R i).length), (13, .d (vI i))] ∧ o = [.var 28 [.d (vI s.sh.pages), .d (vI s.sh.slots), .d (vI s.sh.roots), .d (vI s.sh.room), .d (vI s.mode), .d (vI s.base), .d (rSl s.slots), .d (rR s.roots), .d (rBB s.data)], .var 28 [.d (vI 0), .d (vI 0), .d (vI 0), .d (vI 0), .d (vI 0), .d (vI 0), .d (.v (.slice none 0 0)), .d (.v (.slice none 0 0)), .d (.v (.slice none 0 0))], .row 5 (s.slots.map eSlot), .row 3 (s.roots.map eRoot), .row 1 (s.data.map oB), .var 28 [.d (vI s.sh.pages), .d (vI s.sh.slots), .d (vI s.sh.roots), .d (vI s.sh.room), .d (vI s.mode), .d (vI s.base), .hdr 2 0 s.slots.length, .hdr 3 0 s.roots.length, .hdr 4 0 s.data.length], .row 2 (l.map eObj), .row 1 (I.map vI), .row 1 (M.map vI), .row 2 ((R i).map eObj)]) l.length
  (Weak.trans (Weak.nilRow 12 2 rfl) (Weak.kills [1,2,5,6,7,8,12,13] rfl) (fun _ _ _ h1 h2 => by rw [← h1.len]; exact h2)) ⟨0, by simp, by simp, by simp [hR0], by simp [hR0]⟩ ?_
 rintro m σ o ⟨i, rfl, hi, rfl, rfl⟩ _
 refine W_seq (xU ?_)
 refine xO4 ?_
 refine xQ [1,2,5,6,7,8,12,13,93] ?_ ?_
 · intro h93
   have hi2 : i < l.length := by simpa using h93
   have hRi := hR1 i
   have e4 : ((R i).length + 1) * 16 ≤ 140737488355328 := by have := hRn i; omega
   have e5 : (R i).length ≤ 140737488355327 := by have := hRn i; omega
   refine W_skip fun _ => ?_
   refine W_seq (W_block ?_)
   refine xU ?_
   refine xH [1,2,5,6,7,8,12,13,14] ?_
   refine W_seq (xU ?_)
   refine xH [1,2,5,6,7,8,12,13,14,15] ?_
   refine W_block (W_rounds (fun m σ o => ∃ q : Nat, m = ms.length - q ∧ q ≤ ms.length ∧ σ = slots [(1, .ptr 0 0 0), (2, .ptr 1 0 0), (5, .hdr 6 0 l.length), (6, .hdr 7 0 I.length), (7, .hdr 8 0 M.length), (8, .d (vI j)), (12, .hdr 9 0 (R i).length), (13, .d (vI i)), (14, .d (vT ((ms.take q).contains i))), (15, .d (vI q))] ∧ o = [.var 28 [.d (vI s.sh.pages), .d (vI s.sh.slots), .d (vI s.sh.roots), .d (vI s.sh.room), .d (vI s.mode), .d (vI s.base), .d (rSl s.slots), .d (rR s.roots), .d (rBB s.data)], .var 28 [.d (vI 0), .d (vI 0), .d (vI 0), .d (vI 0), .d (vI 0), .d (vI 0), .d (.v (.slice none 0 0)), .d (.v (.slice none 0 0)), .d (.v (.slice none 0 0))], .row 5 (s.slots.map eSlot), .row 3 (s.roots.map eRoot), .row 1 (s.data.map oB), .var 28 [.d (vI s.sh.pages), .d (vI s.sh.slots), .d (vI s.sh.roots), .d (vI s.sh.room), .d (vI s.mode), .d (vI s.base), .hdr 2 0 s.slots.length, .hdr 3 0 s.roots.length, .hdr 4 0 s.data.length], .row 2 (l.map eObj), .row 1 (I.map vI), .row 1 (M.map vI), .row 2 ((R i).map eObj)]) ms.length .refl ⟨0, by simp, by simp, rfl, rfl⟩ ?_)
   rintro m σ o ⟨q, rfl, hq1, rfl, rfl⟩ _
   refine W_seq (xU ?_)
   refine xO4 ?_
   refine xQ [1,2,5,6,7,8,12,13,14,15,99] ?_ ?_
   · intro h99
     have hq2 : q < ms.length := by rw [hMl]; simpa using h99
     have hq3 : q < M.length := by omega
     have hMq := hMn q hq2
     have hcq : (ms.take (q + 1)).contains i = ((ms.take q).contains i || decide (nth ms q = i)) := by rw [take_succ hq2]; simp [eq_comm]
     refine W_skip fun _ => ?_
     refine W_seq (W_block ?_)
     refine xY ?_
     refine xO2 ?_
     iterate 2 refine xI ?_
     refine xI ?_ (h := fun hb => by simp [eSlot, hq3]; exact .mk)
     refine xI ?_ (h := fun hb => by simp [-List.getElem?_map, map_get hq3, hMq]; exact .mk)
     iterate 2 refine xI ?_
     refine xP ?_
     refine xB ?_
     refine xF [1,2,5,6,7,8,12,13,14,15] ?_
     refine xY ?_
     refine xO3 ?_
     refine xE [1,2,5,6,7,8,12,13,14,15] ?_
     refine rounds_kill [1,2,5,6,7,8,12,13,14,15] ?_
     refine rounds_next (m' := ms.length - (q+1)) (by omega) ⟨q+1, rfl, by omega, ?_, rfl⟩
     rw [wrap64 (by omega) (by omega), hcq]
     simp [Int.natCast_inj, Bool.beq_eq_decide_eq]; try rfl
   intro h99
   obtain rfl : q = ms.length := by have h9 := h99; rw [← hMl] at h9; simp at h9; omega
   rw [List.take_length]
   refine W_exit (xT ?_)
   refine xO2 ?_
   refine xQ [1,2,5,6,7,8,12,13,112] ?_ ?_
   · intro h112
     have hc : ms.contains i = false := by simpa using h112
     rw [if_neg (by rw [hc]; simp)] at hRi
     refine xY ?_
     refine xO3 ?_
     refine xO ?_ (h := by simp [eSlot, hi2]; exact .mk)
     refine xO ?_ (h := by simp [-List.getElem?_map, map_get hi2, eObj]; exact .mk)
     refine xO ?_
     refine xO ?_ (h := by simp [rows, e4, e5]; exact .mk)
     refine xH [1,2,5,6,7,8,12,13] ?_
     refine xY ?_
     refine xO3 ?_
     refine xE [1,2,5,6,7,8,12,13] ?_
     refine rounds_kill [1,2,5,6,7,8,12,13] ?_
     first
     | (refine rounds_kills [1,2,5,6,7,8,12,13] rfl ?_
        refine rounds_next (m' := l.length - (i+1)) (by omega) ⟨i+1, rfl, by omega, ?_, ?_⟩
        · rw [wrap64 (by omega) (by omega), hRi]; rfl
        rw [hRi])
     | (refine rounds_kills [1,2,5,6,7,8,12,13] rfl ?_
        refine rounds_swap 9 11 1 (by decide) (by simp) (by decide) rfl rfl ?_
        refine rounds_drop 10 [1,2,5,6,7,8,12,13] (by decide) (by rfl) (by rfl) ?_
        refine rounds_next (m' := l.length - (i+1)) (by omega) ⟨i+1, rfl, by omega, ?_, ?_⟩
        · rw [wrap64 (by omega) (by omega), hRi]; simp; try rfl
        rw [hRi]; simp [eObj]; try rfl)
   intro h112
   have hc : ms.contains i = true := by simpa using h112
   rw [if_pos hc, List.append_nil] at hRi
   refine W_skip fun _ => ?_
   refine xY ?_
   refine xO3 ?_
   refine xE [1,2,5,6,7,8,12,13] ?_
   refine rounds_kill [1,2,5,6,7,8,12,13] ?_
   first
   | (refine rounds_kills [1,2,5,6,7,8,12,13] rfl ?_
      refine rounds_next (m' := l.length - (i+1)) (by omega) ⟨i+1, rfl, by omega, ?_, ?_⟩
      · rw [wrap64 (by omega) (by omega), hRi]; rfl
      rw [hRi])
   | (refine rounds_kills [1,2,5,6,7,8,12,13] rfl ?_
      refine rounds_swap 9 11 1 (by decide) (by simp) (by decide) rfl rfl ?_
      refine rounds_drop 10 [1,2,5,6,7,8,12,13] (by decide) (by rfl) (by rfl) ?_
      refine rounds_next (m' := l.length - (i+1)) (by omega) ⟨i+1, rfl, by omega, ?_, ?_⟩
      · rw [wrap64 (by omega) (by omega), hRi]; simp; try rfl
      rw [hRi]; simp [eObj]; try rfl)
 intro h93
 obtain rfl : i = l.length := by simp at h93; omega
 rw [hRl]
 obtain ⟨V, hV⟩ : ∃ V, V = restS l ms := ⟨_, rfl⟩
 have hVn := hRn l.length
 rw [hRl] at hVn
 have hVb : ∀ k, k < V.length → (nth V k).1 ≤ 2^40 := by rw [hV]; exact rest_b (fun k hk => (hlb k hk).2)
 rw [← hV] at hr0 hVn ⊢
 have c104 := ct104 g (s.base - 1) V (nth l j).2 (by omega) (fun k hk => by have := hVb k hk; omega)
 refine W_exit ?_
 rintro -
 refine W_seq ?_
 refine W_regD (by kernel_rfl) [] 4 [0,1,2,3,4,5,6,7,8,9,10,11,12,13,14] (by decide +kernel) ?_
 refine xO ?_
 refine xOl ?_
 refine xO ?_ (h := by simp [e1]; exact .mk)
 refine xO3 ?_
 refine xO ?_ (h := by simp [eSlot, hjl]; exact .mk)
 refine xO ?_
 refine xO ?_ (h := by simp [-List.getElem?_map, map_get hjl, eObj]; exact .mk)
 refine xC (c104) ?_ (he := by simp [row_rows, Function.comp_def]; exact .mk) (hi := by simp [oStt]; exact .mk)
 refine xO5 ?_
 refine xF [1,2,6,8,10,11] ?_
 refine W_seq (xU ?_)
 refine xO2 ?_
 refine xQ [1,2,6,8,10,134] ?_ ?_
 · intro h134
   have ha2 : placeS (s.base - 1) V (nth l j).2 = none := by simpa using h134
   rw [ha2] at hr0
   have hr : downStep s = (zStt, 10) := hr0
   refine xU ?_
   iterate 2 (refine xOs ?_)
   refine xH [2,3] ?_
   refine W_ret (end_ret (by simp [Tryz.f127]; exact .mk) (by simp; exact .mk) ?_ (by simp [oStt]))
   first | (simp [Tryz.f127, hr, oStt, ownR]; done) | (simp [Tryz.f127, hr, oStt, zStt, ownR, turnS]; done) | (simp [Tryz.f127, hr, oStt, zStt, ownR, turnS]; omega)
 intro h134
 have hz : (placeS (s.base - 1) V (nth l j).2).isNone = false := by simpa using h134
 obtain ⟨a, ha2⟩ : ∃ a, placeS (s.base - 1) V (nth l j).2 = some a := Option.isSome_iff_exists.1 (by cases hp : placeS (s.base - 1) V (nth l j).2 <;> simp_all)
 rw [ha2] at hr0 ⊢
 have hr : downStep s = moveS s (nth I j) true a := hr0
 refine W_skip fun _ => ?_
 refine W_seq ?_
 refine W_regD (by kernel_rfl) [] 4 [0,1,2,3,4,5,6,7,8,9,10] (by decide +kernel) ?_
 refine xOl ?_
 refine xO2 ?_
 refine xO ?_ (h := by simp [eSlot, hjI]; exact .mk)
 refine xO ?_ (h := by simp [-List.getElem?_map, map_get hjI]; exact .mk)
 refine xO ?_
 refine xC (ct49 g s hs (nth I j) true a) ?_ (he := by simp [row_rows, Function.comp_def]; exact .mk) (hi := by simp [oStt]; exact .mk)
 refine xO2 ?_
 refine xOs ?_
 refine xH [2,3] ?_
 refine W_ret (end_ret (by simp [Tryz.f127]; exact .mk) (by simp; exact .mk) ?_ (by simp [oStt]))
 first | (simp [Tryz.f127, hr, oStt, ownR]; done) | (simp [Tryz.f127, hr, oStt, zStt, ownR, turnS]; done) | (simp [Tryz.f127, hr, oStt, zStt, ownR, turnS]; omega)

open Go.Awp
theorem in199m (g : Gl) (o0 o1 o2 : Awp.Obj) (pages : Int) (l : List (Int × Int)) : ∀ B S, CallsA Tryz.prog g B S ⟨3, true⟩ 199 [.d (vI pages), .d (rO l)] [o0, o1, o2]
    (fun x r => x = .fn (.func 231) [] [.ptr 4 0 0, .ptr 3 0 0] ∧ r = [o0, o1, o2, .var 3 [.d (vI pages)], .var 32 [.d (rO l)]]) := by
 refine callsA_at Tryz.func199 rfl (Nat.le_of_ble_eq_true rfl) fun B S => ?_
 refine xU ?_
 refine xO3 ?_
 refine xE [2,3] ?_
 refine xT ?_
 refine xO2 ?_
 refine xE [4] fun _ => ?_
 refine W_ret (endAt_ret (by simp [Tryz.f199]; exact .mk) ?_ ?_)
 · simp
 simp
theorem in231m (g : Gl) (pages page : Int) (l : List (Int × Int)) (hp : 0 ≤ pages ∧ pages ≤ 64) (hl : l.length ≤ 2^40) (ho : ∀ i, i < l.length → (nth l i).1 ≤ 2^40) (b lb : Nat) (c : LoopC) (L : List (Nat × AV)) (hc1 : c.params.size = 2) (hc2 : ∀ p ∈ c.params.toList, p < c.n)
    (U : Nat → List Nat) (hU : U 0 = []) (zL : (L.all fun p => p.2.lt 7) = true) (zK : (L.all fun p => p.2.lt 8) = true) (zR : (L.map fun p => (p.1, p.2.ren (swapB 7 11 1))) = L)
    (hround : ∀ i, i < l.length → ∀ B S, RoundI Tryz.prog g B S lb 6 c L [.agg [.d (vI (spotS pages (nth l i)).1.page), .d (vI (spotS pages (nth l i)).1.count), .d (vT (spotS pages (nth l i)).1.small), .d (vI (spotS pages (nth l i)).1.cls), .d (vI (spotS pages (nth l i)).1.cell)], .d (vT (spotS pages (nth l i)).2)] [.var 3 [.d (vI page)], .var 33 [.hdr 7 0 (U (i)).length], .var 3 [.d (vI (i : Nat))], .var 3 [.d (vI pages)], .var 32 [.d (rO l)], .blk b, .lp lb c L .ready none, .row 1 ((U (i)).map fun (k : Nat) => vI k), .var 98 [.d (vI (nth l i).1), .d (vI (nth l i).2)]] (fun bb o => bb = true ∧ ((∃ Y : Awp.Obj, o = [.var 3 [.d (vI page)], .var 33 [.hdr 7 0 (U (i + 1)).length], .var 3 [.d (vI (i + 1 : Nat))], .var 3 [.d (vI pages)], .var 32 [.d (rO l)], .blk b, .lp lb c L .ready none, .row 1 ((U (i + 1)).map fun (k : Nat) => vI k), .var 98 [.d (vI (nth l i).1), .d (vI (nth l i).2)], Y]) ∨ ∃ X Y Y2 : Awp.Obj, o = [.var 3 [.d (vI page)], .var 33 [.hdr 11 0 (U (i + 1)).length], .var 3 [.d (vI (i + 1 : Nat))], .var 3 [.d (vI pages)], .var 32 [.d (rO l)], .blk b, .lp lb c L .ready none, X, .var 98 [.d (vI (nth l i).1), .d (vI (nth l i).2)], Y, Y2, .row 1 ((U (i + 1)).map fun (k : Nat) => vI k)]))) :
    ∀ B S, CallsA Tryz.prog g B S ⟨7, true⟩ 231 [.fn (.yield lb) [] [], .ptr 4 0 0, .ptr 3 0 0] [.var 3 [.d (vI page)], .var 33 [.d (.v (.slice none 0 0))], .var 3 [.d (vI 0)], .var 3 [.d (vI pages)], .var 32 [.d (rO l)], .blk b, .lp lb c L .ready none] (fun x r => x = .tup [] ∧ r = [.var 3 [.d (vI page)], .var 33 [.hdr 7 0 (U (l.length)).length], .var 3 [.d (vI (l.length : Nat))], .var 3 [.d (vI pages)], .var 32 [.d (rO l)], .blk b, .lp lb c L .ready none, .row 1 ((U (l.length)).map fun (k : Nat) => vI k)]) := by
 refine callsA_WI Tryz.func231 rfl (Nat.le_of_ble_eq_true rfl) fun B S => ?_
 refine WI_seq ?_
 refine WI_reg rfl ?_ (by decide +kernel)
 refine xO ?_ (h := by simp [zL, eObj]; exact .mk)
 iterate 2 (refine xO ?_ (h := by simp [zL]; exact .mk))
 refine xE [0,2,6,7,8] fun _ => ?_
 refine WI_block ?_
 refine WI_weak (Weak.nilCell 1 0 1 rfl rfl) ?_
 refine WI_rounds (fun m σ o => ∃ i : Nat, m = l.length - i ∧ i ≤ l.length ∧ σ = slots [(0, .fn (.yield lb) [] []), (2, .ptr 3 0 0), (6, .d (rO l)), (7, .d (vI l.length)), (8, .d (vI i))] ∧ o = [.var 3 [.d (vI page)], .var 33 [.hdr 7 0 (U (i)).length], .var 3 [.d (vI (i : Nat))], .var 3 [.d (vI pages)], .var 32 [.d (rO l)], .blk b, .lp lb c L .ready none, .row 1 ((U (i)).map fun (k : Nat) => vI k)]) l.length .refl ⟨0, by simp, by simp, by simp, by simp [hU]⟩ ?_
 rintro m σ o ⟨i, rfl, hi, rfl, rfl⟩ _
 refine WI_seq ?_
 refine WI_reg rfl ?_ (by decide +kernel)
 refine xO ?_ (h := by simp [zL]; exact .mk)
 refine xE [0,2,6,7,8,9] fun _ => ?_
 refine WI_seq ?_
 refine WI_cond rfl ?_ ?_
 · intro h9
   have hi2 : i < l.length := by simpa using h9
   refine WI_skip ?_
   rintro -
   refine WI_seq ?_
   refine WI_block ?_
   refine WI_seq ?_
   refine WI_reg rfl ?_ (by decide +kernel)
   refine xO ?_ (h := by simp [zL, zK, eObj, *]; exact .mk)
   refine xO ?_ (h := by simp [zL, zK, eObj]; exact .mk)
   refine xO ?_ (h := by simp [zL, zK]; exact .mk)
   refine xO ?_ (h := by simp [zL, zK, splice]; exact .mk)
   refine xE [0,2,5,6,7,8] fun _ => ?_
   refine WI_seq ?_
   refine WI_regY [0,1,2,3,4,5] 6 [7] rfl ?_ (by decide +kernel)
   refine xO ?_ (h := by simp [zL, zK]; exact .mk)
   iterate 2 (refine xO ?_ (h := by simp [zL, zK, eObj]; exact .mk))
   refine run_call0 rfl rfl rfl rfl (by simp [zL, zK]; exact .mk) (by simp [zL, zK]; exact .mk) (ct232 g pages (nth l i) hp (ho i hi2)) (by simp [zL, zK]) (by simp [zL, zK]; exact .mk) ?_
   iterate 2 (refine xO ?_ (h := by simp [zL, zK]; exact .mk))
   refine run_yieldA (fun bb o => bb = true ∧ ((∃ Y : Awp.Obj, o = [.var 3 [.d (vI page)], .var 33 [.hdr 7 0 (U (i + 1)).length], .var 3 [.d (vI (i + 1 : Nat))], .var 3 [.d (vI pages)], .var 32 [.d (rO l)], .blk b, .lp lb c L .ready none, .row 1 ((U (i + 1)).map fun (k : Nat) => vI k), .var 98 [.d (vI (nth l i).1), .d (vI (nth l i).2)], Y]) ∨ ∃ X Y Y2 : Awp.Obj, o = [.var 3 [.d (vI page)], .var 33 [.hdr 11 0 (U (i + 1)).length], .var 3 [.d (vI (i + 1 : Nat))], .var 3 [.d (vI pages)], .var 32 [.d (rO l)], .blk b, .lp lb c L .ready none, X, .var 98 [.d (vI (nth l i).1), .d (vI (nth l i).2)], Y, Y2, .row 1 ((U (i + 1)).map fun (k : Nat) => vI k)])) rfl rfl rfl rfl rfl (by simp) (by simp; exact .mk) (by simp [eSpot]; exact .mk) rfl hc1 hc2 (hround i hi2) ?_
   rintro bb o2 ⟨rfl, ⟨Y, rfl⟩ | ⟨X, Y, Y2, rfl⟩⟩
   · refine xO ?_ (h := by simp [zL, zK]; exact .mk)
     refine xE [0,2,6,7,8,19] fun _ => ?_
     refine WI_cond rfl ?_ ?_
     · intro h19
       simp at h19
     intro h19
     refine WI_skip ?_
     rintro -
     refine WI_reg rfl ?_ (by decide +kernel)
     iterate 2 (refine xO ?_ (h := by simp [zL, zK]; exact .mk))
     refine xE [0,2,6,7,8] ?_
     refine roundsI_of ?_
     refine rounds_drop 8 [0,2,6,7,8] (by simp) (by simp [boxA, AV.cells, AV.isCell, zL, zK]) (by simp [boxA, AV.cells, AV.isCell, zL, zK]) ?_
     exact rounds_next (m' := l.length - (i + 1)) (by omega) ⟨i + 1, rfl, by omega, by rw [wrap64 (by omega) (by omega)]; rfl, rfl⟩
   refine xO ?_ (h := by simp [zL, zK]; exact .mk)
   refine xE [0,2,6,7,8,19] fun _ => ?_
   refine WI_cond rfl ?_ ?_
   · intro h19
     simp at h19
   intro h19
   refine WI_skip ?_
   rintro -
   refine WI_reg rfl ?_ (by decide +kernel)
   iterate 2 (refine xO ?_ (h := by simp [zL, zK]; exact .mk))
   refine xE [0,2,6,7,8] ?_
   refine roundsI_of ?_
   refine rounds_kills [0,2,6,7,8] rfl ?_
   have hlp : Obj.ren (swapB 7 11 1) (.lp lb c L .ready none) = .lp lb c L .ready none := by
    show Obj.lp _ _ (L.map _) _ _ = _
    rw [zR]
   refine rounds_swap 7 11 1 (objs2 := [.var 3 [.d (vI page)], .var 33 [.hdr 7 0 (U (i + 1)).length], .var 3 [.d (vI (i + 1 : Nat))], .var 3 [.d (vI pages)], .var 32 [.d (rO l)], .blk b, .lp lb c L .ready none, .row 1 ((U (i + 1)).map fun (k : Nat) => vI k), .var 98 [.d (vI (nth l i).1), .d (vI (nth l i).2)], Y.ren (swapB 7 11 1), Y2.ren (swapB 7 11 1), X.ren (swapB 7 11 1)]) (by decide) (by simp) (by simp) (by show _ = [_, _, _, _, _, _, Obj.ren (swapB 7 11 1) (.lp lb c L .ready none), _, _, _, _, _]; rw [hlp]; rfl) rfl ?_
   refine rounds_drop 8 [0,2,6,7,8] (by simp) (by rfl) (by simp [zL, zK]) ?_
   exact rounds_next (m' := l.length - (i + 1)) (by omega) ⟨i + 1, rfl, by omega, by rw [wrap64 (by omega) (by omega)]; rfl, rfl⟩
 intro h9
 obtain rfl : i = l.length := by simp at h9; omega
 refine WI_exit ?_
 try simp only [thenI_ret, roundsI_ret, inBlkI_ret, thenI_exit, roundsI_exit, inBlkI_exit, if_true]
 refine endInM_normal (fn := Tryz.f231) (rs := []) 8 .nil ?_ (by simp) ?_ ?_ ?_
 · simp [Tryz.f231]; exact .mk
 · rfl
 · simp [zL, zK]
 exact ⟨rfl, rfl⟩
open Go.Awp
theorem in165 (g : Gl) (pages page : Int) (l : List (Int × Int)) (hl : l.length ≤ 2^40) (ho : ∀ i, i < l.length → (nth l i).1 ≤ 2^40) (hL : (laidS pages l).isSome = true) (hpg : -2^40 ≤ page ∧ page ≤ 2^40) : ∀ B S, CallsA Tryz.prog g B S ⟨0, true⟩ 165 ([vI pages, rO l, vI page].map argD) [] (fun x r => x = .hdr 7 0 (matesS pages l page).length ∧ r = [.var 3 [.d (vI page)], .var 33 [.hdr 7 0 (matesS pages l page).length], .var 3 [.d (vI (l.length : Nat))], .var 3 [.d (vI pages)], .var 32 [.d (rO l)], .dead, .dead, .row 1 ((matesS pages l page).map fun (k : Nat) => vI k)]) := by
 refine callsA_WI Tryz.func165 rfl (Nat.le_of_ble_eq_true rfl) fun B S => ?_
 obtain ⟨y, hls⟩ := Option.isSome_iff_exists.1 hL
 obtain ⟨hp, hokk, hy⟩ := laidS_some hls
 have hcl : ∀ B S, CallsA Tryz.prog g B S ⟨0, true⟩ 141 ([vI pages, rO l].map AV.d) [] (fun x r => ∃ y, x = .tup [y, .d (.v (.bool true))]) := fun B S vs w gs om a b c d e => (in141 g pages l hl ho B S vs w gs om a b c d e).mono fun e w' ⟨v, av, o', g', m', h1, h2, h3⟩ => ⟨v, av, o', g', m', h1, by rw [hls] at h2; exact ⟨_, h2.1⟩, h3⟩
 simp only [List.map, argD_agg, argD_v]
 refine WI_seq ?_
 refine WI_reg rfl ?_ (by decide +kernel)
 refine xO2 ?_
 refine xE [0,1,5] fun _ => ?_
 refine WI_seq ?_
 refine WI_seq ?_
 refine WI_reg rfl ?_ (by decide +kernel)
 refine xO2 ?_
 refine run_inl0 rfl rfl rfl rfl (by simp; exact .mk) ⟨_, Tryz.func141, rfl, rfl⟩ (calls_dead (by simp) hcl _) (.inl (by simp)) ?_
 refine xO5 ?_
 refine xE [0,1,5,8] fun _ => ?_
 refine WI_seq ?_
 refine WI_reg rfl ?_ (by decide +kernel)
 refine xO2 ?_
 refine xE [0,1,5,19] fun _ => ?_
 refine WI_cond rfl ?_ ?_
 · intro h19
   simp at h19
 intro h19
 refine WI_skip ?_
 rintro -
 refine WI_seq ?_
 refine WI_reg rfl ?_ (by decide +kernel)
 refine xO ?_
 refine xE [0,1,5,9] fun _ => ?_
 refine WI_seq ?_
 refine WI_reg rfl ?_ (by decide +kernel)
 refine xO ?_
 refine xOs ?_
 refine xE [0,1,5,9,10] fun _ => ?_
 refine WI_seq ?_
 refine WI_seq ?_
 refine WI_reg rfl ?_ (by decide +kernel)
 refine xO2 ?_
 refine run_inl0 rfl rfl rfl rfl (by simp; exact .mk) ⟨_, Tryz.func199, rfl, rfl⟩ (in199m g _ _ _ pages l) (.inl (by simp)) ?_
 refine xE [5,9,10,22] fun _ => ?_
 refine WI_block ?_
 obtain ⟨U, hU⟩ : ∃ U : Nat → List Nat, U = (fun i => (List.range i).filter fun j => coverB pages page (nth l j)) := ⟨_, rfl⟩
 have hU0 : U 0 = [] := by rw [hU]; rfl
 have hUl : U l.length = matesS pages l page := by rw [hU]; rfl
 have hU1 : ∀ i, U (i + 1) = U i ++ (if coverB pages page (nth l i) = true then [i] else []) := fun i => by
  rw [hU]; simp only [List.range_succ, List.filter_append]; congr 1; simp only [List.filter_cons, List.filter_nil]
 have hUn : ∀ i, (U i).length ≤ i := fun i => by rw [hU]; exact Nat.le_trans (List.length_filter_le _ _) (by simp)
 refine WI_rangeFunc [5,9,10] (by simp; exact .mk) ⟨_, Tryz.func231, rfl, rfl⟩ (by simp; exact .mk) _ (fun fn b lb B S => in231m g pages page l hp hl ho b lb _ _ rfl ?_ U hU0 rfl rfl rfl (fun i hi B S => ?_) B S) ?_
 · intro p hp2
   have hp3 : p = 23 ∨ p = 24 := by simpa using hp2
   show p < 45
   rcases hp3 with rfl | rfl <;> decide
 · skip
   have hsp : (spotS pages (nth l i)).2 = true := by
    have hk := hokk i hi
    cases hq : (spotS pages (nth l i)).2 with
    | true => rfl
    | false => simp only [okI, layO] at hk; rw [if_neg (by simp [hq])] at hk; cases hk
   have hsw := spot_words hsp
   have hgd := hsw.good
   have g0 := hgd.p0
   have g1 := hgd.p1
   have g2 := hgd.c1
   have g3 := hUn i
   have e1 : IntKind.i64.wrap (page - (spotS pages (nth l i)).1.page) = page - (spotS pages (nth l i)).1.page := wrap64 (by omega) (by omega)
   have e3 : IntKind.i64.wrap ((i : Int) + 1) = (i : Int) + 1 := wrap64 (by omega) (by omega)
   have e4 : ((U i).length + 1) * 8 ≤ 140737488355328 := by omega
   have e5 : (U i).length ≤ 140737488355327 := by omega
   unfold RoundI
   refine WI_weak (Weak.kills [5,9,10,23,24] rfl) ?_
   refine WI_reg rfl ?_ (by decide +kernel)
   refine xO ?_
   refine xOs ?_
   refine xE [5,9,10,11] ?_
   refine ⟨rfl, rfl, rfl, fun _ => ?_⟩
   refine WI_block ?_
   refine WI_seq ?_
   refine WI_seq ?_
   refine WI_reg rfl ?_ (by decide +kernel)
   refine xO5 ?_
   iterate 3 refine xI ?_
   refine xI ?_ (h := fun hb => by simp [e1]; exact .mk)
   iterate 3 refine xI ?_
   refine xP ?_
   refine xE [9,10,37] fun _ => ?_
   refine WI_cond rfl ?_ ?_
   · intro h37
     have hc : coverB pages page (nth l i) = true := by simpa [coverB] using h37
     have hUe := hU1 i
     rw [if_pos hc] at hUe
     refine WI_reg rfl ?_ (by decide +kernel)
     refine xO3 ?_
     refine xO ?_ (h := by simp [rows, e4, e5]; exact .mk)
     refine xOs ?_
     refine xE [10] fun _ => ?_
     refine WI_reg rfl ?_ (by decide +kernel)
     refine xO ?_
     refine xO ?_ (h := by simp [e3]; exact .mk)
     refine xOs ?_
     refine xE [] ?_
     simp only [inBlkI_normal]
     refine ⟨by first | trivial | rfl, by first | trivial | rfl, ?_⟩
     rw [hUe]
     try simp only [List.length_append, List.map_append, List.length_cons, List.length_nil, List.map_cons, List.map_nil, Nat.zero_add]
     first
     | exact .inl ⟨_, rfl⟩
     | exact .inr ⟨_, _, _, rfl⟩
   intro h37
   have hc : ¬ coverB pages page (nth l i) = true := by simpa [coverB] using h37
   have hUe := hU1 i
   rw [if_neg hc, List.append_nil] at hUe
   refine WI_skip ?_
   rintro -
   refine WI_reg rfl ?_ (by decide +kernel)
   refine xO ?_
   refine xO ?_ (h := by simp [e3]; exact .mk)
   refine xOs ?_
   refine xE [] ?_
   simp only [inBlkI_normal]
   refine ⟨by first | trivial | rfl, by first | trivial | rfl, ?_⟩
   rw [hUe]
   try simp only [List.length_append, List.map_append, List.length_cons, List.length_nil, List.map_cons, List.map_nil, Nat.zero_add]
   first
   | exact .inl ⟨_, rfl⟩
   | exact .inr ⟨_, _, _, rfl⟩
 rintro fn b lb av o ⟨rfl, rfl⟩
 refine ⟨_, _, rfl, by simp, ?_⟩
 rw [hUl]
 simp only [pending_none, inBlkI_normal]
 rintro -
 refine WI_seq ?_
 refine WI_reg rfl ?_ (by decide +kernel)
 refine xO2 ?_
 refine xE [6] fun _ => ?_
 refine WI_ret ?_
 try simp only [thenI_ret, roundsI_ret, inBlkI_ret, thenI_exit, roundsI_exit, inBlkI_exit, inBlkI_normal, if_true]
 refine endInM_ret (fn := Tryz.f165) (rs := [.hdr 7 0 (matesS pages l page).length]) 8 (.cons (r := 5) rfl .nil) ?_ (Nat.zero_le _) ?_ ?_ ?_
 · simp [Tryz.f165]; exact .mk
 · rfl
 · rfl
 exact ⟨rfl, rfl⟩
theorem ct165 (g : Gl) (pages page : Int) (l : List (Int × Int)) (hl : l.length ≤ 2^40) (ho : ∀ i, i < l.length → (nth l i).1 ≤ 2^40) (hL : (laidS pages l).isSome = true) (hpg : -2^40 ≤ page ∧ page ≤ 2^40) : CtAt Tryz.prog g 165 [vI pages, rO l, vI page] (oI ((matesS pages l page).map fun (k : Nat) => (k : Int))) :=
 ctAt_of_callsO Tryz.func165 rfl rfl (in165 g pages page l hl ho hL hpg) (by simp [cl, cls]; exact ⟨by simp [ownR, Function.comp_def], rfl⟩) (by simp)


open Go.Awp
theorem ct214 (g : Gl) (ms : List Int) (x : Int) (hl : ms.length ≤ 2^40) : CtAt Tryz.prog g 214 [rI ms, vI x] (vI (ixN ms x)) := by
 refine xA Tryz.func214 fun B S => ?_
 simp only [List.map, argD_v]
 refine xU ?_
 refine xH [0,1] ?_
 refine W_seq (xU ?_)
 refine xH3 [0,1,7,8] ?_
 refine W_block (W_rounds (fun m σ o => ∃ i : Nat, m = ms.length - i ∧ i ≤ ms.length ∧ (∀ j, j < i → nth ms j ≠ x) ∧ σ = slots [(0, .d (rI ms)), (1, .d (vI x)), (7, .d (vI ms.length)), (8, .d (vI i))] ∧ o = []) ms.length .refl ⟨0, by simp, by simp, by simp, by simp, rfl⟩ ?_)
 rintro m σ o ⟨i, rfl, hi, hinv, rfl, rfl⟩ _
 refine xU ?_
 refine xH [0,1,7,8,9] ?_
 refine W_seq (W_cond rfl ?_ ?_)
 · intro h9
   have hi2 : i < ms.length := by simpa using h9
   refine W_skip fun _ => ?_
   refine W_seq (W_block ?_)
   refine xU ?_
   refine xO2 ?_
   refine xG [0,1,5,7,8] ?_
   refine xO3 ?_
   refine xO ?_ (h := by simp [hi2]; exact .mk)
   refine xO ?_ (h := by simp [-List.getElem?_map, map_get hi2]; exact .mk)
   refine xO ?_
   refine xQ [0,1,5,7,8,16] ?_ ?_
   · intro h16
     have hx : nth ms i = x := by simp at h16; omega
     have hr : ixN ms x = i := ixN_at hi2 hinv hx
     refine xU ?_
     refine xH2 [4] ?_
     refine W_ret (xR (by simp [Tryz.f214]; exact .mk) ?_)
     simp [Tryz.f214, hr]
   intro h16
   have hx : nth ms i ≠ x := by simp at h16; omega
   refine W_skip fun _ => ?_
   refine xY ?_
   refine xO2 ?_
   refine xE [0,1,7,8] ?_
   refine rounds_kill [0,1,7,8] ?_
   refine rounds_next (m' := ms.length - (i+1)) (by omega) ⟨i+1, rfl, by omega, fun j hj => ?_, ?_, rfl⟩
   · rcases Nat.lt_succ_iff_lt_or_eq.1 hj with hj | rfl
     · exact hinv j hj
     exact hx
   rw [wrap64 (by omega) (by omega)]; rfl
 intro h9
 have hr : ixN ms x = -1 := ixN_none (fun j hj => hinv j (by simp at h9; omega))
 refine W_exit (xT ?_)
 refine xH [4] ?_
 refine W_ret (xR (by simp [Tryz.f214]; exact .mk) ?_)
 simp [Tryz.f214, hr]

theorem ct168 (g : Gl) (ms : List Int) (x : Int) (hl : ms.length ≤ 2^40) : CtAt Tryz.prog g 168 [rI ms, vI x] (.v (.bool (ms.contains x))) := by
 refine xA Tryz.func168 fun B S => ?_
 simp only [List.map, argD_v]
 refine xU ?_
 refine xO ?_
 refine xG [0,1] ?_
 refine xO2 ?_
 refine xC (ct214 g ms x hl) ?_
 refine xH2 [4] ?_
 refine W_ret (xR (by simp [Tryz.f168]; exact .mk) ?_)
 simp [Tryz.f168, ixN_nonneg]

open Go.Awp
theorem in167 (g : Gl) (o0 o1 o2 o4 : Awp.Obj) (l : List (Int × Int)) (ms : List Nat) (i j : Nat) (hl : l.length ≤ 2^40) (hi : i < l.length) (hj : j < l.length) (hb : ∀ k, k < l.length → -2^40 ≤ (nth l k).1 ∧ (nth l k).1 ≤ 2^40) : ∀ B S, CallsA Tryz.prog g B S ⟨7, true⟩ 167 [.d (vI i), .d (vI j), .ptr 5 0 0] [o0, o1, o2, .row 2 (l.map eObj), o4, .var 32 [.hdr 3 0 l.length], .row 1 (ms.map fun (k : Nat) => vI k)] (fun x r => x = .d (vI ((nth l i).1 - (nth l j).1)) ∧ r = [o0, o1, o2, .row 2 (l.map eObj), o4, .var 32 [.hdr 3 0 l.length], .row 1 (ms.map fun (k : Nat) => vI k)]) := by
 refine callsA_at Tryz.func167 rfl (Nat.le_of_ble_eq_true rfl) fun B S => ?_
 have e1 : IntKind.i64.wrap ((nth l i).1 - (nth l j).1) = (nth l i).1 - (nth l j).1 := wrap64 (by have := hb i hi; have := hb j hj; omega) (by have := hb i hi; have := hb j hj; omega)
 refine xU ?_
 refine xH [0,1,2] ?_
 refine W_seq ?_
 refine W_regD (by kernel_rfl) [] 4 [0,1,2,3,4,5,6,7,8,9,10,11] (by decide +kernel) ?_
 refine xO2 ?_
 refine xO ?_ (h := by simp [hi]; exact .mk)
 refine xO ?_
 refine xO ?_ (h := by simp [-List.getElem?_map, map_get hi, eObj]; exact .mk)
 refine xO2 ?_
 refine xO ?_ (h := by simp [hj]; exact .mk)
 refine xO ?_
 refine xO ?_ (h := by simp [-List.getElem?_map, map_get hj, eObj]; exact .mk)
 refine xO ?_ (h := by simp [e1]; exact .mk)
 refine xH [5] ?_
 refine W_ret (endAt_ret (by simp [Tryz.f167]; exact .mk) ?_ ?_)
 · simp
 simp

theorem in166 (g : Gl) (o0 o1 o2 o4 : Awp.Obj) (l : List (Int × Int)) (ms : List Nat) (hl : l.length ≤ 2^40) (hm : ms.length ≤ 2^40) (hne : ms ≠ []) (hmm : ∀ i, i < ms.length → nth ms i < l.length) (hb : ∀ k, k < l.length → -2^40 ≤ (nth l k).1 ∧ (nth l k).1 ≤ 2^40) : ∀ B S, CallsA Tryz.prog g B S ⟨7, true⟩ 166 [.hdr 6 0 ms.length, .fn (.func 167) [] [.ptr 5 0 0]] [o0, o1, o2, .row 2 (l.map eObj), o4, .var 32 [.hdr 3 0 l.length], .row 1 (ms.map fun (k : Nat) => vI k)] (fun x r => x = .d (vI (leastS l ms : Nat)) ∧ r = [o0, o1, o2, .row 2 (l.map eObj), o4, .var 32 [.hdr 3 0 l.length], .row 1 (ms.map fun (k : Nat) => vI k)]) := by
 refine callsA_at Tryz.func166 rfl (Nat.le_of_ble_eq_true rfl) fun B S => ?_
 have hm0 : 0 < ms.length := List.length_pos_iff.2 hne
 refine xU ?_
 refine xH [0,1] ?_
 refine W_seq (xU ?_)
 refine xO3 ?_
 refine xQ [0,1,9] ?_ ?_
 · intro h9
   simp at h9; omega
 intro h9
 refine W_skip ?_
 refine xT ?_
 refine xO ?_
 refine xO ?_ (h := by simp [hm0]; exact .mk)
 refine xO ?_ (h := by simp [-List.getElem?_map, map_get hm0]; exact .mk)
 refine xH [0,1,5] ?_
 refine W_seq (xU ?_)
 refine xH [0,1,5,6] ?_
 refine W_block (W_rounds (fun m σ o => ∃ i : Nat, m = ms.length - i ∧ 1 ≤ i ∧ i ≤ ms.length ∧ σ = slots [(0, .hdr 6 0 ms.length), (1, .fn (.func 167) [] [.ptr 5 0 0]), (5, .d (vI (leastS l (ms.take i) : Nat))), (6, .d (vI i))] ∧ o = [o0, o1, o2, .row 2 (l.map eObj), o4, .var 32 [.hdr 3 0 l.length], .row 1 (ms.map fun (k : Nat) => vI k)]) (ms.length - 1) .refl ⟨1, by simp, by simp, by omega, by rw [leastS_one hne]; simp, rfl⟩ ?_)
 rintro m σ o ⟨i, rfl, hi1, hi, rfl, rfl⟩ _
 refine W_seq (xU ?_)
 refine xO4 ?_
 refine xQ [0,1,5,6,17] ?_ ?_
 · intro h17
   have hi2 : i < ms.length := by simpa using h17
   have hle := leastS_in hne hmm hi1
   have hst := leastS_step l hi1 hi2
   refine W_skip fun _ => ?_
   refine W_seq (W_block ?_)
   refine xU ?_
   refine xO3 ?_
   refine xO ?_ (h := by simp [hi2]; exact .mk)
   refine xO ?_ (h := by simp [-List.getElem?_map, map_get hi2]; exact .mk)
   refine xO ?_
   refine run_inl0 rfl rfl rfl rfl (by simp; exact .mk) ⟨_, Tryz.func167, rfl, rfl⟩ (in167 g o0 o1 o2 o4 l ms (nth ms i) (leastS l (ms.take i)) hl (hmm i hi2) hle hb) (.inl (by simp)) ?_
   refine xO ?_
   refine xQ [0,1,5,6,27] ?_ ?_
   · intro h27
     have hlt : (nth l (nth ms i)).1 < (nth l (leastS l (ms.take i))).1 := by simp at h27; omega
     rw [if_pos hlt] at hst
     refine xY ?_
     refine xO2 ?_
     refine xO ?_ (h := by simp [hi2]; exact .mk)
     refine xO ?_ (h := by simp [-List.getElem?_map, map_get hi2]; exact .mk)
     refine xH [0,1,5,6] ?_
     refine xY ?_
     refine xO3 ?_
     refine xE [0,1,5,6] ?_
     refine rounds_kill [0,1,5,6] ?_
     refine rounds_next (m' := ms.length - (i+1)) (by omega) ⟨i+1, rfl, by omega, by omega, ?_, rfl⟩
     rw [wrap64 (by omega) (by omega), hst]; rfl
   intro h27
   have hlt : ¬ (nth l (nth ms i)).1 < (nth l (leastS l (ms.take i))).1 := by simp at h27; omega
   rw [if_neg hlt] at hst
   refine W_skip fun _ => ?_
   refine xY ?_
   refine xO3 ?_
   refine xE [0,1,5,6] ?_
   refine rounds_kill [0,1,5,6] ?_
   refine rounds_next (m' := ms.length - (i+1)) (by omega) ⟨i+1, rfl, by omega, by omega, ?_, rfl⟩
   rw [wrap64 (by omega) (by omega), hst]; rfl
 intro h17
 obtain rfl : i = ms.length := by simp at h17; omega
 rw [List.take_length]
 refine W_exit (xT ?_)
 refine xH2 [4] ?_
 refine W_ret (endAt_ret (by simp [Tryz.f166]; exact .mk) ?_ ?_)
 · simp
 simp

open Go.Awp
theorem ct122 (g : Gl) (s : Stt) (hs : s.Ok) (mode step : Int) (hb : -2^60 ≤ s.base + step ∧ s.base + step ≤ 2^60) : CtAt Tryz.prog g 122 [eStt s, vI mode, vI step] (.tup [oStt (turnS s mode step), vI 0]) := by
 refine xA Tryz.func122 fun B S => ?_
 simp only [eStt, List.map, argD_agg, argD_v]
 have e1 : IntKind.i64.wrap (s.base + step) = s.base + step := wrap64 (by omega) (by omega)
 refine xU ?_
 refine xO3 ?_
 refine xG [1,2,3,6] ?_
 refine xO ?_
 refine xOl ?_
 refine xC (ct24 g s hs) ?_ (hi := by simp [oStt]; exact .mk)
 refine xO ?_
 refine xOs ?_
 refine xG [1,2,6,8] ?_
 refine xO2 ?_
 refine xOl ?_
 refine xO ?_
 refine xO ?_ (h := by simp [e1]; exact .mk)
 refine xO ?_
 refine xOs ?_
 refine xO ?_
 refine xOs ?_
 refine xG [6,8] ?_
 refine xOl ?_
 refine xOs ?_
 refine xH [6,7] ?_
 refine W_ret (end_ret (by simp [Tryz.f122]; exact .mk) (by simp; exact .mk) ?_ (by simp [oStt]))
 simp [Tryz.f122, oStt, ownR, turnS]

theorem ct164 (g : Gl) (s : Stt) (hs : s.Ok) (hR : sttS s = true) (fr size : Int) (hfr : 0 ≤ fr ∧ fr ≤ 2^20) : CtAt Tryz.prog g 164 [eStt s, vI fr, vI size] (.tup [vI ((behindS s fr size).getD 0), .v (.bool (behindS s fr size).isSome)]) := by
 refine xA Tryz.func164 fun B S => ?_
 simp only [eStt, List.map, argD_agg, argD_v]
 have q0 := hs.h1
 have hb := superS_b (sttS_super hR)
 have hol := onesS_len (l := s.slots)
 have hT := tableS_len (sttS_rows hR)
 refine xU ?_
 refine xO3 ?_
 refine xG [1,2,3] ?_
 refine xH [1,2,3,8] ?_
 refine W_seq (xU ?_)
 refine xO ?_
 refine xO ?_ (h := by simp [eBlk]; exact .mk)
 refine xC (ct28 g s hs) ?_
 refine xH2 [1,2,3,8,21,22,23] ?_
 refine W_block ?_
 refine W_rounds (fun m σ o => ∃ i : Nat, m = (onesS s.slots).length - i ∧ i ≤ (onesS s.slots).length ∧ σ = slots [(1, .d (vI fr)), (2, .d (vI size)), (3, .ptr 0 0 0), (8, .hdr 2 0 i), (21, .hdr 1 0 (onesS s.slots).length), (22, .d (vI (onesS s.slots).length)), (23, .d (vI i))] ∧ o = [.var 144 [.d (vI s.sh.pages), .d (vI s.sh.slots), .d (vI s.sh.roots), .d (vI s.sh.room), .d (vI s.mode), .d (vI s.base), .d (rSl s.slots), .d (rR s.roots), .d (rBB s.data)], .row 3 ((onesS s.slots).map eBlk), .row 2 (((onesS s.slots).take i).map fun b => eObj (spanOf b))]) (onesS s.slots).length
  (Weak.trans (Weak.nilRow 8 2 rfl) (Weak.kills [1,2,3,8,21,22,23] rfl) (fun _ _ _ h1 h2 => by rw [← h1.len]; exact h2)) ⟨0, by simp, by simp, by simp, by simp⟩ ?_
 rintro m σ o ⟨i, rfl, hi, rfl, rfl⟩ _
 refine xU ?_
 refine xH [1,2,3,8,21,22,23,24] ?_
 refine W_seq (W_cond rfl ?_ ?_)
 · intro h24
   have hi2 : i < (onesS s.slots).length := by simpa using h24
   have e1 : (i + 1) * 16 ≤ 140737488355328 := by omega
   have e2 : i ≤ 140737488355327 := by omega
   have htk : ((onesS s.slots).take i).length = i := by simp; omega
   refine W_skip fun _ => ?_
   refine W_seq (W_block ?_)
   refine xU ?_
   refine xO ?_ (h := by simp [eBlk, hi2]; exact .mk)
   refine xO ?_ (h := by simp [-List.getElem?_map, map_get hi2, eBlk]; exact .mk)
   refine xO ?_
   refine xOs ?_
   refine xF [1,2,3,8,10,21,22,23] ?_
   refine xY ?_
   refine xO2 ?_
   refine xO ?_ (h := by simp [eBlk]; exact .mk)
   refine xO ?_
   refine xO ?_ (h := by simp [eBlk]; exact .mk)
   refine xOs ?_
   refine xO ?_
   refine xO ?_ (h := by simp [rows, e1, e2, htk, Nat.min_eq_left hi]; exact .mk)
   refine xH [1,2,3,8,21,22,23] ?_
   refine xY ?_
   refine xO2 ?_
   refine xE [1,2,3,8,21,22,23] ?_
   refine rounds_kill [1,2,3,8,21,22,23] ?_
   refine rounds_kills [1,2,3,8,21,22,23] rfl ?_
   refine rounds_swap 2 5 1 (by decide) (by simp) (by decide) rfl rfl ?_
   refine rounds_drop 3 [1,2,3,8,21,22,23] (by decide) (by rfl) (by rfl) ?_
   refine rounds_next (m' := (onesS s.slots).length - (i+1)) (by omega) ⟨i+1, rfl, by omega, ?_, ?_⟩
   · rw [wrap64 (by omega) (by omega)]; simp; try rfl
   rw [take_succ hi2]; simp [eObj, spanOf, eBlk]; try rfl
 intro h24
 obtain rfl : i = (onesS s.slots).length := by simp at h24; omega
 obtain ⟨U, hU⟩ : ∃ U, U = spansS s.slots := ⟨_, rfl⟩
 have hm : List.take (onesS s.slots).length (List.map (fun b => eObj (spanOf b)) (onesS s.slots)) = U.map eObj := by rw [hU, spansS, ← List.map_take, List.take_length, List.map_map]; rfl
 have hm2 : (onesS s.slots).length = U.length := by rw [hU, spansS, List.length_map]
 rw [hm, hm2]
 have e4 : IntKind.i64.wrap (s.base * 32) = s.base * 32 := wrap64 (by omega) (by omega)
 have e5 : IntKind.i64.wrap (s.sh.pages * 32) = s.sh.pages * 32 := wrap64 (by omega) (by omega)
 have hG := sttS_gaps hR
 rw [← hU] at hG
 have c205 := ct205 g (s.base * 32) (s.sh.pages * 32) U (by omega) hG
 have hgl := gapsF_len (to := s.sh.pages * 32) (l := U) (a := s.base * 32)
 have hgm := gapsF_b hR
 obtain ⟨G, hGG⟩ : ∃ G, G = gapsF (s.sh.pages * 32) (s.base * 32) U := ⟨_, rfl⟩
 have hr : behindS s fr size = (bestS (clipS fr G) size).map (·.1) := by rw [hGG, hU]; rfl
 have hgo : gapsOf s = G := by rw [hGG, hU]; rfl
 rw [hgo] at hgm
 rw [← hGG] at c205 hgl
 refine W_exit (xT ?_)
 refine xO2 ?_
 refine xO ?_ (h := by simp [eBlk]; exact .mk)
 refine xO ?_ (h := by simp [e4]; exact .mk)
 refine xO3 ?_
 refine xO ?_ (h := by simp [eBlk]; exact .mk)
 refine xO ?_ (h := by simp [e5]; exact .mk)
 refine xO ?_
 refine xC (c205) ?_
 refine xO5 ?_
 refine xG [1,2,11] ?_
 refine xH [1,2,11,13] ?_
 refine W_seq (xU ?_)
 refine xH3 [1,2,13,50,51,52] ?_
 refine W_block ?_
 refine W_rounds (fun m σ o => ∃ i : Nat, m = G.length - i ∧ i ≤ G.length ∧ σ = slots [(1, .d (vI fr)), (2, .d (vI size)), (13, .hdr 4 0 (clipS fr (G.take i)).length), (50, .hdr 3 0 G.length), (51, .d (vI G.length)), (52, .d (vI i))] ∧ o = [.var 144 [.d (vI s.sh.pages), .d (vI s.sh.slots), .d (vI s.sh.roots), .d (vI s.sh.room), .d (vI s.mode), .d (vI s.base), .d (rSl s.slots), .d (rR s.roots), .d (rBB s.data)], .row 3 ((onesS s.slots).map eBlk), .row 2 (U.map eObj), .row 2 (G.map eObj), .row 2 ((clipS fr (G.take i)).map eObj)]) G.length
  (Weak.trans (Weak.nilRow 13 2 rfl) (Weak.kills [1,2,13,50,51,52] rfl) (fun _ _ _ h1 h2 => by rw [← h1.len]; exact h2)) ⟨0, by simp, by simp, by simp [clipS], by simp [clipS]⟩ ?_
 rintro m σ o ⟨i, rfl, hi3, rfl, rfl⟩ _
 refine xU ?_
 refine xH [1,2,13,50,51,52,53] ?_
 refine W_seq (W_cond rfl ?_ ?_)
 · intro h53
   have hi4 : i < G.length := by simpa using h53
   have hst := clip_step (fr := fr) hi4
   have hcl := clip_len (fr := fr) (l := G.take i)
   have f1 : ((clipS fr (G.take i)).length + 1) * 16 ≤ 140737488355328 := by simp at hcl; omega
   have f2 : (clipS fr (G.take i)).length ≤ 140737488355327 := by simp at hcl; omega
   have hgi := hgm _ (nth_mem hi4)
   have w1 : IntKind.i64.wrap (fr - (nth G i).1) = fr - (nth G i).1 := wrap64 (by omega) (by omega)
   have w2 : IntKind.i64.wrap ((nth G i).2 - (fr - (nth G i).1)) = (nth G i).2 - (fr - (nth G i).1) := wrap64 (by omega) (by omega)
   refine W_skip fun _ => ?_
   refine W_seq (W_block ?_)
   refine xU ?_
   refine xO ?_ (h := by simp [eBlk, hi4]; exact .mk)
   refine xO ?_ (h := by simp [-List.getElem?_map, map_get hi4, eObj]; exact .mk)
   refine xO ?_
   refine xOs ?_
   refine xF [1,2,13,15,50,51,52] ?_
   refine W_seq (xU ?_)
   refine xO2 ?_
   refine xO ?_ (h := by simp [eBlk]; exact .mk)
   refine xO ?_ (h := by simp [w1]; exact .mk)
   refine xO ?_
   refine xG [1,2,13,15,16,50,51,52] ?_
   refine xO2 ?_
   refine xQ [1,2,13,15,16,50,51,52,61] ?_ ?_
   · intro h61
     have hcg : clipG fr (nth G i) = (fr, (nth G i).2 - (fr - (nth G i).1)) := by unfold clipG; rw [if_pos (by simpa using h61)]
     rw [hcg] at hst
     refine xY ?_
     refine xO2 ?_
     refine xO ?_ (h := by simp [eBlk]; exact .mk)
     refine xO ?_
     refine xO ?_ (h := by simp [w2]; exact .mk)
     refine xO ?_
     refine xOs ?_
     refine xO ?_
     refine xOs ?_
     refine xG [1,2,13,15,50,51,52] ?_
     refine xO ?_
     refine xO ?_ (h := by simp [eBlk]; exact .mk)
     refine xO ?_
     refine xQ [1,2,13,15,50,51,52,71] ?_ ?_
     · intro h71
       rw [if_pos (by simpa using h71)] at hst
       refine xY ?_
       refine xO ?_
       refine xO ?_ (h := by simp [eBlk]; exact .mk)
       refine xO ?_
       refine xO ?_ (h := by simp [rows, f1, f2]; exact .mk)
       refine xH [1,2,13,50,51,52] ?_
       refine xY ?_
       refine xO2 ?_
       refine xE [1,2,13,50,51,52] ?_
       refine rounds_kill [1,2,13,50,51,52] ?_
       first
       | (refine rounds_drop 5 [1,2,13,50,51,52] (by decide) (by rfl) (by rfl) ?_
          refine rounds_next (m' := G.length - (i+1)) (by omega) ⟨i+1, rfl, by omega, ?_, ?_⟩
          · rw [wrap64 (by omega) (by omega), hst]; rfl
          rw [hst]; rfl)
       | (refine rounds_kills [1,2,13,50,51,52] rfl ?_
          refine rounds_swap 4 7 1 (by decide) (by simp) (by decide) rfl rfl ?_
          refine rounds_drop 5 [1,2,13,50,51,52] (by decide) (by rfl) (by rfl) ?_
          refine rounds_next (m' := G.length - (i+1)) (by omega) ⟨i+1, rfl, by omega, ?_, ?_⟩
          · rw [wrap64 (by omega) (by omega), hst]; simp; try rfl
          rw [hst]; simp [eObj]; try rfl)
     intro h71
     rw [if_neg (by simpa using h71)] at hst
     rw [List.append_nil] at hst
     refine W_skip fun _ => ?_
     refine xY ?_
     refine xO2 ?_
     refine xE [1,2,13,50,51,52] ?_
     refine rounds_kill [1,2,13,50,51,52] ?_
     first
     | (refine rounds_drop 5 [1,2,13,50,51,52] (by decide) (by rfl) (by rfl) ?_
        refine rounds_next (m' := G.length - (i+1)) (by omega) ⟨i+1, rfl, by omega, ?_, ?_⟩
        · rw [wrap64 (by omega) (by omega), hst]; rfl
        rw [hst]; rfl)
     | (refine rounds_kills [1,2,13,50,51,52] rfl ?_
        refine rounds_swap 4 7 1 (by decide) (by simp) (by decide) rfl rfl ?_
        refine rounds_drop 5 [1,2,13,50,51,52] (by decide) (by rfl) (by rfl) ?_
        refine rounds_next (m' := G.length - (i+1)) (by omega) ⟨i+1, rfl, by omega, ?_, ?_⟩
        · rw [wrap64 (by omega) (by omega), hst]; simp; try rfl
        rw [hst]; simp [eObj]; try rfl)
   intro h61
   have hcg : clipG fr (nth G i) = nth G i := by unfold clipG; rw [if_neg (by simpa using h61)]
   rw [hcg] at hst
   refine W_skip ?_
   refine xT ?_
   refine xO ?_
   refine xO ?_ (h := by simp [eBlk]; exact .mk)
   refine xO ?_
   refine xQ [1,2,13,15,50,51,52,71] ?_ ?_
   · intro h71
     rw [if_pos (by simpa using h71)] at hst
     refine xY ?_
     refine xO ?_
     refine xO ?_ (h := by simp [eBlk]; exact .mk)
     refine xO ?_
     refine xO ?_ (h := by simp [rows, f1, f2]; exact .mk)
     refine xH [1,2,13,50,51,52] ?_
     refine xY ?_
     refine xO2 ?_
     refine xE [1,2,13,50,51,52] ?_
     refine rounds_kill [1,2,13,50,51,52] ?_
     first
     | (refine rounds_drop 5 [1,2,13,50,51,52] (by decide) (by rfl) (by rfl) ?_
        refine rounds_next (m' := G.length - (i+1)) (by omega) ⟨i+1, rfl, by omega, ?_, ?_⟩
        · rw [wrap64 (by omega) (by omega), hst]; rfl
        rw [hst]; rfl)
     | (refine rounds_kills [1,2,13,50,51,52] rfl ?_
        refine rounds_swap 4 7 1 (by decide) (by simp) (by decide) rfl rfl ?_
        refine rounds_drop 5 [1,2,13,50,51,52] (by decide) (by rfl) (by rfl) ?_
        refine rounds_next (m' := G.length - (i+1)) (by omega) ⟨i+1, rfl, by omega, ?_, ?_⟩
        · rw [wrap64 (by omega) (by omega), hst]; simp; try rfl
        rw [hst]; simp [eObj]; try rfl)
   intro h71
   rw [if_neg (by simpa using h71)] at hst
   rw [List.append_nil] at hst
   refine W_skip fun _ => ?_
   refine xY ?_
   refine xO2 ?_
   refine xE [1,2,13,50,51,52] ?_
   refine rounds_kill [1,2,13,50,51,52] ?_
   first
   | (refine rounds_drop 5 [1,2,13,50,51,52] (by decide) (by rfl) (by rfl) ?_
      refine rounds_next (m' := G.length - (i+1)) (by omega) ⟨i+1, rfl, by omega, ?_, ?_⟩
      · rw [wrap64 (by omega) (by omega), hst]; rfl
      rw [hst]; rfl)
   | (refine rounds_kills [1,2,13,50,51,52] rfl ?_
      refine rounds_swap 4 7 1 (by decide) (by simp) (by decide) rfl rfl ?_
      refine rounds_drop 5 [1,2,13,50,51,52] (by decide) (by rfl) (by rfl) ?_
      refine rounds_next (m' := G.length - (i+1)) (by omega) ⟨i+1, rfl, by omega, ?_, ?_⟩
      · rw [wrap64 (by omega) (by omega), hst]; simp; try rfl
      rw [hst]; simp [eObj]; try rfl)
 intro h53
 obtain rfl : i = G.length := by simp at h53; omega
 rw [List.take_length]
 have hcl := clip_len (fr := fr) (l := G)
 obtain ⟨V, hV⟩ : ∃ V, V = clipS fr G := ⟨_, rfl⟩
 rw [← hV] at hr hcl ⊢
 have c206 := ct206 g V (by omega) size
 obtain ⟨b, hbb⟩ : ∃ b, b = bestS V size := ⟨_, rfl⟩
 rw [← hbb] at hr c206
 refine W_exit (xT ?_)
 refine xO2 ?_
 refine xC (c206) ?_
 refine xO4 ?_
 refine xOs ?_
 refine xO ?_
 refine xG [17,18] ?_
 refine xO ?_
 refine xO ?_ (h := by simp [eBlk]; exact .mk)
 refine xH3 [6,7] ?_
 refine W_ret (xR (by simp [Tryz.f164]; exact .mk) ?_)
 first | (simp [Tryz.f164, hr]; done) | (simp [Tryz.f164, hr]; cases b <;> simp [eObj])

open Go.Awp
theorem ct125 (g : Gl) (s : Stt) (hs : s.Ok) (hR : sttS s = true) : CtAt Tryz.prog g 125 [eStt s] (.tup [oStt (downStep s).1, vI (downStep s).2]) := by
 refine xA Tryz.func125 fun B S => ?_
 simp only [eStt, List.map, argD_agg, argD_v]
 have q0 := hs.h1
 have hb := superS_b (sttS_super hR)
 have e1 : IntKind.i64.wrap (s.base - 1) = s.base - 1 := wrap64 (by omega) (by omega)
 have c22 := ct22 g s hs
 obtain ⟨l, hL⟩ : ∃ l, l = twosO s.slots := ⟨_, rfl⟩
 obtain ⟨I, hI⟩ : ∃ I, I = twosI s.slots := ⟨_, rfl⟩
 rw [← hL, ← hI] at c22
 obtain ⟨hll, hIl, hlaid, hlb⟩ := down_facts hs hR
 rw [← hL] at hll hIl hlaid hlb
 rw [← hI] at hIl
 obtain ⟨ms, hM⟩ : ∃ ms, ms = matesS s.base l (s.base - 1) := ⟨_, rfl⟩
 obtain ⟨M, hMM⟩ : ∃ M : List Int, M = ms.map fun (k : Nat) => (k : Int) := ⟨_, rfl⟩
 have hMl : ms.length = M.length := by rw [hMM, List.length_map]
 have hml : ms.length ≤ l.length := by rw [hM, matesS]; exact Nat.le_trans (List.length_filter_le _ _) (by simp)
 have c165 := ct165 g s.base (s.base - 1) l hll (fun i hi => (hlb i hi).2) hlaid (by omega)
 rw [← hM, ← hMM] at c165
 have hmm : ∀ i, i < ms.length → nth ms i < l.length := fun i hi => by
  have := nth_mem hi
  rw [hM] at this
  simp only [matesS, List.mem_filter, List.mem_range] at this
  rw [hM]; exact this.1
 have hrow : (ms.map fun (k : Nat) => vI k) = M.map vI := by rw [hMM, List.map_map]; rfl
 have c168 : ∀ i : Nat, CtAt Tryz.prog g 168 [rI M, vI i] (.v (.bool (ms.contains i))) := fun i => by
  have := ct168 g M i (by omega)
  rw [hMM, castN_contains] at this
  rw [hMM]; exact this
 refine xU ?_
 refine xO3 ?_
 refine xG [1,2] ?_
 refine xO ?_
 refine xOl ?_
 refine xO ?_
 refine xOs ?_
 refine xF [1,2,4] ?_
 refine W_seq (xU ?_)
 refine xO ?_
 refine xOl ?_
 refine xO ?_
 refine xQ [1,2,4,21] ?_ ?_
 · intro h21
   have hq : s.base = 0 := by simpa using h21
   have hr : downStep s = (turnS s 1 0, 0) := by unfold downStep; rw [if_pos hq]
   refine xU ?_
   refine xOl ?_
   refine xC (ct122 g s hs 1 0 (by omega)) ?_ (he := by simp [row_rows, Function.comp_def]; exact .mk) (hi := by simp [oStt]; exact .mk)
   refine xO2 ?_
   refine xOs ?_
   refine xH [2,3] ?_
   refine W_ret (end_ret (by simp [Tryz.f125]; exact .mk) (by simp; exact .mk) ?_ (by simp [oStt]))
   first | (simp [Tryz.f125, hr, oStt, ownR]; done) | (simp [Tryz.f125, hr, oStt, zStt, ownR, turnS]; done)
 intro h21
 have hq : s.base ≠ 0 := by simpa using h21
 refine W_skip ?_
 refine xT ?_
 refine xOl ?_
 refine xC (c22) ?_ (he := by simp [row_rows, Function.comp_def]; exact .mk) (hi := by simp [oStt]; exact .mk)
 refine xO4 ?_
 refine xOs ?_
 refine xO ?_
 refine xG [1,2,4,5,6] ?_
 refine xO ?_
 iterate 2 (refine xOl ?_)
 refine xO ?_
 refine xOl ?_
 refine xO ?_ (h := by simp [e1]; exact .mk)
 refine xC (c165) ?_ (he := by simp [row_rows, Function.comp_def]; exact .mk) (hi := by simp [oStt]; exact .mk)
 refine xH [1,2,4,5,6,7] ?_
 refine W_seq (xU ?_)
 refine xO3 ?_
 refine xQ [1,2,4,5,6,7,40] ?_ ?_
 · intro h40
   have hc : ms = [] := List.length_eq_zero_iff.1 (by rw [hMl]; simp at h40; simp [h40])
   have hr : downStep s = (turnS s s.mode (-1), 0) := by unfold downStep; rw [← hL, ← hM, if_neg hq, if_pos hc]
   refine xU ?_
   refine xOl ?_
   refine xO ?_
   refine xOl ?_
   refine xC (ct122 g s hs s.mode (-1) (by omega)) ?_ (he := by simp [row_rows, Function.comp_def]; exact .mk) (hi := by simp [oStt]; exact .mk)
   refine xO2 ?_
   refine xOs ?_
   refine xH [2,3] ?_
   refine W_ret (end_ret (by simp [Tryz.f125]; exact .mk) (by simp; exact .mk) ?_ (by simp [oStt]))
   first | (simp [Tryz.f125, hr, oStt, ownR]; done) | (simp [Tryz.f125, hr, oStt, zStt, ownR, turnS]; done)
 intro h40
 have hne : ms ≠ [] := fun e => by rw [e] at hMl; simp at h40; simp [List.length_eq_zero_iff] at hMl; exact absurd hMl.symm (by simpa using h40)
 obtain ⟨j, hj⟩ : ∃ j, j = leastS l ms := ⟨_, rfl⟩
 have hm0 : 0 < ms.length := List.length_pos_iff.2 hne
 have hjl : j < l.length := by have := leastS_in (l := l) hne hmm (i := ms.length) hm0; rwa [List.take_length, ← hj] at this
 have hjI : j < I.length := by omega
 have c166 := fun o0 o1 o2 o4 => in166 g o0 o1 o2 o4 l ms hll (by omega) hne hmm (fun k hk => ⟨by have := hlb k hk; omega, by have := hlb k hk; omega⟩)
 simp only [hrow, ← hj, hMl] at c166
 have hr0 : downStep s = (match roomS s false (nth l j).2 with | some a => moveS s (nth I j) false a | none => match placeS (s.base - 1) (restS l ms) (nth l j).2 with | some a => moveS s (nth I j) true a | none => (zStt, 10)) := by unfold downStep; rw [← hL, ← hI, ← hM, if_neg hq, if_neg hne, ← hj]; rfl
 refine W_skip ?_
 refine xT ?_
 refine xO2 ?_
 refine run_inl0 rfl rfl rfl rfl (by simp; exact .mk) ⟨_, Tryz.func166, rfl, rfl⟩ (c166 _ _ _ _) (.inl (by simp)) ?_
 refine xO ?_
 refine xG [2,4,5,6,7,8] ?_
 refine xOl ?_
 refine xO ?_
 refine xO ?_ (h := by simp [eSlot, hjl]; exact .mk)
 refine xO ?_
 refine xO ?_ (h := by simp [-List.getElem?_map, map_get hjl, eObj]; exact .mk)
 refine xH [2,4,5,6,7,8,9] ?_
 refine W_seq (xU ?_)
 refine xOl ?_
 refine xO ?_
 refine xC (ct38 g s hs false (nth l j).2) ?_ (he := by simp [row_rows, Function.comp_def]; exact .mk) (hi := by simp [oStt]; exact .mk)
 refine xO5 ?_
 refine xG [2,4,5,6,7,8,9,10,11] ?_
 refine xO ?_
 refine xQ [2,4,5,6,7,8,9,10,61] ?_ ?_
 · intro h61
   obtain ⟨a, ha⟩ : ∃ a, roomS s false (nth l j).2 = some a := Option.isSome_iff_exists.1 (by simpa using h61)
   rw [ha] at hr0 ⊢
   have hr : downStep s = moveS s (nth I j) false a := hr0
   refine W_seq ?_
   refine W_regD (by kernel_rfl) [] 4 [0,1,2,3,4,5,6,7,8,9,10] (by decide +kernel) ?_
   refine xOl ?_
   refine xO2 ?_
   refine xO ?_ (h := by simp [eSlot, hjI]; exact .mk)
   refine xO ?_ (h := by simp [-List.getElem?_map, map_get hjI]; exact .mk)
   refine xO ?_
   refine xC (ct45 g s hs (nth I j) false a) ?_ (he := by simp [row_rows, Function.comp_def]; exact .mk) (hi := by simp [oStt]; exact .mk)
   refine xO2 ?_
   refine xOs ?_
   refine xH [2,3] ?_
   refine W_ret (end_ret (by simp [Tryz.f125]; exact .mk) (by simp; exact .mk) ?_ (by simp [oStt]))
   first | (simp [Tryz.f125, hr, oStt, ownR]; done) | (simp [Tryz.f125, hr, oStt, zStt, ownR, turnS]; done)
 intro h61
 have ha : roomS s false (nth l j).2 = none := by simpa using h61
 rw [ha] at hr0
 refine W_skip ?_
 refine xT ?_
 refine xH [2,4,5,6,7,8,9,12] ?_
 refine W_seq (xU ?_)
 refine xOl ?_
 refine xH2 [2,4,6,7,8,9,12,71,72,73] ?_
 refine W_block ?_
 obtain ⟨R, hRR⟩ : ∃ R : Nat → List (Int × Int), R = fun i => ((List.range i).filter fun i => !ms.contains i).map (nth l) := ⟨_, rfl⟩
 have hR0 : R 0 = [] := by rw [hRR]; rfl
 have hRl : R l.length = restS l ms := by rw [hRR]; rfl
 have hRn : ∀ i, (R i).length ≤ i := fun i => by rw [hRR]; simp only [List.length_map]; exact Nat.le_trans (List.length_filter_le _ _) (by simp)
 have hR1 : ∀ i, R (i + 1) = R i ++ (if ms.contains i = true then [] else [nth l i]) := fun i => by
  rw [hRR]; simp only [List.range_succ, List.filter_append, List.map_append]; congr 1
  cases hq : ms.contains i <;> simp only [List.filter_cons, List.filter_nil, hq] <;> rfl
 refine W_rounds (fun m σ o => ∃ i : Nat, m = l.length - i ∧ i ≤ l.length ∧ σ = slots [(2, .ptr 1 0 0), (4, .ptr 2 0 0), (6, .hdr 4 0 I.length), (7, .hdr 6 0 M.length), (8, .d (vI j)), (9, .d (vI (nth l j).2)), (12, .hdr 7 0 (R i).length), (71, .hdr 3 0 l.length), (72, .d (vI l.length)), (73, .d (vI i))] ∧ o = [.var 144 [.d (vI s.sh.pages), .d (vI s.sh.slots), .d (vI s.sh.roots), .d (vI s.sh.room), .d (vI s.mode), .d (vI s.base), .d (rSl s.slots), .d (rR s.roots), .d (rBB s.data)], .var 28 [.d (vI 0), .d (vI 0), .d (vI 0), .d (vI 0), .d (vI 0), .d (vI 0), .d (.v (.slice none 0 0)), .d (.v (.slice none 0 0)), .d (.v (.slice none 0 0))], .var 28 [.d (vI s.sh.pages), .d (vI s.sh.slots), .d (vI s.sh.roots), .d (vI s.sh.room), .d (vI s.mode), .d (vI s.base), .d (rSl s.slots), .d (rR s.roots), .d (rBB s.data)], .row 2 (l.map eObj), .row 1 (I.map vI), .var 32 [.hdr 3 0 l.length], .row 1 (M.map vI), .row 2 ((R i).map eObj)]) l.length
  (Weak.trans (Weak.nilRow 12 2 rfl) (Weak.kills [2,4,6,7,8,9,12,71,72,73] rfl) (fun _ _ _ h1 h2 => by rw [← h1.len]; exact h2)) ⟨0, by simp, by simp, by simp [hR0], by simp [hR0]⟩ ?_
 rintro m σ o ⟨i, rfl, hi, rfl, rfl⟩ _
 refine xU ?_
 refine xH [2,4,6,7,8,9,12,71,72,73,74] ?_
 refine W_seq (W_cond rfl ?_ ?_)
 · intro h74
   have hi2 : i < l.length := by simpa using h74
   have hRi := hR1 i
   have e4 : ((R i).length + 1) * 16 ≤ 140737488355328 := by have := hRn i; omega
   have e5 : (R i).length ≤ 140737488355327 := by have := hRn i; omega
   refine W_skip fun _ => ?_
   refine W_seq (W_block ?_)
   refine xU ?_
   refine xO ?_
   refine xO ?_ (h := by simp [eSlot, hi2]; exact .mk)
   refine xO ?_ (h := by simp [-List.getElem?_map, map_get hi2, eObj]; exact .mk)
   refine xO2 ?_
   refine xOs ?_
   refine xG [2,4,6,7,8,9,12,13,14,71,72,73] ?_
   refine xO2 ?_
   refine xC (c168 i) ?_ (he := by simp [row_rows, Function.comp_def]; exact .mk) (hi := by simp [oStt]; exact .mk)
   refine xO ?_
   refine xQ [2,4,6,7,8,9,12,14,71,72,73,81] ?_ ?_
   · intro h81
     have hc : ms.contains i = false := by simpa using h81
     rw [if_neg (by rw [hc]; simp)] at hRi
     refine xY ?_
     refine xO ?_
     refine xOl ?_
     refine xO ?_
     refine xO ?_ (h := by simp [rows, e4, e5]; exact .mk)
     refine xH [2,4,6,7,8,9,12,71,72,73] ?_
     refine xY ?_
     refine xO2 ?_
     refine xE [2,4,6,7,8,9,12,71,72,73] ?_
     refine rounds_kill [2,4,6,7,8,9,12,71,72,73] ?_
     first
     | (refine rounds_drop 8 [2,4,6,7,8,9,12,71,72,73] (by decide) (by rfl) (by rfl) ?_
        refine rounds_next (m' := l.length - (i+1)) (by omega) ⟨i+1, rfl, by omega, ?_, ?_⟩
        · rw [wrap64 (by omega) (by omega), hRi]; rfl
        rw [hRi]; rfl)
     | (refine rounds_kills [2,4,6,7,8,9,12,71,72,73] rfl ?_
        refine rounds_swap 7 10 1 (by decide) (by simp) (by decide) rfl rfl ?_
        refine rounds_drop 8 [2,4,6,7,8,9,12,71,72,73] (by decide) (by rfl) (by rfl) ?_
        refine rounds_next (m' := l.length - (i+1)) (by omega) ⟨i+1, rfl, by omega, ?_, ?_⟩
        · rw [wrap64 (by omega) (by omega), hRi]; simp; try rfl
        rw [hRi]; simp [eObj]; try rfl)
   intro h81
   have hc : ms.contains i = true := by simpa using h81
   rw [if_pos hc, List.append_nil] at hRi
   refine W_skip fun _ => ?_
   refine xY ?_
   refine xO2 ?_
   refine xE [2,4,6,7,8,9,12,71,72,73] ?_
   refine rounds_kill [2,4,6,7,8,9,12,71,72,73] ?_
   first
   | (refine rounds_drop 8 [2,4,6,7,8,9,12,71,72,73] (by decide) (by rfl) (by rfl) ?_
      refine rounds_next (m' := l.length - (i+1)) (by omega) ⟨i+1, rfl, by omega, ?_, ?_⟩
      · rw [wrap64 (by omega) (by omega), hRi]; rfl
      rw [hRi]; rfl)
   | (refine rounds_kills [2,4,6,7,8,9,12,71,72,73] rfl ?_
      refine rounds_swap 7 10 1 (by decide) (by simp) (by decide) rfl rfl ?_
      refine rounds_drop 8 [2,4,6,7,8,9,12,71,72,73] (by decide) (by rfl) (by rfl) ?_
      refine rounds_next (m' := l.length - (i+1)) (by omega) ⟨i+1, rfl, by omega, ?_, ?_⟩
      · rw [wrap64 (by omega) (by omega), hRi]; simp; try rfl
      rw [hRi]; simp [eObj]; try rfl)
 intro h74
 obtain rfl : i = l.length := by simp at h74; omega
 rw [hRl]
 obtain ⟨V, hV⟩ : ∃ V, V = restS l ms := ⟨_, rfl⟩
 have hVn := hRn l.length
 rw [hRl] at hVn
 have hVb : ∀ k, k < V.length → (nth V k).1 ≤ 2^40 := by rw [hV]; exact rest_b (fun k hk => (hlb k hk).2)
 rw [← hV] at hr0 hVn ⊢
 have c152 := ct152 g (s.base - 1) V (by omega) hVb (nth l j).2
 refine W_exit ?_
 rintro -
 refine W_seq (xU ?_)
 refine xO ?_
 refine xOl ?_
 refine xO ?_ (h := by simp [e1]; exact .mk)
 refine xO2 ?_
 refine xC (c152) ?_ (he := by simp [row_rows, Function.comp_def]; exact .mk) (hi := by simp [oStt]; exact .mk)
 refine xO5 ?_
 refine xG [2,4,6,8,15,16] ?_
 refine xO ?_
 refine xQ [2,4,6,8,15,96] ?_ ?_
 · intro h96
   obtain ⟨a, ha2⟩ : ∃ a, placeS (s.base - 1) V (nth l j).2 = some a := Option.isSome_iff_exists.1 (by simpa using h96)
   rw [ha2] at hr0 ⊢
   have hr : downStep s = moveS s (nth I j) true a := hr0
   refine W_seq ?_
   refine W_regD (by kernel_rfl) [] 4 [0,1,2,3,4,5,6,7,8,9,10] (by decide +kernel) ?_
   refine xOl ?_
   refine xO2 ?_
   refine xO ?_ (h := by simp [eSlot, hjI]; exact .mk)
   refine xO ?_ (h := by simp [-List.getElem?_map, map_get hjI]; exact .mk)
   refine xO ?_
   refine xC (ct45 g s hs (nth I j) true a) ?_ (he := by simp [row_rows, Function.comp_def]; exact .mk) (hi := by simp [oStt]; exact .mk)
   refine xO2 ?_
   refine xOs ?_
   refine xH [2,3] ?_
   refine W_ret (end_ret (by simp [Tryz.f125]; exact .mk) (by simp; exact .mk) ?_ (by simp [oStt]))
   first | (simp [Tryz.f125, hr, oStt, ownR]; done) | (simp [Tryz.f125, hr, oStt, zStt, ownR, turnS]; done)
 intro h96
 have ha2 : placeS (s.base - 1) V (nth l j).2 = none := by simpa using h96
 rw [ha2] at hr0
 have hr : downStep s = (zStt, 10) := hr0
 refine W_skip ?_
 refine xT ?_
 iterate 2 (refine xOs ?_)
 refine xH [2,3] ?_
 refine W_ret (end_ret (by simp [Tryz.f125]; exact .mk) (by simp; exact .mk) ?_ (by simp [oStt]))
 first | (simp [Tryz.f125, hr, oStt, ownR]; done) | (simp [Tryz.f125, hr, oStt, zStt, ownR, turnS]; done)

open Go.Awp
theorem ct124 (g : Gl) (s : Stt) (hs : s.Ok) (hR : sttS s = true) : CtAt Tryz.prog g 124 [eStt s] (.tup [oStt (upStep s).1, vI (upStep s).2]) := by
 refine xA Tryz.func124 fun B S => ?_
 simp only [eStt, List.map, argD_agg, argD_v]
 have q0 := hs.h1
 have hb := superS_b (sttS_super hR)
 have e1 : IntKind.i64.wrap (s.base + 1) = s.base + 1 := wrap64 (by omega) (by omega)
 have e2 : IntKind.i64.wrap ((s.base + 1) * 32) = (s.base + 1) * 32 := wrap64 (by omega) (by omega)
 refine xU ?_
 refine xO3 ?_
 refine xG [1,2] ?_
 refine xO ?_
 refine xOl ?_
 refine xO ?_
 refine xOs ?_
 refine xG [1,2,4] ?_
 refine xO ?_
 refine xOl ?_
 refine xO ?_ (h := by simp [e1]; exact .mk)
 refine xO ?_ (h := by simp [e1, e2]; exact .mk)
 refine xO ?_
 refine xG [1,2,4,5] ?_
 refine xOl ?_
 refine xC (ct28 g s hs) ?_ (he := by simp [row_rows, Function.comp_def]; exact .mk) (hi := by simp [oStt]; exact .mk)
 refine xH [1,2,4,5,6] ?_
 refine W_seq (W_block ?_)
 refine xU ?_
 refine xO ?_
 refine xOl ?_
 refine xO2 ?_
 refine xOl ?_
 refine xO2 ?_
 refine xQ [1,2,4,5,6,20] ?_ ?_
 · intro h20
   have hq : s.base = s.sh.pages := by simpa using h20
   have hr : upStep s = (turnS s 2 0, 0) := by unfold upStep; rw [if_pos hq]
   refine xU ?_
   refine xOl ?_
   refine xC (ct122 g s hs 2 0 (by omega)) ?_ (he := by simp [row_rows, Function.comp_def]; exact .mk) (hi := by simp [oStt]; exact .mk)
   refine xO2 ?_
   refine xOs ?_
   refine xH [2,3] ?_
   refine W_ret (end_ret (by simp [Tryz.f124]; exact .mk) (by simp; exact .mk) ?_ (by simp [oStt]))
   first | (simp [Tryz.f124, hr, oStt, ownR]; done) | (simp [Tryz.f124, hr, oStt, zStt, ownR, turnS]; done)
 intro h20
 have hq : s.base ≠ s.sh.pages := by simpa using h20
 refine xU ?_
 refine xO4 ?_
 refine xI ?_
 refine run_if rfl (by simp; exact .mk) rfl (by simp <;> first | omega | grind) (fun hb => by simp at hb; have hl0 := List.length_pos_iff.2 hb; simp [hl0]; exact .mk) ?_
 refine xI ?_
 refine run_if rfl (by simp; exact .mk) rfl (by simp <;> first | omega | grind) (fun hb => by simp at hb; have hl0 := List.length_pos_iff.2 hb; simp [-List.getElem?_map, map_get hl0, eBlk]; exact .mk) ?_
 iterate 2 refine xI ?_
 refine xP ?_
 refine xB ?_
 refine xQ [1,2,4,5,6,31] ?_ ?_
 · intro h31
   have hc : onesS s.slots = [] ∨ (s.base + 1) * 32 ≤ (nth (onesS s.slots) 0).at_ := by simp at h31; exact h31
   have hr : upStep s = (turnS s s.mode 1, 0) := by unfold upStep; rw [if_neg hq, if_pos hc]
   refine xU ?_
   refine xOl ?_
   refine xO ?_
   refine xOl ?_
   refine xC (ct122 g s hs s.mode 1 (by omega)) ?_ (he := by simp [row_rows, Function.comp_def]; exact .mk) (hi := by simp [oStt]; exact .mk)
   refine xO2 ?_
   refine xOs ?_
   refine xH [2,3] ?_
   refine W_ret (end_ret (by simp [Tryz.f124]; exact .mk) (by simp; exact .mk) ?_ (by simp [oStt]))
   first | (simp [Tryz.f124, hr, oStt, ownR]; done) | (simp [Tryz.f124, hr, oStt, zStt, ownR, turnS]; done)
 intro h31
 have hc : ¬ (onesS s.slots = [] ∨ (s.base + 1) * 32 ≤ (nth (onesS s.slots) 0).at_) := by simp at h31 ⊢; exact h31
 have hne : onesS s.slots ≠ [] := fun e => hc (.inl e)
 obtain ⟨k, hk, hk1, hk2⟩ := ones_head hne
 have hsl : (nth (onesS s.slots) 0).slot = (k : Int) := by rw [hk2]; rfl
 have hl0 := List.length_pos_iff.2 hne
 have hr0 : upStep s = (match roomS s true (nth s.slots k).len with | some a => moveS s k true a | none => match behindS s ((s.base + 1) * 32) (nth (onesS s.slots) 0).len with | some a => moveS s k false a | none => (zStt, 10)) := by unfold upStep lenAt; rw [if_neg hq, if_neg hc, hsl]; rfl
 refine W_skip ?_
 refine xT ?_
 refine xO ?_
 refine xO ?_ (h := by simp [eSlot, hl0]; exact .mk)
 refine xO ?_
 refine xO ?_ (h := by simp [-List.getElem?_map, map_get hl0, eBlk, hsl]; exact .mk)
 refine xH [1,2,4,5,6,7] ?_
 refine W_seq (W_seq ?_)
 refine W_regD (by kernel_rfl) [] 4 [0,1,2,3,4,5,6,7,8,9,10,11,12] (by decide +kernel) ?_
 refine xOl ?_
 refine xO ?_
 refine xOl ?_
 refine xO ?_
 refine xO ?_ (h := by simp [eSlot, hk]; exact .mk)
 refine xO ?_
 refine xOl ?_
 refine xC (ct38 g s hs true (nth s.slots k).len) ?_ (he := by simp [row_rows, Function.comp_def]; exact .mk) (hi := by simp [oStt]; exact .mk)
 refine xO5 ?_
 refine xG [1,2,4,5,6,7,8,9] ?_
 refine xO ?_
 refine xQ [1,2,4,5,6,7,8,64] ?_ ?_
 · intro h64
   obtain ⟨a, ha⟩ : ∃ a, roomS s true (nth s.slots k).len = some a := Option.isSome_iff_exists.1 (by simpa using h64)
   rw [ha] at hr0 ⊢
   have hr : upStep s = moveS s k true a := hr0
   refine xU ?_
   refine xOl ?_
   refine xO2 ?_
   refine xC (ct45 g s hs k true a) ?_ (he := by simp [row_rows, Function.comp_def]; exact .mk) (hi := by simp [oStt]; exact .mk)
   refine xO2 ?_
   refine xOs ?_
   refine xH [2,3] ?_
   refine W_ret (end_ret (by simp [Tryz.f124]; exact .mk) (by simp; exact .mk) ?_ (by simp [oStt]))
   first | (simp [Tryz.f124, hr, oStt, ownR]; done) | (simp [Tryz.f124, hr, oStt, zStt, ownR, turnS]; done)
 intro h64
 have ha : roomS s true (nth s.slots k).len = none := by simpa using h64
 rw [ha] at hr0
 refine W_skip fun _ => ?_
 refine W_seq (W_seq ?_)
 refine W_regD (by kernel_rfl) [] 4 [0,1,2,3,4,5,6,7,8,9,10,11] (by decide +kernel) ?_
 refine xOl ?_
 refine xO2 ?_
 refine xO ?_ (h := by simp [eSlot, hl0]; exact .mk)
 refine xO ?_
 refine xO ?_ (h := by simp [-List.getElem?_map, map_get hl0, eBlk]; exact .mk)
 refine xC (ct164 g s hs hR ((s.base + 1) * 32) (nth (onesS s.slots) 0).len (by omega)) ?_ (he := by simp [row_rows, Function.comp_def]; exact .mk) (hi := by simp [oStt]; exact .mk)
 refine xO5 ?_
 refine xG [2,4,7,10,11] ?_
 refine xO ?_
 refine xQ [2,4,7,10,81] ?_ ?_
 · intro h81
   obtain ⟨a, ha2⟩ : ∃ a, behindS s ((s.base + 1) * 32) (nth (onesS s.slots) 0).len = some a := Option.isSome_iff_exists.1 (by simpa using h81)
   rw [ha2] at hr0 ⊢
   have hr : upStep s = moveS s k false a := hr0
   refine xU ?_
   refine xOl ?_
   refine xO2 ?_
   refine xC (ct45 g s hs k false a) ?_ (he := by simp [row_rows, Function.comp_def]; exact .mk) (hi := by simp [oStt]; exact .mk)
   refine xO2 ?_
   refine xOs ?_
   refine xH [2,3] ?_
   refine W_ret (end_ret (by simp [Tryz.f124]; exact .mk) (by simp; exact .mk) ?_ (by simp [oStt]))
   first | (simp [Tryz.f124, hr, oStt, ownR]; done) | (simp [Tryz.f124, hr, oStt, zStt, ownR, turnS]; done)
 intro h81
 have ha2 : behindS s ((s.base + 1) * 32) (nth (onesS s.slots) 0).len = none := by simpa using h81
 rw [ha2] at hr0
 have hr : upStep s = (zStt, 10) := hr0
 refine W_skip ?_
 refine xT ?_
 iterate 2 (refine xOs ?_)
 refine xH [2,3] ?_
 refine W_ret (end_ret (by simp [Tryz.f124]; exact .mk) (by simp; exact .mk) ?_ (by simp [oStt]))
 first | (simp [Tryz.f124, hr, oStt, ownR]; done) | (simp [Tryz.f124, hr, oStt, zStt, ownR, turnS]; done)

open Go.Awp
theorem ct123 (g : Gl) : CtAt Tryz.prog g 123 [] (.tup [oStt zStt, vI 12]) := by
 refine xA Tryz.func123 fun B S => ?_
 refine xU ?_
 refine xO2 ?_
 refine xG [0] ?_
 iterate 2 (refine xOs ?_)
 refine xH [0,1] ?_
 refine W_ret (end_ret (by simp [Tryz.f123]; exact .mk) (by simp; exact .mk) ?_ (by simp [oStt]))
 simp [Tryz.f123, oStt, zStt, ownR]

theorem ct58 (g : Gl) (s : Stt) (hp : -2^40 ≤ s.sh.pages ∧ s.sh.pages ≤ 2^40) : CtAt Tryz.prog g 58 [eStt s] (vI (boundS s)) := by
 refine xA Tryz.func58 fun B S => ?_
 simp only [eStt, List.map, argD_agg, argD_v]
 have e1 : IntKind.i64.wrap (9 * s.sh.pages) = 9 * s.sh.pages := wrap64 (by omega) (by omega)
 have e2 : IntKind.i64.wrap (9 * s.sh.pages + 1) = 9 * s.sh.pages + 1 := wrap64 (by omega) (by omega)
 have e3 : IntKind.i64.wrap (15 * s.sh.pages) = 15 * s.sh.pages := wrap64 (by omega) (by omega)
 have e4 : IntKind.i64.wrap (15 * s.sh.pages + 1) = 15 * s.sh.pages + 1 := wrap64 (by omega) (by omega)
 refine xU ?_
 refine xH2 [1] ?_
 refine W_seq (xU ?_)
 refine xH2 [1,4] ?_
 refine W_block (xU ?_)
 refine xO2 ?_
 refine xQ [1,4,5] ?_ ?_
 · intro h5
   have hm3 : s.mode = 3 := by simpa using h5
   have hr : boundS s = 9 * s.sh.pages + 1 := by unfold boundS; rw [if_pos hm3]
   refine xU ?_
   refine xO3 ?_
   refine xO ?_ (h := by simp [e1]; exact .mk)
   refine xO ?_ (h := by simp [e1, e2]; exact .mk)
   refine xH [2] ?_
   refine W_ret (xR (by simp [Tryz.f58]; exact .mk) ?_)
   simp [Tryz.f58, hr]
 intro h5
 have hn3 : ¬ s.mode = 3 := by simpa using h5
 refine xU ?_
 refine xO2 ?_
 refine xQ [1,12] ?_ ?_
 · intro h12
   have hm4 : s.mode = 4 := by simpa using h12
   have hr : boundS s = 15 * s.sh.pages + 1 := by unfold boundS; rw [if_neg hn3, if_pos hm4]
   refine xU ?_
   refine xO3 ?_
   refine xO ?_ (h := by simp [e3]; exact .mk)
   refine xO ?_ (h := by simp [e3, e4]; exact .mk)
   refine xH [2] ?_
   refine W_ret (xR (by simp [Tryz.f58]; exact .mk) ?_)
   simp [Tryz.f58, hr]
 intro h12
 have hn4 : ¬ s.mode = 4 := by simpa using h12
 have hr : boundS s = 0 := by unfold boundS; rw [if_neg hn3, if_neg hn4]
 refine W_skip ?_
 refine xT ?_
 refine xH [2] ?_
 refine W_ret (xR (by simp [Tryz.f58]; exact .mk) ?_)
 simp [Tryz.f58, hr]

theorem ct119 (g : Gl) (s : Stt) : CtAt Tryz.prog g 119 [eStt s] (.v (.bool (movingS s))) := by
 refine xA Tryz.func119 fun B S => ?_
 simp only [eStt, List.map, argD_agg, argD_v]
 refine xU ?_
 refine xO2 ?_
 refine xG [1] ?_
 refine xO4 ?_
 iterate 3 refine xI ?_
 refine xP ?_
 refine xB ?_
 refine xF [2] ?_
 refine W_ret (xR (by simp [Tryz.f119]; exact .mk) ?_)
 first | (simp [Tryz.f119, movingS]; done) | (simp [Tryz.f119, movingS] at *; grind)

open Go.Awp
theorem ct55 (g : Gl) (s : Stt) (hs : s.Ok) : CtAt Tryz.prog g 55 [eStt s] (.tup [oStt (stepS s).1, vI (stepS s).2]) := by
 refine xA Tryz.func55 fun B S => ?_
 simp only [eStt, List.map, argD_agg, argD_v]
 refine xU ?_
 refine xH3 [1,2] ?_
 refine W_seq (xU ?_)
 refine xOl ?_
 refine xC (ct32 g s hs) ?_ (he := by simp [row_rows, Function.comp_def]; exact .mk) (hi := by simp [oStt]; exact .mk)
 refine xO ?_
 refine xQ [1,2,8] ?_ ?_
 · intro h8
   have hr : stepS s = (zStt, 1) := by unfold stepS; rw [if_neg (by simpa using h8)]
   refine xU ?_
   iterate 2 (refine xOs ?_)
   refine xH [2,3] ?_
   refine W_ret (end_ret (by simp [Tryz.f55]; exact .mk) (by simp; exact .mk) ?_ (by simp [oStt]))
   first | (simp [Tryz.f55, hr, oStt, ownR]; done) | (simp [Tryz.f55, hr, oStt, zStt, ownR]; done)
 intro h8
 have hR : sttS s = true := by simpa using h8
 refine W_skip ?_
 refine xT ?_
 refine xOl ?_
 refine xOs ?_
 refine xO ?_
 refine xOs ?_
 refine xG [1,2,4] ?_
 refine xH [1,2,4,5] ?_
 refine W_seq (xU ?_)
 refine xO ?_
 refine xOl ?_
 refine xF [2,4,5,13] ?_
 refine W_block (xU ?_)
 refine xO2 ?_
 refine xQ [2,4,5,13,14] ?_ ?_
 · intro h14
   have hm3 : s.mode = 3 := by simpa using h14
   have hr : stepS s = upStep s := by unfold stepS; rw [if_pos hR, if_pos hm3]
   refine xY ?_
   refine xOl ?_
   refine xO2 ?_
   refine xG [2,5] ?_
   refine xO ?_
   refine run_call0 rfl rfl rfl rfl (by simp; exact .mk) (by simp [row_rows, Function.comp_def]; exact .mk) (by first | (have := hm3; exact ct124 g s hs hR) | (have := hm4; exact ct125 g s hs hR) | exact ct123 g) (by simp) (by simp [oStt]; exact .mk) ?_
   refine xO2 ?_
   refine xOs ?_
   refine xH [2,3] ?_
   refine W_ret (end_ret (by simp [Tryz.f55]; exact .mk) (by simp; exact .mk) ?_ (by simp [oStt]))
   first | (simp [Tryz.f55, hr, oStt, ownR]; done) | (simp [Tryz.f55, hr, oStt, zStt, ownR]; done)
 intro h14
 have hn3 : ¬ s.mode = 3 := by simpa using h14
 refine xU ?_
 refine xO2 ?_
 refine xQ [2,4,5,18] ?_ ?_
 · intro h18
   have hm4 : s.mode = 4 := by simpa using h18
   have hr : stepS s = downStep s := by unfold stepS; rw [if_pos hR, if_neg hn3, if_pos hm4]
   refine xY ?_
   refine xOl ?_
   refine xO2 ?_
   refine xG [2,5] ?_
   refine xO ?_
   refine run_call0 rfl rfl rfl rfl (by simp; exact .mk) (by simp [row_rows, Function.comp_def]; exact .mk) (by first | (have := hm3; exact ct124 g s hs hR) | (have := hm4; exact ct125 g s hs hR) | exact ct123 g) (by simp) (by simp [oStt]; exact .mk) ?_
   refine xO2 ?_
   refine xOs ?_
   refine xH [2,3] ?_
   refine W_ret (end_ret (by simp [Tryz.f55]; exact .mk) (by simp; exact .mk) ?_ (by simp [oStt]))
   first | (simp [Tryz.f55, hr, oStt, ownR]; done) | (simp [Tryz.f55, hr, oStt, zStt, ownR]; done)
 intro h18
 have hn4 : ¬ s.mode = 4 := by simpa using h18
 have hr : stepS s = (zStt, 12) := by unfold stepS; rw [if_pos hR, if_neg hn3, if_neg hn4]
 refine W_skip ?_
 refine xT ?_
 refine xO ?_
 refine run_call0 rfl rfl rfl rfl (by simp; exact .mk) (by simp [row_rows, Function.comp_def]; exact .mk) (by first | (have := hm3; exact ct124 g s hs hR) | (have := hm4; exact ct125 g s hs hR) | exact ct123 g) (by simp) (by simp [oStt]; exact .mk) ?_
 refine xO2 ?_
 refine xOs ?_
 refine xH [2,3] ?_
 refine W_ret (end_ret (by simp [Tryz.f55]; exact .mk) (by simp; exact .mk) ?_ (by simp [oStt]))
 first | (simp [Tryz.f55, hr, oStt, ownR]; done) | (simp [Tryz.f55, hr, oStt, zStt, ownR]; done)

open Go.Awp
theorem ct51 (g : Gl) (s : Stt) (hs : s.Ok) : CtAt Tryz.prog g 51 [eStt s] (.tup [oStt (endS s).1, vI ((endS s).2.1 : Nat), vI (endS s).2.2]) := by
 refine xA Tryz.func51 fun B S => ?_
 simp only [eStt, List.map, argD_agg, argD_v]
 refine xU ?_
 refine xO4 ?_
 refine xG [1,2] ?_
 refine xH [1,2,5] ?_
 refine W_block (W_rounds (fun m σ o => ∃ (n : Nat) (t : Stt), m = needE n t ∧ t.Ok ∧ endF (needE n t) n t = endS s ∧ n + needE n t ≤ needE 0 s ∧ σ = slots [(1, .ptr 0 0 0), (2, .ptr 1 0 0), (5, .d (vI n))] ∧ ((n = 0 ∧ t = s ∧ o = [.var 28 [.d (vI s.sh.pages), .d (vI s.sh.slots), .d (vI s.sh.roots), .d (vI s.sh.room), .d (vI s.mode), .d (vI s.base), .d (rSl s.slots), .d (rR s.roots), .d (rBB s.data)], .var 28 [.d (vI 0), .d (vI 0), .d (vI 0), .d (vI 0), .d (vI 0), .d (vI 0), .d (.v (.slice none 0 0)), .d (.v (.slice none 0 0)), .d (.v (.slice none 0 0))]]) ∨ (0 < n ∧ sttS s = true ∧ o = [.var 28 [.d (vI t.sh.pages), .d (vI t.sh.slots), .d (vI t.sh.roots), .d (vI t.sh.room), .d (vI t.mode), .d (vI t.base), .hdr 2 0 t.slots.length, .hdr 3 0 t.roots.length, .hdr 4 0 t.data.length], .var 28 [.d (vI 0), .d (vI 0), .d (vI 0), .d (vI 0), .d (vI 0), .d (vI 0), .d (.v (.slice none 0 0)), .d (.v (.slice none 0 0)), .d (.v (.slice none 0 0))], .row 5 (t.slots.map eSlot), .row 3 (t.roots.map eRoot), .row 1 (t.data.map oB)]))) (needE 0 s) .refl ⟨0, s, rfl, hs, rfl, by omega, rfl, .inl ⟨rfl, rfl, rfl⟩⟩ ?_)
 rintro m σ o ⟨n, t, rfl, hto, hinv, hle, rfl, ⟨rfl, rfl, rfl⟩ | ⟨hn0, hRs, rfl⟩⟩ _
 · skip
   skip
   refine W_seq (W_block ?_)
   refine W_seq (xU ?_)
   refine xO3 ?_
   refine xI ?_ (h := fun hb => by simp [eSlot]; exact .mk)
   refine run_call rfl (by simp; exact .mk) rfl rfl (by simp) (by simp; exact .mk) (by simp [row_rows, Function.comp_def]; exact .mk) (fun hb => ct119 g t) (by simp) (by simp [oStt]; exact .mk) (by simp) ?_
   refine xI ?_
   refine xP ?_
   refine xQ [1,2,5,16] ?_ ?_
   · intro h16
     simp at h16
   intro h16
   have hnot : ¬ (0 < 0 ∧ movingS t = false) := fun q => absurd q.1 (Nat.lt_irrefl 0)
   refine W_skip fun _ => ?_
   refine W_seq ?_
   have c55 := ct55 g t hto
   obtain ⟨T, hT⟩ : ∃ X, X = (stepS t).1 := ⟨_, rfl⟩
   have hTo : T.Ok := by rw [hT]; exact stepS_Ok hto
   rw [← hT] at c55
   refine xY ?_
   refine xOl ?_
   refine xC (c55) ?_ (he := by simp [row_rows, Function.comp_def]; exact .mk) (hi := by simp [oStt]; exact .mk)
   refine xO4 ?_
   refine xOs ?_
   refine xH [1,2,5,6,7] ?_
   refine W_seq (xU ?_)
   refine xO2 ?_
   refine xQ [1,2,5,6,7,25] ?_ ?_
   · intro h25
     have he : (stepS t).2 ≠ 0 := by simpa using h25
     obtain ⟨f, hf⟩ : ∃ f, needE 0 t = f + 1 := ⟨needE 0 t - 1, by have := need_pos (n := 0) (s := t); omega⟩
     have hr : endS t = (zStt, 0, (stepS t).2) := by rw [← hinv, hf, endF_err hnot he]
     refine xU ?_
     refine xOs ?_
     refine xO2 ?_
     refine xOs ?_
     refine xH2 [2,3,4] ?_
     refine W_ret (end_ret (by simp [Tryz.f51]; exact .mk) (by simp; exact .mk) ?_ (by simp [oStt]))
     first | (simp [Tryz.f51, hr, oStt, ownR]; done) | (simp [Tryz.f51, hr, oStt, zStt, ownR]; done)
   intro h25
   have he : (stepS t).2 = 0 := by simpa using h25
   obtain ⟨n1, n2⟩ := end_next hnot he
   have hRt := (step_ok he).1
   have hn1 := need_le (n := 0) hRt
   rw [← hT] at n1 n2
   refine W_skip fun _ => ?_
   refine xY ?_
   refine xOl ?_
   refine xOs ?_
   refine xF [1,2,5] ?_
   refine xY ?_
   refine xO3 ?_
   refine xE [1,2,5] ?_
   refine rounds_kill [1,2,5] ?_
   refine rounds_drop 5 [1,2,5] (by decide) (by rfl) (by rfl) ?_
   refine rounds_next (m' := needE (0 + 1) T) (by omega) ⟨0 + 1, T, rfl, hTo, by rw [← n1]; exact hinv, by omega, ?_, .inr ⟨by omega, hRt, rfl⟩⟩
   rw [wrap64 (by omega) (by omega)]; rfl
 skip
 have hn1 := need_le (n := 0) hRs
 refine W_seq (W_block ?_)
 refine W_seq (xU ?_)
 refine xO3 ?_
 refine xI ?_ (h := fun hb => by simp [eSlot]; exact .mk)
 refine run_call rfl (by simp; exact .mk) rfl rfl (by simp) (by simp; exact .mk) (by simp [row_rows, Function.comp_def]; exact .mk) (fun hb => ct119 g t) (by simp) (by simp [oStt]; exact .mk) (by simp) ?_
 refine xI ?_
 refine xP ?_
 refine xQ [1,2,5,16] ?_ ?_
 · intro h16
   have hv : movingS t = false := by simp at h16; exact h16.2
   obtain ⟨f, hf⟩ : ∃ f, needE n t = f + 1 := ⟨needE n t - 1, by have := need_pos (n := n) (s := t); omega⟩
   have hr : endS s = (t, n, 0) := by rw [← hinv, hf, endF_stop ⟨hn0, hv⟩]
   refine xU ?_
   refine xOl ?_
   refine xO ?_
   refine xOs ?_
   refine xH2 [2,3,4] ?_
   refine W_ret (end_ret (by simp [Tryz.f51]; exact .mk) (by simp; exact .mk) ?_ (by simp [oStt]))
   first | (simp [Tryz.f51, hr, oStt, ownR]; done) | (simp [Tryz.f51, hr, oStt, zStt, ownR]; done)
 intro h16
 have hnot : ¬ (0 < n ∧ movingS t = false) := by simp at h16; intro q; have := h16 q.1; rw [q.2] at this; cases this
 refine W_skip fun _ => ?_
 refine W_seq ?_
 have c55 := ct55 g t hto
 obtain ⟨T, hT⟩ : ∃ X, X = (stepS t).1 := ⟨_, rfl⟩
 have hTo : T.Ok := by rw [hT]; exact stepS_Ok hto
 rw [← hT] at c55
 refine xY ?_
 refine xOl ?_
 refine xC (c55) ?_ (he := by simp [row_rows, Function.comp_def]; exact .mk) (hi := by simp [oStt]; exact .mk)
 refine xO4 ?_
 refine xOs ?_
 refine xH [1,2,5,6,7] ?_
 refine W_seq (xU ?_)
 refine xO2 ?_
 refine xQ [1,2,5,6,7,25] ?_ ?_
 · intro h25
   have he : (stepS t).2 ≠ 0 := by simpa using h25
   obtain ⟨f, hf⟩ : ∃ f, needE n t = f + 1 := ⟨needE n t - 1, by have := need_pos (n := n) (s := t); omega⟩
   have hr : endS s = (zStt, n, (stepS t).2) := by rw [← hinv, hf, endF_err hnot he]
   refine xU ?_
   refine xOs ?_
   refine xO2 ?_
   refine xOs ?_
   refine xH2 [2,3,4] ?_
   refine W_ret (end_ret (by simp [Tryz.f51]; exact .mk) (by simp; exact .mk) ?_ (by simp [oStt]))
   first | (simp [Tryz.f51, hr, oStt, ownR]; done) | (simp [Tryz.f51, hr, oStt, zStt, ownR]; done)
 intro h25
 have he : (stepS t).2 = 0 := by simpa using h25
 obtain ⟨n1, n2⟩ := end_next hnot he
 rw [← hT] at n1 n2
 refine W_skip fun _ => ?_
 refine xY ?_
 refine xOl ?_
 refine xOs ?_
 refine xF [1,2,5] ?_
 refine xY ?_
 refine xO3 ?_
 refine xE [1,2,5] ?_
 refine rounds_kill [1,2,5] ?_
 refine rounds_kills [1,2,5] rfl ?_
 refine rounds_swap 2 5 3 (by decide) (by simp) (by decide) rfl rfl ?_
 refine rounds_drop 5 [1,2,5] (by decide) (by rfl) (by rfl) ?_
 refine rounds_next (m' := needE (n + 1) T) (by omega) ⟨n + 1, T, rfl, hTo, by rw [← n1]; exact hinv, by omega, ?_, .inr ⟨by omega, hRs, rfl⟩⟩
 rw [wrap64 (by omega) (by omega)]; rfl

end Go.Proofs
