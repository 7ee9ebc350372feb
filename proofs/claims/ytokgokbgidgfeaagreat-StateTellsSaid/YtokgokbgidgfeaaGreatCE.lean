/- Contracts of the program's functions and plain facts, for arguments as each lemma says. -/
import Derived.Test.YtokgokbgidgfeaaGreatAwpD
import Derived.Test.YtokgokbgidgfeaaGreatCD
import Derived.Test.YtokgokbgidgfeaaGreatCA
set_option linter.all false
set_option maxHeartbeats 4000000
set_option maxRecDepth 4000
namespace Go.Proofs
open Go.Awp
theorem ct21 (g : Gl) (s : Stt) (hs : s.Ok) : CtAt Tryz.prog g 21 [eStt s] (oStt s) := by
 refine ctAt_of_W Tryz.func21 rfl rfl (Nat.le_of_ble_eq_true rfl) fun B S => ?_
 simp only [eStt, List.map, argD_agg, argD_v]
 have q0 := hs.h1
 have q1 := hs.h2
 have q3 := hs.h3
 have e1 : s.slots.length * 32 ≤ 140737488355328 := by omega
 have e2 : s.slots.length ≤ 140737488355328 := by omega
 have e3 : s.roots.length * 32 ≤ 140737488355328 := by omega
 have e4 : s.roots.length ≤ 140737488355328 := by omega
 refine xU ?_
 iterate 2 refine xO ?_
 refine xG [1,2] ?_
 refine xO ?_ (h := by simp [eSlot]; exact .mk)
 refine xO ?_
 refine xO ?_ (h := by simp [splice]; exact .mk)
 refine xG [1,2,3] ?_
 iterate 2 refine xO ?_
 refine xO ?_ (h := by simp [eSlot]; exact .mk)
 refine xO ?_ (h := by simp [rows, e1, e2]; exact .mk)
 refine xO ?_
 refine xO ?_ (h := by simp [splice]; exact .mk)
 refine xG [1,2,3] ?_
 iterate 2 refine xO ?_
 refine xO ?_ (h := by simp [eSlot]; exact .mk)
 refine xO ?_ (h := by simp [rows, e3, e4]; exact .mk)
 refine xO ?_
 refine xO ?_ (h := by simp [splice]; exact .mk)
 refine xG [1,2,3] ?_
 refine xO ?_
 refine xO ?_ (h := by simp [splice]; exact .mk)
 refine xF [1,2,3] ?_
 refine W_seq (xU ?_)
 refine xO ?_
 refine xF [1,2,3,4] ?_
 refine W_block (W_rounds (fun m σ o => ∃ i : Nat, m = s.data.length - i ∧ i ≤ s.data.length ∧ σ = slots [(1, .ptr 0 0 0), (2, .ptr 1 0 0), (3, .ptr 2 0 0), (4, .d (vI i))] ∧ o = [.var 28 [.d (vI s.sh.pages), .d (vI s.sh.slots), .d (vI s.sh.roots), .d (vI s.sh.room), .d (vI s.mode), .d (vI s.base), .d (rSl s.slots), .d (rR s.roots), .d (rBB s.data)], .var 28 [.d (vI 0), .d (vI 0), .d (vI 0), .d (vI 0), .d (vI 0), .d (vI 0), .d (.v (.slice none 0 0)), .d (.v (.slice none 0 0)), .d (.v (.slice none 0 0))], .var 28 [.d (vI s.sh.pages), .d (vI s.sh.slots), .d (vI s.sh.roots), .d (vI s.sh.room), .d (vI s.mode), .d (vI s.base), .hdr 4 0 s.slots.length, .hdr 6 0 s.roots.length, .hdr 7 0 i], .dead, .row 5 (s.slots.map eSlot), .dead, .row 3 (s.roots.map eRoot), .row 1 ((s.data.take i).map oB)]) s.data.length (Weak.nilCell 2 8 1 rfl rfl) ⟨0, by simp, by simp, rfl, rfl⟩ ?_)
 rintro m σ o ⟨i, rfl, hi, rfl, rfl⟩ _
 refine W_seq (xU ?_)
 iterate 2 refine xO ?_
 refine xO ?_ (h := by simp [eSlot]; exact .mk)
 iterate 2 refine xO ?_
 refine xF [1,2,3,4,21] ?_
 refine W_cond rfl ?_ ?_
 · intro h21
   have hi2 : i < s.data.length := by simpa using h21
   have hb := hs.h4 i hi2
   have f1 : (nth s.data i).length ≤ 140737488355328 := by omega
   have f2 : (i + 1) * 24 ≤ 140737488355328 := by omega
   have f3 : i ≤ 140737488355327 := by omega
   have f5 : (D.row M.own 1 ((nth s.data i).map vB)).noOwn = false := by first | rfl | simp [noOwn_row]
   have f4 : min i s.data.length = i := by omega
   refine W_skip ?_
   rintro -
   refine W_seq (W_block ?_)
   refine W_regDT (hard := []) [1,2,8,9] (keepOk_lt (by decide)) (by kernel_rfl) 4 [[0,1,3,4,5,6,7,2,8,9,10,11,12], [0,3,4,5,6,7,2,1,8,9,10,11,12], [0,3,4,5,6,7,2,8,1,9,10,11,12], [0,3,4,5,6,7,2,8,9,1,10,11,12]] (by decide +kernel) ⟨?_, ?_, ?_, ?_, trivial⟩
   · skip
     refine xO ?_
     refine xO ?_ (h := by simp [eSlot]; exact .mk)
     refine xO ?_
     refine xO ?_ (h := by simp [eSlot]; exact .mk)
     refine xO ?_
     refine xO ?_ (h := by simp [eSlot, hi2]; exact .mk)
     refine xO ?_ (h := by simp [-List.getElem?_map, map_get hi2]; exact .mk)
     refine xO ?_
     refine xO ?_ (h := by simp [rows, f1]; exact .mk)
     refine xO ?_
     refine xO ?_ (h := by simp [rows, f5, f2, f3, f4]; exact .mk)
     refine xO ?_
     refine xO ?_ (h := by simp [splice]; exact .mk)
     refine xF [1,2,3,4] ?_
     refine W_reg rfl ?_
     iterate 3 refine xO ?_
     refine xE [1,2,3,4] ?_
     refine rounds_kill [1,2,3,4] ?_
     refine rounds_kills [1,2,3,4] rfl ?_
     refine rounds_swap 7 11 1 (by decide) (by simp) (by decide) rfl rfl ?_
     refine rounds_drop 8 [1,2,3,4] (by decide) (by rfl) (by rfl) ?_
     refine rounds_next (m' := s.data.length - (i+1)) (by omega) ⟨i+1, rfl, by omega, ?_, ?_⟩
     · rw [wrap64 (by omega) (by omega)]; rfl
     rw [take_succ hi2]; simp; try rfl
   · skip
     iterate 2 refine xO ?_
     refine xO ?_ (h := by simp [eSlot]; exact .mk)
     refine xO ?_
     refine xO ?_ (h := by simp [eSlot, hi2]; exact .mk)
     refine xO ?_ (h := by simp [-List.getElem?_map, map_get hi2]; exact .mk)
     refine xO ?_
     refine xO ?_ (h := by simp [eSlot]; exact .mk)
     refine xO ?_ (h := by simp [rows, f1]; exact .mk)
     refine xO ?_
     refine xO ?_ (h := by simp [rows, f5, f2, f3, f4]; exact .mk)
     refine xO ?_
     refine xO ?_ (h := by simp [splice]; exact .mk)
     refine xF [1,2,3,4] ?_
     refine W_reg rfl ?_
     iterate 3 refine xO ?_
     refine xE [1,2,3,4] ?_
     refine rounds_kill [1,2,3,4] ?_
     refine rounds_kills [1,2,3,4] rfl ?_
     refine rounds_swap 7 11 1 (by decide) (by simp) (by decide) rfl rfl ?_
     refine rounds_drop 8 [1,2,3,4] (by decide) (by rfl) (by rfl) ?_
     refine rounds_next (m' := s.data.length - (i+1)) (by omega) ⟨i+1, rfl, by omega, ?_, ?_⟩
     · rw [wrap64 (by omega) (by omega)]; rfl
     rw [take_succ hi2]; simp; try rfl
   · skip
     iterate 2 refine xO ?_
     refine xO ?_ (h := by simp [eSlot]; exact .mk)
     refine xO ?_
     refine xO ?_ (h := by simp [eSlot, hi2]; exact .mk)
     refine xO ?_ (h := by simp [-List.getElem?_map, map_get hi2]; exact .mk)
     refine xO ?_
     refine xO ?_ (h := by simp [rows, f1]; exact .mk)
     refine xO ?_ (h := by simp [eSlot]; exact .mk)
     refine xO ?_
     refine xO ?_ (h := by simp [rows, f5, f2, f3, f4]; exact .mk)
     refine xO ?_
     refine xO ?_ (h := by simp [splice]; exact .mk)
     refine xF [1,2,3,4] ?_
     refine W_reg rfl ?_
     iterate 3 refine xO ?_
     refine xE [1,2,3,4] ?_
     refine rounds_kill [1,2,3,4] ?_
     refine rounds_kills [1,2,3,4] rfl ?_
     refine rounds_swap 7 11 1 (by decide) (by simp) (by decide) rfl rfl ?_
     refine rounds_drop 8 [1,2,3,4] (by decide) (by rfl) (by rfl) ?_
     refine rounds_next (m' := s.data.length - (i+1)) (by omega) ⟨i+1, rfl, by omega, ?_, ?_⟩
     · rw [wrap64 (by omega) (by omega)]; rfl
     rw [take_succ hi2]; simp; try rfl
   skip
   iterate 2 refine xO ?_
   refine xO ?_ (h := by simp [eSlot]; exact .mk)
   refine xO ?_
   refine xO ?_ (h := by simp [eSlot, hi2]; exact .mk)
   refine xO ?_ (h := by simp [-List.getElem?_map, map_get hi2]; exact .mk)
   refine xO ?_
   refine xO ?_ (h := by simp [rows, f1]; exact .mk)
   refine xO ?_
   refine xO ?_ (h := by simp [eSlot]; exact .mk)
   refine xO ?_ (h := by simp [rows, f5, f2, f3, f4]; exact .mk)
   refine xO ?_
   refine xO ?_ (h := by simp [splice]; exact .mk)
   refine xF [1,2,3,4] ?_
   refine W_reg rfl ?_
   iterate 3 refine xO ?_
   refine xE [1,2,3,4] ?_
   refine rounds_kill [1,2,3,4] ?_
   refine rounds_kills [1,2,3,4] rfl ?_
   refine rounds_swap 7 11 1 (by decide) (by simp) (by decide) rfl rfl ?_
   refine rounds_drop 8 [1,2,3,4] (by decide) (by rfl) (by rfl) ?_
   refine rounds_next (m' := s.data.length - (i+1)) (by omega) ⟨i+1, rfl, by omega, ?_, ?_⟩
   · rw [wrap64 (by omega) (by omega)]; rfl
   rw [take_succ hi2]; simp; try rfl
 intro h21
 obtain rfl : i = s.data.length := by simp at h21; omega
 rw [show List.take s.data.length (s.data.map oB) = s.data.map oB by rw [List.take_of_length_le (by simp)]]
 refine W_exit (xT ?_)
 refine xO ?_ (h := by simp [eSlot]; exact .mk)
 refine xO ?_ (h := by simp [splice]; exact .mk)
 refine xF [2] ?_
 refine W_ret (end_ret (by simp [Tryz.f21]; exact .mk) (by simp; exact .mk) ?_ (by simp [oStt]))
 simp [Tryz.f21, oStt, ownR]

open Go.Awp
open Go.Awp
def turnS (s : Stt) (mode step : Int) : Stt := { s with mode := mode, base := s.base + step }
def clipG (fr : Int) (g : Int × Int) : Int × Int := if 0 < fr - g.1 then (fr, g.2 - (fr - g.1)) else g
def clipS (fr : Int) (l : List (Int × Int)) : List (Int × Int) := (l.map (clipG fr)).filter fun g => decide (0 < g.2)
def gapsOf (s : Stt) : List (Int × Int) := gapsF (s.sh.pages * 32) (s.base * 32) (spansS s.slots)
def behindS (s : Stt) (fr size : Int) : Option Int := (bestS (clipS fr (gapsOf s)) size).map (·.1)
def lenAt (s : Stt) (k : Int) : Int := (nth s.slots k.toNat).len
def upStep (s : Stt) : Stt × Int :=
 if s.base = s.sh.pages then (turnS s 2 0, 0)
 else if onesS s.slots = [] ∨ (s.base + 1) * 32 ≤ (nth (onesS s.slots) 0).at_ then (turnS s s.mode 1, 0)
 else match roomS s true (lenAt s (nth (onesS s.slots) 0).slot) with
  | some a => moveS s (nth (onesS s.slots) 0).slot true a
  | none => match behindS s ((s.base + 1) * 32) (nth (onesS s.slots) 0).len with
   | some a => moveS s (nth (onesS s.slots) 0).slot false a
   | none => (zStt, 10)
def coverB (pages : Int) (page : Int) (o : Int × Int) : Bool := decide ((spotS pages o).1.page ≤ page) && decide (page - (spotS pages o).1.page < (spotS pages o).1.count)
def matesS (pages : Int) (l : List (Int × Int)) (page : Int) : List Nat := (List.range l.length).filter fun i => coverB pages page (nth l i)
def leastS (l : List (Int × Int)) : List Nat → Nat
 | [] => 0
 | i :: t => t.foldl (fun m j => if (nth l j).1 < (nth l m).1 then j else m) i
def restS (l : List (Int × Int)) (ms : List Nat) : List (Int × Int) := ((List.range l.length).filter fun i => !ms.contains i).map (nth l)
def downStep (s : Stt) : Stt × Int :=
 if s.base = 0 then (turnS s 1 0, 0)
 else if matesS s.base (twosO s.slots) (s.base - 1) = [] then (turnS s s.mode (-1), 0)
 else match roomS s false (nth (twosO s.slots) (leastS (twosO s.slots) (matesS s.base (twosO s.slots) (s.base - 1)))).2 with
  | some a => moveS s (nth (twosI s.slots) (leastS (twosO s.slots) (matesS s.base (twosO s.slots) (s.base - 1)))) false a
  | none => match placeS (s.base - 1) (restS (twosO s.slots) (matesS s.base (twosO s.slots) (s.base - 1))) (nth (twosO s.slots) (leastS (twosO s.slots) (matesS s.base (twosO s.slots) (s.base - 1)))).2 with
   | some a => moveS s (nth (twosI s.slots) (leastS (twosO s.slots) (matesS s.base (twosO s.slots) (s.base - 1)))) true a
   | none => (zStt, 10)
def stepS (s : Stt) : Stt × Int := if sttS s = true then (if s.mode = 3 then upStep s else if s.mode = 4 then downStep s else (zStt, 12)) else (zStt, 1)
def frontB (s : Stt) (x : Slot) : Bool := isOne x && decide (x.at_ < (s.base + 1) * 32)
def frontN (s : Stt) : Nat := ((List.range s.slots.length).filter fun i => frontB s (nth s.slots i)).length
def leftU (s : Stt) : Nat := if s.base = s.sh.pages then 1 else 9 * (s.sh.pages - s.base - 1).toNat + frontN s + 2
open Go.Awp
/- The document's answers, in plain Lean: blocks in order, rows of free pages. -/
def insR : List Blk → Blk → List Blk
 | [], b => [b]
 | x :: l, b => if b.at_ < x.at_ then b :: x :: l else x :: insR l b
theorem insR_at {b : Blk} : ∀ {l : List Blk} {k : Nat}, k ≤ l.length → (∀ j, j < k → (nth l j).at_ ≤ b.at_) → (k < l.length → b.at_ < (nth l k).at_) → insR l b = l.take k ++ b :: l.drop k
 | [], k, h, _, _ => by
  obtain rfl : k = 0 := by simpa using h
  rfl
 | x :: l, 0, _, _, h2 => by
  have := h2 (by simp)
  unfold insR; rw [if_pos (by simpa [nth] using this)]; rfl
 | x :: l, k + 1, h, h1, h2 => by
  have h0 := h1 0 (by omega)
  unfold insR; rw [if_neg (by have : x.at_ ≤ b.at_ := by simpa [nth] using h0
                              omega)]
  rw [insR_at (l := l) (k := k) (by simpa using h) (fun j hj => by have := h1 (j + 1) (by omega); simpa [nth] using this) (fun hk => by have := h2 (by simpa using hk); simpa [nth] using this)]
  rfl
theorem insR_perm {b : Blk} : ∀ {l : List Blk}, (insR l b).Perm (b :: l)
 | [] => .refl _
 | x :: l => by
  unfold insR; split
  · exact .refl _
  · exact (List.Perm.cons x (insR_perm (l := l))).trans (List.Perm.swap b x l)
theorem insR_sorted {b : Blk} : ∀ {l : List Blk}, l.Pairwise beforeB → (∀ y ∈ l, y.slot < b.slot) → (insR l b).Pairwise beforeB
 | [], _, _ => by simp [insR]
 | x :: l, h, h2 => by
  rw [List.pairwise_cons] at h
  unfold insR; split
  · rename_i hx
    rw [List.pairwise_cons]
    refine ⟨fun y hy => ?_, List.pairwise_cons.2 h⟩
    rcases List.mem_cons.1 hy with rfl | hy
    · exact .inl hx
    · have := h.1 y hy; unfold beforeB at *; omega
  · rename_i hx
    rw [List.pairwise_cons]
    refine ⟨fun y hy => ?_, insR_sorted h.2 fun y hy => h2 y (by simp [hy])⟩
    rcases List.mem_cons.1 (insR_perm.mem_iff.1 hy) with rfl | hy
    · have := h2 x (by simp); unfold beforeB; omega
    · exact h.1 y hy
theorem before_uniq : ∀ {l m : List Blk}, l.Perm m → l.Pairwise beforeB → m.Pairwise beforeB → l = m
 | [], m, h, _, _ => (List.nil_perm.1 h).symm
 | a :: l, [], h, _, _ => by simpa using h.length_eq
 | a :: l, b :: m, h, h1, h2 => by
  rw [List.pairwise_cons] at h1 h2
  by_cases e : a = b
  · subst e; rw [before_uniq (List.Perm.cons_inv h) h1.2 h2.2]
  · exfalso
    have q1 : a ∈ m := (List.mem_cons.1 (h.mem_iff.1 (by simp))).resolve_left e
    have q2 : b ∈ l := (List.mem_cons.1 (h.mem_iff.2 (by simp))).resolve_left fun q => e q.symm
    have := h1.1 b q2; have := h2.1 a q1
    unfold beforeB at *; omega
def insI (l : List Slot) : Nat → List Blk
 | 0 => []
 | i + 1 => if isOne (nth l i) = true then insR (insI l i) (blkAt l i) else insI l i
theorem insI_perm {l : List Slot} : ∀ {i : Nat}, (insI l i).Perm ((oneIx l i).map (blkAt l))
 | 0 => .refl _
 | i + 1 => by
  unfold insI; split
  · rename_i h
    rw [oneIx_t h, List.map_append]
    exact insR_perm.trans ((List.Perm.cons _ insI_perm).trans (List.perm_append_comm (l₁ := [blkAt l i])))
  · rename_i h; rw [oneIx_f (by simpa using h)]; exact insI_perm
theorem insI_slot {l : List Slot} {i : Nat} : ∀ b ∈ insI l i, b.slot < (i : Int) := fun b hb => by
 have := insI_perm.mem_iff.1 hb
 simp only [List.mem_map] at this
 obtain ⟨k, hk, rfl⟩ := this
 have := (oneIx_mem hk).1
 show (k : Int) < i; omega
theorem insI_sorted {l : List Slot} : ∀ {i : Nat}, (insI l i).Pairwise beforeB
 | 0 => List.Pairwise.nil
 | i + 1 => by
  unfold insI; split
  · exact insR_sorted insI_sorted fun y hy => insI_slot y hy
  · exact insI_sorted
theorem insI_len {l : List Slot} {i : Nat} : (insI l i).length ≤ i := by
 rw [insI_perm.length_eq, List.length_map]; exact oneIx_len
theorem insI_onesS {l : List Slot} : insI l l.length = onesS l := before_uniq (insI_perm.trans (stS_perm _).symm) insI_sorted onesS_sorted
def gapsR (fr to : Int) (l : List (Int × Int)) : List (Int × Int) × Int := if gapsS fr to l = true then (gapsF to fr l, 0) else ([], 1)
open Go.Awp
theorem ct233 (g : Gl) : CtAt Tryz.prog g 233 [vI 64] (vI 13) := by
 refine ctAt_of_W Tryz.func233 rfl rfl (Nat.le_of_ble_eq_true rfl) fun B S => ?_
 refine xU ?_
 refine xO ?_
 refine xF [0] ?_
 refine W_seq (xU ?_)
 iterate 2 refine xO ?_
 refine xF [0,5] ?_
 refine W_cond rfl ?_ ?_
 · intro h5
   simp at h5
 intro h5
 refine W_skip ?_
 refine xT ?_
 iterate 7 refine xO ?_
 refine xG [0] ?_
 iterate 3 refine xO ?_
 refine xG [0] ?_
 iterate 2 refine xO ?_
 refine xF [0,3] ?_
 refine W_seq (W_block ?_)
 refine W_rounds (fun m σ o => ((m = 3 ∧ σ = slots [(0, .d (vI 10)), (3, .d (vI 10))]) ∨ (m = 2 ∧ σ = slots [(0, .d (vI 2)), (3, .d (vI 12))]) ∨ (m = 1 ∧ σ = slots [(0, .d (vI 1)), (3, .d (vI 13))])) ∧ o = []) 3 .refl ⟨.inl ⟨rfl, rfl⟩, rfl⟩ ?_
 rintro m σ o ⟨⟨rfl, rfl⟩ | ⟨rfl, rfl⟩ | ⟨rfl, rfl⟩, rfl⟩ _
 · skip
   skip
   refine W_seq (xU ?_)
   iterate 2 refine xO ?_
   refine xF [0,3,16] ?_
   refine W_cond rfl ?_ ?_
   · intro h16
     refine W_skip ?_
     rintro -
     refine W_block (xU ?_)
     iterate 7 refine xO ?_
     refine xF [0,3] ?_
     refine W_reg rfl ?_
     iterate 4 refine xO ?_
     refine xE [0,3] ?_
     refine rounds_kill [0,3] ?_
     exact rounds_next (m' := 2) (by omega) ⟨.inr (.inl ⟨rfl, rfl⟩), rfl⟩
   intro h16
   simp at h16
 · skip
   skip
   refine W_seq (xU ?_)
   iterate 2 refine xO ?_
   refine xF [0,3,16] ?_
   refine W_cond rfl ?_ ?_
   · intro h16
     refine W_skip ?_
     rintro -
     refine W_block (xU ?_)
     iterate 7 refine xO ?_
     refine xF [0,3] ?_
     refine W_reg rfl ?_
     iterate 4 refine xO ?_
     refine xE [0,3] ?_
     refine rounds_kill [0,3] ?_
     exact rounds_next (m' := 1) (by omega) ⟨.inr (.inr ⟨rfl, rfl⟩), rfl⟩
   intro h16
   simp at h16
 skip
 skip
 refine W_seq (xU ?_)
 iterate 2 refine xO ?_
 refine xF [0,3,16] ?_
 refine W_cond rfl ?_ ?_
 · intro h16
   simp at h16
 intro h16
 refine W_exit (xT ?_)
 iterate 2 refine xO ?_
 refine xF [2] ?_
 refine W_ret (xR (by simp [Tryz.f233]; exact .mk) ?_)
 simp [Tryz.f233]

theorem ct202 (g : Gl) (s : Shape) (hs : sizedSh s = true) : CtAt Tryz.prog g 202 [eShape s] (.agg [vI 1, vI 2, vI s.room, vI (headsS s), vI (tableA s), vI (rootsA s), vI (treeA s), vI (heapA s), vI (linesA s)]) := by
 refine ctAt_of_W Tryz.func202 rfl rfl (Nat.le_of_ble_eq_true rfl) fun B S => ?_
 simp only [eShape, List.map, argD_agg]
 have hb : 1 ≤ s.pages ∧ s.pages ≤ 64 ∧ 1 ≤ s.room ∧ s.room ≤ 4096 ∧ 2 ≤ s.slots ∧ s.slots ≤ 32 ∧ 2 ≤ s.roots ∧ s.roots ≤ 8 := by simp [sizedSh] at hs; omega
 have d1 : 0 ≤ s.slots.tdiv 2 ∧ s.slots.tdiv 2 ≤ 16 := by rw [Int.tdiv_eq_ediv_of_nonneg (by omega)]; omega
 have d2 : 0 ≤ s.roots.tdiv 2 ∧ s.roots.tdiv 2 ≤ 4 := by rw [Int.tdiv_eq_ediv_of_nonneg (by omega)]; omega
 have q1 : headsS s = 2 + s.room * 2 := rfl
 have q2 : tableA s = headsS s + 1 := rfl
 have q3 : rootsA s = tableA s + s.slots.tdiv 2 := rfl
 have q4 : treeA s = rootsA s + s.roots.tdiv 2 := rfl
 have q5 : heapA s = treeA s + 26 := rfl
 have q6 : linesA s = heapA s + s.pages * 4 := rfl
 have e1 : IntKind.i64.wrap (2 * s.room) = 2 * s.room := wrap64 (by omega) (by omega)
 have e2 : IntKind.i64.wrap (2 + 2 * s.room) = headsS s := (wrap64 (by omega) (by omega)).trans (by omega)
 have e3 : IntKind.i64.wrap (headsS s + 1) = tableA s := (wrap64 (by omega) (by omega)).trans (by omega)
 have e4 : IntKind.i64.wrap (s.slots.tdiv 2) = s.slots.tdiv 2 := wrap64 (by omega) (by omega)
 have e5 : IntKind.i64.wrap (tableA s + s.slots.tdiv 2) = rootsA s := (wrap64 (by omega) (by omega)).trans (by omega)
 have e6 : IntKind.i64.wrap (s.roots.tdiv 2) = s.roots.tdiv 2 := wrap64 (by omega) (by omega)
 have e7 : IntKind.i64.wrap (rootsA s + s.roots.tdiv 2) = treeA s := (wrap64 (by omega) (by omega)).trans (by omega)
 have e8 : IntKind.i64.wrap 26 = 26 := rfl
 have e9 : IntKind.i64.wrap (treeA s + 26) = heapA s := (wrap64 (by omega) (by omega)).trans (by omega)
 have e10 : IntKind.i64.wrap (4 * s.pages) = 4 * s.pages := wrap64 (by omega) (by omega)
 have e11 : IntKind.i64.wrap (heapA s + 4 * s.pages) = linesA s := (wrap64 (by omega) (by omega)).trans (by omega)
 refine xU ?_
 iterate 2 refine xO ?_
 refine xG [1,2] ?_
 iterate 2 refine xO ?_
 iterate 2 (refine xO ?_ (h := by simp [splice]; exact .mk))
 refine xO ?_
 refine xO ?_ (h := by simp [splice]; exact .mk)
 refine xG [1,2,3] ?_
 iterate 2 refine xO ?_
 refine xO ?_ (h := by simp [e1]; exact .mk)
 refine xO ?_ (h := by simp [e2]; exact .mk)
 refine xO ?_
 refine xO ?_ (h := by simp [splice]; exact .mk)
 refine xG [1,2,3] ?_
 iterate 2 refine xO ?_
 refine xO ?_ (h := by simp [e3]; exact .mk)
 refine xO ?_
 refine xO ?_ (h := by simp [splice]; exact .mk)
 refine xG [1,2,3] ?_
 iterate 4 refine xO ?_
 refine xO ?_ (h := by simp [e4]; exact .mk)
 refine xO ?_ (h := by simp [e5]; exact .mk)
 refine xO ?_
 refine xO ?_ (h := by simp [splice]; exact .mk)
 refine xG [1,2,3] ?_
 iterate 4 refine xO ?_
 refine xO ?_ (h := by simp [e6]; exact .mk)
 refine xO ?_ (h := by simp [e7]; exact .mk)
 refine xO ?_
 refine xO ?_ (h := by simp [splice]; exact .mk)
 refine xF [1,2,3] ?_
 refine W_seq ?_
 refine W_regD (by kernel_rfl) [] 4 [0,1,2,3,4,5,6] (by decide +kernel) ?_
 iterate 2 refine xO ?_
 refine xC (ct233 g) ?_
 refine xO ?_ (h := by simp [e8]; exact .mk)
 refine xO ?_ (h := by simp [e9]; exact .mk)
 refine xO ?_
 refine xO ?_ (h := by simp [splice]; exact .mk)
 refine xG [1,2,3] ?_
 iterate 4 refine xO ?_
 refine xO ?_ (h := by simp [e10]; exact .mk)
 refine xO ?_ (h := by simp [e11]; exact .mk)
 refine xO ?_
 refine xO ?_ (h := by simp [splice]; exact .mk)
 refine xG [2,3] ?_
 refine xO ?_
 refine xO ?_ (h := by simp [splice]; exact .mk)
 refine xF [2] ?_
 refine W_ret (xR (by simp [Tryz.f202]; exact .mk) ?_)
 simp [Tryz.f202]

theorem ct144 (g : Gl) (s : Shape) : CtAt Tryz.prog g 144 [eShape s] (.v (.bool (shapeS s))) := by
 refine ctAt_of_W Tryz.func144 rfl rfl (Nat.le_of_ble_eq_true rfl) fun B S => ?_
 simp only [eShape, List.map, argD_agg]
 have m1 : 2 ≤ s.slots → (s.slots.tmod 2 = 0 ∨ s.slots.tmod 2 = 1) := fun h => by rw [Int.tmod_eq_emod_of_nonneg (by omega)]; omega
 have m2 : 2 ≤ s.roots → (s.roots.tmod 2 = 0 ∨ s.roots.tmod 2 = 1) := fun h => by rw [Int.tmod_eq_emod_of_nonneg (by omega)]; omega
 refine xU ?_
 iterate 2 refine xO ?_
 refine xF [1] ?_
 refine W_seq (xU ?_)
 iterate 4 refine xO ?_
 iterate 3 refine xI ?_
 refine xP ?_
 refine xB ?_
 iterate 3 refine xI ?_
 refine xP ?_
 refine xB ?_
 iterate 3 refine xI ?_
 refine xP ?_
 refine xB ?_
 iterate 4 refine xI ?_
 refine xP ?_
 refine xB ?_
 iterate 3 refine xI ?_
 refine xP ?_
 refine xB ?_
 iterate 3 refine xI ?_
 refine xP ?_
 refine xB ?_
 iterate 4 refine xI ?_
 refine xP ?_
 refine xB ?_
 iterate 3 refine xI ?_
 refine xP ?_
 refine xB ?_
 iterate 3 refine xI ?_
 refine xP ?_
 refine xF [1,52] ?_
 refine W_cond rfl ?_ ?_
 · intro h52
   have hz : sizedSh s = false := by simp [sizedSh] at h52 ⊢; omega
   have hr : shapeS s = false := by simp [shapeS, hz]
   refine xU ?_
   refine xO ?_
   refine xF [2] ?_
   refine W_ret (xR (by simp [Tryz.f144]; exact .mk) ?_)
   simp [Tryz.f144, hr]
 intro h52
 have hz : sizedSh s = true := by simp [sizedSh] at h52 ⊢; omega
 have hr : shapeS s = decide (linesA s ≤ 4096) := by simp [shapeS, hz]
 refine W_skip ?_
 refine xT ?_
 refine xO ?_
 refine xC (ct202 g s hz) ?_
 iterate 3 refine xO ?_
 refine xF [2] ?_
 refine W_ret (xR (by simp [Tryz.f144]; exact .mk) ?_)
 simp [Tryz.f144, hr]

theorem ct92 (g : Gl) (s : Shape) (mode base : Int) : CtAt Tryz.prog g 92 [eShape s, vI mode, vI base] (.v (.bool (superS s mode base))) := by
 refine ctAt_of_W Tryz.func92 rfl rfl (Nat.le_of_ble_eq_true rfl) fun B S => ?_
 simp only [eShape, List.map, argD_agg, argD_v]
 refine xU ?_
 iterate 2 refine xO ?_
 refine xG [1,2,3] ?_
 refine xO ?_
 refine xC (ct144 g s) ?_
 refine xO ?_
 refine xF [1,2,3,7] ?_
 refine W_seq (xU ?_)
 iterate 3 refine xO ?_
 iterate 2 refine xI ?_
 refine xP ?_
 refine xB ?_
 iterate 4 refine xI ?_
 refine xP ?_
 refine xF [1,2,3,21] ?_
 refine W_cond rfl ?_ ?_
 · intro h21
   refine xU ?_
   refine xO ?_
   refine xF [6] ?_
   refine W_ret (xR (by simp [Tryz.f92]; exact .mk) ?_)
   first | (simp [Tryz.f92, superS, *]; done) | (simp [Tryz.f92, superS] at *; grind)
 intro h21
 refine W_skip ?_
 rintro -
 refine W_seq (xU ?_)
 refine xO ?_
 refine xF [2,3,22] ?_
 refine W_block (xU ?_)
 iterate 2 refine xO ?_
 refine xF [2,3,22,23] ?_
 refine W_cond rfl ?_ ?_
 · intro h23
   refine xU ?_
   iterate 3 refine xO ?_
   refine xF [6] ?_
   refine W_ret (xR (by simp [Tryz.f92]; exact .mk) ?_)
   first | (simp [Tryz.f92, superS, *]; done) | (simp [Tryz.f92, superS] at *; grind)
 intro h23
 refine xU ?_
 iterate 2 refine xO ?_
 refine xF [2,3,22,27] ?_
 refine W_cond rfl ?_ ?_
 · intro h27
   refine xU ?_
   iterate 5 refine xO ?_
   refine xF [6] ?_
   refine W_ret (xR (by simp [Tryz.f92]; exact .mk) ?_)
   first | (simp [Tryz.f92, superS, *]; done) | (simp [Tryz.f92, superS] at *; grind)
 intro h27
 refine W_seq (xU ?_)
 iterate 2 refine xO ?_
 refine xF [22,33] ?_
 refine W_cond rfl ?_ ?_
 · intro h33
   refine W_skip ?_
   rintro -
   refine W_cond rfl ?_ ?_
   · intro h33'
     refine xU ?_
     refine xO ?_
     refine xF [6] ?_
     refine W_ret (xR (by simp [Tryz.f92]; exact .mk) ?_)
     first | (simp [Tryz.f92, superS, *]; done) | (simp [Tryz.f92, superS] at *; grind)
   intro hq
   cases h33.symm.trans hq
 intro h33
 refine W_reg rfl ?_
 iterate 2 refine xO ?_
 refine xF [33] ?_
 refine W_cond rfl ?_ ?_
 · intro h33'
   refine xU ?_
   refine xO ?_
   refine xF [6] ?_
   refine W_ret (xR (by simp [Tryz.f92]; exact .mk) ?_)
   first | (simp [Tryz.f92, superS, *]; done) | (simp [Tryz.f92, superS] at *; grind)
 intro h33'
 refine W_skip ?_
 refine xT ?_
 refine xO ?_
 refine xF [6] ?_
 refine W_ret (xR (by simp [Tryz.f92]; exact .mk) ?_)
 first | (simp [Tryz.f92, superS, *]; done) | (simp [Tryz.f92, superS] at *; grind)

theorem ct145 (g : Gl) (s : Slot) : CtAt Tryz.prog g 145 [eSlot s] (.v (.bool (slotS1 s))) := by
 refine ctAt_of_W Tryz.func145 rfl rfl (Nat.le_of_ble_eq_true rfl) fun B S => ?_
 simp only [eSlot, List.map, argD_agg]
 refine xU ?_
 iterate 2 refine xO ?_
 refine xF [1] ?_
 refine W_seq (xU ?_)
 iterate 4 refine xO ?_
 iterate 3 refine xI ?_
 refine xP ?_
 refine xF [1,10] ?_
 refine W_cond rfl ?_ ?_
 · intro h10
   refine xU ?_
   refine xO ?_
   refine xF [2] ?_
   refine W_ret (xR (by simp [Tryz.f145]; exact .mk) ?_)
   simp [Tryz.f145, slotS1] at *; grind
 intro h10
 refine W_skip ?_
 rintro -
 refine W_seq (xU ?_)
 iterate 3 refine xO ?_
 refine xF [1,13] ?_
 refine W_cond rfl ?_ ?_
 · intro h13
   refine xU ?_
   iterate 4 refine xO ?_
   iterate 3 refine xI ?_
   refine xP ?_
   refine xB ?_
   iterate 3 refine xI ?_
   refine xP ?_
   refine xB ?_
   refine xF [2] ?_
   refine W_ret (xR (by simp [Tryz.f145]; exact .mk) ?_)
   simp [Tryz.f145, slotS1] at *; grind
 intro h13
 refine W_skip ?_
 refine xT ?_
 iterate 4 refine xO ?_
 iterate 3 refine xI ?_
 refine xP ?_
 refine xB ?_
 iterate 3 refine xI ?_
 refine xP ?_
 refine xB ?_
 iterate 3 refine xI ?_
 refine xP ?_
 refine xB ?_
 refine xF [2] ?_
 refine W_ret (xR (by simp [Tryz.f145]; exact .mk) ?_)
 simp [Tryz.f145, slotS1] at *; grind

theorem ct93 (g : Gl) (l : List Slot) (hl : l.length ≤ 2^40) : CtAt Tryz.prog g 93 [rSl l] (.v (.bool (tableS l))) := by
 refine ctAt_of_W Tryz.func93 rfl rfl (Nat.le_of_ble_eq_true rfl) fun B S => ?_
 refine xU ?_
 refine xO ?_
 refine xF [0] ?_
 refine W_seq (xU ?_)
 refine xO ?_
 refine xF [0,3] ?_
 refine W_block (W_rounds (fun m σ o => ∃ i : Nat, m = l.length - i ∧ i ≤ l.length ∧ (∀ j, j < i → slotS1 (nth l j) = true) ∧ σ = slots [(0, .d (rSl l)), (3, .d (vI i))] ∧ o = []) l.length .refl ⟨0, by simp, by simp, by simp, rfl, rfl⟩ ?_)
 rintro m σ o ⟨i, rfl, hi, hinv, rfl, rfl⟩ _
 refine W_seq (xU ?_)
 iterate 4 refine xO ?_
 refine xF [0,3,8] ?_
 refine W_cond rfl ?_ ?_
 · intro h8
   have hi2 : i < l.length := by simpa using h8
   refine W_skip ?_
   rintro -
   refine W_seq (W_block ?_)
   refine xU ?_
   iterate 2 refine xO ?_
   refine xO ?_ (h := by simp [eSlot, hi2]; exact .mk)
   refine xO ?_ (h := by simp [-List.getElem?_map, map_get hi2, eSlot]; exact .mk)
   refine xC (ct145 g (nth l i)) ?_
   refine xO ?_
   refine xG [0,3,4] ?_
   iterate 2 refine xO ?_
   refine xF [0,3,17] ?_
   refine W_cond rfl ?_ ?_
   · intro h17
     have hr : tableS l = false := by unfold tableS; rw [all_bad hi2 (by simpa using h17)]; rfl
     refine xU ?_
     refine xO ?_
     refine xF [2] ?_
     refine W_ret (xR (by simp [Tryz.f93]; exact .mk) ?_)
     first | (simp [Tryz.f93, hr]; done) | (simp [Tryz.f93, hr, tnewOk, Bool.and_assoc]; try (first | done | grind))
   intro h17
   refine W_skip ?_
   rintro -
   refine W_reg rfl ?_
   iterate 3 refine xO ?_
   refine xE [0,3] ?_
   refine rounds_drop 0 [0,3] (by simp) (by simp) (by simp) ?_
   refine rounds_next (m' := l.length - (i+1)) (by omega) ⟨i+1, rfl, by omega, ?_, ?_, rfl⟩
   · intro j hj
     rcases Nat.lt_succ_iff_lt_or_eq.1 hj with hj | rfl
     · exact hinv j hj
     simpa using h17
   rw [wrap64 (by omega) (by omega)]; rfl
 intro h8
 have hr : tableS l = tnewOk l.length := by unfold tableS; rw [all_good (fun j hj => hinv j (by simp at h8; omega))]; rfl
 refine W_exit (xT ?_)
 iterate 4 refine xO ?_
 iterate 3 refine xI ?_
 refine xP ?_
 refine xB ?_
 iterate 4 refine xI ?_
 refine xP ?_
 refine xB ?_
 refine xF [2] ?_
 refine W_ret (xR (by simp [Tryz.f93]; exact .mk) ?_)
 first | (simp [Tryz.f93, hr]; done) | (simp [Tryz.f93, hr, tnewOk, Bool.and_assoc]; try (first | done | grind))

open Go.Awp
theorem ct211 (g : Gl) : CtAt Tryz.prog g 211 [] (oI wordsL) := by
 refine ctAt_of_W Tryz.func211 rfl rfl (Nat.le_of_ble_eq_true rfl) fun B S => ?_
 refine xU ?_
 refine xO ?_
 refine xG [] ?_
 iterate 2 refine xO ?_
 refine xF [0] ?_
 refine W_ret (xR (by simp [Tryz.f211]; exact .mk) ?_)
 simp [Tryz.f211, ownR, wordsL]

theorem ct153 (g : Gl) (n : Int) : CtAt Tryz.prog g 153 [vI n] (.tup [vI (classS n).1, .v (.bool (classS n).2)]) := by
 refine ctAt_of_W Tryz.func153 rfl rfl (Nat.le_of_ble_eq_true rfl) fun B S => ?_
 refine xU ?_
 iterate 2 refine xO ?_
 refine xG [0] ?_
 refine xC (ct211 g) ?_
 refine xO ?_
 refine xF [0,4] ?_
 refine W_seq (xU ?_)
 refine xO ?_
 refine xF [0,4,5] ?_
 refine W_block (W_rounds (fun m σ o => ∃ i : Nat, m = 6 - i ∧ i ≤ 6 ∧ (∀ j, j < i → ¬ (1 ≤ n ∧ n ≤ 8 * nth wordsL j)) ∧ σ = slots [(0, .d (vI n)), (4, .hdr 0 0 6), (5, .d (vI i))] ∧ o = [.row 1 (wordsL.map vI)]) 6 .refl ⟨0, by simp, by simp, by simp, rfl, rfl⟩ ?_)
 rintro m σ o ⟨i, rfl, hi, hinv, rfl, rfl⟩ _
 refine W_seq (xU ?_)
 iterate 4 refine xO ?_
 refine xF [0,4,5,10] ?_
 refine W_cond rfl ?_ ?_
 · intro h10
   have hi2 : i < 6 := by simp at h10; omega
   have hi4 : (i : Int) < 6 := by omega
   have hi3 : i < wordsL.length := hi2
   have hw := wordsL_8 hi2
   have w1 : IntKind.i64.wrap (8 * nth wordsL i) = 8 * nth wordsL i := wrap64 (by omega) (by omega)
   refine W_skip ?_
   rintro -
   refine W_seq (W_block ?_)
   refine xU ?_
   iterate 3 refine xO ?_
   iterate 3 refine xI ?_
   refine run_if rfl (by simp; exact .mk) rfl (by simp <;> first | omega | grind) (fun hb => by simp [hi2, hi3, hi4]; exact .mk) ?_
   refine run_if rfl (by simp; exact .mk) rfl (by simp <;> first | omega | grind) (fun hb => by simp [-List.getElem?_map, hi2, map_get hi3]; exact .mk) ?_
   refine run_if rfl (by simp; exact .mk) rfl (by simp <;> first | omega | grind) (fun hb => by simp [w1]; exact .mk) ?_
   refine xI ?_
   refine xP ?_
   refine xF [0,4,5,23] ?_
   refine W_cond rfl ?_ ?_
   · intro h23
     have hr := classS_at hi2 (by simpa using h23) hinv
     refine xU ?_
     iterate 3 refine xO ?_
     refine xF [2,3] ?_
     refine W_ret (xR (by simp [Tryz.f153]; exact .mk) ?_)
     simp [Tryz.f153, hr]
   intro h23
   have hno : ¬ (1 ≤ n ∧ n ≤ 8 * nth wordsL i) := by simpa using h23
   refine W_skip ?_
   rintro -
   refine W_reg rfl ?_
   iterate 3 refine xO ?_
   refine xE [0,4,5] ?_
   refine rounds_kill [0,4,5] ?_
   refine rounds_next (m' := 6 - (i+1)) (by omega) ⟨i+1, rfl, by omega, ?_, ?_, rfl⟩
   · intro j hj
     rcases Nat.lt_succ_iff_lt_or_eq.1 hj with hj | rfl
     · exact hinv j hj
     exact hno
   rw [wrap64 (by omega) (by omega)]; rfl
 intro h10
 have hr : classS n = (0, false) := classS_no (fun j hj => hinv j (by simp at h10; omega))
 refine W_exit (xT ?_)
 iterate 2 refine xO ?_
 refine xF [2,3] ?_
 refine W_ret (xR (by simp [Tryz.f153]; exact .mk) ?_)
 simp [Tryz.f153, hr]

theorem ct213 (g : Gl) (c : Int) : CtAt Tryz.prog g 213 [vI c] (.tup [vI (if c < 0 ∨ 6 ≤ c then 0 else nth wordsL c.toNat), vI (if c < 0 ∨ 6 ≤ c then 1 else 0)]) := by
 refine ctAt_of_W Tryz.func213 rfl rfl (Nat.le_of_ble_eq_true rfl) fun B S => ?_
 refine xU ?_
 iterate 2 refine xO ?_
 refine xG [0] ?_
 refine xC (ct211 g) ?_
 refine xO ?_
 refine xF [0,4] ?_
 refine W_seq (xU ?_)
 iterate 3 refine xO ?_
 iterate 4 refine xI ?_
 refine xP ?_
 refine xF [0,4,13] ?_
 refine W_cond rfl ?_ ?_
 · intro h13
   have hr : c < 0 ∨ 6 ≤ c := by simpa [wordsL] using h13
   refine xU ?_
   iterate 2 refine xO ?_
   refine xF [2,3] ?_
   refine W_ret (xR (by simp [Tryz.f213]; exact .mk) ?_)
   first | (simp [Tryz.f213, hr]; done) | simp [Tryz.f213, hr, nth_eq hc]
 intro h13
 have hr : ¬ (c < 0 ∨ 6 ≤ c) := by simp [wordsL] at h13 ⊢; omega
 have hc : c.toNat < wordsL.length := by show c.toNat < 6; omega
 have hc2 : 0 ≤ c ∧ c < 6 := by omega
 have hc3 : c < (wordsL.length : Int) := hc2.2
 refine W_skip ?_
 refine xT ?_
 iterate 2 refine xO ?_
 refine xO ?_ (h := by simp [hc, hc2, hc3]; exact .mk)
 refine xO ?_ (h := by simp [-List.getElem?_map, hc, map_get hc]; exact .mk)
 iterate 2 refine xO ?_
 refine xF [2,3] ?_
 refine W_ret (xR (by simp [Tryz.f213]; exact .mk) ?_)
 first | (simp [Tryz.f213, hr]; done) | simp [Tryz.f213, hr, nth_eq hc]

theorem ct156 (g : Gl) (c : Int) : CtAt Tryz.prog g 156 [vI c] (.tup [vI (cellsS c).1, vI (cellsS c).2]) := by
 refine ctAt_of_W Tryz.func156 rfl rfl (Nat.le_of_ble_eq_true rfl) fun B S => ?_
 have c213 := ct213 g c
 obtain ⟨w, hw⟩ : ∃ w, w = (if c < 0 ∨ 6 ≤ c then 0 else nth wordsL c.toNat) := ⟨_, rfl⟩
 obtain ⟨e, he⟩ : ∃ e : Int, e = (if c < 0 ∨ 6 ≤ c then 1 else 0) := ⟨_, rfl⟩
 rw [← hw, ← he] at c213
 refine xU ?_
 iterate 2 refine xO ?_
 refine xG [0] ?_
 refine xO ?_
 refine xC (c213) ?_
 iterate 5 refine xO ?_
 refine xF [4,5] ?_
 refine W_seq (xU ?_)
 iterate 2 refine xO ?_
 refine xF [4,5,12] ?_
 refine W_cond rfl ?_ ?_
 · intro h12
   have hz : e ≠ 0 := by simpa using h12
   have hc : c < 0 ∨ 6 ≤ c := Classical.byContradiction fun q => by rw [if_neg q] at he; exact hz he
   rw [if_pos hc] at he
   have hr : cellsS c = (0, 1) := by unfold cellsS; rw [if_pos hc]
   refine xU ?_
   iterate 3 refine xO ?_
   refine xF [2,3] ?_
   refine W_ret (xR (by simp [Tryz.f156]; exact .mk) ?_)
   simp [Tryz.f156, hr, *]
 intro h12
 have hz : e = 0 := by simpa using h12
 have hc : ¬ (c < 0 ∨ 6 ≤ c) := fun q => by rw [if_pos q] at he; omega
 rw [if_neg hc] at hw
 have hw8 := wordsL_8 (j := c.toNat) (by omega)
 have hw0 : w ≠ 0 := by omega
 have hd : 0 ≤ (28 : Int).tdiv w ∧ (28 : Int).tdiv w ≤ 28 := ⟨Int.tdiv_nonneg (by omega) (by omega), by rw [Int.tdiv_eq_ediv_of_nonneg (by omega)]; exact Int.ediv_le_self _ (by omega)⟩
 have w1 : IntKind.i64.wrap ((28 : Int).tdiv w) = (28 : Int).tdiv w := wrap64 (by omega) (by omega)
 have hr : cellsS c = ((28 : Int).tdiv w, 0) := by unfold cellsS; rw [if_neg hc, hw]
 refine W_skip ?_
 refine xT ?_
 refine xO ?_
 refine xO ?_ (h := by simp [hw0, w1]; exact .mk)
 iterate 2 refine xO ?_
 refine xF [2,3] ?_
 refine W_ret (xR (by simp [Tryz.f156]; exact .mk) ?_)
 simp [Tryz.f156, hr, *]

theorem ct157 (g : Gl) (c : Int) (k : Nat) (hc : 0 ≤ c ∧ c < 6) (hk : k ≤ 14) : CtAt Tryz.prog g 157 [vI c, vI k] (.tup [vI (cellS c k).1, vI (cellS c k).2]) := by
 refine ctAt_of_W Tryz.func157 rfl rfl (Nat.le_of_ble_eq_true rfl) fun B S => ?_
 have c156 := ct156 g c
 have c213 := ct213 g c
 obtain ⟨b1, b2, b3, b4⟩ := cellsS_b hc
 rw [b3] at c156
 rw [if_neg (by omega), if_neg (by omega)] at c213
 refine xU ?_
 iterate 2 refine xO ?_
 refine xG [0,1] ?_
 refine xO ?_
 refine xC (c156) ?_
 iterate 5 refine xO ?_
 refine xF [0,1,6,7] ?_
 refine W_seq (xU ?_)
 iterate 3 refine xO ?_
 iterate 2 refine xI ?_
 refine xP ?_
 refine xB ?_
 iterate 3 refine xI ?_
 refine xP ?_
 refine xF [0,1,25] ?_
 refine W_cond rfl ?_ ?_
 · intro h25
   have hr : cellS c k = (0, 1) := by unfold cellS; rw [if_pos]; simp at h25; omega
   refine xU ?_
   iterate 2 refine xO ?_
   refine xF [4,5] ?_
   refine W_ret (xR (by simp [Tryz.f157]; exact .mk) ?_)
   first | (simp [Tryz.f157, hr]; done) | simp [Tryz.f157, d1]
 intro h25
 have hkc : (k : Int) < (cellsS c).1 := by simp at h25; omega
 obtain ⟨d1, d2, d3⟩ := cellS_b hc hkc
 have w1 : IntKind.i64.wrap (nth wordsL c.toNat * (k : Int)) = (k : Int) * nth wordsL c.toNat := (wrap64 (by rw [Int.mul_comm]; omega) (by rw [Int.mul_comm]; omega)).trans (Int.mul_comm _ _)
 have w2 : IntKind.i64.wrap (4 + (k : Int) * nth wordsL c.toNat) = 4 + (k : Int) * nth wordsL c.toNat := wrap64 (by omega) (by omega)
 refine W_skip ?_
 refine xT ?_
 refine xO ?_
 refine xC (c213) ?_
 iterate 5 refine xO ?_
 refine xG [1,8] ?_
 iterate 2 refine xO ?_
 refine xO ?_ (h := by simp [w1]; exact .mk)
 refine xO ?_ (h := by simp [w2]; exact .mk)
 iterate 2 refine xO ?_
 refine xF [4,5] ?_
 refine W_ret (xR (by simp [Tryz.f157]; exact .mk) ?_)
 first | (simp [Tryz.f157, hr]; done) | simp [Tryz.f157, d1]

theorem ct204 (g : Gl) (c off : Int) (hc : 0 ≤ c ∧ c < 6) (ho : 0 ≤ off ∧ off < 32) : CtAt Tryz.prog g 204 [vI c, vI off] (.tup [vI (whichS c off).1, .v (.bool (whichS c off).2)]) := by
 refine ctAt_of_W Tryz.func204 rfl rfl (Nat.le_of_ble_eq_true rfl) fun B S => ?_
 have c156 := ct156 g c
 obtain ⟨b1, b2, b3, b4⟩ := cellsS_b hc
 rw [b3] at c156
 obtain ⟨N, hN⟩ : ∃ N : Nat, (cellsS c).1 = N := ⟨(cellsS c).1.toNat, by omega⟩
 refine xU ?_
 iterate 2 refine xO ?_
 refine xG [0,1] ?_
 refine xO ?_
 refine xC (c156) ?_
 iterate 5 refine xO ?_
 refine xF [0,1,6] ?_
 refine W_seq (xU ?_)
 refine xO ?_
 refine xF [0,1,6,8] ?_
 refine W_block (W_rounds (fun m σ o => ∃ i : Nat, m = N - i ∧ i ≤ N ∧ (∀ j, j < i → (cellS c j).1 ≠ off) ∧ σ = slots [(0, .d (vI c)), (1, .d (vI off)), (6, .d (vI (cellsS c).1)), (8, .d (vI i))] ∧ o = []) (N) .refl ⟨0, by simp, by simp, by simp, rfl, rfl⟩ ?_)
 rintro m σ o ⟨i, rfl, hi, hinv, rfl, rfl⟩ _
 refine W_seq (xU ?_)
 iterate 3 refine xO ?_
 refine xF [0,1,6,8,18] ?_
 refine W_cond rfl ?_ ?_
 · intro h18
   have hi2 : i < N := by rw [hN] at h18; simpa using h18
   refine W_skip ?_
   rintro -
   refine W_seq (W_block ?_)
   refine xU ?_
   iterate 2 refine xO ?_
   refine xC (ct157 g c i hc (by omega)) ?_
   iterate 5 refine xO ?_
   refine xG [0,1,6,8,9] ?_
   iterate 3 refine xO ?_
   refine xF [0,1,6,8,29] ?_
   refine W_cond rfl ?_ ?_
   · intro h29
     have hr := which_at (k := i) hc (by omega) (by simpa using h29)
     refine xU ?_
     iterate 3 refine xO ?_
     refine xF [4,5] ?_
     refine W_ret (xR (by simp [Tryz.f204]; exact .mk) ?_)
     simp [Tryz.f204, hr]
   intro h29
   have hno : (cellS c i).1 ≠ off := by simpa using h29
   refine W_skip ?_
   rintro -
   refine W_reg rfl ?_
   iterate 3 refine xO ?_
   refine xE [0,1,6,8] ?_
   refine rounds_kill [0,1,6,8] ?_
   refine rounds_next (m' := N - (i+1)) (by omega) ⟨i+1, rfl, by omega, ?_, ?_, rfl⟩
   · intro j hj
     rcases Nat.lt_succ_iff_lt_or_eq.1 hj with hj | rfl
     · exact hinv j hj
     exact hno
   rw [wrap64 (by omega) (by omega)]; rfl
 intro h18
 have hr : whichS c off = (0, false) := which_no hc ho (fun j hj => hinv j (by rw [hN] at h18; simp at h18; omega))
 refine W_exit (xT ?_)
 iterate 2 refine xO ?_
 refine xF [4,5] ?_
 refine W_ret (xR (by simp [Tryz.f204]; exact .mk) ?_)
 simp [Tryz.f204, hr]

theorem ct154 (g : Gl) (n : Int) : CtAt Tryz.prog g 154 [vI n] (.tup [vI (pagesS n).1, vI (pagesS n).2]) := by
 refine ctAt_of_W Tryz.func154 rfl rfl (Nat.le_of_ble_eq_true rfl) fun B S => ?_
 refine xU ?_
 iterate 2 refine xO ?_
 refine xF [0] ?_
 refine W_seq (xU ?_)
 iterate 3 refine xO ?_
 iterate 2 refine xI ?_
 refine xP ?_
 refine xF [0,9] ?_
 refine W_cond rfl ?_ ?_
 · intro h9
   have hr : pagesS n = (0, 1) := by unfold pagesS; rw [if_pos]; simp at h9; omega
   refine xU ?_
   iterate 2 refine xO ?_
   refine xF [2,3] ?_
   refine W_ret (xR (by simp [Tryz.f154]; exact .mk) ?_)
   simp [Tryz.f154, hr]
 intro h9
 have hn : ¬ (n ≤ 120 ∨ 2048 < n) := by simp at h9; omega
 have hr : pagesS n = ((n + 256 - 1).tdiv 256, 0) := by unfold pagesS; rw [if_neg hn]
 have w1 : IntKind.i64.wrap (n + 256) = n + 256 := wrap64 (by omega) (by omega)
 have w2 : IntKind.i64.wrap (n + 256 - 1) = n + 256 - 1 := wrap64 (by omega) (by omega)
 have w3 : IntKind.i64.wrap ((n + 256 - 1).tdiv 256) = (n + 256 - 1).tdiv 256 := wrap64 (by rw [Int.tdiv_eq_ediv_of_nonneg (by omega)]; omega) (by rw [Int.tdiv_eq_ediv_of_nonneg (by omega)]; omega)
 refine W_skip ?_
 refine xT ?_
 refine xO ?_
 refine xO ?_ (h := by simp [w1]; exact .mk)
 refine xO ?_ (h := by simp [w2]; exact .mk)
 refine xO ?_ (h := by simp [w3]; exact .mk)
 iterate 2 refine xO ?_
 refine xF [2,3] ?_
 refine W_ret (xR (by simp [Tryz.f154]; exact .mk) ?_)
 simp [Tryz.f154, hr]

theorem ct150 (g : Gl) (o : Int × Int) (hb : o.1 ≤ 2^62) : CtAt Tryz.prog g 150 [eObj o] (.tup [vI (cellO o).1.1, vI (cellO o).1.2.1, vI (cellO o).1.2.2, .v (.bool (cellO o).2)]) := by
 refine ctAt_of_W Tryz.func150 rfl rfl (Nat.le_of_ble_eq_true rfl) fun B S => ?_
 simp only [eObj, List.map, argD_agg]
 refine xU ?_
 iterate 5 refine xO ?_
 refine xG [1] ?_
 iterate 2 refine xO ?_
 refine xC (ct153 g o.2) ?_
 iterate 5 refine xO ?_
 refine xF [1,6,7] ?_
 refine W_seq (xU ?_)
 iterate 3 refine xO ?_
 iterate 3 refine xI ?_
 refine xP ?_
 refine xF [1,6,22] ?_
 refine W_cond rfl ?_ ?_
 · intro h22
   have hr : cellO o = ((0, 0, 0), false) := by unfold cellO; rw [if_pos]; simp at h22; grind
   refine xU ?_
   iterate 4 refine xO ?_
   refine xF [2,3,4,5] ?_
   refine W_ret (xR (by simp [Tryz.f150]; exact .mk) ?_)
   simp [Tryz.f150, hr]
 intro h22
 have hz : (classS o.2).2 = true ∧ ¬ o.1 < 0 := by simp at h22; grind
 have hr : cellO o = ((o.1.tdiv 32, (classS o.2).1, (whichS (classS o.2).1 (o.1.tmod 32)).1), (whichS (classS o.2).1 (o.1.tmod 32)).2) := by unfold cellO; rw [if_neg (by simp [hz])]
 obtain ⟨c, hc6, hcc⟩ := classS_c hz.1
 have hm : 0 ≤ o.1.tmod 32 ∧ o.1.tmod 32 < 32 := by rw [Int.tmod_eq_emod_of_nonneg (by omega)]; omega
 have w1 : IntKind.i64.wrap (o.1.tmod 32) = o.1.tmod 32 := wrap64 (by omega) (by omega)
 have hd : 0 ≤ o.1.tdiv 32 ∧ o.1.tdiv 32 ≤ o.1 := by rw [Int.tdiv_eq_ediv_of_nonneg (by omega)]; omega
 have w2 : IntKind.i64.wrap (o.1.tdiv 32) = o.1.tdiv 32 := wrap64 (by omega) (by omega)
 have cw := ct204 g (classS o.2).1 (o.1.tmod 32) (by omega) hm
 refine W_skip ?_
 refine xT ?_
 iterate 3 refine xO ?_
 refine xO ?_ (h := by simp [w1]; exact .mk)
 refine xC (cw) ?_
 iterate 5 refine xO ?_
 refine xG [1,6,8,9] ?_
 iterate 2 refine xO ?_
 refine xO ?_ (h := by simp [w2]; exact .mk)
 iterate 7 refine xO ?_
 refine xF [2,3,4,5] ?_
 refine W_ret (xR (by simp [Tryz.f150]; exact .mk) ?_)
 simp [Tryz.f150, hr]

theorem ct149 (g : Gl) (pages : Int) (o : Int × Int) (hp : 0 ≤ pages ∧ pages ≤ 64) (hb : o.1 ≤ 2^62) : CtAt Tryz.prog g 149 [vI pages, eObj o] (.tup [eObj (spanR pages o).1, .v (.bool (spanR pages o).2)]) := by
 refine ctAt_of_W Tryz.func149 rfl rfl (Nat.le_of_ble_eq_true rfl) fun B S => ?_
 simp only [eObj, List.map, argD_agg, argD_v]
 have c150 := ct150 g o hb
 simp only [eObj] at c150
 have c154 := ct154 g o.2
 refine xU ?_
 iterate 3 refine xO ?_
 refine xG [0,3,4] ?_
 refine xO ?_
 refine xC (c150) ?_ (he := by simp [eObj]; exact .mk)
 iterate 9 refine xO ?_
 refine xF [0,3,4,6,9] ?_
 refine W_seq (xU ?_)
 refine xO ?_
 refine xF [0,3,4,6,20] ?_
 refine W_cond rfl ?_ ?_
 · intro h20
   have hz : (cellO o).2 = true := by simpa using h20
   have hr : spanR pages o = (((cellO o).1.1, 1), decide ((cellO o).1.1 < pages)) := by unfold spanR; rw [if_pos hz]
   refine xU ?_
   refine xO ?_
   refine xO ?_ (h := by simp [splice]; exact .mk)
   iterate 3 refine xO ?_
   refine xO ?_ (h := by simp [splice]; exact .mk)
   refine xO ?_
   refine xF [4,5] ?_
   refine W_ret (xR (by simp [Tryz.f149]; exact .mk) ?_)
   simp [Tryz.f149, hr, eObj]
 intro h20
 have hz : (cellO o).2 = false := by simpa using h20
 refine W_skip ?_
 refine xT ?_
 iterate 2 refine xO ?_
 refine xC (c154) ?_ (he := by simp [eObj]; exact .mk)
 iterate 5 refine xO ?_
 refine xF [0,3,4,10,11] ?_
 refine W_seq (xU ?_)
 iterate 3 refine xO ?_
 iterate 3 refine xI ?_
 refine xP ?_
 refine xB ?_
 iterate 4 refine xI ?_
 refine xP ?_
 refine xF [0,3,4,10,44] ?_
 refine W_cond rfl ?_ ?_
 · intro h44
   have hq : (pagesS o.2).2 ≠ 0 ∨ o.1 < 0 ∨ o.1.tmod 32 ≠ 0 := by simp at h44; grind
   have hr : spanR pages o = ((0, 0), false) := by unfold spanR; rw [if_neg (by simp [hz]), if_pos hq]
   refine xU ?_
   iterate 2 (refine xO ?_ (h := by simp [splice]; exact .mk))
   refine xO ?_
   refine xF [4,5] ?_
   refine W_ret (xR (by simp [Tryz.f149]; exact .mk) ?_)
   simp [Tryz.f149, hr, eObj]
 intro h44
 have hq : ¬ ((pagesS o.2).2 ≠ 0 ∨ o.1 < 0 ∨ o.1.tmod 32 ≠ 0) := by simp at h44; grind
 have hr : spanR pages o = ((o.1.tdiv 32, (pagesS o.2).1), decide (o.1.tdiv 32 ≤ pages) && decide ((pagesS o.2).1 ≤ pages - o.1.tdiv 32)) := by unfold spanR; rw [if_neg (by simp [hz]), if_neg hq]
 have hd : 0 ≤ o.1.tdiv 32 ∧ o.1.tdiv 32 ≤ o.1 := by rw [Int.tdiv_eq_ediv_of_nonneg (by omega)]; omega
 have w2 : IntKind.i64.wrap (o.1.tdiv 32) = o.1.tdiv 32 := wrap64 (by omega) (by omega)
 have w3 : IntKind.i64.wrap (pages - o.1.tdiv 32) = pages - o.1.tdiv 32 := wrap64 (by omega) (by omega)
 refine W_skip ?_
 refine xT ?_
 iterate 2 refine xO ?_
 refine xO ?_ (h := by simp [w2]; exact .mk)
 refine xO ?_
 refine xO ?_ (h := by simp [splice]; exact .mk)
 refine xO ?_
 refine xO ?_ (h := by simp [splice]; exact .mk)
 refine xF [0,4,12] ?_
 refine W_seq ?_
 refine W_regDS (hard := []) [7,10,14] (keepOk_lt (by decide)) (by kernel_rfl) 4 [[0,1,2,3,4,5,6,7,8,9,10,11,12,13,14,15], [0,1,2,3,4,5,6,7,8,9,14,10,11,12,13,15], [0,1,2,3,4,5,6,8,9,10,7,11,12,13,14,15], [0,1,2,3,4,5,6,8,9,10,11,14,7,12,13,15], [0,1,2,3,4,5,6,8,9,14,7,10,11,12,13,15], [0,1,2,3,4,5,6,8,9,14,10,7,11,12,13,15]] (by decide +kernel) ⟨?_, ?_, ?_, ?_, ?_, ?_, trivial⟩
 · skip
   iterate 6 refine xO ?_
   iterate 5 refine xI ?_
   refine run_if rfl (by simp; exact .mk) rfl (by simp <;> first | omega | grind) (fun hb => by simp [w3]; exact .mk) ?_
   refine xI ?_
   refine xP ?_
   refine run_op1 rfl rfl rfl (by simp <;> first | omega | grind) (by simp [splice]; exact .mk) ?_
   refine xB ?_
   refine xF [4,5] ?_
   refine W_ret (xR (by simp [Tryz.f149]; exact .mk) ?_)
   simp [Tryz.f149, hr, eObj]
 · skip
   iterate 6 refine xO ?_
   iterate 4 refine xI ?_
   refine run_op1 rfl rfl rfl (by simp <;> first | omega | grind) (by simp [splice]; exact .mk) ?_
   refine xI ?_
   refine run_if rfl (by simp; exact .mk) rfl (by simp <;> first | omega | grind) (fun hb => by simp [w3]; exact .mk) ?_
   refine xI ?_
   refine xP ?_
   refine xB ?_
   refine xF [4,5] ?_
   refine W_ret (xR (by simp [Tryz.f149]; exact .mk) ?_)
   simp [Tryz.f149, hr, eObj]
 · skip
   iterate 6 refine xO ?_
   iterate 5 refine xI ?_
   refine run_if rfl (by simp; exact .mk) rfl (by simp <;> first | omega | grind) (fun hb => by simp [w3]; exact .mk) ?_
   refine xI ?_
   refine xP ?_
   refine run_op1 rfl rfl rfl (by simp <;> first | omega | grind) (by simp [splice]; exact .mk) ?_
   refine xB ?_
   refine xF [4,5] ?_
   refine W_ret (xR (by simp [Tryz.f149]; exact .mk) ?_)
   simp [Tryz.f149, hr, eObj]
 · skip
   iterate 6 refine xO ?_
   iterate 4 refine xI ?_
   refine run_if rfl (by simp; exact .mk) rfl (by simp <;> first | omega | grind) (fun hb => by simp [w3]; exact .mk) ?_
   refine run_op1 rfl rfl rfl (by simp <;> first | omega | grind) (by simp [splice]; exact .mk) ?_
   iterate 2 refine xI ?_
   refine xP ?_
   refine xB ?_
   refine xF [4,5] ?_
   refine W_ret (xR (by simp [Tryz.f149]; exact .mk) ?_)
   simp [Tryz.f149, hr, eObj]
 · skip
   iterate 6 refine xO ?_
   iterate 3 refine xI ?_
   refine run_op1 rfl rfl rfl (by simp <;> first | omega | grind) (by simp [splice]; exact .mk) ?_
   iterate 2 refine xI ?_
   refine run_if rfl (by simp; exact .mk) rfl (by simp <;> first | omega | grind) (fun hb => by simp [w3]; exact .mk) ?_
   refine xI ?_
   refine xP ?_
   refine xB ?_
   refine xF [4,5] ?_
   refine W_ret (xR (by simp [Tryz.f149]; exact .mk) ?_)
   simp [Tryz.f149, hr, eObj]
 skip
 iterate 6 refine xO ?_
 iterate 3 refine xI ?_
 refine run_op1 rfl rfl rfl (by simp <;> first | omega | grind) (by simp [splice]; exact .mk) ?_
 iterate 2 refine xI ?_
 refine run_if rfl (by simp; exact .mk) rfl (by simp <;> first | omega | grind) (fun hb => by simp [w3]; exact .mk) ?_
 refine xI ?_
 refine xP ?_
 refine xB ?_
 refine xF [4,5] ?_
 refine W_ret (xR (by simp [Tryz.f149]; exact .mk) ?_)
 simp [Tryz.f149, hr, eObj]

open Go.Awp
theorem ct97 (g : Gl) (pages : Int) (l : List (Int × Int)) (hl : l.length ≤ 2^40) (hb : ∀ i, i < l.length → (nth l i).1 ≤ 2^62) : CtAt Tryz.prog g 97 [vI pages, rO l] (.tup [oI (kindsR pages l).1, .v (.bool (kindsR pages l).2)]) := by
 refine ctAt_of_W Tryz.func97 rfl rfl (Nat.le_of_ble_eq_true rfl) fun B S => ?_
 refine xU ?_
 iterate 2 refine xO ?_
 refine xF [0,1] ?_
 refine W_seq (xU ?_)
 iterate 3 refine xO ?_
 iterate 2 refine xI ?_
 refine xP ?_
 refine xF [0,1,22] ?_
 refine W_cond rfl ?_ ?_
 · intro h22
   have hr : kindsR pages l = ([], false) := kindsR_out (by simp at h22; omega)
   refine xU ?_
   iterate 2 refine xO ?_
   refine xF [4,5] ?_
   refine W_ret (xR (by simp [Tryz.f97]; exact .mk) ?_)
   simp [Tryz.f97, hr, ownR]
 intro h22
 have h0 : 0 ≤ pages ∧ pages ≤ 64 := by simp at h22; omega
 obtain ⟨N, rfl⟩ : ∃ N : Nat, pages = N := ⟨pages.toNat, by omega⟩
 have n1 : (N : Int) * 8 ≤ 140737488355328 := by omega
 have n2 : (N : Int) ≤ 140737488355328 := by omega
 have n3 : (8 : Int) * N ≤ 140737488355328 := by omega
 have n4 : 8 * N ≤ 140737488355328 := by omega
 have n5 : N ≤ 140737488355328 := by omega
 refine W_skip ?_
 refine xT ?_
 refine xO ?_
 refine xO ?_ (h := by simp [n1, n2, n3, n4, n5]; exact .mk)
 refine xO ?_
 refine xF [0,1,6] ?_
 refine W_seq (xU ?_)
 refine xO ?_
 refine xF [0,1,6,7] ?_
 refine W_block (W_rounds (fun m σ o => ∃ i : Nat, m = N - i ∧ i ≤ N ∧ σ = slots [(0, .d (vI N)), (1, .d (rO l)), (6, .hdr 0 0 N), (7, .d (vI i))] ∧ o = [.row 1 ((fillL N i).map vI)]) (N) .refl ⟨0, by simp, by simp, by simp, by rw [fillL_0]; simp⟩ ?_)
 rintro m σ o ⟨i, rfl, hi, rfl, rfl⟩ _
 refine W_seq (xU ?_)
 iterate 3 refine xO ?_
 refine xF [0,1,6,7,27] ?_
 refine W_cond rfl ?_ ?_
 · intro h27
   have hi2 : i < N := by simp at h27; omega
   have r1 : i < (fillL N i).length := by rw [fillL_len hi]; exact hi2
   refine W_skip ?_
   rintro -
   refine W_seq (W_block ?_)
   refine W_reg rfl ?_
   iterate 2 refine xO ?_
   refine xO ?_ (h := by simp [eObj, hi2]; exact .mk)
   refine xO ?_ (h := by simp [splice, hi2, r1, nrmL, nrm, putC]; exact .mk)
   refine xF [0,1,6,7] ?_
   refine W_reg rfl ?_
   iterate 3 refine xO ?_
   refine xE [0,1,6,7] ?_
   refine rounds_kill [0,1,6,7] ?_
   exact rounds_next (m' := N - (i + 1)) (by omega) ⟨i + 1, rfl, by omega, by rw [wrap64 (by omega) (by omega)]; rfl, by simp [fillL_set hi2]⟩
 intro h27
 obtain rfl : i = N := by simp at h27; omega
 rw [show fillL i i = (stI (i : Int) l 0).1 by rw [fillL_n]; simp [stI]]
 obtain ⟨N, rfl⟩ : ∃ N, N = i := ⟨_, rfl⟩
 refine W_exit ?_
 rintro -
 refine W_seq (xU ?_)
 refine xO ?_
 refine xF [0,1,6,8] ?_
 refine W_block (W_rounds (fun m σ o => ∃ i : Nat, m = l.length - i ∧ i ≤ l.length ∧ (∀ j, j < i → okI (N : Int) l j = true) ∧ σ = slots [(0, .d (vI N)), (1, .d (rO l)), (6, .hdr 0 0 N), (8, .d (vI i))] ∧ o = [.row 1 ((stI (N : Int) l i).1.map vI)]) l.length .refl ⟨0, by simp, by simp, by simp, rfl, rfl⟩ ?_)
 rintro m σ o ⟨i, rfl, hi, hinv, rfl, rfl⟩ _
 have hkl : (stI (N : Int) l i).1.length = N := by rw [stI_len.1]; simp
 refine W_seq (xU ?_)
 iterate 4 refine xO ?_
 refine xF [0,1,6,8,36] ?_
 refine W_cond rfl ?_ ?_
 · intro h36
   have hi2 : i < l.length := by simpa using h36
   obtain ⟨q1, q2⟩ := spanR_eq (pages := (N : Int)) (o := nth l i)
   refine W_skip ?_
   rintro -
   refine W_seq (W_block ?_)
   refine xU ?_
   iterate 3 refine xO ?_
   refine xO ?_ (h := by simp [eObj, hi2]; exact .mk)
   refine xO ?_ (h := by simp [-List.getElem?_map, map_get hi2, eObj]; exact .mk)
   refine xC (ct149 g N (nth l i) h0 (hb i hi2)) ?_
   iterate 4 refine xO ?_
   refine xO ?_ (h := by simp [splice]; exact .mk)
   refine xO ?_
   refine xF [0,1,6,8,9,10] ?_
   refine W_seq (xU ?_)
   iterate 2 refine xO ?_
   refine xF [0,1,6,8,9,49] ?_
   refine W_cond rfl ?_ ?_
   · intro h49
     have hr : kindsR (N : Int) l = ([], false) := kindsR_bad hi2 (okI_bad (by rw [← q1]; simpa using h49))
     refine xU ?_
     iterate 2 refine xO ?_
     refine xF [4,5] ?_
     refine W_ret (xR (by simp [Tryz.f97]; exact .mk) ?_)
     simp [Tryz.f97, hr, ownR]
   intro h49
   have hs : (spotS (N : Int) (nth l i)).2 = true := by rw [← q1]; simpa using h49
   obtain ⟨q3, q4, q5⟩ := q2 hs
   rw [q3]
   refine W_skip ?_
   refine xT ?_
   iterate 2 refine xO ?_
   refine xO ?_ (h := by simp [eObj, hi2]; exact .mk)
   refine xO ?_ (h := by simp [-List.getElem?_map, map_get hi2, eObj]; exact .mk)
   refine xC (ct150 g (nth l i) (hb i hi2)) ?_
   iterate 9 refine xO ?_
   refine xF [0,1,6,8,9,11,12,14] ?_
   refine W_seq (xU ?_)
   refine xO ?_
   refine xF [0,1,6,8,9,11,12,60] ?_
   refine W_cond rfl ?_ ?_
   · intro h60
     have hsm : (spotI (N : Int) l i).small = true := by show (spotS (N : Int) (nth l i)).1.small = true; rw [← q4]; simpa using h60
     have q6 := q5 hsm
     obtain ⟨p, c, k, e1, e2, e3, hc6, hpN, hk64, ha, hq⟩ := spot_cell hs hsm
     have hp2 : p < N := by omega
     have hpl : p < (stI (N : Int) l i).1.length := by omega
     have hpt : (spotI (N : Int) l i).page.toNat = p := by show (spotS (N : Int) (nth l i)).1.page.toNat = p; omega
     have hct : (spotI (N : Int) l i).cls = c := e2
     simp only [q6, e1, e2]
     refine W_seq (xU ?_)
     iterate 2 refine xO ?_
     refine xO ?_ (h := by simp [eObj, hp2]; exact .mk)
     refine xO ?_ (h := by simp [-List.getElem?_map, map_get hpl]; exact .mk)
     iterate 2 refine xO ?_
     iterate 2 refine xI ?_
     refine run_if rfl (by simp; exact .mk) rfl (by simp <;> first | omega | grind) (fun hb => by simp [eObj, hp2]; exact .mk) ?_
     refine run_if rfl (by simp; exact .mk) rfl (by simp <;> first | omega | grind) (fun hb => by simp [-List.getElem?_map, map_get hpl]; exact .mk) ?_
     iterate 2 refine xI ?_
     refine xP ?_
     refine xF [0,1,6,8,11,12,73] ?_
     refine W_cond rfl ?_ ?_
     · intro h73
       have hr : kindsR (N : Int) l = ([], false) := kindsR_bad hi2 (small_kind hs hsm (by rw [hpt]; simp at h73; exact h73.1) (by rw [hpt, hct]; simp at h73; exact h73.2))
       refine xU ?_
       iterate 2 refine xO ?_
       refine xF [4,5] ?_
       refine W_ret (xR (by simp [Tryz.f97]; exact .mk) ?_)
       simp [Tryz.f97, hr, ownR]
     intro h73
     have hk : nth (stI (N : Int) l i).1 p = -1 ∨ nth (stI (N : Int) l i).1 p = c := by simp at h73; grind
     refine W_skip ?_
     rintro -
     refine W_seq (xU ?_)
     refine xO ?_
     refine xF [0,1,6,8,11,12,15] ?_
     refine W_block (W_rounds (fun m σ o => ∃ j : Nat, m = i - j ∧ j ≤ i ∧ (∀ t, t < j → (nth l t).1 ≠ (nth l i).1) ∧ σ = slots [(0, .d (vI N)), (1, .d (rO l)), (6, .hdr 0 0 N), (8, .d (vI i)), (11, .d (vI p)), (12, .d (vI c)), (15, .d (vI j))] ∧ o = [.row 1 ((stI (N : Int) l i).1.map vI), .var 115 [.d (vI (p : Int)), .d (vI (spotS (N : Int) (nth l i)).1.count)]]) i .refl ⟨0, by simp, by simp, by simp, rfl, rfl⟩ ?_)
     rintro m σ o ⟨j, rfl, hj, hinv2, rfl, rfl⟩ _
     refine W_seq (xU ?_)
     iterate 3 refine xO ?_
     refine xF [0,1,6,8,11,12,15,76] ?_
     refine W_cond rfl ?_ ?_
     · intro h76
       have hj2 : j < i := by simpa using h76
       have hj3 : j < l.length := by omega
       refine W_skip ?_
       rintro -
       refine W_seq (W_block ?_)
       refine W_seq ?_
       refine W_regD (by kernel_rfl) [] 4 [0,1,2,3,4,5,6,7,8,9,10] (by decide +kernel) ?_
       iterate 2 refine xO ?_
       refine xO ?_ (h := by simp [eObj, hj3]; exact .mk)
       refine xO ?_
       refine xO ?_ (h := by simp [-List.getElem?_map, map_get hj3, eObj]; exact .mk)
       iterate 2 refine xO ?_
       refine xO ?_ (h := by simp [eObj, hi2]; exact .mk)
       refine xO ?_
       refine xO ?_ (h := by simp [-List.getElem?_map, map_get hi2, eObj]; exact .mk)
       refine xO ?_
       refine xF [0,1,6,8,11,12,15,89] ?_
       refine W_cond rfl ?_ ?_
       · intro h89
         have hr : kindsR (N : Int) l = ([], false) := kindsR_bad hi2 (small_had h0 hi2 hinv hs hsm hj2 (by simpa using h89))
         refine xU ?_
         iterate 2 refine xO ?_
         refine xF [4,5] ?_
         refine W_ret (xR (by simp [Tryz.f97]; exact .mk) ?_)
         simp [Tryz.f97, hr, ownR]
       intro h89
       have hne : (nth l j).1 ≠ (nth l i).1 := by simpa using h89
       refine W_skip ?_
       rintro -
       refine W_reg rfl ?_
       iterate 3 refine xO ?_
       refine xE [0,1,6,8,11,12,15] ?_
       refine rounds_kill [0,1,6,8,11,12,15] ?_
       refine rounds_next (m' := i - (j+1)) (by omega) ⟨j+1, rfl, by omega, ?_, ?_, rfl⟩
       · intro t ht
         rcases Nat.lt_succ_iff_lt_or_eq.1 ht with ht | rfl
         · exact hinv2 t ht
         exact hne
       rw [wrap64 (by omega) (by omega)]; rfl
     intro h76
     have hok := small_ok h0 hi2 hinv hs hsm (by rw [hpt, hct]; exact hk) (fun t ht => hinv2 t (by simp at h76; omega))
     rw [hpt, hct] at hok
     refine W_exit (xT ?_)
     iterate 3 refine xO ?_
     refine xO ?_ (h := by simp [eObj, hp2]; exact .mk)
     refine xO ?_ (h := by simp [splice, hp2, hpl]; exact .mk)
     refine xF [0,1,6,8] ?_
     refine W_exit ?_
     rintro -
     refine W_reg rfl ?_
     iterate 3 refine xO ?_
     refine xE [0,1,6,8] ?_
     refine rounds_kill [0,1,6,8] ?_
     refine rounds_drop 1 [0,1,6,8] (by decide) (by rfl) (by rfl) ?_
     refine rounds_next (m' := l.length - (i+1)) (by omega) ⟨i+1, rfl, by omega, ?_, ?_, ?_⟩
     · intro j hj
       rcases Nat.lt_succ_iff_lt_or_eq.1 hj with hj | rfl
       · exact hinv j hj
       exact hok.1
     · rw [wrap64 (by omega) (by omega)]; rfl
     rw [hok.2, List.map_set]; rfl
   intro h60
   have hsm : (spotI (N : Int) l i).small = false := by show (spotS (N : Int) (nth l i)).1.small = false; rw [← q4]; simpa using h60
   obtain ⟨p, n, c, e0, hpN, hn1, hpn, _⟩ := spot_ok hs
   have e1 : (spotS (N : Int) (nth l i)).1.page = p := by rw [e0]
   have e2 : (spotS (N : Int) (nth l i)).1.count = n := by rw [e0]
   have hp2 : p < N := by omega
   obtain ⟨l1, l2⟩ := large_eq hs hsm
   have hpt : (spotI (N : Int) l i).page.toNat = p := by show (spotS (N : Int) (nth l i)).1.page.toNat = p; omega
   have hnt : (spotI (N : Int) l i).count.toNat = n := by show (spotS (N : Int) (nth l i)).1.count.toNat = n; omega
   rw [hpt, hnt] at l1 l2
   have w1 : IntKind.i64.wrap ((p : Int) + n) = p + n := wrap64 (by omega) (by omega)
   simp only [e1, e2]
   refine W_skip ?_
   rintro -
   refine W_seq (xU ?_)
   refine xO ?_
   refine xO ?_ (h := by simp [eObj]; exact .mk)
   refine xO ?_
   refine xF [0,1,6,8,9,16] ?_
   refine W_block (W_rounds (fun m σ o => ∃ (t : Nat) (cur : List Int), m = n - t ∧ t ≤ n ∧ cur.length = N ∧ fillF p (n - t) t cur = fillF p n 0 (stI (N : Int) l i).1 ∧ σ = slots [(0, .d (vI N)), (1, .d (rO l)), (6, .hdr 0 0 N), (8, .d (vI i)), (9, .ptr 1 0 0), (16, .d (vI ((p + t : Nat) : Int)))] ∧ o = [.row 1 (cur.map vI), .var 115 [.d (vI (p : Int)), .d (vI (n : Int))]]) n .refl ⟨0, _, by simp, by simp, hkl, rfl, rfl, rfl⟩ ?_)
   rintro m σ o ⟨t, cur, rfl, ht, hcl, hfl, rfl, rfl⟩ _
   refine W_seq (xU ?_)
   iterate 2 refine xO ?_
   refine xO ?_ (h := by simp [eObj]; exact .mk)
   refine xO ?_
   refine xO ?_ (h := by simp [eObj]; exact .mk)
   refine xO ?_ (h := by simp [w1]; exact .mk)
   refine xO ?_
   refine xF [0,1,6,8,9,16,102] ?_
   refine W_cond rfl ?_ ?_
   · intro h102
     have ht2 : t < n := by simp at h102; omega
     have ht3 : p + t < N := by omega
     have ht4 : p + t < cur.length := by omega
     have ht5 : (p : Int) + t < N := by omega
     have ht6 : (0 : Int) ≤ (p : Int) + t := by omega
     have ht7 : ((p : Int) + t).toNat = p + t := by omega
     obtain ⟨f, hf⟩ : ∃ f, n - t = f + 1 := ⟨n - t - 1, by omega⟩
     rw [hf] at hfl
     refine W_skip ?_
     rintro -
     refine W_seq (W_block ?_)
     refine W_seq (xU ?_)
     iterate 2 refine xO ?_
     refine xO ?_ (h := by simp [eObj, ht3, ht5, ht6, ht7]; exact .mk)
     refine xO ?_ (h := by simp [-List.getElem?_map, map_get ht4]; exact .mk)
     refine xO ?_
     refine xF [0,1,6,8,9,16,109] ?_
     refine W_cond rfl ?_ ?_
     · intro h109
       have hr : kindsR (N : Int) l = ([], false) := kindsR_bad hi2 (by rw [l1, ← hfl, fillF_f (by simpa using h109)])
       refine xU ?_
       iterate 2 refine xO ?_
       refine xF [4,5] ?_
       refine W_ret (xR (by simp [Tryz.f97]; exact .mk) ?_)
       simp [Tryz.f97, hr, ownR]
     intro h109
     rw [fillF_t (by simpa using h109)] at hfl
     refine W_skip ?_
     rintro -
     refine W_reg rfl ?_
     iterate 2 refine xO ?_
     refine xO ?_ (h := by simp [eObj, ht3, ht5, ht6, ht7]; exact .mk)
     refine xO ?_ (h := by simp [splice, ht3, ht4]; exact .mk)
     refine xF [0,1,6,8,9,16] ?_
     refine W_reg rfl ?_
     iterate 3 refine xO ?_
     refine xE [0,1,6,8,9,16] ?_
     refine rounds_kill [0,1,6,8,9,16] ?_
     refine rounds_next (m' := n - (t+1)) (by omega) ⟨t+1, cur.set (p + t) 7, rfl, by omega, by simpa using hcl, by rw [← hfl, show n - (t + 1) = f by omega], ?_, ?_⟩
     · rw [wrap64 (by omega) (by omega)]; rfl
     rw [List.map_set]; rfl
   intro h102
   obtain rfl : t = n := by simp at h102; omega
   rw [Nat.sub_self] at hfl
   have hfl2 : (true, cur) = fillF p t 0 (stI (N : Int) l i).1 := hfl
   rw [← hfl2] at l1 l2
   have hok : okI (N : Int) l i = true ∧ (stI (N : Int) l (i + 1)).1 = cur.set p 6 := ⟨l1, l2 l1⟩
   have hpc : p < cur.length := by omega
   refine W_exit ?_
   rintro -
   refine W_reg rfl ?_
   iterate 2 refine xO ?_
   refine xO ?_ (h := by simp [eObj]; exact .mk)
   refine xO ?_ (h := by simp [eObj, hp2]; exact .mk)
   refine xO ?_ (h := by simp [splice, hp2, hpc]; exact .mk)
   refine xF [0,1,6,8] ?_
   refine W_reg rfl ?_
   iterate 3 refine xO ?_
   refine xE [0,1,6,8] ?_
   refine rounds_kill [0,1,6,8] ?_
   refine rounds_drop 1 [0,1,6,8] (by decide) (by rfl) (by rfl) ?_
   refine rounds_next (m' := l.length - (i+1)) (by omega) ⟨i+1, rfl, by omega, ?_, ?_, ?_⟩
   · intro j hj
     rcases Nat.lt_succ_iff_lt_or_eq.1 hj with hj | rfl
     · exact hinv j hj
     exact hok.1
   · rw [wrap64 (by omega) (by omega)]; rfl
   rw [hok.2, List.map_set]; rfl
 intro h36
 obtain rfl : i = l.length := by simp at h36; omega
 have hr := kindsR_good h0 hinv
 obtain ⟨K, hK⟩ : ∃ K, K = (stI (N : Int) l l.length).1 := ⟨_, rfl⟩
 rw [← hK] at hr hkl ⊢
 subst hkl
 refine W_exit (xT ?_)
 iterate 3 refine xO ?_
 refine xF [4,5] ?_
 refine W_ret (xR (by simp [Tryz.f97]; exact .mk) ?_)
 simp [Tryz.f97, hr, ownR]

open Go.Awp
/- Facts for the document's walks: taken cells, places, mates. -/
def takenB (l : List (Int × Int)) (a : Int) : Bool := (List.range l.length).any fun j => (nth l j).1 == a
def mateIx (pages : Int) (l : List (Int × Int)) (page : Int) (i : Nat) : List Nat := (List.range i).filter fun j => coverB pages page (nth l j)
def matesR (pages : Int) (l : List (Int × Int)) (page : Int) : List Nat := if (laidS pages l).isSome = true then matesS pages l page else []
open Go.Awp
open Go.Awp
open Go.Awp
theorem ct95 (g : Gl) (fr to : Int) (l : List (Int × Int)) (hl : l.length ≤ 2^40) : CtAt Tryz.prog g 95 [vI fr, vI to, rO l] (.v (.bool (gapsS fr to l))) := by
 refine ctAt_of_W Tryz.func95 rfl rfl (Nat.le_of_ble_eq_true rfl) fun B S => ?_
 refine xU ?_
 refine xO ?_
 refine xF [0,1,2] ?_
 refine W_seq (xU ?_)
 iterate 3 refine xO ?_
 iterate 3 refine xI ?_
 refine xP ?_
 refine xB ?_
 iterate 2 refine xI ?_
 refine xP ?_
 refine xB ?_
 iterate 3 refine xI ?_
 refine xP ?_
 refine xB ?_
 iterate 3 refine xI ?_
 refine xP ?_
 refine xF [0,1,2,30] ?_
 refine W_cond rfl ?_ ?_
 · intro h30
   have hr : gapsS fr to l = false := by
    have : gapsHead fr to = false := by simp [gapsHead]; simp at h30; grind
    simp [gapsS, this]
   refine xU ?_
   refine xO ?_
   refine xF [6] ?_
   refine W_ret (xR (by simp [Tryz.f95]; exact .mk) ?_)
   simp [Tryz.f95, hr]
 intro h30
 have hh : 0 ≤ fr ∧ fr ≤ to ∧ to ≤ 2048 ∧ fr.tmod 4 = 0 ∧ to.tmod 4 = 0 := by simp at h30; grind
 have hr0 : gapsS fr to l = gapsOk to fr l := by
  have : gapsHead fr to = true := by simp [gapsHead]; grind
  simp [gapsS, this]
 refine W_skip ?_
 refine xT ?_
 iterate 2 refine xO ?_
 refine xF [1,2,7] ?_
 refine W_seq (xU ?_)
 refine xO ?_
 refine xF [1,2,7,8] ?_
 refine W_block (W_rounds (fun m σ o => ∃ (i : Nat) (a : Int), m = l.length - i ∧ i ≤ l.length ∧ (0 ≤ a ∧ a ≤ 2048) ∧ gapsOk to fr l = gapsOk to a (l.drop i) ∧ σ = slots [(1, .d (vI to)), (2, .d (rO l)), (7, .d (vI a)), (8, .d (vI i))] ∧ o = []) l.length .refl ⟨0, fr, by simp, by simp, ⟨by omega, by omega⟩, by simp, rfl, rfl⟩ ?_)
 rintro m σ o ⟨i, a, rfl, hi, ha, hgo, rfl, rfl⟩ _
 refine W_seq (xU ?_)
 iterate 4 refine xO ?_
 refine xF [1,2,7,8,35] ?_
 refine W_cond rfl ?_ ?_
 · intro h35
   have hi2 : i < l.length := by simpa using h35
   rw [gapsOk_drop hi2] at hgo
   obtain ⟨p, hp⟩ : ∃ p, p = nth l i := ⟨_, rfl⟩
   rw [← hp] at hgo
   refine W_skip ?_
   rintro -
   refine W_seq (W_block ?_)
   refine xU ?_
   iterate 2 refine xO ?_
   refine xO ?_ (h := by simp [eObj, hi2]; exact .mk)
   refine xO ?_ (h := by simp [-List.getElem?_map, map_get hi2, eObj, ← hp]; exact .mk)
   refine xO ?_
   refine xO ?_ (h := by simp [splice]; exact .mk)
   refine xF [1,2,7,8,9] ?_
   refine W_seq (xU ?_)
   refine xO ?_
   refine xO ?_ (h := by simp [eObj]; exact .mk)
   iterate 3 refine xO ?_
   refine xI ?_
   refine run_if rfl (by simp; exact .mk) rfl (by simp <;> first | omega | grind) (fun hb => by simp [eObj]; exact .mk) ?_
   iterate 2 refine xI ?_
   refine xP ?_
   refine xB ?_
   refine xI ?_
   refine run_if rfl (by simp; exact .mk) rfl (by simp <;> first | omega | grind) (fun hb => by simp [eObj]; exact .mk) ?_
   refine xI ?_
   refine xP ?_
   refine xB ?_
   refine xI ?_
   refine run_if rfl (by simp; exact .mk) rfl (by simp <;> first | omega | grind) (fun hb => by simp [eObj]; exact .mk) ?_
   iterate 2 refine xI ?_
   refine run_if rfl (by simp; exact .mk) rfl (by simp <;> first | omega | grind) (fun hb => by simp [eObj]; exact .mk) ?_
   refine run_if rfl (by simp; exact .mk) rfl (by simp <;> first | omega | grind) (fun hb => by simp at hb; have w := wrap64 (x := to - p.1) (by omega) (by omega); simp [w]; exact .mk) ?_
   refine xI ?_
   refine xP ?_
   refine xB ?_
   refine xI ?_
   refine run_if rfl (by simp; exact .mk) rfl (by simp <;> first | omega | grind) (fun hb => by simp [eObj]; exact .mk) ?_
   iterate 2 refine xI ?_
   refine xP ?_
   refine xB ?_
   refine xI ?_
   refine run_if rfl (by simp; exact .mk) rfl (by simp <;> first | omega | grind) (fun hb => by simp [eObj]; exact .mk) ?_
   iterate 2 refine xI ?_
   refine xP ?_
   refine xF [1,2,8,9,77] ?_
   refine W_cond rfl ?_ ?_
   · intro h77
     have hbad : gapBad to a p = true := by simp [gapBad]; simp at h77; grind
     have hr : gapsS fr to l = false := by rw [hr0, hgo, hbad]; rfl
     refine xU ?_
     refine xO ?_
     refine xF [6] ?_
     refine W_ret (xR (by simp [Tryz.f95]; exact .mk) ?_)
     simp [Tryz.f95, hr]
   intro h77
   have hbad : gapBad to a p = false := by simp [gapBad]; simp at h77; grind
   rw [hbad] at hgo
   have hgb := gapBad_f hbad
   have w2 : IntKind.i64.wrap (p.1 + p.2) = p.1 + p.2 := wrap64 (by omega) (by omega)
   refine W_skip ?_
   rintro -
   refine W_reg rfl ?_
   refine xO ?_
   refine xO ?_ (h := by simp [eObj]; exact .mk)
   refine xO ?_
   refine xO ?_ (h := by simp [eObj]; exact .mk)
   refine xO ?_ (h := by simp [w2]; exact .mk)
   refine xO ?_
   refine xF [1,2,7,8] ?_
   refine W_reg rfl ?_
   iterate 3 refine xO ?_
   refine xE [1,2,7,8] ?_
   refine rounds_drop 0 [1,2,7,8] (by simp) (by simp) (by simp) ?_
   refine rounds_next (m' := l.length - (i+1)) (by omega) ⟨i+1, p.1 + p.2, rfl, by omega, ⟨by omega, by omega⟩, by simpa using hgo, ?_, rfl⟩
   rw [wrap64 (by omega) (by omega)]; rfl
 intro h35
 obtain rfl : i = l.length := by simp at h35; omega
 have hr : gapsS fr to l = true := by rw [hr0, hgo, List.drop_length]; rfl
 refine W_exit (xT ?_)
 refine xO ?_
 refine xF [6] ?_
 refine W_ret (xR (by simp [Tryz.f95]; exact .mk) ?_)
 simp [Tryz.f95, hr]

theorem ct87 (g : Gl) (n : Int) : CtAt Tryz.prog g 87 [vI n] (.tup [vI (needS n).1, vI (needS n).2]) := by
 refine ctAt_of_W Tryz.func87 rfl rfl (Nat.le_of_ble_eq_true rfl) fun B S => ?_
 refine xU ?_
 iterate 2 refine xO ?_
 refine xF [0] ?_
 refine W_seq (xU ?_)
 iterate 3 refine xO ?_
 iterate 2 refine xI ?_
 refine xP ?_
 refine xF [0,10] ?_
 refine W_cond rfl ?_ ?_
 · intro h10
   have hr : needS n = (0, 1) := by unfold needS; rw [if_pos]; simp at h10; omega
   refine xU ?_
   iterate 2 refine xO ?_
   refine xF [2,3] ?_
   refine W_ret (xR (by simp [Tryz.f87]; exact .mk) ?_)
   simp [Tryz.f87, hr]
 intro h10
 have hn : ¬ (n < 1 ∨ 2048 < n) := by simp at h10; omega
 have hr : needS n = (upS (2 + (n + 8 - 1).tdiv 8), 0) := by unfold needS; rw [if_neg hn]
 have w1 : IntKind.i64.wrap (n + 7) = n + 7 := wrap64 (by omega) (by omega)
 have d1 : (n + 8 - 1).tdiv 8 = (n + 7).tdiv 8 := by congr 1; omega
 have d2 : 0 ≤ (n + 7).tdiv 8 ∧ (n + 7).tdiv 8 ≤ 300 := by rw [Int.tdiv_eq_ediv_of_nonneg (by omega)]; omega
 rw [d1] at hr
 obtain ⟨w, hw⟩ : ∃ w, w = 2 + (n + 7).tdiv 8 := ⟨_, rfl⟩
 have w2 : IntKind.i64.wrap ((n + 7).tdiv 8) = (n + 7).tdiv 8 := wrap64 (by omega) (by omega)
 have w3 : IntKind.i64.wrap (2 + (n + 7).tdiv 8) = w := (wrap64 (by omega) (by omega)).trans hw.symm
 have hup : upS w = (w + 3) / 4 * 4 := by unfold upS; rw [Int.tdiv_eq_ediv_of_nonneg (by omega), show w + 4 - 1 = w + 3 by omega]
 rw [← hw, hup] at hr
 refine W_skip ?_
 refine xT ?_
 refine xO ?_
 refine xO ?_ (h := by simp [w1]; exact .mk)
 refine xO ?_ (h := by simp [w2]; exact .mk)
 refine xO ?_ (h := by simp [w3]; exact .mk)
 refine xO ?_
 refine xF [4] ?_
 refine W_seq (W_block ?_)
 refine W_rounds (fun m σ o => ∃ v : Int, m = ((w + 3) / 4 * 4 - v).toNat ∧ w ≤ v ∧ v ≤ (w + 3) / 4 * 4 ∧ σ = slots [(4, .d (vI v))] ∧ o = []) ((w + 3) / 4 * 4 - w).toNat .refl ⟨w, rfl, by omega, by omega, rfl, rfl⟩ ?_
 rintro m σ o ⟨v, rfl, hv1, hv2, rfl, rfl⟩ _
 have w4 : IntKind.i64.wrap (v.tmod 4) = v.tmod 4 := by rw [Int.tmod_eq_emod_of_nonneg (by omega)]; exact wrap64 (by omega) (by omega)
 have w5 : v.tmod 4 = v % 4 := Int.tmod_eq_emod_of_nonneg (by omega)
 refine W_seq (xU ?_)
 refine xO ?_
 refine xO ?_ (h := by simp [w4]; exact .mk)
 refine xO ?_
 refine xF [4,17] ?_
 refine W_cond rfl ?_ ?_
 · intro h17
   have hz : v % 4 ≠ 0 := by rw [← w5]; simpa using h17
   refine W_skip ?_
   rintro -
   refine W_block ?_
   refine W_reg rfl ?_
   iterate 3 refine xO ?_
   refine xE [4] ?_
   refine rounds_kill [4] ?_
   refine rounds_next (m' := ((w + 3) / 4 * 4 - (v+1)).toNat) (by omega) ⟨v+1, rfl, by omega, by omega, ?_, rfl⟩
   rw [wrap64 (by omega) (by omega)]; rfl
 intro h17
 have hz : v % 4 = 0 := by rw [← w5]; simpa using h17
 obtain rfl : v = (w + 3) / 4 * 4 := by omega
 refine W_exit (xT ?_)
 iterate 3 refine xO ?_
 refine xF [2,3] ?_
 refine W_ret (xR (by simp [Tryz.f87]; exact .mk) ?_)
 simp [Tryz.f87, hr]

theorem ct96 (g : Gl) (l : List Blk) (hl : l.length ≤ 2^40) : CtAt Tryz.prog g 96 [rBk l] (oO (l.map spanOf)) := by
 refine ctAt_of_W Tryz.func96 rfl rfl (Nat.le_of_ble_eq_true rfl) fun B S => ?_
 refine xU ?_
 refine xO ?_
 refine xG [0] ?_
 refine xO ?_
 refine xF [0,3] ?_
 refine W_seq (xU ?_)
 refine xO ?_
 refine xF [0,3,4] ?_
 refine W_block (W_rounds (fun m σ o => ∃ i : Nat, m = l.length - i ∧ i ≤ l.length ∧ σ = slots [(0, .d (rBk l)), (3, .hdr 0 0 i), (4, .d (vI i))] ∧ o = [.row 2 ((l.take i).map fun b => eObj (spanOf b))]) l.length (Weak.trans (Weak.nilRow 3 2 rfl) (Weak.kills [0,3,4] rfl) (fun _ _ _ h1 h2 => by rw [← h1.len]; exact h2)) ⟨0, by simp, by simp, by simp, by simp⟩ ?_)
 rintro m σ o ⟨i, rfl, hi, rfl, rfl⟩ _
 refine W_seq (xU ?_)
 iterate 4 refine xO ?_
 refine xF [0,3,4,8] ?_
 refine W_cond rfl ?_ ?_
 · intro h8
   have hi2 : i < l.length := by simpa using h8
   have e1 : (i + 1) * 16 ≤ 140737488355328 := by omega
   have e2 : i ≤ 140737488355327 := by omega
   have htk : (l.take i).length = i := by simp; omega
   refine W_skip ?_
   rintro -
   refine W_seq (W_block ?_)
   refine W_regD (by kernel_rfl) [] 4 [0,1,2,3,4,5,6,7,8,9,10,11,12,13,14] (by decide +kernel) ?_
   iterate 3 refine xO ?_
   refine xO ?_ (h := by simp [eBlk, hi2]; exact .mk)
   refine xO ?_
   refine xO ?_ (h := by simp [-List.getElem?_map, map_get hi2, eBlk]; exact .mk)
   iterate 2 refine xO ?_
   refine xO ?_ (h := by simp [eBlk, hi2]; exact .mk)
   refine xO ?_
   refine xO ?_ (h := by simp [-List.getElem?_map, map_get hi2, eBlk]; exact .mk)
   refine xO ?_ (h := by simp [splice]; exact .mk)
   refine xO ?_
   refine xO ?_ (h := by simp [rows, e1, e2, htk, Nat.min_eq_left hi]; exact .mk)
   refine xO ?_
   refine xF [0,3,4] ?_
   refine W_reg rfl ?_
   iterate 3 refine xO ?_
   refine xE [0,3,4] ?_
   refine rounds_kill [0,3,4] ?_
   refine rounds_kills [0,3,4] rfl ?_
   refine rounds_swap 0 2 1 (by decide) (by simp) (by decide) rfl rfl ?_
   refine rounds_drop 1 [0,3,4] (by decide) (by rfl) (by rfl) ?_
   refine rounds_next (m' := l.length - (i+1)) (by omega) ⟨i+1, rfl, by omega, ?_, ?_⟩
   · rw [wrap64 (by omega) (by omega)]; simp; try rfl
   rw [take_succ hi2]; simp [eObj, spanOf]; try rfl
 intro h8
 obtain rfl : i = l.length := by simp at h8; omega
 rw [List.take_of_length_le (by simp)]
 refine W_exit (xT ?_)
 iterate 2 refine xO ?_
 refine xF [2] ?_
 refine W_ret (xR (by simp [Tryz.f96]; exact .mk) ?_)
 simp [Tryz.f96, ownR, Function.comp_def]; try rfl

theorem ct23 (g : Gl) (s : Stt) (hs : s.Ok) : CtAt Tryz.prog g 23 [eStt s] (.tup [oO (twosO s.slots), oI (twosI s.slots)]) := by
 refine ctAt_of_W Tryz.func23 rfl rfl (Nat.le_of_ble_eq_true rfl) fun B S => ?_
 simp only [eStt, List.map, argD_agg, argD_v]
 have q0 := hs.h1
 refine xU ?_
 iterate 3 refine xO ?_
 refine xG [1] ?_
 refine xO ?_
 refine xG [1,4] ?_
 refine xO ?_
 refine xF [1,4,5] ?_
 refine W_seq (xU ?_)
 refine xO ?_
 refine xF [1,4,5,6] ?_
 refine W_block (W_rounds (fun m σ o => ∃ i : Nat, m = s.slots.length - i ∧ i ≤ s.slots.length ∧ σ = slots [(1, .ptr 0 0 0), (4, .hdr 1 0 (twoIx s.slots i).length), (5, .hdr 2 0 (twoIx s.slots i).length), (6, .d (vI i))] ∧ o = [.var 28 [.d (vI s.sh.pages), .d (vI s.sh.slots), .d (vI s.sh.roots), .d (vI s.sh.room), .d (vI s.mode), .d (vI s.base), .d (rSl s.slots), .d (rR s.roots), .d (rBB s.data)], .row 2 ((twoIx s.slots i).map fun j => eObj (objAt s.slots j)), .row 1 ((twoIx s.slots i).map fun (j : Nat) => vI j)]) s.slots.length (Weak.trans (Weak.nilRow 4 2 rfl) (Weak.trans (Weak.nilRow 5 1 rfl) (Weak.kills [1,4,5,6] rfl) (fun _ _ _ h1 h2 => by rw [← h1.len]; exact h2)) (fun _ _ _ h1 h2 => by rw [← h1.len]; exact h2)) ⟨0, by simp, by simp, by simp [twoIx], by simp [twoIx]⟩ ?_)
 rintro m σ o ⟨i, rfl, hi, rfl, rfl⟩ _
 have hle := twoIx_len (l := s.slots) (i := i)
 refine W_seq (xU ?_)
 iterate 2 refine xO ?_
 refine xO ?_ (h := by simp [eSlot]; exact .mk)
 iterate 2 refine xO ?_
 refine xF [1,4,5,6,12] ?_
 refine W_cond rfl ?_ ?_
 · intro h12
   have hi2 : i < s.slots.length := by simpa using h12
   refine W_skip ?_
   rintro -
   refine W_seq (W_block ?_)
   refine xU ?_
   refine xO ?_
   refine xO ?_ (h := by simp [eSlot]; exact .mk)
   refine xO ?_
   refine xO ?_ (h := by simp [eSlot, hi2]; exact .mk)
   refine xO ?_ (h := by simp [-List.getElem?_map, map_get hi2, eSlot]; exact .mk)
   refine xO ?_
   refine xO ?_ (h := by simp [splice]; exact .mk)
   refine xG [1,4,5,6,7] ?_
   refine xO ?_
   refine xO ?_ (h := by simp [eSlot]; exact .mk)
   refine xO ?_
   refine xI ?_
   refine run_if rfl (by simp; exact .mk) rfl (by simp <;> first | omega | grind) (fun hb => by simp [eSlot]; exact .mk) ?_
   refine xP ?_
   refine xF [1,4,5,6,7,25] ?_
   refine W_cond rfl ?_ ?_
   · intro h25
     have h2 : isTwo (nth s.slots i) = true := by simpa [isTwo] using h25
     have e1 : ((twoIx s.slots i).length + 1) * 16 ≤ 140737488355328 := by omega
     have e2 : (twoIx s.slots i).length ≤ 140737488355327 := by omega
     have e3 : ((twoIx s.slots i).length + 1) * 8 ≤ 140737488355328 := by omega
     refine xU ?_
     iterate 2 refine xO ?_
     refine xO ?_ (h := by simp [eSlot]; exact .mk)
     refine xO ?_
     refine xO ?_ (h := by simp [eSlot]; exact .mk)
     refine xO ?_ (h := by simp [splice]; exact .mk)
     refine xO ?_
     refine xO ?_ (h := by simp [rows, e1, e2]; exact .mk)
     refine xO ?_
     refine xF [1,4,5,6] ?_
     refine W_reg rfl ?_
     iterate 3 refine xO ?_
     refine xO ?_ (h := by simp [rows, e3, e2]; exact .mk)
     refine xO ?_
     refine xF [1,4,5,6] ?_
     refine W_reg rfl ?_
     iterate 3 refine xO ?_
     refine xE [1,4,5,6] ?_
     refine rounds_kill [1,4,5,6] ?_
     first
     | (refine rounds_kills [1,4,5,6] rfl ?_
        refine rounds_drop 3 [1,4,5,6] (by decide) (by rfl) (by rfl) ?_
        refine rounds_next (m' := s.slots.length - (i+1)) (by omega) ⟨i+1, rfl, by omega, ?_, ?_⟩
        · rw [wrap64 (by omega) (by omega), twoIx_f h2]; rfl
        rw [twoIx_f h2]; rfl)
     | (refine rounds_kills [1,4,5,6] rfl ?_
        refine rounds_swap 1 5 1 (by decide) (by simp) (by decide) rfl rfl ?_
        refine rounds_swap 2 7 1 (by decide) (by simp) (by decide) rfl rfl ?_
        refine rounds_drop 3 [1,4,5,6] (by decide) (by rfl) (by rfl) ?_
        refine rounds_next (m' := s.slots.length - (i+1)) (by omega) ⟨i+1, rfl, by omega, ?_, ?_⟩
        · rw [wrap64 (by omega) (by omega), twoIx_t h2]; simp; try rfl
        rw [twoIx_t h2]; simp [eObj, objAt]; try rfl)
   intro h25
   have h2 : isTwo (nth s.slots i) = false := by simpa [isTwo] using h25
   refine W_skip ?_
   rintro -
   refine W_reg rfl ?_
   iterate 3 refine xO ?_
   refine xE [1,4,5,6] ?_
   refine rounds_kill [1,4,5,6] ?_
   first
   | (refine rounds_kills [1,4,5,6] rfl ?_
      refine rounds_drop 3 [1,4,5,6] (by decide) (by rfl) (by rfl) ?_
      refine rounds_next (m' := s.slots.length - (i+1)) (by omega) ⟨i+1, rfl, by omega, ?_, ?_⟩
      · rw [wrap64 (by omega) (by omega), twoIx_f h2]; rfl
      rw [twoIx_f h2]; rfl)
   | (refine rounds_kills [1,4,5,6] rfl ?_
      refine rounds_swap 1 5 1 (by decide) (by simp) (by decide) rfl rfl ?_
      refine rounds_swap 2 7 1 (by decide) (by simp) (by decide) rfl rfl ?_
      refine rounds_drop 3 [1,4,5,6] (by decide) (by rfl) (by rfl) ?_
      refine rounds_next (m' := s.slots.length - (i+1)) (by omega) ⟨i+1, rfl, by omega, ?_, ?_⟩
      · rw [wrap64 (by omega) (by omega), twoIx_t h2]; simp; try rfl
      rw [twoIx_t h2]; simp [eObj, objAt]; try rfl)
 intro h12
 obtain rfl : i = s.slots.length := by simp at h12; omega
 refine W_exit (xT ?_)
 iterate 4 refine xO ?_
 refine xF [2,3] ?_
 refine W_ret (xR (by simp [Tryz.f23]; exact .mk) ?_)
 simp [Tryz.f23, ownR, twosO, twosI]; try rfl

open Go.Awp
open Go.Awp
/- The first rune of a text, as the document says. -/
def bt (s : ByteArray) (k : Nat) : Nat := (s.data.toList.getD k 0).toNat
theorem bt_lt (s : ByteArray) (k : Nat) : bt s k < 256 := UInt8.toNat_lt _
theorem get_bt (s : ByteArray) (k : Nat) : (s.get! k).toNat = bt s k := by
 unfold bt
 show (s.data[k]!).toNat = _
 congr 1
 rw [List.getD_eq_getElem?_getD, Array.getElem?_toList, getElem!_def]
 cases s.data[k]? <;> rfl
def clsN (b : Nat) : Nat × Nat × Nat := if 194 ≤ b ∧ b < 224 then (2, 128, 192) else if 224 ≤ b ∧ b < 240 then (3, 2048, 224) else if 240 ≤ b ∧ b < 245 then (4, 65536, 240) else (0, 0, 0)
def contB (b : Nat) : Bool := decide (128 ≤ b ∧ b < 192)
def accR (s : ByteArray) (a : Int) : Nat → Int
 | 0 => a
 | i + 1 => accR s a i * 64 + bt s (i + 1) - 128
def badR (a : Int) (least : Nat) : Bool := decide (a < least ∨ 1114111 < a ∨ (55296 ≤ a ∧ a ≤ 57343))
def runeR (s : ByteArray) : Int × Int :=
 if bt s 0 < 128 then (bt s 0, 1)
 else if (clsN (bt s 0)).1 = 0 ∨ s.size < (clsN (bt s 0)).1 then (0, 0)
 else if (List.range ((clsN (bt s 0)).1 - 1)).all (fun i => contB (bt s (i + 1))) = true then
  (if badR (accR s ((bt s 0 : Int) - (clsN (bt s 0)).2.2) ((clsN (bt s 0)).1 - 1)) (clsN (bt s 0)).2.1 = true then (0, 0) else (accR s ((bt s 0 : Int) - (clsN (bt s 0)).2.2) ((clsN (bt s 0)).1 - 1), (clsN (bt s 0)).1))
 else (0, 0)
theorem clsN_cases (b : Nat) : (194 ≤ b ∧ b < 224 ∧ clsN b = (2, 128, 192)) ∨ (224 ≤ b ∧ b < 240 ∧ clsN b = (3, 2048, 224)) ∨ (240 ≤ b ∧ b < 245 ∧ clsN b = (4, 65536, 240)) ∨ ((b < 194 ∨ 245 ≤ b) ∧ clsN b = (0, 0, 0)) := by
 unfold clsN
 by_cases h1 : 194 ≤ b ∧ b < 224
 · rw [if_pos h1]; exact .inl ⟨h1.1, h1.2, rfl⟩
 · rw [if_neg h1]
   by_cases h2 : 224 ≤ b ∧ b < 240
   · rw [if_pos h2]; exact .inr (.inl ⟨h2.1, h2.2, rfl⟩)
   · rw [if_neg h2]
     by_cases h3 : 240 ≤ b ∧ b < 245
     · rw [if_pos h3]; exact .inr (.inr (.inl ⟨h3.1, h3.2, rfl⟩))
     · rw [if_neg h3]; exact .inr (.inr (.inr ⟨by omega, rfl⟩))
theorem runeR_k {s : ByteArray} {k le ba : Nat} (h0 : ¬ bt s 0 < 128) (e : clsN (bt s 0) = (k, le, ba)) (hk : k ≠ 0) : runeR s = if s.size < k then (0, 0) else if (List.range (k - 1)).all (fun i => contB (bt s (i + 1))) = true then (if badR (accR s ((bt s 0 : Int) - ba) (k - 1)) le = true then (0, 0) else (accR s ((bt s 0 : Int) - ba) (k - 1), (k : Int))) else (0, 0) := by
 unfold runeR
 rw [if_neg h0, e]
 simp only
 by_cases h : s.size < k
 · rw [if_pos (.inr h), if_pos h]
 · rw [if_neg (by omega), if_neg h]
theorem pair_alt {r : Int × Int} {d : Nat × Nat} (h : (r = (0, 0) ∧ d.1 = 65533) ∨ (r = ((d.1 : Int), (d.2 : Int)) ∧ d.2 ≠ 0)) : (r.2 = 0 ∧ d.1 = 65533) ∨ (r.2 ≠ 0 ∧ r.1 = d.1 ∧ r.2 = d.2) := by
 rcases h with ⟨rfl, h⟩ | ⟨rfl, h⟩
 · exact .inl ⟨rfl, h⟩
 · exact .inr ⟨by simpa using h, rfl, rfl⟩
theorem runeR_decode {s : ByteArray} (h : 0 < s.size) : ((runeR s).2 = 0 ∧ (Utf8.decode s 0).1 = 65533) ∨ ((runeR s).2 ≠ 0 ∧ (runeR s).1 = (Utf8.decode s 0).1 ∧ (runeR s).2 = (Utf8.decode s 0).2) := by
 apply pair_alt
 have l0 := bt_lt s 0
 have l1 := bt_lt s 1
 have l2 := bt_lt s 2
 have l3 := bt_lt s 3
 unfold Utf8.decode
 simp only [Nat.zero_add, get_bt, Utf8.valid, Utf8.runeError]
 by_cases h0 : bt s 0 < 128
 · rw [if_pos h0]; right; unfold runeR; rw [if_pos h0]; exact ⟨rfl, by simp⟩
 have hn0 := h0
 rw [if_neg h0]
 rcases clsN_cases (bt s 0) with ⟨a1, a2, e⟩ | ⟨a1, a2, e⟩ | ⟨a1, a2, e⟩ | ⟨a1, e⟩
 · rw [runeR_k h0 e (by decide)]
   have hall : (List.range (2 - 1)).all (fun i => contB (bt s (i + 1))) = contB (bt s 1) := by simp [List.range_succ]
   have hacc : accR s ((bt s 0 : Int) - (192 : Nat)) (2 - 1) = ((bt s 0 : Int) - 192) * 64 + bt s 1 - 128 := rfl
   rw [hall, hacc]
   generalize bt s 0 = b0 at *
   generalize bt s 1 = b1 at *
   have d1 : b0 / 32 = 6 := by omega
   have d2 : b0 / 16 ≠ 14 := by omega
   have d3 : b0 / 8 ≠ 30 := by omega
   simp only [d1, d2, d3, contB, badR, beq_iff_eq, Bool.and_eq_true, decide_eq_true_eq, true_and, false_and, if_false, BEq.rfl]
   by_cases hz : 1 < s.size ∧ b1 / 64 = 2
   · rw [if_pos hz, if_neg (by omega), if_pos (by omega), if_neg (by omega), if_pos (by omega)]
     right; constructor
     · exact Prod.ext (by show _ = ((b0 % 32 * 64 + b1 % 64 : Nat) : Int); omega) rfl
     · show (2 : Nat) ≠ 0; decide
   · rw [if_neg hz]; left
     refine ⟨?_, rfl⟩
     by_cases hs : s.size < 2
     · rw [if_pos hs]
     · rw [if_neg hs, if_neg (by omega)]
 · rw [runeR_k h0 e (by decide)]
   have hall : (List.range (3 - 1)).all (fun i => contB (bt s (i + 1))) = (contB (bt s 1) && contB (bt s 2)) := by simp [List.range_succ]
   have hacc : accR s ((bt s 0 : Int) - (224 : Nat)) (3 - 1) = (((bt s 0 : Int) - 224) * 64 + bt s 1 - 128) * 64 + bt s 2 - 128 := rfl
   rw [hall, hacc]
   generalize bt s 0 = b0 at *
   generalize bt s 1 = b1 at *
   generalize bt s 2 = b2 at *
   have d1 : b0 / 32 ≠ 6 := by omega
   have d2 : b0 / 16 = 14 := by omega
   have d3 : b0 / 8 ≠ 30 := by omega
   simp only [d1, d2, d3, contB, badR, beq_iff_eq, Bool.and_eq_true, Bool.or_eq_true, decide_eq_true_eq, true_and, false_and, if_false, BEq.rfl]
   by_cases hz : (1 < s.size ∧ b1 / 64 = 2) ∧ 2 < s.size ∧ b2 / 64 = 2
   · rw [if_pos hz, if_neg (by omega), if_pos (by omega)]
     by_cases hb : (((b0 : Int) - 224) * 64 + b1 - 128) * 64 + b2 - 128 < (2048 : Nat) ∨ 1114111 < (((b0 : Int) - 224) * 64 + b1 - 128) * 64 + b2 - 128 ∨ 55296 ≤ (((b0 : Int) - 224) * 64 + b1 - 128) * 64 + b2 - 128 ∧ (((b0 : Int) - 224) * 64 + b1 - 128) * 64 + b2 - 128 ≤ 57343
     · rw [if_pos hb, if_neg (by omega)]; exact .inl ⟨rfl, rfl⟩
     · rw [if_neg hb, if_pos (by omega)]
       right; constructor
       · exact Prod.ext (by show _ = ((b0 % 16 * 4096 + b1 % 64 * 64 + b2 % 64 : Nat) : Int); omega) rfl
       · show (3 : Nat) ≠ 0; decide
   · rw [if_neg hz]; left
     refine ⟨?_, rfl⟩
     by_cases hs : s.size < 3
     · rw [if_pos hs]
     · rw [if_neg hs, if_neg (by omega)]
 · rw [runeR_k h0 e (by decide)]
   have hall : (List.range (4 - 1)).all (fun i => contB (bt s (i + 1))) = (contB (bt s 1) && (contB (bt s 2) && contB (bt s 3))) := by simp [List.range_succ, Bool.and_assoc]
   have hacc : accR s ((bt s 0 : Int) - (240 : Nat)) (4 - 1) = ((((bt s 0 : Int) - 240) * 64 + bt s 1 - 128) * 64 + bt s 2 - 128) * 64 + bt s 3 - 128 := rfl
   rw [hall, hacc]
   generalize bt s 0 = b0 at *
   generalize bt s 1 = b1 at *
   generalize bt s 2 = b2 at *
   generalize bt s 3 = b3 at *
   have d1 : b0 / 32 ≠ 6 := by omega
   have d2 : b0 / 16 ≠ 14 := by omega
   have d3 : b0 / 8 = 30 := by omega
   obtain ⟨A, hA⟩ : ∃ A : Int, A = ((((b0 : Int) - 240) * 64 + b1 - 128) * 64 + b2 - 128) * 64 + b3 - 128 := ⟨_, rfl⟩
   rw [← hA]
   simp only [d1, d2, d3, contB, badR, beq_iff_eq, Bool.and_eq_true, Bool.or_eq_true, decide_eq_true_eq, true_and, false_and, if_false, BEq.rfl]
   by_cases hz : ((1 < s.size ∧ b1 / 64 = 2) ∧ 2 < s.size ∧ b2 / 64 = 2) ∧ 3 < s.size ∧ b3 / 64 = 2
   · rw [if_pos hz, if_neg (by omega), if_pos (by omega)]
     have hv : ((b0 % 8 * 262144 + b1 % 64 * 4096 + b2 % 64 * 64 + b3 % 64 : Nat) : Int) = A := by omega
     by_cases hb : A < (65536 : Nat) ∨ 1114111 < A ∨ 55296 ≤ A ∧ A ≤ 57343
     · rw [if_pos hb, if_neg (by omega)]; exact .inl ⟨rfl, rfl⟩
     · rw [if_neg hb, if_pos (by omega)]
       right; constructor
       · exact Prod.ext (by show _ = ((b0 % 8 * 262144 + b1 % 64 * 4096 + b2 % 64 * 64 + b3 % 64 : Nat) : Int); omega) rfl
       · show (4 : Nat) ≠ 0; decide
   · rw [if_neg hz]; left
     refine ⟨?_, rfl⟩
     by_cases hs : s.size < 4
     · rw [if_pos hs]
     · rw [if_neg hs, if_neg (by omega)]
 · left
   have hr : runeR s = (0, 0) := by unfold runeR; rw [if_neg h0, if_pos (.inl (by rw [e]))]
   refine ⟨hr, ?_⟩
   generalize bt s 0 = b0 at *
   generalize bt s 1 = b1 at *
   generalize bt s 2 = b2 at *
   generalize bt s 3 = b3 at *
   simp only [beq_iff_eq, Bool.and_eq_true, Bool.or_eq_true, decide_eq_true_eq]
   repeat' split
   all_goals first | rfl | omega
open Go.Awp
theorem btF3 {s : ByteArray} {k : Nat} (h : k < s.data.size) : s.data[k].toNat = bt s k := by rw [bt, List.getD_eq_getElem?_getD, Array.getElem?_toList, Array.getElem?_eq_getElem h]; rfl
theorem runeR_le {s : ByteArray} (h : 0 < s.size) : (runeR s).2 ≤ s.size := by
 unfold runeR
 split
 · show (1 : Int) ≤ _; omega
 · split
   · show (0 : Int) ≤ _; omega
   · rename_i q
     split
     · split
       · show (0 : Int) ≤ _; omega
       · show (((clsN (bt s 0)).1 : Nat) : Int) ≤ _; omega
     · show (0 : Int) ≤ _; omega
theorem get_extract {t : ByteArray} {w p : Nat} (hw : w ≤ t.size) : (t.extract w t.size).get! p = t.get! (w + p) := by
 show (t.extract w t.size).data[p]! = t.data[w + p]!
 rw [ByteArray.data_extract, getElem!_def, getElem!_def, Array.getElem?_extract]
 have : t.data.size = t.size := rfl
 by_cases h : p < min t.size t.data.size - w
 · rw [if_pos h]
 · rw [if_neg h, Array.getElem?_eq_none (by omega)]
theorem decode_shift {t : ByteArray} {w p : Nat} (hw : w ≤ t.size) : Utf8.decode t (w + p) = Utf8.decode (t.extract w t.size) p := by
 unfold Utf8.decode
 have hs : (t.extract w t.size).size = t.size - w := by rw [ByteArray.size_extract]; omega
 have hc : ∀ k, decide (w + (p + k) < t.size) = decide (p + k < t.size - w) := fun k => decide_eq_decide.2 (by omega)
 simp only [get_extract hw, hs, Nat.add_assoc, hc]
theorem runesOk_shift {t : ByteArray} {w : Nat} (hw : w ≤ t.size) : ∀ (n p : Nat), t.size - (w + p) ≤ n → runesOk t (w + p) = runesOk (t.extract w t.size) p
 | n, p, hn => by
  have hs : (t.extract w t.size).size = t.size - w := by rw [ByteArray.size_extract]; omega
  conv => lhs; rw [runesOk]
  conv => rhs; rw [runesOk]
  rw [hs, decode_shift hw]
  by_cases h : w + p < t.size
  · rw [if_pos h, if_pos (by omega)]
    have hd := decode_pos (t.extract w t.size) p
    cases n with
    | zero => omega
    | succ n =>
     rw [Nat.add_assoc, runesOk_shift hw n (p + (Utf8.decode (t.extract w t.size) p).2) (by omega)]
  · rw [if_neg h, if_neg (by omega)]
theorem runesOk_step {t : ByteArray} (h : 0 < t.size) : ((runeR t).2 = 0 ∨ mayS (runeR t).1 = false → runesOk t 0 = false) ∧
    ((runeR t).2 ≠ 0 → mayS (runeR t).1 = true → ∃ w : Nat, (runeR t).2 = w ∧ 0 < w ∧ w ≤ t.size ∧ runesOk t 0 = runesOk (t.extract w t.size) 0) := by
 have hu : runesOk t 0 = (mayS (Utf8.decode t 0).1 && runesOk t (0 + (Utf8.decode t 0).2)) := by
  conv => lhs; rw [runesOk]
  rw [if_pos h]
 have hle := runeR_le h
 rcases runeR_decode h with ⟨h1, h2⟩ | ⟨h1, h2, h3⟩
 · refine ⟨fun _ => ?_, fun q => absurd h1 q⟩
   rw [hu, h2]; rfl
 · refine ⟨fun q => ?_, fun _ q => ?_⟩
   · rw [hu, ← h2, q.resolve_left h1]; rfl
   · refine ⟨(Utf8.decode t 0).2, h3, by omega, by omega, ?_⟩
     have := runesOk_shift (t := t) (w := (Utf8.decode t 0).2) (by omega) t.size 0 (by omega)
     rw [hu, ← h2, q, Nat.zero_add]; exact this
theorem nameS_long {s : ByteArray} (h : s.size < 1 ∨ 16 < s.size) : nameS s = false := by
 unfold nameS
 rcases h with h | h
 · have : s.toList = [] := by
    apply List.eq_nil_of_length_eq_zero
    have e := toList_size s
    omega
   simp [this]
 · simp [show ¬ (s.size : Int) ≤ 16 by omega]
theorem nameS_short {s : ByteArray} (h : 1 ≤ s.size ∧ s.size ≤ 16) : nameS s = runesOk s 0 := by
 unfold nameS
 have e := toList_size s
 have : s.toList ≠ [] := fun q => by rw [q] at e; simp at e; omega
 simp [this, show (s.size : Int) ≤ 16 by omega]
end Go.Proofs
