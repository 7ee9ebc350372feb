/- Contracts of the program's functions and plain facts, for arguments as each lemma says. -/
import Derived.Test.YtokgokbgidgfeaaCA
import Derived.Test.YtokgokbgidgfeaaAwpD
import Derived.Test.YtokgokbgidgfeaaAwpC
set_option linter.all false
namespace Go.Proofs
open Go.Awp
theorem ct139 (g : Gl) (l : List Root) (k : Nat) (r : Root) (hl : l.length ≤ 2^40) (hk : k < l.length) : CtAt Try.prog g 139 [rR l, vI k, eRoot r] (oR (l.set k r)) := by
 refine ctAt_of_W Try.func139 rfl rfl (Nat.le_of_ble_eq_true rfl) fun B S => ?_
 simp only [eRoot, List.map, argD_agg]
 refine xU ?_
 iterate 2 refine xO ?_
 refine xG [0,1,5] ?_
 refine xO ?_
 refine xC (ct52 g _ hl) ?_
 refine xO ?_
 refine xG [1,5,7] ?_
 iterate 3 refine xO ?_
 refine xO ?_ (h := by simp [hk]; exact .mk)
 refine xO ?_ (h := by simp [splice, hk, nrmL, nrm, putC, eRoot]; exact .mk)
 refine xG [7] ?_
 iterate 2 refine xO ?_
 refine xF [6] ?_
 refine W_ret (xR (by simp [Try.f139]; exact .mk) ?_)
 simp [Try.f139, ownR, List.map_set, eRoot]

theorem ct138 (g : Gl) (l : List Root) (nm : ByteArray) (hl : RootsOk l) (hn : nm.size ≤ 2^40) : CtAt Try.prog g 138 [rR l, vS nm] (.tup [vI (findS l nm).1, vI (findS l nm).2]) := by
 refine ctAt_of_W Try.func138 rfl rfl (Nat.le_of_ble_eq_true rfl) fun B S => ?_
 refine xU ?_
 iterate 2 refine xO ?_
 refine xF [0,1] ?_
 refine W_seq (W_block ?_)
 refine xU ?_
 refine xO ?_
 refine xC (ct54 g _ hl.h1 hl.h2) ?_
 iterate 2 refine xO ?_
 refine xF [0,1,6] ?_
 refine W_cond rfl ?_ ?_
 · intro h6
   have hr : rootsS l = false := by simpa using h6
   refine xU ?_
   iterate 2 refine xO ?_
   refine xF [4,5] ?_
   refine W_ret (xR (by simp [Try.f138]; exact .mk) ?_)
   simp [Try.f138, findS, *]
 intro h6
 have hr : rootsS l = true := by simpa using h6
 refine xU ?_
 refine xO ?_
 refine xC (ct83 g _ hn) ?_
 iterate 2 refine xO ?_
 refine xF [0,1,10] ?_
 refine W_cond rfl ?_ ?_
 · intro h10
   have hr2 : nameS nm = false := by simpa using h10
   refine xU ?_
   iterate 2 refine xO ?_
   refine xF [4,5] ?_
   refine W_ret (xR (by simp [Try.f138]; exact .mk) ?_)
   simp [Try.f138, findS, *]
 intro h10
 have hr2 : nameS nm = true := by simpa using h10
 refine W_skip ?_
 refine xT ?_
 iterate 2 refine xO ?_
 refine xC (ct95 g _ _ hl.h1) ?_
 iterate 2 refine xO ?_
 refine xF [4,5] ?_
 refine W_ret (xR (by simp [Try.f138]; exact .mk) ?_)
 simp [Try.f138, findS, *]

theorem ct118 (g : Gl) (l : List Root) (nm : ByteArray) (hl : RootsOk l) (hn : nm.size ≤ 2^40) : CtAt Try.prog g 118 [rR l, vS nm] (.tup [oR (dropS l nm).1, vI (dropS l nm).2]) := by
 refine ctAt_of_W Try.func118 rfl rfl (Nat.le_of_ble_eq_true rfl) fun B S => ?_
 refine xU ?_
 iterate 2 refine xO ?_
 refine xG [0,1] ?_
 iterate 2 refine xO ?_
 refine xC (ct138 g _ _ hl hn) ?_
 iterate 5 refine xO ?_
 refine xF [0,6,7] ?_
 refine W_seq (W_block ?_)
 refine xU ?_
 iterate 3 refine xO ?_
 refine xF [0,6,7,14] ?_
 refine W_cond rfl ?_ ?_
 · intro h14
   have hr : (findS l nm).2 ≠ 0 := by simpa using h14
   refine xU ?_
   iterate 3 refine xO ?_
   refine xF [4,5] ?_
   refine W_ret (xR (by simp [Try.f118]; exact .mk) ?_)
   simp [Try.f118, dropS, ownR, List.map_set, *]
 intro h14
 have hr : (findS l nm).2 = 0 := by simpa using h14
 refine xU ?_
 iterate 3 refine xO ?_
 refine xF [0,6,18] ?_
 refine W_cond rfl ?_ ?_
 · intro h18
   have hr2 : (findS l nm).1 < 0 := by simpa using h18
   refine xU ?_
   iterate 2 refine xO ?_
   refine xF [4,5] ?_
   refine W_ret (xR (by simp [Try.f118]; exact .mk) ?_)
   simp [Try.f118, dropS, ownR, List.map_set, *]
 intro h18
 have hr2 : 0 ≤ (findS l nm).1 := by simpa using h18
 obtain ⟨k, hk, hkl⟩ := findS_nat hl hr hr2
 have hk0 : ¬ ((k : Int) < 0) := by omega
 refine W_skip ?_
 refine xT ?_
 iterate 2 refine xO ?_
 refine xO ?_ (h := by simp [splice]; exact .mk)
 refine run_call0 rfl rfl rfl rfl (by simp; exact .mk) (by simp; exact .mk) (by have := ct139 g l k zRoot hl.h1 hkl; rw [← hk] at this; exact this) (by simp) (by simp; exact .mk) ?_
 iterate 2 refine xO ?_
 refine xF [4,5] ?_
 refine W_ret (xR (by simp [Try.f118]; exact .mk) ?_)
 simp [Try.f118, dropS, ownR, List.map_set, *]

theorem ct117 (g : Gl) (l : List Root) (nm : ByteArray) (hl : RootsOk l) (hn : nm.size ≤ 2^40) : CtAt Try.prog g 117 [rR l, vS nm] (.tup [.agg [vI (getS l nm).1, vI (getS l nm).2.1], vI (getS l nm).2.2]) := by
 refine ctAt_of_W Try.func117 rfl rfl (Nat.le_of_ble_eq_true rfl) fun B S => ?_
 refine xU ?_
 iterate 2 refine xO ?_
 refine xG [0,1,4] ?_
 iterate 2 refine xO ?_
 refine xC (ct138 g _ _ hl hn) ?_
 iterate 5 refine xO ?_
 refine xF [0,4,6,7] ?_
 refine W_seq (W_block ?_)
 refine xU ?_
 iterate 3 refine xO ?_
 refine xF [0,4,6,7,14] ?_
 refine W_cond rfl ?_ ?_
 · intro h14
   have hr : (findS l nm).2 ≠ 0 := by simpa using h14
   refine xU ?_
   refine xO ?_ (h := by simp [splice]; exact .mk)
   refine xO ?_
   refine xO ?_ (h := by simp [splice]; exact .mk)
   refine xO ?_
   refine xF [4,5] ?_
   refine W_ret (xR (by simp [Try.f117]; exact .mk) ?_)
   simp [Try.f117, getS, *]
 intro h14
 have hr : (findS l nm).2 = 0 := by simpa using h14
 refine xU ?_
 iterate 3 refine xO ?_
 refine xF [0,4,6,19] ?_
 refine W_cond rfl ?_ ?_
 · intro h19
   have hr2 : (findS l nm).1 < 0 := by simpa using h19
   refine xU ?_
   iterate 2 (refine xO ?_ (h := by simp [splice]; exact .mk))
   refine xO ?_
   refine xF [4,5] ?_
   refine W_ret (xR (by simp [Try.f117]; exact .mk) ?_)
   simp [Try.f117, getS, *]
 intro h19
 have hr2 : 0 ≤ (findS l nm).1 := by simpa using h19
 obtain ⟨k, hk, hkl⟩ := findS_nat hl hr hr2
 have hk0 : ¬ ((k : Int) < 0) := by omega
 refine W_skip ?_
 refine xT ?_
 iterate 2 refine xO ?_
 refine xO ?_ (h := by simp [eRoot, hk, hkl]; exact .mk)
 refine xO ?_
 refine xO ?_ (h := by simp [eRoot]; exact .mk)
 refine xO ?_ (h := by simp [splice]; exact .mk)
 refine xO ?_
 refine xF [4,5] ?_
 refine W_ret (xR (by simp [Try.f117]; exact .mk) ?_)
 simp [Try.f117, getS, *]

open Go.Awp
theorem ct116 (g : Gl) (l : List Root) (nm : ByteArray) (ix gn : Int) (hl : RootsOk l) (hn : nm.size ≤ 2^40) : CtAt Try.prog g 116 [rR l, vS nm, .agg [vI ix, vI gn]] (.tup [oR (setS l nm ix gn).1, vI (setS l nm ix gn).2]) := by
 refine ctAt_of_W Try.func116 rfl rfl (Nat.le_of_ble_eq_true rfl) fun B S => ?_
 refine xU ?_
 iterate 3 refine xO ?_
 refine xG [0,1,5] ?_
 iterate 2 refine xO ?_
 refine xC (ct138 g _ _ hl hn) ?_
 iterate 5 refine xO ?_
 refine xF [0,1,5,8,9] ?_
 refine W_seq (W_block ?_)
 refine xU ?_
 iterate 3 refine xO ?_
 refine xF [0,1,5,8,9,16] ?_
 refine W_cond rfl ?_ ?_
 · intro h16
   have hr : (findS l nm).2 ≠ 0 := by simpa using h16
   have hr5 : setS l nm ix gn = ([], (findS l nm).2) := by simp [setS, hr]
   refine xU ?_
   iterate 3 refine xO ?_
   refine xF [6,7] ?_
   refine W_ret (xR (by simp [Try.f116]; exact .mk) ?_)
   simp [Try.f116, hr5, ownR, List.map_set]
 intro h16
 have hr : (findS l nm).2 = 0 := by simpa using h16
 refine xU ?_
 refine xO ?_
 refine xC (ct94 g _ _) ?_
 iterate 2 refine xO ?_
 refine xF [0,1,5,8,20] ?_
 refine W_cond rfl ?_ ?_
 · intro h20
   have hr2 : handleS ix gn = false := by simpa using h20
   have hr5 : setS l nm ix gn = ([], 1) := by simp [setS, hr, hr2]
   refine xU ?_
   iterate 2 refine xO ?_
   refine xF [6,7] ?_
   refine W_ret (xR (by simp [Try.f116]; exact .mk) ?_)
   simp [Try.f116, hr5, ownR, List.map_set]
 intro h20
 have hr2 : handleS ix gn = true := by simpa using h20
 refine W_skip ?_
 rintro -
 refine W_seq (xU ?_)
 iterate 2 refine xO ?_
 refine xF [0,1,5,8,25] ?_
 refine W_cond rfl ?_ ?_
 · intro h25
   have hr3 : (findS l nm).1 < 0 := by simpa using h25
   refine W_reg rfl ?_
   refine xO ?_
   refine xC (ct95 g _ _ hl.h1) ?_
   refine xO ?_
   refine xF [0,1,5,8] ?_
   refine W_seq (xU ?_)
   iterate 2 refine xO ?_
   refine xF [0,1,5,8,29] ?_
   refine W_cond rfl ?_ ?_
   · intro h29
     have hr4 : slotS l nm < 0 := by unfold slotS; split <;> (simp at h29; omega)
     have hr5 : setS l nm ix gn = ([], 9) := by simp [setS, hr, hr2, hr4]
     refine xU ?_
     iterate 2 refine xO ?_
     refine xF [6,7] ?_
     refine W_ret (xR (by simp [Try.f116]; exact .mk) ?_)
     simp [Try.f116, hr5, ownR, List.map_set]
   intro h29
   have hr4 : 0 ≤ slotS l nm := by unfold slotS; split <;> (simp at h29; omega)
   obtain ⟨k, hk, hkl⟩ := slotS_nat hl hr hr4
   have hk0 : ¬ ((k : Int) < 0) := by omega
   have hr5 : setS l nm ix gn = (l.set k ⟨nm, ix, gn⟩, 0) := by simp [setS, hr, hr2, hk, hk0]
   simp only [slotS, hr3, if_true, if_false] at hk
   refine W_skip ?_
   refine xT ?_
   iterate 4 refine xO ?_
   refine xO ?_ (h := by simp [splice]; exact .mk)
   refine run_call0 rfl rfl rfl rfl (by simp; exact .mk) (by simp; exact .mk) (by have := ct139 g l k ⟨nm, ix, gn⟩ hl.h1 hkl; rw [← hk] at this; exact this) (by simp) (by simp; exact .mk) ?_
   iterate 2 refine xO ?_
   refine xF [6,7] ?_
   refine W_ret (xR (by simp [Try.f116]; exact .mk) ?_)
   simp [Try.f116, hr5, ownR, List.map_set]
 intro h25
 have hr3 : ¬ (findS l nm).1 < 0 := by simpa using h25
 refine W_skip ?_
 rintro -
 refine W_seq (xU ?_)
 iterate 2 refine xO ?_
 refine xF [0,1,5,8,29] ?_
 refine W_cond rfl ?_ ?_
 · intro h29
   have hr4 : slotS l nm < 0 := by unfold slotS; split <;> (simp at h29; omega)
   have hr5 : setS l nm ix gn = ([], 9) := by simp [setS, hr, hr2, hr4]
   refine xU ?_
   iterate 2 refine xO ?_
   refine xF [6,7] ?_
   refine W_ret (xR (by simp [Try.f116]; exact .mk) ?_)
   simp [Try.f116, hr5, ownR, List.map_set]
 intro h29
 have hr4 : 0 ≤ slotS l nm := by unfold slotS; split <;> (simp at h29; omega)
 obtain ⟨k, hk, hkl⟩ := slotS_nat hl hr hr4
 have hk0 : ¬ ((k : Int) < 0) := by omega
 have hr5 : setS l nm ix gn = (l.set k ⟨nm, ix, gn⟩, 0) := by simp [setS, hr, hr2, hk, hk0]
 simp only [slotS, hr3, if_true, if_false] at hk
 refine W_skip ?_
 refine xT ?_
 iterate 4 refine xO ?_
 refine xO ?_ (h := by simp [splice]; exact .mk)
 refine run_call0 rfl rfl rfl rfl (by simp; exact .mk) (by simp; exact .mk) (by have := ct139 g l k ⟨nm, ix, gn⟩ hl.h1 hkl; rw [← hk] at this; exact this) (by simp) (by simp; exact .mk) ?_
 iterate 2 refine xO ?_
 refine xF [6,7] ?_
 refine W_ret (xR (by simp [Try.f116]; exact .mk) ?_)
 simp [Try.f116, hr5, ownR, List.map_set]

set_option maxHeartbeats 4000000
open Go.Awp
theorem in75 (g : Gl) (o0 o1 o2 : Awp.Obj) (l : List (List UInt8)) (hl : l.length ≤ 2^40) : ∀ B S, CallsA Try.prog g B S ⟨3, true⟩ 75 [.d (rBB l)] [o0, o1, o2]
    (fun x r => x = .hdr 4 0 l.length ∧ r = [o0, o1, o2, .dead, .row 1 (l.map rB)]) := by
 refine callsA_at Try.func75 rfl (Nat.le_of_ble_eq_true rfl) fun B S => ?_
 refine xU ?_
 refine xO ?_
 refine xF [0] ?_
 refine W_seq (W_seq ?_)
 refine W_region rfl (WR_cut (hard := []) [0] [1] ?_)
 refine xO ?_
 refine xE [0,3] ?_
 refine WR_nilcmp rfl rfl rfl (.inl rfl) rfl ⟨_, Try.underlying23⟩ (by simp; rfl) ?_
 intro nb hnb
 refine WR_run (hard := []) ?_
 refine xF [0,4] ?_
 refine W_cond rfl ?_ ?_
 · intro h4
   have hl0 : l = [] := List.eq_nil_of_length_eq_zero (hnb (by simpa using h4))
   subst hl0
   refine xU ?_
   refine xO ?_
   refine xE [2] ?_
   refine then_weak Weak.pad ?_
   refine then_weak (s2 := slots [(2, .hdr 4 0 0), (2, .d (.v (.slice none 0 0)))]) (objs2 := [o0, o1, o2, .dead, .row 1 []]) (Weak.nilRow 2 1 rfl) ?_
   rintro -
   refine W_ret (endAt_ret (by simp [Try.f75]; exact .mk) ?_ ?_)
   · simp
   simp
 intro h4
 refine W_skip ?_
 rintro -
 refine W_seq ?_
 have e1 : l.length * 24 ≤ 140737488355328 := by omega
 have e2 : l.length ≤ 140737488355328 := by omega
 refine W_reg rfl ?_
 iterate 2 refine xO ?_
 refine xO ?_ (h := by simp [rows, e1, e2]; exact .mk)
 refine xO ?_
 refine xF [2] ?_
 refine W_ret (endAt_ret (by simp [Try.f75]; exact .mk) ?_ ?_)
 · simp
 simp

open Go.Awp
@[simp] theorem eqOk49 : eqOk Try.prog 49 = true := by kernel_rfl
def sameShape (a b : Shape) : Bool := a.pages == b.pages && (a.slots == b.slots && (a.roots == b.roots && a.room == b.room))
def sameSlot (a b : Slot) : Bool := a.gen == b.gen && (a.live == b.live && (a.two == b.two && (a.at_ == b.at_ && a.len == b.len)))
def sameB (x y : List (List UInt8)) : Bool := sameL (fun x y => (str x).toList == (str y).toList) x y
def sameStt (a b : Stt) : Bool := sameShape a.sh b.sh && (a.mode == b.mode && (a.base == b.base && (sameL sameSlot a.slots b.slots && (sameL sameRoot a.roots b.roots && sameB a.data b.data))))

def okMode (mode : Int) : Bool := decide (mode = 1 ∨ mode = 2)
def newR (sh : Shape) (mode : Int) : Stt × Int := if shapeS sh && okMode mode then (firstStt sh mode, 0) else (zStt, 1)
set_option maxRecDepth 4000
open Go.Awp
open Go.Awp
/- The first rune of a text, as the document says. -/
def bt (s : ByteArray) (k : Nat) : Nat := (s.data.toList.getD k 0).toNat
theorem bt_lt (s : ByteArray) (k : Nat) : bt s k < 256 := UInt8.toNat_lt _
theorem get_bt (s : ByteArray) (k : Nat) : (s.get! k).toNat = bt s k := by
 unfold bt
 show (s.data[k]!).toNat = _
 congr 1
 rw [List.getD_eq_getElem?_getD, Array.getElem?_toList, getElem!_def]
 cases s.data[k]? <;> rfl
def clsN (b : Nat) : Nat × Nat × Nat := if 194 ≤ b ∧ b < 224 then (2, 128, 192) else if 224 ≤ b ∧ b < 240 then (3, 2048, 224) else if 240 ≤ b ∧ b < 245 then (4, 65536, 240) else (0, 0, 0)
def contB (b : Nat) : Bool := decide (128 ≤ b ∧ b < 192)
def accR (s : ByteArray) (a : Int) : Nat → Int
 | 0 => a
 | i + 1 => accR s a i * 64 + bt s (i + 1) - 128
def badR (a : Int) (least : Nat) : Bool := decide (a < least ∨ 1114111 < a ∨ (55296 ≤ a ∧ a ≤ 57343))
def runeR (s : ByteArray) : Int × Int :=
 if bt s 0 < 128 then (bt s 0, 1)
 else if (clsN (bt s 0)).1 = 0 ∨ s.size < (clsN (bt s 0)).1 then (0, 0)
 else if (List.range ((clsN (bt s 0)).1 - 1)).all (fun i => contB (bt s (i + 1))) = true then
  (if badR (accR s ((bt s 0 : Int) - (clsN (bt s 0)).2.2) ((clsN (bt s 0)).1 - 1)) (clsN (bt s 0)).2.1 = true then (0, 0) else (accR s ((bt s 0 : Int) - (clsN (bt s 0)).2.2) ((clsN (bt s 0)).1 - 1), (clsN (bt s 0)).1))
 else (0, 0)
theorem clsN_cases (b : Nat) : (194 ≤ b ∧ b < 224 ∧ clsN b = (2, 128, 192)) ∨ (224 ≤ b ∧ b < 240 ∧ clsN b = (3, 2048, 224)) ∨ (240 ≤ b ∧ b < 245 ∧ clsN b = (4, 65536, 240)) ∨ ((b < 194 ∨ 245 ≤ b) ∧ clsN b = (0, 0, 0)) := by
 unfold clsN
 by_cases h1 : 194 ≤ b ∧ b < 224
 · rw [if_pos h1]; exact .inl ⟨h1.1, h1.2, rfl⟩
 · rw [if_neg h1]
   by_cases h2 : 224 ≤ b ∧ b < 240
   · rw [if_pos h2]; exact .inr (.inl ⟨h2.1, h2.2, rfl⟩)
   · rw [if_neg h2]
     by_cases h3 : 240 ≤ b ∧ b < 245
     · rw [if_pos h3]; exact .inr (.inr (.inl ⟨h3.1, h3.2, rfl⟩))
     · rw [if_neg h3]; exact .inr (.inr (.inr ⟨by omega, rfl⟩))
theorem runeR_k {s : ByteArray} {k le ba : Nat} (h0 : ¬ bt s 0 < 128) (e : clsN (bt s 0) = (k, le, ba)) (hk : k ≠ 0) : runeR s = if s.size < k then (0, 0) else if (List.range (k - 1)).all (fun i => contB (bt s (i + 1))) = true then (if badR (accR s ((bt s 0 : Int) - ba) (k - 1)) le = true then (0, 0) else (accR s ((bt s 0 : Int) - ba) (k - 1), (k : Int))) else (0, 0) := by
 unfold runeR
 rw [if_neg h0, e]
 simp only
 by_cases h : s.size < k
 · rw [if_pos (.inr h), if_pos h]
 · rw [if_neg (by omega), if_neg h]
theorem pair_alt {r : Int × Int} {d : Nat × Nat} (h : (r = (0, 0) ∧ d.1 = 65533) ∨ (r = ((d.1 : Int), (d.2 : Int)) ∧ d.2 ≠ 0)) : (r.2 = 0 ∧ d.1 = 65533) ∨ (r.2 ≠ 0 ∧ r.1 = d.1 ∧ r.2 = d.2) := by
 rcases h with ⟨rfl, h⟩ | ⟨rfl, h⟩
 · exact .inl ⟨rfl, h⟩
 · exact .inr ⟨by simpa using h, rfl, rfl⟩
theorem runeR_decode {s : ByteArray} (h : 0 < s.size) : ((runeR s).2 = 0 ∧ (Utf8.decode s 0).1 = 65533) ∨ ((runeR s).2 ≠ 0 ∧ (runeR s).1 = (Utf8.decode s 0).1 ∧ (runeR s).2 = (Utf8.decode s 0).2) := by
 apply pair_alt
 have l0 := bt_lt s 0
 have l1 := bt_lt s 1
 have l2 := bt_lt s 2
 have l3 := bt_lt s 3
 unfold Utf8.decode
 simp only [Nat.zero_add, get_bt, Utf8.valid, Utf8.runeError]
 by_cases h0 : bt s 0 < 128
 · rw [if_pos h0]; right; unfold runeR; rw [if_pos h0]; exact ⟨rfl, by simp⟩
 have hn0 := h0
 rw [if_neg h0]
 rcases clsN_cases (bt s 0) with ⟨a1, a2, e⟩ | ⟨a1, a2, e⟩ | ⟨a1, a2, e⟩ | ⟨a1, e⟩
 · rw [runeR_k h0 e (by decide)]
   have hall : (List.range (2 - 1)).all (fun i => contB (bt s (i + 1))) = contB (bt s 1) := by simp [List.range_succ]
   have hacc : accR s ((bt s 0 : Int) - (192 : Nat)) (2 - 1) = ((bt s 0 : Int) - 192) * 64 + bt s 1 - 128 := rfl
   rw [hall, hacc]
   generalize bt s 0 = b0 at *
   generalize bt s 1 = b1 at *
   have d1 : b0 / 32 = 6 := by omega
   have d2 : b0 / 16 ≠ 14 := by omega
   have d3 : b0 / 8 ≠ 30 := by omega
   simp only [d1, d2, d3, contB, badR, beq_iff_eq, Bool.and_eq_true, decide_eq_true_eq, true_and, false_and, if_false, BEq.rfl]
   by_cases hz : 1 < s.size ∧ b1 / 64 = 2
   · rw [if_pos hz, if_neg (by omega), if_pos (by omega), if_neg (by omega), if_pos (by omega)]
     right; constructor
     · exact Prod.ext (by show _ = ((b0 % 32 * 64 + b1 % 64 : Nat) : Int); omega) rfl
     · show (2 : Nat) ≠ 0; decide
   · rw [if_neg hz]; left
     refine ⟨?_, rfl⟩
     by_cases hs : s.size < 2
     · rw [if_pos hs]
     · rw [if_neg hs, if_neg (by omega)]
 · rw [runeR_k h0 e (by decide)]
   have hall : (List.range (3 - 1)).all (fun i => contB (bt s (i + 1))) = (contB (bt s 1) && contB (bt s 2)) := by simp [List.range_succ]
   have hacc : accR s ((bt s 0 : Int) - (224 : Nat)) (3 - 1) = (((bt s 0 : Int) - 224) * 64 + bt s 1 - 128) * 64 + bt s 2 - 128 := rfl
   rw [hall, hacc]
   generalize bt s 0 = b0 at *
   generalize bt s 1 = b1 at *
   generalize bt s 2 = b2 at *
   have d1 : b0 / 32 ≠ 6 := by omega
   have d2 : b0 / 16 = 14 := by omega
   have d3 : b0 / 8 ≠ 30 := by omega
   simp only [d1, d2, d3, contB, badR, beq_iff_eq, Bool.and_eq_true, Bool.or_eq_true, decide_eq_true_eq, true_and, false_and, if_false, BEq.rfl]
   by_cases hz : (1 < s.size ∧ b1 / 64 = 2) ∧ 2 < s.size ∧ b2 / 64 = 2
   · rw [if_pos hz, if_neg (by omega), if_pos (by omega)]
     by_cases hb : (((b0 : Int) - 224) * 64 + b1 - 128) * 64 + b2 - 128 < (2048 : Nat) ∨ 1114111 < (((b0 : Int) - 224) * 64 + b1 - 128) * 64 + b2 - 128 ∨ 55296 ≤ (((b0 : Int) - 224) * 64 + b1 - 128) * 64 + b2 - 128 ∧ (((b0 : Int) - 224) * 64 + b1 - 128) * 64 + b2 - 128 ≤ 57343
     · rw [if_pos hb, if_neg (by omega)]; exact .inl ⟨rfl, rfl⟩
     · rw [if_neg hb, if_pos (by omega)]
       right; constructor
       · exact Prod.ext (by show _ = ((b0 % 16 * 4096 + b1 % 64 * 64 + b2 % 64 : Nat) : Int); omega) rfl
       · show (3 : Nat) ≠ 0; decide
   · rw [if_neg hz]; left
     refine ⟨?_, rfl⟩
     by_cases hs : s.size < 3
     · rw [if_pos hs]
     · rw [if_neg hs, if_neg (by omega)]
 · rw [runeR_k h0 e (by decide)]
   have hall : (List.range (4 - 1)).all (fun i => contB (bt s (i + 1))) = (contB (bt s 1) && (contB (bt s 2) && contB (bt s 3))) := by simp [List.range_succ, Bool.and_assoc]
   have hacc : accR s ((bt s 0 : Int) - (240 : Nat)) (4 - 1) = ((((bt s 0 : Int) - 240) * 64 + bt s 1 - 128) * 64 + bt s 2 - 128) * 64 + bt s 3 - 128 := rfl
   rw [hall, hacc]
   generalize bt s 0 = b0 at *
   generalize bt s 1 = b1 at *
   generalize bt s 2 = b2 at *
   generalize bt s 3 = b3 at *
   have d1 : b0 / 32 ≠ 6 := by omega
   have d2 : b0 / 16 ≠ 14 := by omega
   have d3 : b0 / 8 = 30 := by omega
   obtain ⟨A, hA⟩ : ∃ A : Int, A = ((((b0 : Int) - 240) * 64 + b1 - 128) * 64 + b2 - 128) * 64 + b3 - 128 := ⟨_, rfl⟩
   rw [← hA]
   simp only [d1, d2, d3, contB, badR, beq_iff_eq, Bool.and_eq_true, Bool.or_eq_true, decide_eq_true_eq, true_and, false_and, if_false, BEq.rfl]
   by_cases hz : ((1 < s.size ∧ b1 / 64 = 2) ∧ 2 < s.size ∧ b2 / 64 = 2) ∧ 3 < s.size ∧ b3 / 64 = 2
   · rw [if_pos hz, if_neg (by omega), if_pos (by omega)]
     have hv : ((b0 % 8 * 262144 + b1 % 64 * 4096 + b2 % 64 * 64 + b3 % 64 : Nat) : Int) = A := by omega
     by_cases hb : A < (65536 : Nat) ∨ 1114111 < A ∨ 55296 ≤ A ∧ A ≤ 57343
     · rw [if_pos hb, if_neg (by omega)]; exact .inl ⟨rfl, rfl⟩
     · rw [if_neg hb, if_pos (by omega)]
       right; constructor
       · exact Prod.ext (by show _ = ((b0 % 8 * 262144 + b1 % 64 * 4096 + b2 % 64 * 64 + b3 % 64 : Nat) : Int); omega) rfl
       · show (4 : Nat) ≠ 0; decide
   · rw [if_neg hz]; left
     refine ⟨?_, rfl⟩
     by_cases hs : s.size < 4
     · rw [if_pos hs]
     · rw [if_neg hs, if_neg (by omega)]
 · left
   have hr : runeR s = (0, 0) := by unfold runeR; rw [if_neg h0, if_pos (.inl (by rw [e]))]
   refine ⟨hr, ?_⟩
   generalize bt s 0 = b0 at *
   generalize bt s 1 = b1 at *
   generalize bt s 2 = b2 at *
   generalize bt s 3 = b3 at *
   simp only [beq_iff_eq, Bool.and_eq_true, Bool.or_eq_true, decide_eq_true_eq]
   repeat' split
   all_goals first | rfl | omega
open Go.Awp
theorem btF3 {s : ByteArray} {k : Nat} (h : k < s.data.size) : s.data[k].toNat = bt s k := by rw [bt, List.getD_eq_getElem?_getD, Array.getElem?_toList, Array.getElem?_eq_getElem h]; rfl
theorem runeR_le {s : ByteArray} (h : 0 < s.size) : (runeR s).2 ≤ s.size := by
 unfold runeR
 split
 · show (1 : Int) ≤ _; omega
 · split
   · show (0 : Int) ≤ _; omega
   · rename_i q
     split
     · split
       · show (0 : Int) ≤ _; omega
       · show (((clsN (bt s 0)).1 : Nat) : Int) ≤ _; omega
     · show (0 : Int) ≤ _; omega
theorem get_extract {t : ByteArray} {w p : Nat} (hw : w ≤ t.size) : (t.extract w t.size).get! p = t.get! (w + p) := by
 show (t.extract w t.size).data[p]! = t.data[w + p]!
 rw [ByteArray.data_extract, getElem!_def, getElem!_def, Array.getElem?_extract]
 have : t.data.size = t.size := rfl
 by_cases h : p < min t.size t.data.size - w
 · rw [if_pos h]
 · rw [if_neg h, Array.getElem?_eq_none (by omega)]
theorem decode_shift {t : ByteArray} {w p : Nat} (hw : w ≤ t.size) : Utf8.decode t (w + p) = Utf8.decode (t.extract w t.size) p := by
 unfold Utf8.decode
 have hs : (t.extract w t.size).size = t.size - w := by rw [ByteArray.size_extract]; omega
 have hc : ∀ k, decide (w + (p + k) < t.size) = decide (p + k < t.size - w) := fun k => decide_eq_decide.2 (by omega)
 simp only [get_extract hw, hs, Nat.add_assoc, hc]
theorem runesOk_shift {t : ByteArray} {w : Nat} (hw : w ≤ t.size) : ∀ (n p : Nat), t.size - (w + p) ≤ n → runesOk t (w + p) = runesOk (t.extract w t.size) p
 | n, p, hn => by
  have hs : (t.extract w t.size).size = t.size - w := by rw [ByteArray.size_extract]; omega
  conv => lhs; rw [runesOk]
  conv => rhs; rw [runesOk]
  rw [hs, decode_shift hw]
  by_cases h : w + p < t.size
  · rw [if_pos h, if_pos (by omega)]
    have hd := decode_pos (t.extract w t.size) p
    cases n with
    | zero => omega
    | succ n =>
     rw [Nat.add_assoc, runesOk_shift hw n (p + (Utf8.decode (t.extract w t.size) p).2) (by omega)]
  · rw [if_neg h, if_neg (by omega)]
theorem runesOk_step {t : ByteArray} (h : 0 < t.size) : ((runeR t).2 = 0 ∨ mayS (runeR t).1 = false → runesOk t 0 = false) ∧
    ((runeR t).2 ≠ 0 → mayS (runeR t).1 = true → ∃ w : Nat, (runeR t).2 = w ∧ 0 < w ∧ w ≤ t.size ∧ runesOk t 0 = runesOk (t.extract w t.size) 0) := by
 have hu : runesOk t 0 = (mayS (Utf8.decode t 0).1 && runesOk t (0 + (Utf8.decode t 0).2)) := by
  conv => lhs; rw [runesOk]
  rw [if_pos h]
 have hle := runeR_le h
 rcases runeR_decode h with ⟨h1, h2⟩ | ⟨h1, h2, h3⟩
 · refine ⟨fun _ => ?_, fun q => absurd h1 q⟩
   rw [hu, h2]; rfl
 · refine ⟨fun q => ?_, fun _ q => ?_⟩
   · rw [hu, ← h2, q.resolve_left h1]; rfl
   · refine ⟨(Utf8.decode t 0).2, h3, by omega, by omega, ?_⟩
     have := runesOk_shift (t := t) (w := (Utf8.decode t 0).2) (by omega) t.size 0 (by omega)
     rw [hu, ← h2, q, Nat.zero_add]; exact this
theorem nameS_long {s : ByteArray} (h : s.size < 1 ∨ 16 < s.size) : nameS s = false := by
 unfold nameS
 rcases h with h | h
 · have : s.toList = [] := by
    apply List.eq_nil_of_length_eq_zero
    have e := toList_size s
    omega
   simp [this]
 · simp [show ¬ (s.size : Int) ≤ 16 by omega]
theorem nameS_short {s : ByteArray} (h : 1 ≤ s.size ∧ s.size ≤ 16) : nameS s = runesOk s 0 := by
 unfold nameS
 have e := toList_size s
 have : s.toList ≠ [] := fun q => by rw [q] at e; simp at e; omega
 simp [this, show (s.size : Int) ≤ 16 by omega]
open Go.Awp
theorem ct92 (g : Gl) (s : ByteArray) (hs : 0 < s.size) : CtAt Try.prog g 92 [vS s] (.tup [vI (runeR s).1, vI (runeR s).2]) := by
 refine ctAt_of_W Try.func92 rfl rfl (Nat.le_of_ble_eq_true rfl) fun B S => ?_
 have wb : ∀ k, IntKind.i64.wrap (bt s k : Int) = bt s k := fun k => wrap64 (by have := bt_lt s k; omega) (by have := bt_lt s k; omega)
 have hb0 := bt_lt s 0
 refine xU ?_
 iterate 2 refine xO ?_
 refine xG [0] ?_
 iterate 3 refine xO ?_
 refine xG [0,4] ?_
 refine xO ?_
 refine xO ?_ (h := by simp [indexA, hs, btF3 (k := 0) hs]; exact .mk)
 refine xO ?_ (h := by simp [convA, isIntTy, wb]; exact .mk)
 refine xO ?_
 refine xF [0,4,5] ?_
 refine W_seq (xU ?_)
 iterate 2 refine xO ?_
 refine xF [0,4,5,16] ?_
 refine W_cond rfl ?_ ?_
 · intro h16
   have hr : runeR s = ((bt s 0 : Int), 1) := by unfold runeR; rw [if_pos (by simp at h16; omega)]
   refine xU ?_
   iterate 3 refine xO ?_
   refine xF [2,3] ?_
   refine W_ret (xR (by simp [Try.f92]; exact .mk) ?_)
   simp [Try.f92, hr]
 intro h16
 have h0 : ¬ bt s 0 < 128 := by simp at h16; omega
 obtain ⟨k, le, ba, e⟩ : ∃ k le ba, clsN (bt s 0) = (k, le, ba) := ⟨_, _, _, rfl⟩
 have hcc := clsN_cases (bt s 0)
 rw [e] at hcc
 simp only [Prod.mk.injEq] at hcc
 refine W_skip ?_
 refine xT ?_
 refine xO ?_
 refine xG [0,4,5,6] ?_
 refine xO ?_
 refine xF [0,4,5,6,7] ?_
 refine W_seq (xU ?_)
 iterate 3 refine xO ?_
 iterate 2 refine xI ?_
 refine xP ?_
 refine xF [0,4,5,6,7,23] ?_
 refine W_joinW ([(0, .d (vS s)), (4, .d (vI s.size)), (5, .d (vI ((bt s 0 : Int) - ba))), (6, .d (vI k)), (7, .d (vI le))]) ([]) ?_ ?_
 · skip
   refine W_cond rfl ?_ ?_
   · intro h23
     obtain ⟨rfl, rfl, rfl⟩ : k = 2 ∧ le = 128 ∧ ba = 192 := by simp at h23; omega
     have w1 : IntKind.i64.wrap ((bt s 0 : Int) - 192) = (bt s 0 : Int) - 192 := wrap64 (by omega) (by omega)
     refine xU ?_
     refine xO ?_
     refine xG [0,4,5,6] ?_
     refine xO ?_
     refine xF [0,4,5,6,7] ?_
     refine W_reg rfl ?_
     refine xO ?_
     refine xO ?_ (h := by simp [w1]; exact .mk)
     refine xO ?_
     refine xE [0,4,5,6,7] ?_
     exact ⟨rfl, Weak.kills [0,4,5,6,7] (by simp)⟩
   intro h23
   refine xU ?_
   iterate 3 refine xO ?_
   iterate 2 refine xI ?_
   refine xP ?_
   refine xF [0,4,5,6,7,31] ?_
   refine W_cond rfl ?_ ?_
   · intro h31
     obtain ⟨rfl, rfl, rfl⟩ : k = 3 ∧ le = 2048 ∧ ba = 224 := by simp at h31; omega
     have w1 : IntKind.i64.wrap ((bt s 0 : Int) - 224) = (bt s 0 : Int) - 224 := wrap64 (by omega) (by omega)
     refine xU ?_
     refine xO ?_
     refine xG [0,4,5,6] ?_
     refine xO ?_
     refine xF [0,4,5,6,7] ?_
     refine W_reg rfl ?_
     refine xO ?_
     refine xO ?_ (h := by simp [w1]; exact .mk)
     refine xO ?_
     refine xE [0,4,5,6,7] ?_
     exact ⟨rfl, Weak.kills [0,4,5,6,7] (by simp)⟩
   intro h31
   refine xU ?_
   iterate 3 refine xO ?_
   iterate 2 refine xI ?_
   refine xP ?_
   refine xF [0,4,5,6,7,39] ?_
   refine W_cond rfl ?_ ?_
   · intro h39
     obtain ⟨rfl, rfl, rfl⟩ : k = 4 ∧ le = 65536 ∧ ba = 240 := by simp at h39; omega
     have w1 : IntKind.i64.wrap ((bt s 0 : Int) - 240) = (bt s 0 : Int) - 240 := wrap64 (by omega) (by omega)
     refine xU ?_
     refine xO ?_
     refine xG [0,4,5,6] ?_
     refine xO ?_
     refine xF [0,4,5,6,7] ?_
     refine W_reg rfl ?_
     refine xO ?_
     refine xO ?_ (h := by simp [w1]; exact .mk)
     refine xO ?_
     refine xE [0,4,5,6,7] ?_
     exact ⟨rfl, Weak.kills [0,4,5,6,7] (by simp)⟩
   intro h39
   obtain ⟨rfl, rfl, rfl⟩ : k = 0 ∧ le = 0 ∧ ba = 0 := by simp at *; omega
   refine W_skip ?_
   exact ⟨rfl, Weak.kills [0,4,5,6,7] (by simp)⟩
 rintro -
 refine W_seq (xU ?_)
 iterate 3 refine xO ?_
 iterate 3 refine xI ?_
 refine xP ?_
 refine xF [0,5,6,7,48] ?_
 refine W_cond rfl ?_ ?_
 · intro h48
   have hr : runeR s = (0, 0) := by unfold runeR; rw [if_neg h0, if_pos (by rw [e]; simp at h48; omega)]
   refine xU ?_
   iterate 2 refine xO ?_
   refine xF [2,3] ?_
   refine W_ret (xR (by simp [Try.f92]; exact .mk) ?_)
   simp [Try.f92, hr]
 intro h48
 have hk : k ≠ 0 ∧ k ≤ s.size := by simp at h48; omega
 have hr0 := runeR_k h0 e hk.1
 rw [if_neg (by omega)] at hr0
 have hk4 : 2 ≤ k ∧ k ≤ 4 ∧ (ba : Int) ≤ bt s 0 ∧ (bt s 0 : Int) - ba < 32 := by omega
 obtain ⟨a, ha⟩ : ∃ a : Int, a = (bt s 0 : Int) - ba := ⟨_, rfl⟩
 rw [← ha] at hr0 hk4 ⊢
 refine W_skip ?_
 rintro -
 refine W_seq (xU ?_)
 refine xO ?_
 refine xF [0,5,6,7,8] ?_
 refine W_block (W_rounds (fun m σ o => ∃ j : Nat, m = k - (j + 1) ∧ j + 1 ≤ k ∧ (∀ t, t < j → contB (bt s (t + 1)) = true) ∧ (0 ≤ accR s a j ∧ accR s a j < 32 * 64 ^ j) ∧ σ = slots [(0, .d (vS s)), (5, .d (vI (accR s a j))), (6, .d (vI k)), (7, .d (vI le)), (8, .d (vI ((j + 1 : Nat) : Int)))] ∧ o = []) (k - 1) .refl ⟨0, by simp, by omega, by simp, ⟨by show 0 ≤ a; omega, by show a < 32; omega⟩, rfl, rfl⟩ ?_)
 rintro m σ o ⟨j, rfl, hj, hinv, hab, rfl, rfl⟩ _
 have hpw : (64 : Int) ^ j ≤ 64 ^ 3 := by exact_mod_cast Nat.pow_le_pow_right (by decide : 0 < 64) (by omega : j ≤ 3)
 refine W_seq (xU ?_)
 iterate 3 refine xO ?_
 refine xF [0,5,6,7,8,51] ?_
 refine W_cond rfl ?_ ?_
 · intro h51
   have hj2 : j + 1 < k := by simp at h51; omega
   have hj3 : j + 1 < s.size := by omega
   have hj4 : (j : Int) + 1 < s.size := by omega
   have hj5 : (0 : Int) ≤ (j : Int) + 1 := by omega
   have hj6 : ((j : Int) + 1).toNat = j + 1 := by omega
   have hbj := bt_lt s (j + 1)
   refine W_skip ?_
   rintro -
   refine W_seq (W_block ?_)
   refine xU ?_
   iterate 2 refine xO ?_
   refine xO ?_ (h := by simp [indexA, hj3, hj4, hj5, hj6, btF3 hj3]; exact .mk)
   refine xO ?_ (h := by simp [convA, isIntTy, wb]; exact .mk)
   refine xO ?_
   refine xF [0,5,6,7,8,9] ?_
   refine W_seq (xU ?_)
   iterate 3 refine xO ?_
   iterate 2 refine xI ?_
   refine xP ?_
   refine xF [0,5,6,7,8,9,63] ?_
   refine W_cond rfl ?_ ?_
   · intro h63
     have hr : runeR s = (0, 0) := by
      rw [hr0, if_neg]
      rw [all_bad (i := j) (by omega) (by simp [contB]; simp at h63; omega)]; simp
     refine xU ?_
     iterate 2 refine xO ?_
     refine xF [2,3] ?_
     refine W_ret (xR (by simp [Try.f92]; exact .mk) ?_)
     simp [Try.f92, hr]
   intro h63
   have hct : contB (bt s (j + 1)) = true := by simp [contB]; simp at h63; omega
   have hcb : 128 ≤ bt s (j + 1) ∧ bt s (j + 1) < 192 := by simpa [contB] using hct
   have w1 : IntKind.i64.wrap (accR s a j * 64) = accR s a j * 64 := wrap64 (by omega) (by omega)
   have w2 : IntKind.i64.wrap (accR s a j * 64 + bt s (j + 1)) = accR s a j * 64 + bt s (j + 1) := wrap64 (by omega) (by omega)
   have w3 : IntKind.i64.wrap (accR s a j * 64 + bt s (j + 1) - 128) = accR s a j * 64 + bt s (j + 1) - 128 := wrap64 (by omega) (by omega)
   refine W_skip ?_
   rintro -
   refine W_reg rfl ?_
   refine xO ?_
   refine xO ?_ (h := by simp [w1]; exact .mk)
   refine xO ?_
   refine xO ?_ (h := by simp [w2]; exact .mk)
   refine xO ?_ (h := by simp [w3]; exact .mk)
   refine xO ?_
   refine xF [0,5,6,7,8] ?_
   refine W_reg rfl ?_
   iterate 3 refine xO ?_
   refine xE [0,5,6,7,8] ?_
   refine rounds_kill [0,5,6,7,8] ?_
   refine rounds_next (m' := k - (j+1+1)) (by omega) ⟨j+1, rfl, by omega, ?_, ?_, ?_, rfl⟩
   · intro t ht
     rcases Nat.lt_succ_iff_lt_or_eq.1 ht with ht | rfl
     · exact hinv t ht
     exact hct
   · have : accR s a (j + 1) = accR s a j * 64 + bt s (j + 1) - 128 := rfl
     have hp : (64 : Int) ^ (j + 1) = 64 ^ j * 64 := Int.pow_succ 64 j
     omega
   rw [wrap64 (by omega) (by omega)]; rfl
 intro h51
 obtain rfl : k = j + 1 := by simp at h51; omega
 have hall : (List.range (j + 1 - 1)).all (fun i => contB (bt s (i + 1))) = true := all_good (fun t ht => hinv t (by omega))
 rw [if_pos hall, Nat.add_sub_cancel] at hr0
 refine W_exit ?_
 rintro -
 refine W_seq (xU ?_)
 iterate 4 refine xO ?_
 iterate 2 refine xI ?_
 refine xP ?_
 refine xB ?_
 iterate 5 refine xI ?_
 iterate 2 refine xP ?_
 refine xF [5,6,83] ?_
 refine W_cond rfl ?_ ?_
 · intro h83
   have hr : runeR s = (0, 0) := by rw [hr0, if_pos]; simp [badR]; simp at h83; grind
   refine xU ?_
   iterate 2 refine xO ?_
   refine xF [2,3] ?_
   refine W_ret (xR (by simp [Try.f92]; exact .mk) ?_)
   simp [Try.f92, hr]
 intro h83
 have hr : runeR s = (accR s a j, ((j + 1 : Nat) : Int)) := by rw [hr0, if_neg]; simp [badR]; simp at h83; grind
 refine W_skip ?_
 refine xT ?_
 iterate 4 refine xO ?_
 refine xF [2,3] ?_
 refine W_ret (xR (by simp [Try.f92]; exact .mk) ?_)
 simp [Try.f92, hr]

theorem ct48 (g : Gl) (s : ByteArray) : CtAt Try.prog g 48 [vS s] (.v (.bool (nameS s))) := by
 refine ctAt_of_W Try.func48 rfl rfl (Nat.le_of_ble_eq_true rfl) fun B S => ?_
 refine xU ?_
 refine xO ?_
 refine xF [0] ?_
 refine W_seq (xU ?_)
 iterate 4 refine xO ?_
 iterate 3 refine xI ?_
 refine xP ?_
 refine xF [0,12] ?_
 refine W_cond rfl ?_ ?_
 · intro h12
   have hr : nameS s = false := nameS_long (by simp at h12; omega)
   refine xU ?_
   refine xO ?_
   refine xF [2] ?_
   refine W_ret (xR (by simp [Try.f48]; exact .mk) ?_)
   simp [Try.f48, hr]
 intro h12
 have hsz : 1 ≤ s.size ∧ s.size ≤ 16 := by simp at h12; omega
 have hr0 := nameS_short hsz
 refine W_skip ?_
 rintro -
 refine W_seq (W_block ?_)
 refine W_rounds (fun m σ o => ∃ t : ByteArray, m = t.size ∧ runesOk s 0 = runesOk t 0 ∧ σ = slots [(0, .d (vS t))] ∧ o = []) s.size (Weak.kills [0] rfl) ⟨s, rfl, rfl, rfl, rfl⟩ ?_
 rintro m σ o ⟨t, rfl, hro, rfl, rfl⟩ _
 refine W_seq (xU ?_)
 iterate 3 refine xO ?_
 refine xF [0,15] ?_
 refine W_cond rfl ?_ ?_
 · intro h15
   have ht0 : 0 < t.size := by simp at h15; omega
   obtain ⟨s1, s2⟩ := runesOk_step ht0
   refine W_skip ?_
   rintro -
   refine W_block (xU ?_)
   refine xO ?_
   refine xC (ct92 g t ht0) ?_
   iterate 5 refine xO ?_
   refine xF [0,3,4] ?_
   refine W_seq (xU ?_)
   iterate 3 refine xO ?_
   iterate 2 refine xI ?_
   refine xP ?_
   refine xB ?_
   iterate 5 refine xI ?_
   iterate 2 refine xP ?_
   refine xB ?_
   iterate 2 refine xI ?_
   refine xP ?_
   refine xF [0,4,38] ?_
   refine W_cond rfl ?_ ?_
   · intro h38
     have hr : nameS s = false := by rw [hr0, hro]; apply s1; simp [mayS]; simp at h38; grind
     refine xU ?_
     refine xO ?_
     refine xF [2] ?_
     refine W_ret (xR (by simp [Try.f48]; exact .mk) ?_)
     simp [Try.f48, hr]
   intro h38
   obtain ⟨w, w1, w2, w3, w4⟩ := s2 (by simp at h38; grind) (by simp [mayS]; simp at h38; grind)
   have w5 : (w : Int) ≤ t.size := by omega
   refine W_skip ?_
   rintro -
   refine W_reg rfl ?_
   iterate 2 refine xO ?_
   refine xO ?_ (h := by simp [sliceA, optA, w1, w3, w5]; exact .mk)
   refine xO ?_
   refine xE [0] ?_
   refine rounds_kill [0] ?_
   refine rounds_next (m' := (t.extract w t.size).size) (by have q1 : 0 < w := w2; have q2 : w ≤ t.size := w3; rw [ByteArray.size_extract, Nat.min_self]; omega) ⟨t.extract w t.size, rfl, by rw [hro, w4], rfl, rfl⟩
 intro h15
 have hz : ¬ 0 < t.size := by have q := of_decide_eq_false h15; omega
 have hr : nameS s = true := by
  rw [hr0, hro]
  conv => lhs; rw [runesOk]
  exact if_neg hz
 refine W_exit (xT ?_)
 refine xO ?_
 refine xF [2] ?_
 refine W_ret (xR (by simp [Try.f48]; exact .mk) ?_)
 simp [Try.f48, hr]

theorem ct97 (g : Gl) (a b : Int) : CtAt Try.prog g 97 [.agg [vI a, vI b]] (.v (.bool (handleS a b))) := by
 refine ctAt_of_W Try.func97 rfl rfl (Nat.le_of_ble_eq_true rfl) fun B S => ?_
 simp only [List.map, argD_agg]
 refine xU ?_
 iterate 2 refine xO ?_
 refine xG [1] ?_
 iterate 4 refine xO ?_
 iterate 3 refine xI ?_
 refine xP ?_
 refine xB ?_
 iterate 3 refine xI ?_
 refine xP ?_
 refine xB ?_
 iterate 3 refine xI ?_
 refine xP ?_
 refine xB ?_
 refine xF [2] ?_
 refine W_ret (xR (by simp [Try.f97]; exact .mk) ?_)
 first | (simp [Try.f97, handleS, Bool.and_assoc]; done) | (simp [Try.f97, handleS, Bool.and_assoc]; grind)

theorem ct98 (g : Gl) (l : List Root) (nm : ByteArray) (hl : l.length ≤ 2^40) : CtAt Try.prog g 98 [rR l, vS nm] (vI (firstS l nm)) := by
 refine ctAt_of_W Try.func98 rfl rfl (Nat.le_of_ble_eq_true rfl) fun B S => ?_
 refine xU ?_
 refine xO ?_
 refine xF [0,1] ?_
 refine W_seq (xU ?_)
 refine xO ?_
 refine xF [0,1,5] ?_
 refine W_block (W_rounds (fun m σ o => ∃ i : Nat, m = l.length - i ∧ i ≤ l.length ∧ (∀ j, j < i → ((nth l j).name.toList == nm.toList) = false) ∧ σ = slots [(0, .d (rR l)), (1, .d (vS nm)), (5, .d (vI i))] ∧ o = []) l.length .refl ⟨0, by simp, by simp, by simp, rfl, rfl⟩ ?_)
 rintro m σ o ⟨i, rfl, hi, hinv, rfl, rfl⟩ _
 refine W_seq (xU ?_)
 iterate 4 refine xO ?_
 refine xF [0,1,5,9] ?_
 refine W_cond rfl ?_ ?_
 · intro h9
   have hi2 : i < l.length := by simpa using h9
   refine W_skip ?_
   rintro -
   refine W_seq (W_block ?_)
   refine xU ?_
   iterate 2 refine xO ?_
   refine xO ?_ (h := by simp [eRoot, hi2]; exact .mk)
   refine xO ?_
   refine xO ?_ (h := by simp [-List.getElem?_map, map_get hi2, eRoot]; exact .mk)
   iterate 2 refine xO ?_
   refine xF [0,1,5,18] ?_
   refine W_cond rfl ?_ ?_
   · intro h18
     have hr := firstS_at hi2 hinv h18
     refine xU ?_
     iterate 2 refine xO ?_
     refine xF [4] ?_
     refine W_ret (xR (by simp [Try.f98]; exact .mk) ?_)
     simp [Try.f98, hr]
   intro h18
   refine W_skip ?_
   rintro -
   refine W_reg rfl ?_
   iterate 3 refine xO ?_
   refine xE [0,1,5] ?_
   refine rounds_kill [0,1,5] ?_
   refine rounds_next (m' := l.length - (i+1)) (by omega) ⟨i+1, rfl, by omega, ?_, ?_, rfl⟩
   · intro j hj
     rcases Nat.lt_succ_iff_lt_or_eq.1 hj with hj | rfl
     · exact hinv j hj
     exact h18
   rw [wrap64 (by omega) (by omega)]; rfl
 intro h9
 have hr := firstS_none (l := l) (nm := nm) (fun j hj => hinv j (by simp at h9; omega))
 refine W_exit (xT ?_)
 refine xO ?_
 refine xF [4] ?_
 refine W_ret (xR (by simp [Try.f98]; exact .mk) ?_)
 simp [Try.f98, hr]

theorem ct55 (g : Gl) (l : List Root) (hl : l.length ≤ 2^40) : CtAt Try.prog g 55 [rR l] (.v (.bool (rootsS l))) := by
 refine ctAt_of_W Try.func55 rfl rfl (Nat.le_of_ble_eq_true rfl) fun B S => ?_
 refine xU ?_
 refine xO ?_
 refine xG [0] ?_
 refine xO ?_ (h := by simp [splice]; exact .mk)
 refine xO ?_
 refine xO ?_ (h := by simp [splice]; exact .mk)
 refine xF [0,3] ?_
 refine W_seq (xU ?_)
 refine xO ?_
 refine xF [0,3,4] ?_
 refine W_block (W_rounds (fun m σ o => ∃ i : Nat, m = l.length - i ∧ i ≤ l.length ∧ (∀ j, j < i → rootOk l j = true) ∧ σ = slots [(0, .d (rR l)), (3, .ptr 0 0 0), (4, .d (vI i))] ∧ o = [.var 28 [.d (vI 0), .d (vI 0)]]) l.length .refl ⟨0, by simp, by simp, by simp, rfl, rfl⟩ ?_)
 rintro m σ o ⟨i, rfl, hi, hinv, rfl, rfl⟩ _
 refine W_seq (xU ?_)
 iterate 4 refine xO ?_
 refine xF [0,3,4,11] ?_
 refine W_cond rfl ?_ ?_
 · intro h11
   have hi2 : i < l.length := by simpa using h11
   refine W_skip ?_
   rintro -
   refine W_seq (W_block ?_)
   refine W_seq (xU ?_)
   iterate 2 refine xO ?_
   refine xO ?_ (h := by simp [eRoot, hi2]; exact .mk)
   refine xO ?_
   refine xO ?_ (h := by simp [-List.getElem?_map, map_get hi2, eRoot]; exact .mk)
   refine xO ?_
   refine xF [0,3,4,19] ?_
   refine W_cond rfl ?_ ?_
   · intro h19
     have hz0 : (nth l i).name.toList = [] := by simpa using h19
     have hz : ((nth l i).name.toList == (⟨#[]⟩ : ByteArray).toList) = true := by rw [hz0, toList_eq]; rfl
     refine W_seq (W_seq ?_)
     refine W_regD (by kernel_rfl) [] 4 [0,1,2,3,4,5,6] (by decide +kernel) ?_
     iterate 2 refine xO ?_
     refine xO ?_ (h := by simp [eRoot, hi2]; exact .mk)
     refine xO ?_
     refine xO ?_ (h := by simp [-List.getElem?_map, map_get hi2, eRoot]; exact .mk)
     refine xO ?_ (h := by simp [eRoot]; exact .mk)
     refine xO ?_
     refine xF [0,3,4,26] ?_
     refine W_cond rfl ?_ ?_
     · intro h26
       have hr : rootsS l = false := roots_bad hi2 (by
         have hn : nameS (nth l i).name = false := by unfold nameS; rw [hz0]; simp
         unfold rootOk isZero; rw [hn, hz]; simp at h26; simp; grind)
       refine xU ?_
       refine xO ?_
       refine xF [2] ?_
       refine W_ret (xR (by simp [Try.f55]; exact .mk) ?_)
       first | (simp [Try.f55, hr]; done) | (simp [Try.f55, hr, newOk]; grind)
     intro h26
     have hok : rootOk l i = true := by unfold rootOk isZero; rw [hz]; simp at h26; simp; grind
     refine W_skip ?_
     rintro -
     refine W_exit ?_
     rintro -
     refine W_reg rfl ?_
     iterate 3 refine xO ?_
     refine xE [0,3,4] ?_
     refine rounds_kill [0,3,4] ?_
     refine rounds_next (m' := l.length - (i+1)) (by omega) ⟨i+1, rfl, by omega, ?_, ?_, rfl⟩
     · intro j hj
       rcases Nat.lt_succ_iff_lt_or_eq.1 hj with hj | rfl
       · exact hinv j hj
       exact hok
     rw [wrap64 (by omega) (by omega)]; rfl
   intro h19
   have hz : ((nth l i).name.toList == (⟨#[]⟩ : ByteArray).toList) = false := by
    have hz0 : (nth l i).name.toList ≠ [] := by simpa using h19
    rw [toList_eq ⟨#[]⟩]; simpa using hz0
   refine W_skip ?_
   refine xT ?_
   iterate 2 refine xO ?_
   refine xO ?_ (h := by simp [eRoot, hi2]; exact .mk)
   refine xO ?_
   refine xO ?_ (h := by simp [-List.getElem?_map, map_get hi2, eRoot]; exact .mk)
   refine xC (ct48 g (nth l i).name) ?_
   refine xO ?_
   refine xG [0,3,4,5] ?_
   iterate 2 refine xO ?_
   refine xO ?_ (h := by simp [eRoot, hi2]; exact .mk)
   refine xO ?_
   refine xO ?_ (h := by simp [-List.getElem?_map, map_get hi2, eRoot]; exact .mk)
   refine xC (ct97 g (nth l i).ix (nth l i).gen) ?_
   refine xO ?_
   refine xF [0,3,4,5,6] ?_
   refine W_seq ?_
   refine W_regD (by kernel_rfl) [] 4 [0,1,2,3,4,5,6,7,8,9,10,11,12,13,14,15,16,17] (by decide +kernel) ?_
   iterate 3 refine xO ?_
   iterate 2 refine xI ?_
   refine xP ?_
   refine xB ?_
   iterate 2 refine xI ?_
   refine run_if rfl (by simp; exact .mk) rfl (by simp <;> first | omega | grind) (fun hb => by simp [optA, hi2, Nat.le_of_lt hi2]; exact .mk) ?_
   iterate 2 refine xI ?_
   refine run_if rfl (by simp; exact .mk) rfl (by simp <;> first | omega | grind) (fun hb => by simp [eRoot, hi2]; exact .mk) ?_
   refine xI ?_
   refine run_if rfl (by simp; exact .mk) rfl (by simp <;> first | omega | grind) (fun hb => by simp [-List.getElem?_map, map_get hi2, eRoot]; exact .mk) ?_
   refine run_call rfl (by simp; exact .mk) rfl rfl (by simp) (by simp; exact .mk) (by simp; exact .mk) (fun hb => ct98 g (l.take i) (nth l i).name (by simp; omega)) (by simp) (by simp; exact .mk) (by simp) ?_
   refine xI ?_
   refine xP ?_
   refine xF [0,3,4,56] ?_
   refine W_cond rfl ?_ ?_
   · intro h56
     have hr : rootsS l = false := roots_bad hi2 (by unfold rootOk isZero; rw [hz]; simp at h56; simp; grind)
     refine xU ?_
     refine xO ?_
     refine xF [2] ?_
     refine W_ret (xR (by simp [Try.f55]; exact .mk) ?_)
     first | (simp [Try.f55, hr]; done) | (simp [Try.f55, hr, newOk]; grind)
   intro h56
   have hok : rootOk l i = true := by unfold rootOk isZero; rw [hz]; simp at h56; simp; grind
   refine W_skip ?_
   rintro -
   refine W_reg rfl ?_
   iterate 3 refine xO ?_
   refine xE [0,3,4] ?_
   refine rounds_kill [0,3,4] ?_
   refine rounds_next (m' := l.length - (i+1)) (by omega) ⟨i+1, rfl, by omega, ?_, ?_, rfl⟩
   · intro j hj
     rcases Nat.lt_succ_iff_lt_or_eq.1 hj with hj | rfl
     · exact hinv j hj
     exact hok
   rw [wrap64 (by omega) (by omega)]; rfl
 intro h11
 have hr : rootsS l = newOk l.length := roots_good (fun j hj => hinv j (by simp at h11; omega))
 refine W_exit (xT ?_)
 iterate 4 refine xO ?_
 iterate 3 refine xI ?_
 refine xP ?_
 refine xB ?_
 iterate 4 refine xI ?_
 refine xP ?_
 refine xB ?_
 refine xF [2] ?_
 refine W_ret (xR (by simp [Try.f55]; exact .mk) ?_)
 first | (simp [Try.f55, hr]; done) | (simp [Try.f55, hr, newOk]; grind)

open Go.Awp
theorem ct93 (g : Gl) (len : Nat) (off n : Int) (hl : len ≤ 2^40) : CtAt Try.prog g 93 [vI len, vI off, vI n] (.v (.bool (reachS len off n))) := by
 refine ctAt_of_W Try.func93 rfl rfl (Nat.le_of_ble_eq_true rfl) fun B S => ?_
 refine xU ?_
 refine xO ?_
 refine xG [0,1,2] ?_
 iterate 3 refine xO ?_
 iterate 3 refine xI ?_
 refine xP ?_
 refine xB ?_
 iterate 2 refine xI ?_
 refine xP ?_
 refine xB ?_
 iterate 5 refine xI ?_
 refine xP ?_
 refine xB ?_
 refine xF [6] ?_
 refine W_ret (xR (by simp [Try.f93]; exact .mk) ?_)
 first | (simp [Try.f93, ← reach_eq2 hl, Bool.and_assoc]; done) | (simp [Try.f93, ← reach_eq2 hl]; grind)

theorem ct121 (g : Gl) (l : List Root) (nm : ByteArray) (hl : l.length ≤ 2^40) : CtAt Try.prog g 121 [rR l, vS nm] (vI (findS l nm).2) := by
 refine ctAt_of_W Try.func121 rfl rfl (Nat.le_of_ble_eq_true rfl) fun B S => ?_
 refine xU ?_
 refine xO ?_
 refine xG [0,1] ?_
 refine xO ?_
 refine xC (ct55 g l hl) ?_
 refine xO ?_
 refine xG [1,5] ?_
 refine xO ?_
 refine xC (ct48 g nm) ?_
 refine xO ?_
 refine xF [5,6] ?_
 refine W_seq (xU ?_)
 iterate 2 refine xO ?_
 refine xF [6,12] ?_
 refine W_cond rfl ?_ ?_
 · intro h12
   have r1 : rootsS l = false := by simpa using h12
   refine xU ?_
   refine xO ?_
   refine xF [4] ?_
   refine W_ret (xR (by simp [Try.f121]; exact .mk) ?_)
   first | (simp [Try.f121, findS, r1]; done) | simp [Try.f121, findS, r1, r2]
 intro h12
 have r1 : rootsS l = true := by simpa using h12
 refine W_skip ?_
 rintro -
 refine W_seq (xU ?_)
 iterate 2 refine xO ?_
 refine xF [14] ?_
 refine W_cond rfl ?_ ?_
 · intro h14
   have r2 : nameS nm = false := by simpa using h14
   refine xU ?_
   refine xO ?_
   refine xF [4] ?_
   refine W_ret (xR (by simp [Try.f121]; exact .mk) ?_)
   first | (simp [Try.f121, findS, r1]; done) | simp [Try.f121, findS, r1, r2]
 intro h14
 have r2 : nameS nm = true := by simpa using h14
 refine W_skip ?_
 refine xT ?_
 refine xO ?_
 refine xF [4] ?_
 refine W_ret (xR (by simp [Try.f121]; exact .mk) ?_)
 first | (simp [Try.f121, findS, r1]; done) | simp [Try.f121, findS, r1, r2]

theorem ct89 (g : Gl) (l : List Root) (nm : ByteArray) (ix gn : Int) (hr : RootsOk l) : CtAt Try.prog g 89 [rR l, vS nm, .agg [vI ix, vI gn]] (.tup [oR (setS l nm ix gn).1, vI (setS l nm ix gn).2]) := by
 refine ctAt_of_W Try.func89 rfl rfl (Nat.le_of_ble_eq_true rfl) fun B S => ?_
 have q1 : l.length * 32 ≤ 140737488355328 := by have := hr.h1; omega
 have q2 : l.length ≤ 140737488355328 := by have := hr.h1; omega
 obtain ⟨K, hK⟩ : ∃ K, K = slotS l nm := ⟨_, rfl⟩
 refine xU ?_
 iterate 3 refine xO ?_
 refine xG [0,1,5] ?_
 iterate 2 refine xO ?_
 refine xC (ct121 g l nm hr.h1) ?_
 refine xO ?_
 refine xF [0,1,5,8] ?_
 refine W_seq (xU ?_)
 iterate 2 refine xO ?_
 refine xF [0,1,5,8,16] ?_
 refine W_cond rfl ?_ ?_
 · intro h16
   have hs : setS l nm ix gn = ([], (findS l nm).2) := by unfold setS; rw [if_pos (by simpa using h16)]
   refine xU ?_
   iterate 3 refine xO ?_
   refine xF [6,7] ?_
   refine W_ret (xR (by simp [Try.f89]; exact .mk) ?_)
   first | (simp [Try.f89, hs, ownR]; done) | (simp [Try.f89, hs, ownR, List.map_set, eRoot]; try rfl)
 intro h16
 have h0 : (findS l nm).2 = 0 := by simpa using h16
 have hf1 : (findS l nm).1 = firstS l nm := findS_first h0
 refine W_skip ?_
 refine xT ?_
 refine xO ?_ (h := by simp [eRoot]; exact .mk)
 refine xC (ct97 g ix gn) ?_
 refine xO ?_
 refine xF [0,1,5,9] ?_
 refine W_seq (xU ?_)
 iterate 2 refine xO ?_
 refine xF [0,1,5,21] ?_
 refine W_cond rfl ?_ ?_
 · intro h21
   have hs : setS l nm ix gn = ([], 1) := by unfold setS; rw [if_neg (by simp [h0]), if_pos (by simpa using h21)]
   refine xU ?_
   iterate 2 refine xO ?_
   refine xF [6,7] ?_
   refine W_ret (xR (by simp [Try.f89]; exact .mk) ?_)
   first | (simp [Try.f89, hs, ownR]; done) | (simp [Try.f89, hs, ownR, List.map_set, eRoot]; try rfl)
 intro h21
 have hh : handleS ix gn = true := by simpa using h21
 refine W_skip ?_
 refine xT ?_
 iterate 2 refine xO ?_
 refine xC (ct98 g l nm hr.h1) ?_
 refine xO ?_
 refine xF [0,1,5,10] ?_
 refine W_seq (xU ?_)
 iterate 2 refine xO ?_
 refine xF [0,1,5,10,26] ?_
 refine W_cond rfl ?_ ?_
 · intro h26
   have c98 := ct98 g l ⟨#[]⟩ hr.h1
   rw [show firstS l ⟨#[]⟩ = K by rw [hK]; unfold slotS; rw [if_pos (by simp at h26; omega)]] at c98
   refine W_reg rfl ?_
   refine xO ?_
   refine xC (c98) ?_
   refine xO ?_
   refine xF [0,1,5,10] ?_
   refine W_seq (xU ?_)
   iterate 2 refine xO ?_
   refine xF [0,1,5,10,30] ?_
   refine W_cond rfl ?_ ?_
   · intro h30
     have hs : setS l nm ix gn = ([], 9) := by unfold setS; rw [if_neg (by simp [h0]), if_neg (by simp [hh]), if_pos (by simp at h30; omega)]
     refine xU ?_
     iterate 2 refine xO ?_
     refine xF [6,7] ?_
     refine W_ret (xR (by simp [Try.f89]; exact .mk) ?_)
     first | (simp [Try.f89, hs, ownR]; done) | (simp [Try.f89, hs, ownR, List.map_set, eRoot]; try rfl)
   intro h30
   obtain ⟨k, hk, hkl⟩ := slotS_nat hr h0 (by simp at h30; omega)
   obtain rfl : K = (k : Int) := hK.trans hk
   have hs : setS l nm ix gn = (l.set k ⟨nm, ix, gn⟩, 0) := by unfold setS; rw [if_neg (by simp [h0]), if_neg (by simp [hh]), if_neg (by omega), hk]; rfl
   refine W_skip ?_
   refine xT ?_
   iterate 2 refine xO ?_
   refine xO ?_ (h := by simp [rows, q1, q2]; exact .mk)
   refine xO ?_
   refine xG [1,5,10,11] ?_
   iterate 3 refine xO ?_
   refine xO ?_ (h := by simp [eRoot]; exact .mk)
   refine xO ?_ (h := by simp [splice]; exact .mk)
   refine xO ?_ (h := by simp [eRoot, hkl]; exact .mk)
   refine xO ?_ (h := by simp [-List.getElem?_map, map_get hkl, eRoot, nrmL, nrm, putC, splice]; exact .mk)
   refine xG [11] ?_
   iterate 3 refine xO ?_
   refine xF [6,7] ?_
   refine W_ret (xR (by simp [Try.f89]; exact .mk) ?_)
   first | (simp [Try.f89, hs, ownR]; done) | (simp [Try.f89, hs, ownR, List.map_set, eRoot]; try rfl)
 intro h26
 rw [show firstS l nm = K by rw [hK]; unfold slotS; rw [if_neg (by simp at h26; omega)]; exact hf1.symm]
 refine W_skip ?_
 rintro -
 refine W_seq (xU ?_)
 iterate 2 refine xO ?_
 refine xF [0,1,5,10,30] ?_
 refine W_cond rfl ?_ ?_
 · intro h30
   have hs : setS l nm ix gn = ([], 9) := by unfold setS; rw [if_neg (by simp [h0]), if_neg (by simp [hh]), if_pos (by simp at h30; omega)]
   refine xU ?_
   iterate 2 refine xO ?_
   refine xF [6,7] ?_
   refine W_ret (xR (by simp [Try.f89]; exact .mk) ?_)
   first | (simp [Try.f89, hs, ownR]; done) | (simp [Try.f89, hs, ownR, List.map_set, eRoot]; try rfl)
 intro h30
 obtain ⟨k, hk, hkl⟩ := slotS_nat hr h0 (by simp at h30; omega)
 obtain rfl : K = (k : Int) := hK.trans hk
 have hs : setS l nm ix gn = (l.set k ⟨nm, ix, gn⟩, 0) := by unfold setS; rw [if_neg (by simp [h0]), if_neg (by simp [hh]), if_neg (by omega), hk]; rfl
 refine W_skip ?_
 refine xT ?_
 iterate 2 refine xO ?_
 refine xO ?_ (h := by simp [rows, q1, q2]; exact .mk)
 refine xO ?_
 refine xG [1,5,10,11] ?_
 iterate 3 refine xO ?_
 refine xO ?_ (h := by simp [eRoot]; exact .mk)
 refine xO ?_ (h := by simp [splice]; exact .mk)
 refine xO ?_ (h := by simp [eRoot, hkl]; exact .mk)
 refine xO ?_ (h := by simp [-List.getElem?_map, map_get hkl, eRoot, nrmL, nrm, putC, splice]; exact .mk)
 refine xG [11] ?_
 iterate 3 refine xO ?_
 refine xF [6,7] ?_
 refine W_ret (xR (by simp [Try.f89]; exact .mk) ?_)
 first | (simp [Try.f89, hs, ownR]; done) | (simp [Try.f89, hs, ownR, List.map_set, eRoot]; try rfl)

theorem ct90 (g : Gl) (l : List Root) (nm : ByteArray) (hr : RootsOk l) : CtAt Try.prog g 90 [rR l, vS nm] (.tup [.agg [vI (getS l nm).1, vI (getS l nm).2.1], vI (getS l nm).2.2]) := by
 refine ctAt_of_W Try.func90 rfl rfl (Nat.le_of_ble_eq_true rfl) fun B S => ?_
 refine xU ?_
 iterate 2 refine xO ?_
 refine xG [0,1,4] ?_
 iterate 2 refine xO ?_
 refine xC (ct121 g l nm hr.h1) ?_
 refine xO ?_
 refine xF [0,1,4,6] ?_
 refine W_seq (xU ?_)
 iterate 2 refine xO ?_
 refine xF [0,1,4,6,12] ?_
 refine W_cond rfl ?_ ?_
 · intro h12
   have hs : getS l nm = (0, 0, (findS l nm).2) := by unfold getS; rw [if_pos (by simpa using h12)]
   refine xU ?_
   refine xO ?_ (h := by simp [splice]; exact .mk)
   refine xO ?_
   refine xO ?_ (h := by simp [splice]; exact .mk)
   refine xO ?_
   refine xF [4,5] ?_
   refine W_ret (xR (by simp [Try.f90]; exact .mk) ?_)
   simp [Try.f90, hs]
 intro h12
 have h0 : (findS l nm).2 = 0 := by simpa using h12
 have hf1 : (findS l nm).1 = firstS l nm := findS_first h0
 refine W_skip ?_
 refine xT ?_
 iterate 2 refine xO ?_
 refine xC (ct98 g l nm hr.h1) ?_
 refine xO ?_
 refine xF [0,4,7] ?_
 refine W_seq (xU ?_)
 iterate 2 refine xO ?_
 refine xF [0,4,7,19] ?_
 refine W_cond rfl ?_ ?_
 · intro h19
   have hs : getS l nm = (0, 0, 11) := by unfold getS; rw [if_neg (by simp [h0]), if_pos (by simp at h19; omega)]
   refine xU ?_
   iterate 2 (refine xO ?_ (h := by simp [splice]; exact .mk))
   refine xO ?_
   refine xF [4,5] ?_
   refine W_ret (xR (by simp [Try.f90]; exact .mk) ?_)
   simp [Try.f90, hs]
 intro h19
 obtain ⟨k, hk, hkl⟩ := findS_nat hr h0 (by simp at h19; omega)
 rw [show firstS l nm = (k : Int) by omega]
 have hs : getS l nm = ((nth l k).ix, (nth l k).gen, 0) := by unfold getS; rw [if_neg (by simp [h0]), if_neg (by simp at h19; omega), hk]; rfl
 refine W_skip ?_
 refine xT ?_
 iterate 2 refine xO ?_
 refine xO ?_ (h := by simp [eRoot, hkl]; exact .mk)
 refine xO ?_
 refine xO ?_ (h := by simp [-List.getElem?_map, map_get hkl, eRoot]; exact .mk)
 refine xO ?_ (h := by simp [splice]; exact .mk)
 refine xO ?_
 refine xF [4,5] ?_
 refine W_ret (xR (by simp [Try.f90]; exact .mk) ?_)
 simp [Try.f90, hs]

theorem ct91 (g : Gl) (l : List Root) (nm : ByteArray) (hr : RootsOk l) : CtAt Try.prog g 91 [rR l, vS nm] (.tup [oR (dropS l nm).1, vI (dropS l nm).2]) := by
 refine ctAt_of_W Try.func91 rfl rfl (Nat.le_of_ble_eq_true rfl) fun B S => ?_
 have q1 : l.length * 32 ≤ 140737488355328 := by have := hr.h1; omega
 have q2 : l.length ≤ 140737488355328 := by have := hr.h1; omega
 refine xU ?_
 iterate 2 refine xO ?_
 refine xG [0,1] ?_
 iterate 2 refine xO ?_
 refine xC (ct121 g l nm hr.h1) ?_
 refine xO ?_
 refine xF [0,1,6] ?_
 refine W_seq (xU ?_)
 iterate 2 refine xO ?_
 refine xF [0,1,6,13] ?_
 refine W_cond rfl ?_ ?_
 · intro h13
   have hs : dropS l nm = ([], (findS l nm).2) := by unfold dropS; rw [if_pos (by simpa using h13)]
   refine xU ?_
   iterate 3 refine xO ?_
   refine xF [4,5] ?_
   refine W_ret (xR (by simp [Try.f91]; exact .mk) ?_)
   first | (simp [Try.f91, hs, ownR]; done) | (simp [Try.f91, hs, ownR, List.map_set, eRoot, zRoot]; try rfl)
 intro h13
 have h0 : (findS l nm).2 = 0 := by simpa using h13
 have hf1 : (findS l nm).1 = firstS l nm := findS_first h0
 refine W_skip ?_
 refine xT ?_
 iterate 2 refine xO ?_
 refine xC (ct98 g l nm hr.h1) ?_
 refine xO ?_
 refine xF [0,7] ?_
 refine W_seq (xU ?_)
 iterate 2 refine xO ?_
 refine xF [0,7,19] ?_
 refine W_cond rfl ?_ ?_
 · intro h19
   have hs : dropS l nm = ([], 11) := by unfold dropS; rw [if_neg (by simp [h0]), if_pos (by simp at h19; omega)]
   refine xU ?_
   iterate 2 refine xO ?_
   refine xF [4,5] ?_
   refine W_ret (xR (by simp [Try.f91]; exact .mk) ?_)
   first | (simp [Try.f91, hs, ownR]; done) | (simp [Try.f91, hs, ownR, List.map_set, eRoot, zRoot]; try rfl)
 intro h19
 obtain ⟨k, hk, hkl⟩ := findS_nat hr h0 (by simp at h19; omega)
 rw [show firstS l nm = (k : Int) by omega]
 have hs : dropS l nm = (l.set k zRoot, 0) := by unfold dropS; rw [if_neg (by simp [h0]), if_neg (by simp at h19; omega), hk]; rfl
 refine W_skip ?_
 refine xT ?_
 iterate 2 refine xO ?_
 refine xO ?_ (h := by simp [rows, q1, q2]; exact .mk)
 refine xO ?_
 refine xG [7,8] ?_
 iterate 2 refine xO ?_
 refine xO ?_ (h := by simp [splice]; exact .mk)
 refine xO ?_ (h := by simp [eRoot, hkl]; exact .mk)
 refine xO ?_ (h := by simp [-List.getElem?_map, map_get hkl, eRoot, nrmL, nrm, putC, splice]; exact .mk)
 refine xG [8] ?_
 iterate 3 refine xO ?_
 refine xF [4,5] ?_
 refine W_ret (xR (by simp [Try.f91]; exact .mk) ?_)
 first | (simp [Try.f91, hs, ownR]; done) | (simp [Try.f91, hs, ownR, List.map_set, eRoot, zRoot]; try rfl)

theorem ct49 (g : Gl) (a : Abs) (ha : a.Ok) (hgd : a.data.length = a.gens.length) (ix gn : Int) : CtAt Try.prog g 49 [eAbs a, .agg [vI ix, vI gn]] (.v (.bool (goodS a ix gn))) := by
 refine ctAt_of_W Try.func49 rfl rfl (Nat.le_of_ble_eq_true rfl) fun B S => ?_
 simp only [eAbs, List.map, argD_agg]
 refine xU ?_
 iterate 3 refine xO ?_
 refine xF [2,3] ?_
 refine W_seq ?_
 refine W_regD (by kernel_rfl) [] 4 [0,1,2,3,4,5,6,7,8,9,10,11,12,13,14,15,16,17,18,19,20,21,22,23,24,25,26,27,28,29,30,31,32] (by decide +kernel) ?_
 iterate 4 refine xO ?_
 iterate 6 refine xI ?_
 refine xP ?_
 refine xB ?_
 iterate 4 refine xI ?_
 refine run_if rfl (by simp; exact .mk) rfl (by simp <;> first | omega | grind) (fun hb => by simp at hb; simp [show 0 ≤ ix ∧ ix < a.data.length from by omega]; exact .mk) ?_
 refine run_if rfl (by simp; exact .mk) rfl (by simp <;> first | omega | grind) (fun hb => by simp at hb; simp [-List.getElem?_map, map_get (show ix.toNat < a.data.length by omega)]; exact .mk) ?_
 iterate 2 refine xI ?_
 refine xP ?_
 refine xB ?_
 iterate 4 refine xI ?_
 refine run_if rfl (by simp; exact .mk) rfl (by simp <;> first | omega | grind) (fun hb => by simp at hb; simp [show 0 ≤ ix ∧ ix < a.gens.length from by omega]; exact .mk) ?_
 refine run_if rfl (by simp; exact .mk) rfl (by simp <;> first | omega | grind) (fun hb => by simp at hb; simp [-List.getElem?_map, map_get (show ix.toNat < a.gens.length by omega)]; exact .mk) ?_
 iterate 3 refine xI ?_
 refine xP ?_
 refine xB ?_
 refine xF [4] ?_
 refine W_ret (xR (by simp [Try.f49]; exact .mk) ?_)
 simp [Try.f49, goodS, Bool.and_assoc]

open Go.Awp
theorem in21 (g : Gl) (os tl : List Awp.Obj) (xs : List (List UInt8)) (ho : objsFix os = true) (ht : objsFix tl = true) (hlo : objsLt (os.length + 1 + tl.length) os = true) (hlt : objsLt (os.length + 1 + tl.length) tl = true) (hl : xs.length ≤ 2^40) : ∀ B S, CallsA Try.prog g B S ⟨(os ++ Awp.Obj.row 1 (xs.map oB) :: tl).length, false⟩ 21 [.hdr os.length 0 xs.length] (os ++ .row 1 (xs.map oB) :: tl) (fun x r => x = .dead ∧ r = os ++ .dead :: tl) := by
 refine callsA_at Try.func21 rfl (Nat.le_of_ble_eq_true rfl) fun B S => ?_
 refine W_nest os.length (xs := xs.map oB) (by simp) (fun x hx => ?_) fun L0 hL0 hall0 => ?_
 · obtain ⟨b, _, rfl⟩ := List.mem_map.1 hx
   exact ⟨b.map fun b => .int .u8 b.toNat, by simp [ownR]⟩
 rw [show (os ++ Awp.Obj.row 1 (xs.map oB) :: tl).set os.length (.nest L0) = os ++ .nest L0 :: tl from by simp]
 have hL1 : L0.length = xs.length := by simpa using hL0
 have hrow0 : ∀ j, j < xs.length → ∃ l c f, L0[j]? = some (.row l c f) := fun j hj => by
  have hj2 : j < L0.length := by omega
  have := List.all_eq_true.1 hall0 L0[j] (List.getElem_mem hj2)
  rw [List.getElem?_eq_getElem hj2]
  cases hq : L0[j] with
  | row l c f => exact ⟨l, c, f, rfl⟩
  | raw v => rw [hq] at this; cases this
 refine xU ?_
 refine xO ?_
 refine xF [0] ?_
 refine W_seq (xU ?_)
 refine xO ?_
 refine xF [0,3] ?_
 refine W_block (W_rounds (fun m σ o => ∃ (i : Nat) (T : List Awp.Obj) (L : List NE), m = xs.length - i ∧ i ≤ xs.length ∧ ((∃ ds, tl ++ ds = T) ∧ objsFix T = true ∧ L.length = xs.length ∧ (∀ j, j < xs.length → ∃ l c f, L[j]? = some (.row l c f))) ∧ (∀ j, j < i → ∃ l c, L[j]? = some (.row l c true)) ∧ σ = slots [(0, .hdr os.length 0 xs.length), (3, .d (vI i))] ∧ o = os ++ .nest L :: T) xs.length .refl ⟨0, tl, L0, by simp, by simp, ⟨⟨[], by simp⟩, ht, hL1, hrow0⟩, by simp, rfl, rfl⟩ ?_)
 rintro m σ o ⟨i, T, L, rfl, hi, ⟨⟨ds, hTd⟩, hT, hLl, hrow⟩, hfull, rfl, rfl⟩ _
 refine W_seq (xU ?_)
 iterate 4 refine xO ?_
 refine xF [0,3,12] ?_
 refine W_cond rfl ?_ ?_
 · intro h12
   have hi2 : i < xs.length := by simpa using h12
   refine W_skip ?_
   rintro -
   refine W_seq (W_block ?_)
   refine W_seq ?_
   obtain ⟨len, cap, full, hLi⟩ := hrow i (by omega)
   refine W_nopen os.length i (L := L) (len := len) (cap := cap) (full := full) rfl (by simp) hLi (by simp) (by simp [fix_append, ho, hT]) fun zs hz1 hz2 hlc hcm => ?_
   rw [show (os ++ Awp.Obj.nest L :: T).set os.length (.nhole i (os ++ Awp.Obj.nest L :: T).length len L) ++ [.grow cap zs] = os ++ .nhole i (os.length + (T.length + 1)) len L :: (T ++ [.grow cap zs]) from by simp]
   have hcb : (cap : Int) ≤ cap := Int.le_refl _
   refine W_regD (by kernel_rfl) [] 4 [0,1,2,3,4,5,6,7,8,9,10] (by decide +kernel) ?_
   iterate 2 refine xO ?_
   refine xO ?_ (h := by simp [hi2]; exact .mk)
   iterate 3 refine xO ?_
   refine xO ?_ (h := by simp [hi2]; exact .mk)
   iterate 2 refine xO ?_
   refine xO ?_ (h := by simp [optA, *]; exact .mk)
   refine xO ?_
   refine xG [0,3,4] ?_
   refine xO ?_
   refine xF [0,3,4,5] ?_
   refine W_block (W_rounds (fun m σ o => ∃ (k : Nat) (zs : List Int), m = cap - k ∧ k ≤ cap ∧ k ≤ zs.length ∧ zs.length ≤ cap ∧ σ = slots [(0, .hdr os.length 0 xs.length), (3, .d (vI i)), (4, .hdr (os.length + (T.length + 1)) 0 cap), (5, .d (vI k))] ∧ o = os ++ .nhole i (os.length + (T.length + 1)) len L :: (T ++ [.grow cap zs])) cap .refl ⟨0, zs, by simp, by simp, by simp, by cases full <;> simp_all, by simp, by simp⟩ ?_)
   clear hz1 hz2
   rintro m σ o ⟨k, zs, rfl, hk, hkz, hzc, rfl, rfl⟩ _
   refine W_seq (xU ?_)
   iterate 4 refine xO ?_
   refine xF [0,3,4,5,28] ?_
   refine W_cond rfl ?_ ?_
   · intro h28
     have hk2 : k < cap := by simpa using h28
     refine W_skip ?_
     rintro -
     refine W_seq (W_block ?_)
     refine W_reg rfl ?_
     iterate 4 refine xO ?_
     refine xO ?_ (h := by simp [convA]; exact .mk)
     refine xO ?_ (h := by simp [hk2]; exact .mk)
     refine xO ?_ (h := by simp [splice, hk2, hkz, isIntTy]; exact .mk)
     refine xF [0,3,4,5] ?_
     refine W_reg rfl ?_
     iterate 3 refine xO ?_
     refine xE [0,3,4,5] ?_
     refine rounds_kill [0,3,4,5] ?_
     refine rounds_next (m' := cap - (k+1)) (by omega) ⟨k+1, _, rfl, by omega, ?_, ?_, ?_, rfl⟩
     · simp; omega
     · simp; omega
     rw [wrap64 (by have := hcm; simp [maxLen] at this; omega) (by have := hcm; simp [maxLen] at this; omega)]; rfl
   intro h28
   have hkc : k = cap := by simp at h28; omega
   have hzl : zs.length = cap := by omega
   refine W_exit ?_
   rintro -
   refine W_reg rfl ?_
   iterate 3 refine xO ?_
   refine xE [0,3] ?_
   refine rounds_kill [0,3] ?_
   refine rounds_kills [0,3] rfl ?_
   refine rounds_weak (Weak.nclose os.length (i := i) (r' := os.length + (T.length + 1)) (len := len) (c := cap) (L := L) (zs := zs) true (by simp) (by simp) (fun _ => hzl)) ?_
   refine rounds_next (m' := xs.length - (i+1)) (by omega) ⟨i+1, T ++ [.dead], L.set i (.row len cap true), rfl, by omega, ⟨⟨ds ++ [.dead], by rw [← hTd, List.append_assoc]⟩, by simp [fix_append, hT], by simpa using hLl, fun j hj => ?_⟩, fun j hj => ?_, ?_, by simp⟩
   · by_cases e : i = j
     · subst e; exact ⟨len, cap, true, by simp [hLl, hj]⟩
     obtain ⟨a, b, c, h⟩ := hrow j hj
     exact ⟨a, b, c, by rw [List.getElem?_set_ne e]; exact h⟩
   · by_cases e : i = j
     · subst e; exact ⟨len, cap, by simp [hLl, hi2]⟩
     obtain ⟨a, b, h⟩ := hfull j (by omega)
     exact ⟨a, b, by rw [List.getElem?_set_ne e]; exact h⟩
   rw [wrap64 (by omega) (by omega)]; rfl
 intro h12
 have hii : i = xs.length := by simp at h12; omega
 rw [hii] at hfull
 clear hi hii
 refine W_exit ?_
 rintro -
 refine W_seq (xU ?_)
 refine xO ?_
 refine xF [0,6] ?_
 refine W_block (W_rounds (fun m σ o => ∃ (i : Nat) (T : List Awp.Obj) (L : List NE), m = xs.length - i ∧ i ≤ xs.length ∧ ((∃ ds, tl ++ ds = T) ∧ objsFix T = true ∧ L.length = xs.length ∧ (∀ j, j < xs.length → ∃ l c f, L[j]? = some (.row l c f))) ∧ (∀ j, j < xs.length → ∃ l c, L[j]? = some (.row l c true)) ∧ σ = slots [(0, .hdr os.length 0 xs.length), (6, .d (vI i))] ∧ o = os ++ .nest L :: T) xs.length .refl ⟨0, T, L, by simp, by simp, ⟨⟨ds, hTd⟩, hT, hLl, hrow⟩, hfull, rfl, rfl⟩ ?_)
 rintro m σ o ⟨i, T, L, rfl, hi, ⟨⟨ds, hTd⟩, hT, hLl, hrow⟩, hfull, rfl, rfl⟩ _
 refine W_seq (xU ?_)
 iterate 4 refine xO ?_
 refine xF [0,6,40] ?_
 refine W_cond rfl ?_ ?_
 · intro h40
   have hi2 : i < xs.length := by simpa using h40
   refine W_skip ?_
   rintro -
   refine W_seq (W_block ?_)
   refine W_seq ?_
   obtain ⟨len, cap, hLi⟩ := hfull i (by omega)
   refine W_nopen os.length i (L := L) (len := len) (cap := cap) (full := true) rfl (by simp) hLi (by simp) (by simp [fix_append, ho, hT]) fun zs hz1 hz2 hlc hcm => ?_
   rw [show (os ++ Awp.Obj.nest L :: T).set os.length (.nhole i (os ++ Awp.Obj.nest L :: T).length len L) ++ [.grow cap zs] = os ++ .nhole i (os.length + (T.length + 1)) len L :: (T ++ [.grow cap zs]) from by simp]
   have hcb : (cap : Int) ≤ cap := Int.le_refl _
   refine W_regD (by kernel_rfl) [] 4 [0,1,2,3,4,5,6,7,8,9,10] (by decide +kernel) ?_
   iterate 2 refine xO ?_
   refine xO ?_ (h := by simp [hi2]; exact .mk)
   iterate 3 refine xO ?_
   refine xO ?_ (h := by simp [hi2]; exact .mk)
   iterate 2 refine xO ?_
   refine xO ?_ (h := by simp [optA, *]; exact .mk)
   refine xO ?_
   refine xG [0,6,7] ?_
   refine xO ?_
   refine xF [0,6,7,8] ?_
   refine W_block ?_
   have hzl : zs.length = cap := hz1 rfl
   refine W_rounds (fun m σ o => ∃ (k : Nat), m = cap - k ∧ k ≤ cap ∧ σ = slots [(0, .hdr os.length 0 xs.length), (6, .d (vI i)), (7, .hdr (os.length + (T.length + 1)) 0 cap), (8, .d (vI k))] ∧ o = os ++ .nhole i (os.length + (T.length + 1)) len L :: (T ++ [.grow cap zs])) cap .refl ⟨0, by simp, by simp, by simp, by simp⟩ ?_
   rintro m σ o ⟨k, rfl, hk, rfl, rfl⟩ _
   refine W_seq (xU ?_)
   iterate 4 refine xO ?_
   refine xF [0,6,7,8,56] ?_
   refine W_cond rfl ?_ ?_
   · intro h56
     have hk2 : k < cap := by simpa using h56
     have hk3 : k < zs.length := by omega
     refine W_skip ?_
     rintro -
     refine W_seq (W_block ?_)
     refine xU ?_
     iterate 2 refine xO ?_
     refine xO ?_ (h := by simp [hk2]; exact .mk)
     refine xO ?_ (h := by simp [hk3]; exact .mk)
     iterate 2 refine xO ?_
     refine xO ?_ (h := by simp [convA, isIntTy]; exact .mk)
     refine xO ?_
     refine xF [0,6,7,8,66] ?_
     refine W_cond rfl ?_ ?_
     · intro h66
       refine W_weak (s2 := slots []) (objs2 := os ++ .dead :: (T ++ [.grow cap zs])) (Weak.trans (Weak.kills [] rfl) (by have := Weak.objDead (B := B) (S := S) (n := Try.f21.ntmps) (fl := ⟨(os ++ Awp.Obj.row 1 (xs.map oB) :: tl).length, false⟩) (s := slots []) (objs := os ++ .nhole i (os.length + (T.length + 1)) len L :: (T ++ [.grow cap zs])) os.length; simpa using this) (fun _ _ _ h1 h2 => by rw [← h1.len]; exact h2)) ?_
       obtain ⟨dd, hdd⟩ : ∃ dd, T ++ [.grow cap zs] = tl ++ dd := ⟨ds ++ [.grow cap zs], by rw [← hTd]; simp⟩
       rw [hdd]
       refine xU ?_
       refine xO ?_
       refine xF [] ?_
       refine W_ret ?_
       exact endAt_tail os tl dd (by simp [Try.f21]; exact .mk) rfl rfl (by simp; omega) rfl rfl hlo hlt
     intro h66
     refine W_skip ?_
     rintro -
     refine W_reg rfl ?_
     iterate 3 refine xO ?_
     refine xE [0,6,7,8] ?_
     refine rounds_kill [0,6,7,8] ?_
     refine rounds_next (m' := cap - (k+1)) (by omega) ⟨k+1, rfl, by omega, ?_, rfl⟩
     rw [wrap64 (by have := hcm; simp [maxLen] at this; omega) (by have := hcm; simp [maxLen] at this; omega)]; rfl
   intro h56
   refine W_exit ?_
   rintro -
   refine W_reg rfl ?_
   iterate 3 refine xO ?_
   refine xE [0,6] ?_
   refine rounds_kill [0,6] ?_
   refine rounds_kills [0,6] rfl ?_
   refine rounds_weak (Weak.nclose os.length (i := i) (r' := os.length + (T.length + 1)) (len := len) (c := cap) (L := L) (zs := zs) true (by simp) (by simp) (fun _ => hzl)) ?_
   refine rounds_next (m' := xs.length - (i+1)) (by omega) ⟨i+1, T ++ [.dead], L.set i (.row len cap true), rfl, by omega, ⟨⟨ds ++ [.dead], by rw [← hTd, List.append_assoc]⟩, by simp [fix_append, hT], by simpa using hLl, fun j hj => ?_⟩, fun j hj => ?_, ?_, by simp⟩
   · by_cases e : i = j
     · subst e; exact ⟨len, cap, true, by simp [hLl, hj]⟩
     obtain ⟨a, b, c, h⟩ := hrow j hj
     exact ⟨a, b, c, by rw [List.getElem?_set_ne e]; exact h⟩
   · by_cases e : i = j
     · subst e; exact ⟨len, cap, by simp [hLl, hj]⟩
     obtain ⟨a, b, h⟩ := hfull j (by omega)
     exact ⟨a, b, by rw [List.getElem?_set_ne e]; exact h⟩
   rw [wrap64 (by omega) (by omega)]; rfl
 intro h40
 refine W_weak (s2 := slots []) (objs2 := os ++ .dead :: T) (Weak.trans (Weak.kills [] rfl) (by have := Weak.objDead (B := B) (S := S) (n := Try.f21.ntmps) (fl := ⟨(os ++ Awp.Obj.row 1 (xs.map oB) :: tl).length, false⟩) (s := slots []) (objs := os ++ .nest L :: T) os.length; simpa using this) (fun _ _ _ h1 h2 => by rw [← h1.len]; exact h2)) ?_
 obtain ⟨dd, hdd⟩ : ∃ dd, T = tl ++ dd := ⟨ds, hTd.symm⟩
 rw [hdd]
 refine W_exit (xT ?_)
 refine xO ?_
 refine xF [] ?_
 refine W_ret ?_
 exact endAt_tail os tl dd (by simp [Try.f21]; exact .mk) rfl rfl (by simp; omega) rfl rfl hlo hlt

open Go.Awp
theorem in20 (g : Gl) (os tl : List Awp.Obj) (a : Abs) (ha : a.Ok) (ho : objsFix os = true) (ht : objsFix tl = true) (hlo : objsLt (os.length + 3 + tl.length) os = true) (hlt : objsLt (os.length + 3 + tl.length) tl = true) : ∀ B S, CallsA Try.prog g B S ⟨(os ++ Awp.Obj.row 1 (a.gens.map vI) :: .row 1 (a.data.map oB) :: .row 3 (a.roots.map eRoot) :: tl).length, false⟩ 20 [.agg [.hdr os.length 0 a.gens.length, .hdr (os.length + 1) 0 a.data.length, .hdr (os.length + 2) 0 a.roots.length]] (os ++ Awp.Obj.row 1 (a.gens.map vI) :: .row 1 (a.data.map oB) :: .row 3 (a.roots.map eRoot) :: tl) (fun x r => x = .tup [] ∧ r = os ++ .dead :: .dead :: .dead :: tl) := by
 refine callsA_at Try.func20 rfl (Nat.le_of_ble_eq_true rfl) fun B S => ?_
 have q0 := ha.h1
 have q1 := ha.h3
 have c21 := in21 g (os ++ [.row 1 (a.gens.map vI)]) (.row 3 (a.roots.map eRoot) :: (tl ++ [.var 26 [.hdr os.length 0 a.gens.length, .hdr (os.length + 1) 0 a.data.length, .hdr (os.length + 2) 0 a.roots.length]])) a.data (by simp [fix_append, ho, eRoot]) (by simp [fix_append, ht, eRoot]) (by rw [olt_append]; simp only [Bool.and_eq_true]; exact ⟨olt_mono (by simp <;> omega) hlo, rfl⟩) (by simp only [objsLt, olt_append, Bool.and_eq_true]; exact ⟨rfl, olt_mono (by simp <;> omega) hlt, by simp <;> omega⟩) ha.h2
 simp only [List.append_assoc, List.cons_append, List.nil_append, List.length_append, List.length_cons, List.length_nil, Nat.zero_add, Nat.reduceAdd] at c21
 refine xU ?_
 refine xO ?_
 refine xF [1] ?_
 refine W_seq ?_
 refine W_regK rfl [1002] rfl ?_
 refine xO ?_
 refine xO ?_ (h := by simp [eRoot]; exact .mk)
 refine run_inlK rfl rfl rfl rfl (by simp; exact .mk) ⟨_, Try.func21, rfl, rfl⟩ (fixS_put (by simp) (fixS_put (by simp) (fixS_slots (by simp)))) (by simpa using c21) (by simp) (by decide) ?_
 refine xF [1] ?_
 refine W_seq (xU ?_)
 refine xO ?_
 refine xF [1,2] ?_
 refine W_block (W_rounds (fun m σ o => ∃ (i : Nat) (L : List Int), m = a.gens.length - i ∧ i ≤ a.gens.length ∧ L.length = a.gens.length ∧ σ = slots [(1, .ptr (os.length + (tl.length + 3)) 0 0), (2, .d (vI i))] ∧ o = os ++ .row 1 (L.map vI) :: .dead :: .row 3 (a.roots.map eRoot) :: (tl ++ [.var 26 [.hdr os.length 0 a.gens.length, .hdr (os.length + 1) 0 a.data.length, .hdr (os.length + 2) 0 a.roots.length]])) a.gens.length .refl ⟨0, a.gens, by simp, by simp, rfl, by simp, by simp⟩ ?_)
 rintro m σ o ⟨i, L, rfl, hi, hL, rfl, rfl⟩ _
 refine W_seq (xU ?_)
 iterate 2 refine xO ?_
 refine xO ?_ (h := by simp [eRoot]; exact .mk)
 iterate 2 refine xO ?_
 refine xF [1,2,11] ?_
 refine W_cond rfl ?_ ?_
 · intro h11
   have hi2 : i < a.gens.length := by simpa using h11
   have hi3 : i < L.length := by omega
   refine W_skip ?_
   rintro -
   refine W_seq (W_block ?_)
   refine W_reg rfl ?_
   refine xO ?_
   refine xO ?_ (h := by simp [eRoot]; exact .mk)
   refine xO ?_
   refine xO ?_ (h := by simp [eRoot, hi2]; exact .mk)
   refine xO ?_ (h := by simp [-List.getElem?_map, map_get hi3, nrmL, nrm, putC, splice]; exact .mk)
   refine xF [1,2] ?_
   refine W_reg rfl ?_
   iterate 3 refine xO ?_
   refine xE [1,2] ?_
   refine rounds_kill [1,2] ?_
   refine rounds_next (m' := a.gens.length - (i+1)) (by omega) ⟨i+1, L.set i (-7), rfl, by omega, by simpa using hL, ?_, ?_⟩
   · rw [wrap64 (by omega) (by omega)]; rfl
   rw [List.map_set]; try rfl
 intro h11
 refine W_exit (xT ?_)
 refine xO ?_
 refine xF [1,3] ?_
 refine W_block (W_rounds (fun m σ o => ∃ (i : Nat) (K : List Root), m = a.roots.length - i ∧ i ≤ a.roots.length ∧ K.length = a.roots.length ∧ σ = slots [(1, .ptr (os.length + (tl.length + 3)) 0 0), (3, .d (vI i))] ∧ o = os ++ .row 1 (L.map vI) :: .dead :: .row 3 (K.map eRoot) :: (tl ++ [.var 26 [.hdr os.length 0 a.gens.length, .hdr (os.length + 1) 0 a.data.length, .hdr (os.length + 2) 0 a.roots.length]])) a.roots.length .refl ⟨0, a.roots, by simp, by simp, rfl, rfl, rfl⟩ ?_)
 rintro m σ o ⟨i, K, rfl, hi, hK, rfl, rfl⟩ _
 refine W_seq (xU ?_)
 iterate 2 refine xO ?_
 refine xO ?_ (h := by simp [eRoot]; exact .mk)
 iterate 2 refine xO ?_
 refine xF [1,3,22] ?_
 refine W_cond rfl ?_ ?_
 · intro h22
   have hi2 : i < a.roots.length := by simpa using h22
   have hi3 : i < K.length := by omega
   refine W_skip ?_
   rintro -
   refine W_seq (W_block ?_)
   refine W_reg rfl ?_
   refine xO ?_
   refine xO ?_ (h := by simp [eRoot]; exact .mk)
   refine xO ?_
   refine xO ?_ (h := by simp [eRoot, hi2]; exact .mk)
   refine xO ?_ (h := by simp [hi2]; exact .mk)
   refine xO ?_ (h := by simp [-List.getElem?_map, map_get hi3, eRoot, nrmL, nrm, putC, splice]; exact .mk)
   refine xF [1,3] ?_
   refine W_reg rfl ?_
   iterate 3 refine xO ?_
   refine xE [1,3] ?_
   refine rounds_kill [1,3] ?_
   refine rounds_next (m' := a.roots.length - (i+1)) (by omega) ⟨i+1, K.set i ⟨⟨#[115,112,111,105,108,116]⟩, (nth K i).ix, (nth K i).gen⟩, rfl, by omega, by simpa using hK, ?_, ?_⟩
   · rw [wrap64 (by omega) (by omega)]; rfl
   rw [List.map_set]; rfl
 intro h22
 refine W_weak (s2 := slots []) (objs2 := os ++ .dead :: .dead :: .dead :: (tl ++ [.var 26 [.hdr os.length 0 a.gens.length, .hdr (os.length + 1) 0 a.data.length, .hdr (os.length + 2) 0 a.roots.length]])) (Weak.trans (Weak.kills [] rfl) (Weak.trans (Weak.objDead os.length) (by have := Weak.objDead (B := B) (S := S) (n := Try.f20.ntmps) (fl := ⟨(os ++ Awp.Obj.row 1 (a.gens.map vI) :: .row 1 (a.data.map oB) :: .row 3 (a.roots.map eRoot) :: tl).length, false⟩) (s := slots []) (objs := (os ++ Awp.Obj.row 1 (L.map vI) :: .dead :: .row 3 (K.map eRoot) :: (tl ++ [.var 26 [.hdr os.length 0 a.gens.length, .hdr (os.length + 1) 0 a.data.length, .hdr (os.length + 2) 0 a.roots.length]])).set os.length .dead) (os.length + 2); simpa using this) (fun _ _ _ h1 h2 => by rw [← h1.len]; exact h2)) (fun _ _ _ h1 h2 => by rw [← h1.len]; exact h2)) ?_
 refine W_exit ?_
 exact endAt_tailN os tl [.var 26 [.hdr os.length 0 a.gens.length, .hdr (os.length + 1) 0 a.data.length, .hdr (os.length + 2) 0 a.roots.length]] (by simp [Try.f20]; exact .mk) rfl (by simp) (by simp; omega) rfl rfl rfl rfl hlo hlt

open Go.Awp
theorem rsz_step {d : List UInt8} {n i : Nat} (h1 : i < n) (h2 : i < d.length) : (d.take i ++ List.replicate (n - i) 0).set i (nth d i) = d.take (i + 1) ++ List.replicate (n - (i + 1)) 0 := by
 have hl : (d.take i).length = i := by simp; omega
 rw [List.set_append_right _ _ (by omega), hl, Nat.sub_self, show n - i = (n - (i + 1)) + 1 by omega, List.replicate_succ, List.set_cons_zero, List.take_succ_eq_append_getElem h2, nth_eq h2]
 simp only [List.append_assoc, List.cons_append, List.nil_append]
theorem lent_row {b : List UInt8} : Go.splice (List.replicate (b.length + 1) (vB 0)) 0 (b.map vB) = (b ++ [0]).map vB := by
 simp [Go.splice, List.drop_replicate]
theorem nth_lent {b : List UInt8} : nth (b ++ [77]) b.length = 77 := by
 rw [nth_eq (by simp)]; simp
theorem rsz_end {d : List UInt8} {n i : Nat} (h1 : i ≤ n) (h2 : i ≤ d.length) (h : ¬ (i < n ∧ i < d.length)) : d.take i ++ List.replicate (n - i) 0 = d.take n ++ List.replicate (n - d.length) (0 : UInt8) := by
 rcases Nat.lt_or_ge i d.length with q | q
 · obtain rfl : i = n := by omega
   rw [show i - d.length = i - i by omega]
 · obtain rfl : i = d.length := by omega
   rw [List.take_of_length_le (Nat.le_refl _), List.take_of_length_le h1]
theorem wr_step {d b : List UInt8} {f i : Nat} (h1 : i < b.length) (h2 : f + b.length ≤ d.length) : (Go.splice d f (b.take i)).set (f + i) (nth b i) = Go.splice d f (b.take (i + 1)) := by
 refine List.ext_getElem? fun j => ?_
 have hi : (b.take i).length = i := by simp; omega
 have hi1 : (b.take (i + 1)).length = i + 1 := by simp; omega
 have hd : (d.take f).length = f := by simp; omega
 have hs : (Go.splice d f (b.take i)).length = d.length := Go.length_splice _ _ _ (by omega)
 rw [List.getElem?_set]
 by_cases e : f + i = j
 · subst e
   rw [if_pos rfl, if_pos (by omega)]
   simp only [Go.splice]
   rw [List.getElem?_append_right (by omega), hd, List.getElem?_append_left (by omega), show f + i - f = i by omega, List.getElem?_take, if_pos (by omega), List.getElem?_eq_getElem h1, nth_eq h1]
 · rw [if_neg e]
   simp only [Go.splice]
   simp only [List.getElem?_append, hd, hi, hi1, List.getElem?_take, List.getElem?_drop]
   repeat' split
   all_goals first | rfl | omega | (congr 1; omega)
open Go.Awp
theorem in13 (g : Gl) (os : List Awp.Obj) (b : List UInt8) (hb : b.length ≤ 2^40) : ∀ B S, CallsA Try.prog g B S ⟨os.length, true⟩ 13 [.d (rB b)] os
    (fun x q => x = .hdr os.length 0 b.length ∧ q = os ++ [.row 1 ((b ++ [77]).map vB)]) := by
 refine callsA_at Try.func13 rfl (Nat.le_of_ble_eq_true rfl) fun B S => ?_
 have e1 : IntKind.i64.wrap ((b.length : Int) + 1) = (b.length : Int) + 1 := wrap64 (by omega) (by omega)
 have e2 : (b.length : Int) + 1 ≤ 140737488355328 := by omega
 have e3 : b.length + 1 ≤ 140737488355328 := by omega
 have e4 : (b.length : Int) ≤ (b.length : Int) + 1 := by omega
 have h5 : b.length < (b ++ [0]).length := by simp
 have e6 : (b.length : Int) < (b.length : Int) + 1 := by omega
 refine xU ?_
 refine xO ?_
 refine xG [0] ?_
 iterate 4 refine xO ?_
 refine xO ?_ (h := by simp [e1]; exact .mk)
 refine xO ?_ (h := by simp [e2, e3, e4]; exact .mk)
 refine xO ?_
 refine xE [0,3] ?_
 rw [show List.replicate (b.length + 1) (D.v (Value.int .u8 0)) = (List.replicate (b.length + 1) (0 : UInt8)).map vB from by simp]
 refine xT ?_
 iterate 2 refine xO ?_
 refine xO ?_ (h := by simp [copyA, e4, -List.map_replicate]; exact .mk)
 refine xE [0,3] ?_
 rw [lent_row]
 refine xT ?_
 iterate 3 refine xO ?_
 refine xO ?_ (h := by simp [e1]; exact .mk)
 refine xO ?_ (h := by simp [optA, *]; exact .mk)
 iterate 2 refine xO ?_
 refine xO ?_ (h := by simp [-List.map_append, e6]; exact .mk)
 refine xO ?_ (h := by simp [-List.getElem?_map, -List.map_append, map_get h5, nrmL, nrm, putC, splice]; exact .mk)
 refine xG [3] ?_
 iterate 2 refine xO ?_
 refine xF [2] ?_
 refine W_ret (endAt_ret (by simp [Try.f13]; exact .mk) ?_ ?_)
 · simp
 simp

theorem in15 (g : Gl) (os tl : List Awp.Obj) (b : List UInt8) (hb : b.length ≤ 2^40) : ∀ B S, CallsA Try.prog g B S ⟨(os ++ Awp.Obj.row 1 ((b ++ [77]).map vB) :: tl).length, true⟩ 15 [.hdr os.length 0 b.length, .d (rB b)] (os ++ .row 1 ((b ++ [77]).map vB) :: tl)
    (fun x q => x = .d (vT true) ∧ q = os ++ .row 1 ((b ++ [77]).map vB) :: tl) := by
 refine callsA_at Try.func15 rfl (Nat.le_of_ble_eq_true rfl) fun B S => ?_
 have e1 : IntKind.i64.wrap ((b.length : Int) + 1) = (b.length : Int) + 1 := wrap64 (by omega) (by omega)
 have e6 : (b.length : Int) < (b.length : Int) + 1 := by omega
 have e4 : 0 ≤ (b.length : Int) + 1 := by omega
 have h7 : b.length < (b ++ [77]).length := by simp
 refine xU ?_
 refine xO ?_
 refine xG [0,1] ?_
 refine xO ?_
 refine xO ?_ (h := by simp [convA, isStrTy, isBytesTy, isIntTy, elemsOf, fullA, List.take_append, bytesD_vB, bytesStr_vB]; exact .mk)
 refine xO ?_
 refine xO ?_ (h := by simp [conv_rB]; exact .mk)
 iterate 2 refine xO ?_
 iterate 3 refine xI ?_
 refine run_if rfl (by simp; exact .mk) rfl (by simp <;> first | omega | grind) (fun hb => by simp [e1]; exact .mk) ?_
 refine run_if rfl (by simp; exact .mk) rfl (by simp <;> first | omega | grind) (fun hb => by simp [optA, e4]; exact .mk) ?_
 iterate 2 refine xI ?_
 refine run_if rfl (by simp; exact .mk) rfl (by simp <;> first | omega | grind) (fun hb => by simp [e6]; exact .mk) ?_
 refine run_if rfl (by simp; exact .mk) rfl (by simp <;> first | omega | grind) (fun hb => by simp [-List.getElem?_map, -List.map_append, map_get h7, nth_lent]; exact .mk) ?_
 refine xI ?_
 refine xP ?_
 refine xB ?_
 refine xF [4] ?_
 refine W_ret (endAt_ret (by simp [Try.f15]; exact .mk) ?_ ?_)
 · simp
 simp

theorem ct18 (g : Gl) (i gn : Int) (b : List UInt8) : CtAt Try.prog g 18 [.agg [vI i, vI gn, rB b], .agg [vI i, vI gn, rB b]] (.v (.bool true)) := by
 refine ctAt_of_W Try.func18 rfl rfl (Nat.le_of_ble_eq_true rfl) fun B S => ?_
 skip
 refine xU ?_
 iterate 3 refine xO ?_
 refine xG [2,3] ?_
 iterate 6 refine xO ?_
 iterate 2 refine xI ?_
 refine run_if rfl (by simp; exact .mk) rfl (by simp <;> first | omega | grind) (fun hb => by simp [conv_rB]; exact .mk) ?_
 iterate 2 refine xI ?_
 refine run_if rfl (by simp; exact .mk) rfl (by simp <;> first | omega | grind) (fun hb => by simp [conv_rB]; exact .mk) ?_
 refine xI ?_
 refine xP ?_
 refine xB ?_
 refine xF [4] ?_
 refine W_ret (xR (by simp [Try.f18]; exact .mk) ?_)
 simp [Try.f18]

theorem ct19 (g : Gl) (i gn : Int) (b : List UInt8) : CtAt Try.prog g 19 [.agg [vI i, vI gn, rB b], .agg [vI i, vI gn, rB b]] (.v (.bool true)) := by
 refine ctAt_of_W Try.func19 rfl rfl (Nat.le_of_ble_eq_true rfl) fun B S => ?_
 have c51 := ct51 g b b
 refine xU ?_
 iterate 3 refine xO ?_
 refine xG [2,3] ?_
 iterate 6 refine xO ?_
 iterate 4 refine xI ?_
 refine run_call rfl (by simp; exact .mk) rfl rfl (by simp) (by simp; exact .mk) (by simp; exact .mk) (fun hb => c51) (by simp) (by simp; exact .mk) (by simp) ?_
 refine xP ?_
 refine xB ?_
 refine xF [4] ?_
 refine W_ret (xR (by simp [Try.f19]; exact .mk) ?_)
 simp [Try.f19]

open Go.Awp
def apartS (a b : Spot) : Prop := (a.small = true ∧ b.small = true ∧ a.cls = b.cls ∧ a.cell ≠ b.cell) ∨ a.page + a.count ≤ b.page ∨ b.page + b.count ≤ a.page
def Holds (st : List Int × List Nat) (a : Spot) : Prop := (a.small = true → nth st.1 a.page.toNat = a.cls ∧ (nth st.2 a.page.toNat).testBit a.cell.toNat = true) ∧ (a.small = false → ∀ t : Nat, (t : Int) < a.count → nth st.1 (a.page.toNat + t) = 7 ∨ nth st.1 (a.page.toNat + t) = 6)
structure GoodSpot (pages : Int) (a : Spot) : Prop where
 p0 : 0 ≤ a.page
 c1 : 1 ≤ a.count
 p1 : a.page + a.count ≤ pages
 s1 : a.small = true → a.count = 1 ∧ 0 ≤ a.cls ∧ a.cls < 6 ∧ 0 ≤ a.cell ∧ a.cell < 64
open Go.Awp
structure SpotW (pages : Int) (o : Int × Int) (a : Spot) : Prop where
 good : GoodSpot pages a
 sm : a.small = true → ∃ k : Nat, k < 6 ∧ a.cls = k ∧ o.1 = 32 * a.page + 4 + a.cell * nth wordsL k ∧ (o.2 + 7).tdiv 8 ≤ nth wordsL k ∧ 4 + (a.cell + 1) * nth wordsL k ≤ 32
 lg : a.small = false → o.1 = 32 * a.page ∧ (o.2 + 7).tdiv 8 ≤ 32 * a.count
def wordsN (s : Slot) : Int := (s.len + 7).tdiv 8 + (if s.two = true then 0 else 2)
open Go.Awp
section
variable {α : Type} [Inhabited α]
omit [Inhabited α] in
end
open Go.Awp
section
variable {α : Type} [Inhabited α] {lt : α → α → Bool} {R Q : α → α → Prop}
structure Keys (lt : α → α → Bool) (R Q : α → α → Prop) : Prop where
 tr : ∀ {x y z}, R x y → R y z → R x z
 no : ∀ {x y}, Q x y → lt y x = false → R x y
 on : ∀ {x y}, Q x y → lt y x = true → R y x
 sa : ∀ {x y}, Q x y → R x y → lt y x = false
variable (K : Keys lt R Q)
include K
end
open Go.Awp
section
variable {α : Type} [Inhabited α] {lt : α → α → Bool} {R Q : α → α → Prop}
inductive Blks (R Q : α → α → Prop) (bs : Nat) : List α → Prop
 | last {B : List α} (h : B.length ≤ bs) (s : B.Pairwise R) : Blks R Q bs B
 | cons {B r : List α} (h : B.length = bs) (s : B.Pairwise R) (t : Blks R Q bs r) (c : ∀ x ∈ B, ∀ y ∈ r, Q x y) : Blks R Q bs (B ++ r)
theorem Blks.head {bs : Nat} {r : List α} (h : Blks R Q bs r) (hl : bs ≤ r.length) : ∃ B r', r = B ++ r' ∧ B.length = bs ∧ B.Pairwise R ∧ Blks R Q bs r' ∧ ∀ x ∈ B, ∀ y ∈ r', Q x y := by
 cases h with
 | last h s => exact ⟨r, [], by simp, by omega, s, .last (by simp) .nil, by simp⟩
 | cons h s t c => exact ⟨_, _, rfl, h, s, t, c⟩
theorem Blks.one {bs : Nat} {r : List α} (h : Blks R Q bs r) (hl : r.length ≤ bs) : r.Pairwise R := by
 cases h with
 | last h s => exact s
 | @cons B r h s t c =>
  have : r.length = 0 := by simp at hl; omega
  rw [List.length_eq_zero_iff] at this; subst this; simpa using s
end
def beforeB (x y : Blk) : Prop := x.at_ < y.at_ ∨ (x.at_ = y.at_ ∧ x.slot < y.slot)
def aheadB (x y : Blk) : Prop := x.slot < y.slot
set_option maxHeartbeats 4000000
open Go.Awp
def covers (a : Spot) (x : Nat) : Prop := a.page ≤ (x : Int) ∧ (x : Int) < a.page + a.count
abbrev spotI (pages : Int) (l : List (Int × Int)) (i : Nat) : Spot := (spotS pages (nth l i)).1
structure Free (pages : Int) (l : List (Int × Int)) (i : Nat) : Prop where
 k : ∀ x : Nat, (x : Int) < pages → (∀ j, j < i → ¬ covers (spotI pages l j) x) → nth (stI pages l i).1 x = -1
 b : ∀ x c : Nat, x < 64 → (nth (stI pages l i).2 x).testBit c = true → ∃ j, j < i ∧ (spotI pages l j).small = true ∧ (spotI pages l j).page = x ∧ (spotI pages l j).cell = c
open Go.Awp
def disjI (p q : Int × Int) : Prop := p.1 + p.2 ≤ q.1 ∨ q.1 + q.2 ≤ p.1
def fitsS (s : Stt) (x : Slot) : Prop := if x.two = true then (spotS s.base (x.at_, x.len)).2 = true else s.base * 32 ≤ x.at_ ∧ x.at_.tmod 4 = 0 ∧ x.at_ + (needS x.len).1 ≤ s.sh.pages * 32
def clearS (base : Int) (x y : Slot) : Prop := (x.two = true → y.two = true → apartS (spotS base (x.at_, x.len)).1 (spotS base (y.at_, y.len)).1) ∧
 (x.two = false → y.two = false → disjI (x.at_, (needS x.len).1) (y.at_, (needS y.len).1))
def modeP (mode : Int) (x : Slot) : Prop := (mode = 1 → x.two = false) ∧ (mode = 2 → x.two = true)
open Go.Awp
def openT (x : Slot) : Bool := !x.live && decide (x.gen ≠ 65535)
def sizedN (n : Int) : Bool := decide (1 ≤ n ∧ n ≤ 2048)
def nextF (l : List Slot) : Nat → Nat → Option Nat
 | 0, _ => none
 | f + 1, i => if openT (nth l i) = true then some i else nextF l f (i + 1)
def nextS (l : List Slot) : Option Nat := (List.range l.length).find? fun i => openT (nth l i)
@[simp high] theorem slice_rows3 {α : Type} {P : Program} {objs : List Awp.Obj} {t : TypeId} {k : Nat} {f : α → D} {l : List α} {lo : Option Int} {q : Int} : sliceA P objs t (.d (rows k f l)) lo (some q) (some q) = (match ty P t with
    | some { k := .slice e, .. } => match ty P e with
      | some T => if k = T.size ∧ 0 ≤ lo.getD 0 ∧ lo.getD 0 ≤ q ∧ q ≤ l.length then some (.cut k (((l.drop (lo.getD 0).toNat).take (q.toNat - (lo.getD 0).toNat)).map f)) else none
      | none => none
    | _ => none) := by
 unfold rows sliceA
 cases ty P t with
 | none => rfl
 | some T =>
  obtain ⟨sz, by', K, z⟩ := T
  cases K with
  | slice e =>
   simp only
   cases ty P e with
   | none => rfl
   | some T => simp
  | _ => rfl
set_option maxRecDepth 4000
open Go.Awp
open Go.Awp
def liveT (l : List Slot) (k : Int) : Bool := decide (0 ≤ k) && (decide (k < l.length) && (nth l k.toNat).live)
def liveS (s : Stt) (k : Int) : Bool := sttS s && liveT s.slots k
def goneS (x : Slot) : Slot := ⟨if 65535 < x.gen + 1 then 65535 else x.gen + 1, false, false, 0, 0⟩
def freeT (l : List Slot) (k : Int) : List Slot × Int := if tableS l = true ∧ liveT l k = true then (l.set k.toNat (goneS (nth l k.toNat)), 0) else ([], 1)
def atS (x : Slot) (two : Bool) (at_ : Int) : Slot := { x with two := two, at_ := at_ }
def layAt (s : Stt) (k : Nat) (two : Bool) (at_ : Int) : Stt := { s with slots := s.slots.set k (atS (nth s.slots k) two at_) }
def takeAt (s : Stt) (n : Nat) : Stt := { s with slots := s.slots.set n (goneS (nth s.slots n)), data := s.data.set n [] }
def takeS (s : Stt) (k : Int) : Stt × Int := if liveS s k = true then (takeAt s k.toNat, 0) else (zStt, 1)
def moveS (s : Stt) (k : Int) (two : Bool) (at_ : Int) : Stt × Int := if liveS s k = true then (if sttS (layAt s k.toNat two at_) = true then (layAt s k.toNat two at_, 0) else (zStt, 10)) else (zStt, 1)
def tookS (x : Slot) (gen : Int) : Slot := { x with live := true, gen := gen }
def takeT (l : List Slot) (x : Slot) : List Slot × (Int × Int) × Int := if tableS l = true then (match nextS l with
  | none => ([], (0, 0), 9)
  | some k => if slotS1 (tookS x (nth l k).gen) = true then (l.set k (tookS x (nth l k).gen), ((k : Int), (nth l k).gen), 0) else ([], (0, 0), 1)) else ([], (0, 0), 1)
open Go.Awp
open Go.Awp
open Go.Awp
def betterS (p q : Int × Int) : Bool := decide (p.2 < q.2) || (decide (p.2 = q.2) && decide (p.1 < q.1))
def bestStep (size : Int) (o : Option (Int × Int)) (p : Int × Int) : Option (Int × Int) := if decide (size ≤ p.2) && (!o.isSome || betterS p (o.getD (0, 0))) then some p else o
def bestS (l : List (Int × Int)) (size : Int) : Option (Int × Int) := l.foldl (bestStep size) none
open Go.Awp
open Go.Awp
def cellsS (c : Int) : Int × Int := if c < 0 ∨ 6 ≤ c then (0, 1) else ((28 : Int).tdiv (nth wordsL c.toNat), 0)
def cellS (c k : Int) : Int × Int := if c < 0 ∨ 6 ≤ c ∨ k < 0 ∨ (cellsS c).1 ≤ k then (0, 1) else (4 + k * nth wordsL c.toNat, 0)
def gapE (a b : Int) : List (Int × Int) := if a < b then [(a, b - a)] else []
def gapsF (to : Int) : Int → List (Int × Int) → List (Int × Int)
 | a, [] => gapE a to
 | a, p :: l => gapE a p.1 ++ gapsF to (p.1 + p.2) l
open Go.Awp
open Go.Awp
open Go.Awp
def oneS (s : Stt) (n : Int) : Option Int := if (needS n).2 ≠ 0 then none else (bestS (gapsF (s.sh.pages * 32) (s.base * 32) (spansS s.slots)) (needS n).1).map (·.1)
open Go.Awp
def bumpR (l : List (Int × Int)) : List (Int × Int) := l.set (l.length - 1) ((nth l (l.length - 1)).1, (nth l (l.length - 1)).2 + 1)
def runsI (ks : List Int) : Nat → List (Int × Int) × Bool
 | 0 => ([], false)
 | i + 1 => if nth ks i = -1 then (if (runsI ks i).2 = true then (bumpR (runsI ks i).1, true) else ((runsI ks i).1 ++ [((i : Int), 1)], true)) else ((runsI ks i).1, false)
def runsS (ks : List Int) : List (Int × Int) := (runsI ks ks.length).1
structure RunOk (ks : List Int) (i : Nat) (g : Int × Int) : Prop where
 h0 : 0 ≤ g.1
 h1 : 1 ≤ g.2
 h2 : g.1 + g.2 ≤ i
 h3 : ∀ x : Nat, g.1 ≤ x → (x : Int) < g.1 + g.2 → nth ks x = -1
def ShutR (ks : List Int) (i : Nat) (g : Int × Int) : Prop := g.1 + g.2 < (i : Int) ∧ nth ks (g.1 + g.2).toNat ≠ -1
structure RunInv (ks : List Int) (i : Nat) (st : List (Int × Int) × Bool) : Prop where
 ok : ∀ g ∈ st.1, RunOk ks i g
 cov : ∀ x : Nat, x < i → nth ks x = -1 → ∃ g ∈ st.1, g.1 ≤ x ∧ (x : Int) < g.1 + g.2
 op : st.2 = true → ∃ (l : List (Int × Int)) (g : Int × Int), st.1 = l ++ [g] ∧ g.1 + g.2 = (i : Int) ∧ ∀ h ∈ l, ShutR ks i h
 cl : st.2 = false → ∀ g ∈ st.1, ShutR ks i g
def bestRStep (n : Int) (o : Option (Int × Int)) (g : Int × Int) : Option (Int × Int) := if decide (1 ≤ n) && (decide (n ≤ g.2) && (!o.isSome || decide (g.2 < (o.getD (0, 0)).2))) then some g else o
def bestR (ks : List Int) (n : Int) : Option (Int × Int) := (runsS ks).foldl (bestRStep n) none
def openC (ks : List Int) (ms : List Nat) (of : Int) (m : Nat) (p : Nat) : Option Nat := if nth ks p = of then (List.range m).find? (fun k => !(nth ms p).testBit k) else none
def slabR (ks : List Int) (ms : List Nat) (of : Int) : Option Nat := (List.range ks.length).find? fun p => (openC ks ms of (cellsS of).1.toNat p).isSome
def freeR (ks : List Int) : Option Nat := (List.range ks.length).find? fun p => decide (nth ks p = -1)
def cellR (ks : List Int) (ms : List Nat) (of : Int) : Option Int := match slabR ks ms of with
 | some p => some ((p : Int) * 32 + (cellS of ((openC ks ms of (cellsS of).1.toNat p).getD 0 : Nat)).1)
 | none => (freeR ks).map fun (p : Nat) => (p : Int) * 32 + 4
def placeS (pages : Int) (l : List (Int × Int)) (n : Int) : Option Int := match laidS pages l with
 | none => none
 | some st => if (classS n).2 = true then cellR st.1 st.2 (classS n).1 else if (pagesS n).2 ≠ 0 then none else (bestR st.1 (pagesS n).1).map fun g => g.1 * 32
structure LaidP (pages : Int) (l : List (Int × Int)) (ks : List Int) (ms : List Nat) : Prop where
 p0 : 0 ≤ pages ∧ pages ≤ 64
 len : ks.length = pages.toNat
 len2 : ms.length = 64
 good : ∀ j, j < l.length → GoodSpot pages (spotI pages l j)
 free : ∀ x : Nat, (x : Int) < pages → (∀ j, j < l.length → ¬ covers (spotI pages l j) x) → nth ks x = -1
 sm : ∀ j, j < l.length → (spotI pages l j).small = true → nth ks (spotI pages l j).page.toNat = (spotI pages l j).cls ∧ (nth ms (spotI pages l j).page.toNat).testBit (spotI pages l j).cell.toNat = true
 lg : ∀ j, j < l.length → (spotI pages l j).small = false → ∀ x : Nat, covers (spotI pages l j) x → nth ks x = 7 ∨ nth ks x = 6
 bit : ∀ x c : Nat, x < 64 → (nth ms x).testBit c = true → ∃ j, j < l.length ∧ (spotI pages l j).small = true ∧ (spotI pages l j).page = x ∧ (spotI pages l j).cell = c
open Go.Awp
def roomW (s : Stt) (two : Bool) (n : Int) : Option Int := if two = true then placeS s.base (twosO s.slots) n else oneS s n
@[simp high] theorem cells_ownR {α : Type} {k : Nat} {f : α → D} {l : List α} : (ownR k f l).cells = [ownR k f l] := rfl
@[simp high] theorem nrmL_ownR {α : Type} {k k' : Nat} {f : α → D} {l : List α} {m : M} {xs : List D} : nrmL [ownR k f l] [D.row m k' xs] = [D.row m k' xs] := rfl
@[simp high] theorem putC_ownR {α : Type} {k : Nat} {f : α → D} {l : List α} {d : D} : putC (ownR k f l) 0 [d] = d := rfl
@[simp] theorem roedc_eObj : D.roed ∘ eObj = eObj := funext roed_eObj
@[simp] theorem roedc_eSlot : D.roed ∘ eSlot = eSlot := funext roed_eSlot
@[simp] theorem roedc_eRoot : D.roed ∘ eRoot = eRoot := funext roed_eRoot
@[simp] theorem roedc_eBlk : D.roed ∘ eBlk = eBlk := funext roed_eBlk
@[simp] theorem roedc_vI : D.roed ∘ vI = vI := funext fun _ => roed_v _
@[simp] theorem roedc_vB : D.roed ∘ vB = vB := funext fun _ => roed_v _
@[simp] theorem roedc_rB : D.roed ∘ rB = rB := funext roed_rB
@[simp] theorem roedc_oB : D.roed ∘ oB = rB := funext fun x => by simp
open Go.Awp
open Go.Awp
open Go.Awp
open Go.Awp
open Go.Awp
def roomS (s : Stt) (two : Bool) (n : Int) : Option Int := if (sttS s && sizedN n) = true then roomW s two n else none
def tryR (s : Stt) (n : Int) (two : Bool) : Option (Bool × Int) := (roomS s two n).map fun a => (two, a)
def firstP (s : Stt) (n : Int) : Option (Bool × Int) := if s.mode = 1 then tryR s n false else if s.mode = 2 then tryR s n true else if s.mode = 3 then (tryR s n true).or (tryR s n false) else if s.mode = 4 then (tryR s n false).or (tryR s n true) else none
def modeB (mode : Int) (two : Bool) : Prop := (mode = 1 → two = false) ∧ (mode = 2 → two = true)
def putAt (s : Stt) (k : Nat) (y : Slot) (d : List UInt8) : Stt := { s with slots := s.slots.set k y, data := s.data.set k d }
def newSlot (gen n : Int) (two : Bool) (a : Int) : Slot := ⟨gen, true, two, a, n⟩
def zerosB (n : Int) : List UInt8 := List.replicate n.toNat 0
def putS (s : Stt) (n : Int) : Stt × (Int × Int) × Int := if (sttS s && sizedN n) = true then (match nextS s.slots with
  | none => (zStt, (0, 0), 9)
  | some k => match firstP s n with
    | none => (zStt, (0, 0), 10)
    | some p => (putAt s k (newSlot (nth s.slots k).gen n p.1 p.2) (zerosB n), ((k : Int), (nth s.slots k).gen), 0)) else (zStt, (0, 0), 1)
def rszB (d : List UInt8) (n : Int) : List UInt8 := d.take n.toNat ++ List.replicate (n.toNat - d.length) 0
def lenS (x : Slot) (n : Int) : Slot := { x with len := n }
def sizeAt (s : Stt) (k : Nat) (n : Int) : Stt := putAt s k (lenS (nth s.slots k) n) (rszB (nth s.data k) n)
def rszS (s : Stt) (k n : Int) : Stt × Int := if (liveS s k && sizedN n) = true then (if sttS (sizeAt s k.toNat n) = true then (sizeAt s k.toNat n, 0) else match firstP s n with
  | none => (zStt, 10)
  | some p => (layAt (sizeAt s k.toNat n) k.toNat p.1 p.2, 0)) else (zStt, 1)
def pickB (ok : Bool → Bool) (two : Bool) : Option Bool := if ok two = true then none else some two
def firstB (mode : Int) (ok : Bool → Bool) : Option Bool := if mode = 1 then pickB ok false else if mode = 2 then pickB ok true else if mode = 3 then (pickB ok true).or (pickB ok false) else if mode = 4 then (pickB ok false).or (pickB ok true) else none
open Go.Awp
open Go.Awp
open Go.Awp
open Go.Awp
open Go.Awp
open Go.Awp
def sh1 : Shape := ⟨1, 2, 2, 30⟩
def stO : Stt := firstStt sh1 1
def stA : Stt := (putS stO 16).1
def stB : Stt := (putS stA 16).1
def stC : Stt := (rszS stB 0 17).1
def stT : Stt := firstStt sh1 2
def stU : Stt := (putS stT 121).1
def otherOk (a b : Stt) (k : Int) (i : Nat) : Bool := decide ((i : Int) = k) || (sameSlot (nth a.slots i) (nth b.slots i) && (str (nth a.data i)).toList == (str (nth b.data i)).toList)
def othersS (a b : Stt) (k : Int) : Bool := decide (a.slots.length = b.slots.length) && (decide (a.data.length = b.data.length) && (a.mode == b.mode && (a.base == b.base && (sameShape a.sh b.sh && (List.range (min a.slots.length a.data.length)).all (otherOk a b k)))))
open Go.Awp
open Go.Awp
open Go.Awp
end Go.Proofs
