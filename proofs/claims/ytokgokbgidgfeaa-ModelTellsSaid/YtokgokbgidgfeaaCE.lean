/- Contracts of the program's functions and plain facts, for arguments as each lemma says. -/
import Derived.Test.YtokgokbgidgfeaaCD
import Derived.Test.YtokgokbgidgfeaaCA
import Derived.Test.YtokgokbgidgfeaaCC
import Derived.Test.YtokgokbgidgfeaaAwpC
import Derived.Test.YtokgokbgidgfeaaAwpD
set_option linter.all false
namespace Go.Proofs
open Go.Awp
theorem ct116 (g : Gl) (l : List Root) (nm : ByteArray) (ix gn : Int) (hl : RootsOk l) (hn : nm.size ≤ 2^40) : CtAt Try.prog g 116 [rR l, vS nm, .agg [vI ix, vI gn]] (.tup [oR (setS l nm ix gn).1, vI (setS l nm ix gn).2]) := by
 refine ctAt_of_W Try.func116 rfl rfl (Nat.le_of_ble_eq_true rfl) fun B S => ?_
 refine xU ?_
 iterate 3 refine xO ?_
 refine xG [0,1,5] ?_
 iterate 2 refine xO ?_
 refine xC (ct138 g _ _ hl hn) ?_
 iterate 5 refine xO ?_
 refine xF [0,1,5,8,9] ?_
 refine W_seq (W_block ?_)
 refine xU ?_
 iterate 3 refine xO ?_
 refine xF [0,1,5,8,9,16] ?_
 refine W_cond rfl ?_ ?_
 · intro h16
   have hr : (findS l nm).2 ≠ 0 := by simpa using h16
   have hr5 : setS l nm ix gn = ([], (findS l nm).2) := by simp [setS, hr]
   refine xU ?_
   iterate 3 refine xO ?_
   refine xF [6,7] ?_
   refine W_ret (xR (by simp [Try.f116]; exact .mk) ?_)
   simp [Try.f116, hr5, ownR, List.map_set]
 intro h16
 have hr : (findS l nm).2 = 0 := by simpa using h16
 refine xU ?_
 refine xO ?_
 refine xC (ct94 g _ _) ?_
 iterate 2 refine xO ?_
 refine xF [0,1,5,8,20] ?_
 refine W_cond rfl ?_ ?_
 · intro h20
   have hr2 : handleS ix gn = false := by simpa using h20
   have hr5 : setS l nm ix gn = ([], 1) := by simp [setS, hr, hr2]
   refine xU ?_
   iterate 2 refine xO ?_
   refine xF [6,7] ?_
   refine W_ret (xR (by simp [Try.f116]; exact .mk) ?_)
   simp [Try.f116, hr5, ownR, List.map_set]
 intro h20
 have hr2 : handleS ix gn = true := by simpa using h20
 refine W_skip ?_
 rintro -
 refine W_seq (xU ?_)
 iterate 2 refine xO ?_
 refine xF [0,1,5,8,25] ?_
 refine W_cond rfl ?_ ?_
 · intro h25
   have hr3 : (findS l nm).1 < 0 := by simpa using h25
   refine W_reg rfl ?_
   refine xO ?_
   refine xC (ct95 g _ _ hl.h1) ?_
   refine xO ?_
   refine xF [0,1,5,8] ?_
   refine W_seq (xU ?_)
   iterate 2 refine xO ?_
   refine xF [0,1,5,8,29] ?_
   refine W_cond rfl ?_ ?_
   · intro h29
     have hr4 : slotS l nm < 0 := by unfold slotS; split <;> (simp at h29; omega)
     have hr5 : setS l nm ix gn = ([], 9) := by simp [setS, hr, hr2, hr4]
     refine xU ?_
     iterate 2 refine xO ?_
     refine xF [6,7] ?_
     refine W_ret (xR (by simp [Try.f116]; exact .mk) ?_)
     simp [Try.f116, hr5, ownR, List.map_set]
   intro h29
   have hr4 : 0 ≤ slotS l nm := by unfold slotS; split <;> (simp at h29; omega)
   obtain ⟨k, hk, hkl⟩ := slotS_nat hl hr hr4
   have hk0 : ¬ ((k : Int) < 0) := by omega
   have hr5 : setS l nm ix gn = (l.set k ⟨nm, ix, gn⟩, 0) := by simp [setS, hr, hr2, hk, hk0]
   simp only [slotS, hr3, if_true, if_false] at hk
   refine W_skip ?_
   refine xT ?_
   iterate 4 refine xO ?_
   refine xO ?_ (h := by simp [splice]; exact .mk)
   refine run_call0 rfl rfl rfl rfl (by simp; exact .mk) (by simp; exact .mk) (by have := ct139 g l k ⟨nm, ix, gn⟩ hl.h1 hkl; rw [← hk] at this; exact this) (by simp) (by simp; exact .mk) ?_
   iterate 2 refine xO ?_
   refine xF [6,7] ?_
   refine W_ret (xR (by simp [Try.f116]; exact .mk) ?_)
   simp [Try.f116, hr5, ownR, List.map_set]
 intro h25
 have hr3 : ¬ (findS l nm).1 < 0 := by simpa using h25
 refine W_skip ?_
 rintro -
 refine W_seq (xU ?_)
 iterate 2 refine xO ?_
 refine xF [0,1,5,8,29] ?_
 refine W_cond rfl ?_ ?_
 · intro h29
   have hr4 : slotS l nm < 0 := by unfold slotS; split <;> (simp at h29; omega)
   have hr5 : setS l nm ix gn = ([], 9) := by simp [setS, hr, hr2, hr4]
   refine xU ?_
   iterate 2 refine xO ?_
   refine xF [6,7] ?_
   refine W_ret (xR (by simp [Try.f116]; exact .mk) ?_)
   simp [Try.f116, hr5, ownR, List.map_set]
 intro h29
 have hr4 : 0 ≤ slotS l nm := by unfold slotS; split <;> (simp at h29; omega)
 obtain ⟨k, hk, hkl⟩ := slotS_nat hl hr hr4
 have hk0 : ¬ ((k : Int) < 0) := by omega
 have hr5 : setS l nm ix gn = (l.set k ⟨nm, ix, gn⟩, 0) := by simp [setS, hr, hr2, hk, hk0]
 simp only [slotS, hr3, if_true, if_false] at hk
 refine W_skip ?_
 refine xT ?_
 iterate 4 refine xO ?_
 refine xO ?_ (h := by simp [splice]; exact .mk)
 refine run_call0 rfl rfl rfl rfl (by simp; exact .mk) (by simp; exact .mk) (by have := ct139 g l k ⟨nm, ix, gn⟩ hl.h1 hkl; rw [← hk] at this; exact this) (by simp) (by simp; exact .mk) ?_
 iterate 2 refine xO ?_
 refine xF [6,7] ?_
 refine W_ret (xR (by simp [Try.f116]; exact .mk) ?_)
 simp [Try.f116, hr5, ownR, List.map_set]

set_option maxHeartbeats 4000000
open Go.Awp
theorem in75 (g : Gl) (o0 o1 o2 : Awp.Obj) (l : List (List UInt8)) (hl : l.length ≤ 2^40) : ∀ B S, CallsA Try.prog g B S ⟨3, true⟩ 75 [.d (rBB l)] [o0, o1, o2]
    (fun x r => x = .hdr 4 0 l.length ∧ r = [o0, o1, o2, .dead, .row 1 (l.map rB)]) := by
 refine callsA_at Try.func75 rfl (Nat.le_of_ble_eq_true rfl) fun B S => ?_
 refine xU ?_
 refine xO ?_
 refine xF [0] ?_
 refine W_seq (W_seq ?_)
 refine W_region rfl (WR_cut (hard := []) [0] [1] ?_)
 refine xO ?_
 refine xE [0,3] ?_
 refine WR_nilcmp rfl rfl rfl (.inl rfl) rfl ⟨_, Try.underlying23⟩ (by simp; rfl) ?_
 intro nb hnb
 refine WR_run (hard := []) ?_
 refine xF [0,4] ?_
 refine W_cond rfl ?_ ?_
 · intro h4
   have hl0 : l = [] := List.eq_nil_of_length_eq_zero (hnb (by simpa using h4))
   subst hl0
   refine xU ?_
   refine xO ?_
   refine xE [2] ?_
   refine then_weak Weak.pad ?_
   refine then_weak (s2 := slots [(2, .hdr 4 0 0), (2, .d (.v (.slice none 0 0)))]) (objs2 := [o0, o1, o2, .dead, .row 1 []]) (Weak.nilRow 2 1 rfl) ?_
   rintro -
   refine W_ret (endAt_ret (by simp [Try.f75]; exact .mk) ?_ ?_)
   · simp
   simp
 intro h4
 refine W_skip ?_
 rintro -
 refine W_seq ?_
 have e1 : l.length * 24 ≤ 140737488355328 := by omega
 have e2 : l.length ≤ 140737488355328 := by omega
 refine W_reg rfl ?_
 iterate 2 refine xO ?_
 refine xO ?_ (h := by simp [rows, e1, e2]; exact .mk)
 refine xO ?_
 refine xF [2] ?_
 refine W_ret (endAt_ret (by simp [Try.f75]; exact .mk) ?_ ?_)
 · simp
 simp

open Go.Awp
@[simp] theorem eqOk49 : eqOk Try.prog 49 = true := by kernel_rfl
def sameShape (a b : Shape) : Bool := a.pages == b.pages && (a.slots == b.slots && (a.roots == b.roots && a.room == b.room))
def sameSlot (a b : Slot) : Bool := a.gen == b.gen && (a.live == b.live && (a.two == b.two && (a.at_ == b.at_ && a.len == b.len)))
def sameB (x y : List (List UInt8)) : Bool := sameL (fun x y => (str x).toList == (str y).toList) x y
def sameStt (a b : Stt) : Bool := sameShape a.sh b.sh && (a.mode == b.mode && (a.base == b.base && (sameL sameSlot a.slots b.slots && (sameL sameRoot a.roots b.roots && sameB a.data b.data))))

def okMode (mode : Int) : Bool := decide (mode = 1 ∨ mode = 2)
def newR (sh : Shape) (mode : Int) : Stt × Int := if shapeS sh && okMode mode then (firstStt sh mode, 0) else (zStt, 1)
set_option maxRecDepth 4000
open Go.Awp
open Go.Awp
def liveT (l : List Slot) (k : Int) : Bool := decide (0 ≤ k) && (decide (k < l.length) && (nth l k.toNat).live)
def liveS (s : Stt) (k : Int) : Bool := sttS s && liveT s.slots k
def goneS (x : Slot) : Slot := ⟨if 65535 < x.gen + 1 then 65535 else x.gen + 1, false, false, 0, 0⟩
def freeT (l : List Slot) (k : Int) : List Slot × Int := if tableS l = true ∧ liveT l k = true then (l.set k.toNat (goneS (nth l k.toNat)), 0) else ([], 1)
def atS (x : Slot) (two : Bool) (at_ : Int) : Slot := { x with two := two, at_ := at_ }
def layAt (s : Stt) (k : Nat) (two : Bool) (at_ : Int) : Stt := { s with slots := s.slots.set k (atS (nth s.slots k) two at_) }
theorem rowsS_len {s : Stt} (h : rowsS s = true) : s.data.length = s.slots.length := by
 simp only [rowsS, Bool.and_eq_true, decide_eq_true_eq] at h; exact h.1.2.2
theorem sttS_rowsS {s : Stt} (h : sttS s = true) : rowsS s = true := (sttS_iff.1 h).2.1
def takeAt (s : Stt) (n : Nat) : Stt := { s with slots := s.slots.set n (goneS (nth s.slots n)), data := s.data.set n [] }
def takeS (s : Stt) (k : Int) : Stt × Int := if liveS s k = true then (takeAt s k.toNat, 0) else (zStt, 1)
def moveS (s : Stt) (k : Int) (two : Bool) (at_ : Int) : Stt × Int := if liveS s k = true then (if sttS (layAt s k.toNat two at_) = true then (layAt s k.toNat two at_, 0) else (zStt, 10)) else (zStt, 1)
def tookS (x : Slot) (gen : Int) : Slot := { x with live := true, gen := gen }
def takeT (l : List Slot) (x : Slot) : List Slot × (Int × Int) × Int := if tableS l = true then (match nextS l with
  | none => ([], (0, 0), 9)
  | some k => if slotS1 (tookS x (nth l k).gen) = true then (l.set k (tookS x (nth l k).gen), ((k : Int), (nth l k).gen), 0) else ([], (0, 0), 1)) else ([], (0, 0), 1)
open Go.Awp
open Go.Awp
open Go.Awp
def betterS (p q : Int × Int) : Bool := decide (p.2 < q.2) || (decide (p.2 = q.2) && decide (p.1 < q.1))
def bestStep (size : Int) (o : Option (Int × Int)) (p : Int × Int) : Option (Int × Int) := if decide (size ≤ p.2) && (!o.isSome || betterS p (o.getD (0, 0))) then some p else o
def bestS (l : List (Int × Int)) (size : Int) : Option (Int × Int) := l.foldl (bestStep size) none
open Go.Awp
open Go.Awp
def cellsS (c : Int) : Int × Int := if c < 0 ∨ 6 ≤ c then (0, 1) else ((28 : Int).tdiv (nth wordsL c.toNat), 0)
def cellS (c k : Int) : Int × Int := if c < 0 ∨ 6 ≤ c ∨ k < 0 ∨ (cellsS c).1 ≤ k then (0, 1) else (4 + k * nth wordsL c.toNat, 0)
def gapE (a b : Int) : List (Int × Int) := if a < b then [(a, b - a)] else []
def gapsF (to : Int) : Int → List (Int × Int) → List (Int × Int)
 | a, [] => gapE a to
 | a, p :: l => gapE a p.1 ++ gapsF to (p.1 + p.2) l
open Go.Awp
open Go.Awp
open Go.Awp
def oneS (s : Stt) (n : Int) : Option Int := if (needS n).2 ≠ 0 then none else (bestS (gapsF (s.sh.pages * 32) (s.base * 32) (spansS s.slots)) (needS n).1).map (·.1)
open Go.Awp
def bumpR (l : List (Int × Int)) : List (Int × Int) := l.set (l.length - 1) ((nth l (l.length - 1)).1, (nth l (l.length - 1)).2 + 1)
def runsI (ks : List Int) : Nat → List (Int × Int) × Bool
 | 0 => ([], false)
 | i + 1 => if nth ks i = -1 then (if (runsI ks i).2 = true then (bumpR (runsI ks i).1, true) else ((runsI ks i).1 ++ [((i : Int), 1)], true)) else ((runsI ks i).1, false)
def runsS (ks : List Int) : List (Int × Int) := (runsI ks ks.length).1
structure RunOk (ks : List Int) (i : Nat) (g : Int × Int) : Prop where
 h0 : 0 ≤ g.1
 h1 : 1 ≤ g.2
 h2 : g.1 + g.2 ≤ i
 h3 : ∀ x : Nat, g.1 ≤ x → (x : Int) < g.1 + g.2 → nth ks x = -1
def ShutR (ks : List Int) (i : Nat) (g : Int × Int) : Prop := g.1 + g.2 < (i : Int) ∧ nth ks (g.1 + g.2).toNat ≠ -1
structure RunInv (ks : List Int) (i : Nat) (st : List (Int × Int) × Bool) : Prop where
 ok : ∀ g ∈ st.1, RunOk ks i g
 cov : ∀ x : Nat, x < i → nth ks x = -1 → ∃ g ∈ st.1, g.1 ≤ x ∧ (x : Int) < g.1 + g.2
 op : st.2 = true → ∃ (l : List (Int × Int)) (g : Int × Int), st.1 = l ++ [g] ∧ g.1 + g.2 = (i : Int) ∧ ∀ h ∈ l, ShutR ks i h
 cl : st.2 = false → ∀ g ∈ st.1, ShutR ks i g
def bestRStep (n : Int) (o : Option (Int × Int)) (g : Int × Int) : Option (Int × Int) := if decide (1 ≤ n) && (decide (n ≤ g.2) && (!o.isSome || decide (g.2 < (o.getD (0, 0)).2))) then some g else o
def bestR (ks : List Int) (n : Int) : Option (Int × Int) := (runsS ks).foldl (bestRStep n) none
def openC (ks : List Int) (ms : List Nat) (of : Int) (m : Nat) (p : Nat) : Option Nat := if nth ks p = of then (List.range m).find? (fun k => !(nth ms p).testBit k) else none
def slabR (ks : List Int) (ms : List Nat) (of : Int) : Option Nat := (List.range ks.length).find? fun p => (openC ks ms of (cellsS of).1.toNat p).isSome
def freeR (ks : List Int) : Option Nat := (List.range ks.length).find? fun p => decide (nth ks p = -1)
def cellR (ks : List Int) (ms : List Nat) (of : Int) : Option Int := match slabR ks ms of with
 | some p => some ((p : Int) * 32 + (cellS of ((openC ks ms of (cellsS of).1.toNat p).getD 0 : Nat)).1)
 | none => (freeR ks).map fun (p : Nat) => (p : Int) * 32 + 4
def placeS (pages : Int) (l : List (Int × Int)) (n : Int) : Option Int := match laidS pages l with
 | none => none
 | some st => if (classS n).2 = true then cellR st.1 st.2 (classS n).1 else if (pagesS n).2 ≠ 0 then none else (bestR st.1 (pagesS n).1).map fun g => g.1 * 32
structure LaidP (pages : Int) (l : List (Int × Int)) (ks : List Int) (ms : List Nat) : Prop where
 p0 : 0 ≤ pages ∧ pages ≤ 64
 len : ks.length = pages.toNat
 len2 : ms.length = 64
 good : ∀ j, j < l.length → GoodSpot pages (spotI pages l j)
 free : ∀ x : Nat, (x : Int) < pages → (∀ j, j < l.length → ¬ covers (spotI pages l j) x) → nth ks x = -1
 sm : ∀ j, j < l.length → (spotI pages l j).small = true → nth ks (spotI pages l j).page.toNat = (spotI pages l j).cls ∧ (nth ms (spotI pages l j).page.toNat).testBit (spotI pages l j).cell.toNat = true
 lg : ∀ j, j < l.length → (spotI pages l j).small = false → ∀ x : Nat, covers (spotI pages l j) x → nth ks x = 7 ∨ nth ks x = 6
 bit : ∀ x c : Nat, x < 64 → (nth ms x).testBit c = true → ∃ j, j < l.length ∧ (spotI pages l j).small = true ∧ (spotI pages l j).page = x ∧ (spotI pages l j).cell = c
open Go.Awp
def roomW (s : Stt) (two : Bool) (n : Int) : Option Int := if two = true then placeS s.base (twosO s.slots) n else oneS s n
@[simp high] theorem cells_ownR {α : Type} {k : Nat} {f : α → D} {l : List α} : (ownR k f l).cells = [ownR k f l] := rfl
@[simp high] theorem nrmL_ownR {α : Type} {k k' : Nat} {f : α → D} {l : List α} {m : M} {xs : List D} : nrmL [ownR k f l] [D.row m k' xs] = [D.row m k' xs] := rfl
@[simp high] theorem putC_ownR {α : Type} {k : Nat} {f : α → D} {l : List α} {d : D} : putC (ownR k f l) 0 [d] = d := rfl
@[simp] theorem roedc_eObj : D.roed ∘ eObj = eObj := funext roed_eObj
@[simp] theorem roedc_eSlot : D.roed ∘ eSlot = eSlot := funext roed_eSlot
@[simp] theorem roedc_eRoot : D.roed ∘ eRoot = eRoot := funext roed_eRoot
@[simp] theorem roedc_eBlk : D.roed ∘ eBlk = eBlk := funext roed_eBlk
@[simp] theorem roedc_vI : D.roed ∘ vI = vI := funext fun _ => roed_v _
@[simp] theorem roedc_vB : D.roed ∘ vB = vB := funext fun _ => roed_v _
@[simp] theorem roedc_rB : D.roed ∘ rB = rB := funext roed_rB
@[simp] theorem roedc_oB : D.roed ∘ oB = rB := funext fun x => by simp
open Go.Awp
open Go.Awp
open Go.Awp
open Go.Awp
open Go.Awp
def roomS (s : Stt) (two : Bool) (n : Int) : Option Int := if (sttS s && sizedN n) = true then roomW s two n else none
def tryR (s : Stt) (n : Int) (two : Bool) : Option (Bool × Int) := (roomS s two n).map fun a => (two, a)
def firstP (s : Stt) (n : Int) : Option (Bool × Int) := if s.mode = 1 then tryR s n false else if s.mode = 2 then tryR s n true else if s.mode = 3 then (tryR s n true).or (tryR s n false) else if s.mode = 4 then (tryR s n false).or (tryR s n true) else none
def modeB (mode : Int) (two : Bool) : Prop := (mode = 1 → two = false) ∧ (mode = 2 → two = true)
def putAt (s : Stt) (k : Nat) (y : Slot) (d : List UInt8) : Stt := { s with slots := s.slots.set k y, data := s.data.set k d }
def newSlot (gen n : Int) (two : Bool) (a : Int) : Slot := ⟨gen, true, two, a, n⟩
def zerosB (n : Int) : List UInt8 := List.replicate n.toNat 0
def putS (s : Stt) (n : Int) : Stt × (Int × Int) × Int := if (sttS s && sizedN n) = true then (match nextS s.slots with
  | none => (zStt, (0, 0), 9)
  | some k => match firstP s n with
    | none => (zStt, (0, 0), 10)
    | some p => (putAt s k (newSlot (nth s.slots k).gen n p.1 p.2) (zerosB n), ((k : Int), (nth s.slots k).gen), 0)) else (zStt, (0, 0), 1)
theorem slot_gen {s : Stt} (h : sttS s = true) {i : Nat} (hi : i < s.slots.length) : 0 ≤ (nth s.slots i).gen ∧ (nth s.slots i).gen ≤ 65535 := by
 have := tableS_slot (rowsS_t (sttS_rowsS h)) i hi
 unfold slotS1 at this
 split at this
 · cases this
 · omega
def rszB (d : List UInt8) (n : Int) : List UInt8 := d.take n.toNat ++ List.replicate (n.toNat - d.length) 0
def lenS (x : Slot) (n : Int) : Slot := { x with len := n }
def sizeAt (s : Stt) (k : Nat) (n : Int) : Stt := putAt s k (lenS (nth s.slots k) n) (rszB (nth s.data k) n)
def rszS (s : Stt) (k n : Int) : Stt × Int := if (liveS s k && sizedN n) = true then (if sttS (sizeAt s k.toNat n) = true then (sizeAt s k.toNat n, 0) else match firstP s n with
  | none => (zStt, 10)
  | some p => (layAt (sizeAt s k.toNat n) k.toNat p.1 p.2, 0)) else (zStt, 1)
def pickB (ok : Bool → Bool) (two : Bool) : Option Bool := if ok two = true then none else some two
def firstB (mode : Int) (ok : Bool → Bool) : Option Bool := if mode = 1 then pickB ok false else if mode = 2 then pickB ok true else if mode = 3 then (pickB ok true).or (pickB ok false) else if mode = 4 then (pickB ok false).or (pickB ok true) else none
open Go.Awp
open Go.Awp
open Go.Awp
open Go.Awp
open Go.Awp
open Go.Awp
def sh1 : Shape := ⟨1, 2, 2, 30⟩
def stO : Stt := firstStt sh1 1
def stA : Stt := (putS stO 16).1
def stB : Stt := (putS stA 16).1
def stC : Stt := (rszS stB 0 17).1
def stT : Stt := firstStt sh1 2
def stU : Stt := (putS stT 121).1
def otherOk (a b : Stt) (k : Int) (i : Nat) : Bool := decide ((i : Int) = k) || (sameSlot (nth a.slots i) (nth b.slots i) && (str (nth a.data i)).toList == (str (nth b.data i)).toList)
def othersS (a b : Stt) (k : Int) : Bool := decide (a.slots.length = b.slots.length) && (decide (a.data.length = b.data.length) && (a.mode == b.mode && (a.base == b.base && (sameShape a.sh b.sh && (List.range (min a.slots.length a.data.length)).all (otherOk a b k)))))
open Go.Awp
open Go.Awp
open Go.Awp
open Go.Awp
open Go.Awp
def ofB (s : Stt) (i : Nat) : List UInt8 := if (nth s.slots i).live && decide (i < s.data.length) then nth s.data i else []
def ofD (s : Stt) (i : Nat) : List (List UInt8) := (List.range i).map (ofB s)
def ofG (s : Stt) (i : Nat) : List Int := (List.range i).map fun j => (nth s.slots j).gen
def ofS (s : Stt) : Abs := ⟨ofG s s.slots.length, ofD s s.slots.length, s.roots⟩
theorem ofD_s {s : Stt} {i : Nat} : ofD s (i + 1) = ofD s i ++ [ofB s i] := by simp [ofD, List.range_succ]
theorem ofG_s {s : Stt} {i : Nat} : ofG s (i + 1) = ofG s i ++ [(nth s.slots i).gen] := by simp [ofG, List.range_succ]
@[simp] theorem ofD_len {s : Stt} {i : Nat} : (ofD s i).length = i := by simp [ofD]
@[simp] theorem ofG_len {s : Stt} {i : Nat} : (ofG s i).length = i := by simp [ofG]
open Go.Awp
/- The first rune of a text, as the document says. -/
def bt (s : ByteArray) (k : Nat) : Nat := (s.data.toList.getD k 0).toNat
theorem bt_lt (s : ByteArray) (k : Nat) : bt s k < 256 := UInt8.toNat_lt _
theorem get_bt (s : ByteArray) (k : Nat) : (s.get! k).toNat = bt s k := by
 unfold bt
 show (s.data[k]!).toNat = _
 congr 1
 rw [List.getD_eq_getElem?_getD, Array.getElem?_toList, getElem!_def]
 cases s.data[k]? <;> rfl
def clsN (b : Nat) : Nat × Nat × Nat := if 194 ≤ b ∧ b < 224 then (2, 128, 192) else if 224 ≤ b ∧ b < 240 then (3, 2048, 224) else if 240 ≤ b ∧ b < 245 then (4, 65536, 240) else (0, 0, 0)
def contB (b : Nat) : Bool := decide (128 ≤ b ∧ b < 192)
def accR (s : ByteArray) (a : Int) : Nat → Int
 | 0 => a
 | i + 1 => accR s a i * 64 + bt s (i + 1) - 128
def badR (a : Int) (least : Nat) : Bool := decide (a < least ∨ 1114111 < a ∨ (55296 ≤ a ∧ a ≤ 57343))
def runeR (s : ByteArray) : Int × Int :=
 if bt s 0 < 128 then (bt s 0, 1)
 else if (clsN (bt s 0)).1 = 0 ∨ s.size < (clsN (bt s 0)).1 then (0, 0)
 else if (List.range ((clsN (bt s 0)).1 - 1)).all (fun i => contB (bt s (i + 1))) = true then
  (if badR (accR s ((bt s 0 : Int) - (clsN (bt s 0)).2.2) ((clsN (bt s 0)).1 - 1)) (clsN (bt s 0)).2.1 = true then (0, 0) else (accR s ((bt s 0 : Int) - (clsN (bt s 0)).2.2) ((clsN (bt s 0)).1 - 1), (clsN (bt s 0)).1))
 else (0, 0)
theorem clsN_cases (b : Nat) : (194 ≤ b ∧ b < 224 ∧ clsN b = (2, 128, 192)) ∨ (224 ≤ b ∧ b < 240 ∧ clsN b = (3, 2048, 224)) ∨ (240 ≤ b ∧ b < 245 ∧ clsN b = (4, 65536, 240)) ∨ ((b < 194 ∨ 245 ≤ b) ∧ clsN b = (0, 0, 0)) := by
 unfold clsN
 by_cases h1 : 194 ≤ b ∧ b < 224
 · rw [if_pos h1]; exact .inl ⟨h1.1, h1.2, rfl⟩
 · rw [if_neg h1]
   by_cases h2 : 224 ≤ b ∧ b < 240
   · rw [if_pos h2]; exact .inr (.inl ⟨h2.1, h2.2, rfl⟩)
   · rw [if_neg h2]
     by_cases h3 : 240 ≤ b ∧ b < 245
     · rw [if_pos h3]; exact .inr (.inr (.inl ⟨h3.1, h3.2, rfl⟩))
     · rw [if_neg h3]; exact .inr (.inr (.inr ⟨by omega, rfl⟩))
theorem runeR_k {s : ByteArray} {k le ba : Nat} (h0 : ¬ bt s 0 < 128) (e : clsN (bt s 0) = (k, le, ba)) (hk : k ≠ 0) : runeR s = if s.size < k then (0, 0) else if (List.range (k - 1)).all (fun i => contB (bt s (i + 1))) = true then (if badR (accR s ((bt s 0 : Int) - ba) (k - 1)) le = true then (0, 0) else (accR s ((bt s 0 : Int) - ba) (k - 1), (k : Int))) else (0, 0) := by
 unfold runeR
 rw [if_neg h0, e]
 simp only
 by_cases h : s.size < k
 · rw [if_pos (.inr h), if_pos h]
 · rw [if_neg (by omega), if_neg h]
theorem pair_alt {r : Int × Int} {d : Nat × Nat} (h : (r = (0, 0) ∧ d.1 = 65533) ∨ (r = ((d.1 : Int), (d.2 : Int)) ∧ d.2 ≠ 0)) : (r.2 = 0 ∧ d.1 = 65533) ∨ (r.2 ≠ 0 ∧ r.1 = d.1 ∧ r.2 = d.2) := by
 rcases h with ⟨rfl, h⟩ | ⟨rfl, h⟩
 · exact .inl ⟨rfl, h⟩
 · exact .inr ⟨by simpa using h, rfl, rfl⟩
theorem runeR_decode {s : ByteArray} (h : 0 < s.size) : ((runeR s).2 = 0 ∧ (Utf8.decode s 0).1 = 65533) ∨ ((runeR s).2 ≠ 0 ∧ (runeR s).1 = (Utf8.decode s 0).1 ∧ (runeR s).2 = (Utf8.decode s 0).2) := by
 apply pair_alt
 have l0 := bt_lt s 0
 have l1 := bt_lt s 1
 have l2 := bt_lt s 2
 have l3 := bt_lt s 3
 unfold Utf8.decode
 simp only [Nat.zero_add, get_bt, Utf8.valid, Utf8.runeError]
 by_cases h0 : bt s 0 < 128
 · rw [if_pos h0]; right; unfold runeR; rw [if_pos h0]; exact ⟨rfl, by simp⟩
 have hn0 := h0
 rw [if_neg h0]
 rcases clsN_cases (bt s 0) with ⟨a1, a2, e⟩ | ⟨a1, a2, e⟩ | ⟨a1, a2, e⟩ | ⟨a1, e⟩
 · rw [runeR_k h0 e (by decide)]
   have hall : (List.range (2 - 1)).all (fun i => contB (bt s (i + 1))) = contB (bt s 1) := by simp [List.range_succ]
   have hacc : accR s ((bt s 0 : Int) - (192 : Nat)) (2 - 1) = ((bt s 0 : Int) - 192) * 64 + bt s 1 - 128 := rfl
   rw [hall, hacc]
   generalize bt s 0 = b0 at *
   generalize bt s 1 = b1 at *
   have d1 : b0 / 32 = 6 := by omega
   have d2 : b0 / 16 ≠ 14 := by omega
   have d3 : b0 / 8 ≠ 30 := by omega
   simp only [d1, d2, d3, contB, badR, beq_iff_eq, Bool.and_eq_true, decide_eq_true_eq, true_and, false_and, if_false, BEq.rfl]
   by_cases hz : 1 < s.size ∧ b1 / 64 = 2
   · rw [if_pos hz, if_neg (by omega), if_pos (by omega), if_neg (by omega), if_pos (by omega)]
     right; constructor
     · exact Prod.ext (by show _ = ((b0 % 32 * 64 + b1 % 64 : Nat) : Int); omega) rfl
     · show (2 : Nat) ≠ 0; decide
   · rw [if_neg hz]; left
     refine ⟨?_, rfl⟩
     by_cases hs : s.size < 2
     · rw [if_pos hs]
     · rw [if_neg hs, if_neg (by omega)]
 · rw [runeR_k h0 e (by decide)]
   have hall : (List.range (3 - 1)).all (fun i => contB (bt s (i + 1))) = (contB (bt s 1) && contB (bt s 2)) := by simp [List.range_succ]
   have hacc : accR s ((bt s 0 : Int) - (224 : Nat)) (3 - 1) = (((bt s 0 : Int) - 224) * 64 + bt s 1 - 128) * 64 + bt s 2 - 128 := rfl
   rw [hall, hacc]
   generalize bt s 0 = b0 at *
   generalize bt s 1 = b1 at *
   generalize bt s 2 = b2 at *
   have d1 : b0 / 32 ≠ 6 := by omega
   have d2 : b0 / 16 = 14 := by omega
   have d3 : b0 / 8 ≠ 30 := by omega
   simp only [d1, d2, d3, contB, badR, beq_iff_eq, Bool.and_eq_true, Bool.or_eq_true, decide_eq_true_eq, true_and, false_and, if_false, BEq.rfl]
   by_cases hz : (1 < s.size ∧ b1 / 64 = 2) ∧ 2 < s.size ∧ b2 / 64 = 2
   · rw [if_pos hz, if_neg (by omega), if_pos (by omega)]
     by_cases hb : (((b0 : Int) - 224) * 64 + b1 - 128) * 64 + b2 - 128 < (2048 : Nat) ∨ 1114111 < (((b0 : Int) - 224) * 64 + b1 - 128) * 64 + b2 - 128 ∨ 55296 ≤ (((b0 : Int) - 224) * 64 + b1 - 128) * 64 + b2 - 128 ∧ (((b0 : Int) - 224) * 64 + b1 - 128) * 64 + b2 - 128 ≤ 57343
     · rw [if_pos hb, if_neg (by omega)]; exact .inl ⟨rfl, rfl⟩
     · rw [if_neg hb, if_pos (by omega)]
       right; constructor
       · exact Prod.ext (by show _ = ((b0 % 16 * 4096 + b1 % 64 * 64 + b2 % 64 : Nat) : Int); omega) rfl
       · show (3 : Nat) ≠ 0; decide
   · rw [if_neg hz]; left
     refine ⟨?_, rfl⟩
     by_cases hs : s.size < 3
     · rw [if_pos hs]
     · rw [if_neg hs, if_neg (by omega)]
 · rw [runeR_k h0 e (by decide)]
   have hall : (List.range (4 - 1)).all (fun i => contB (bt s (i + 1))) = (contB (bt s 1) && (contB (bt s 2) && contB (bt s 3))) := by simp [List.range_succ, Bool.and_assoc]
   have hacc : accR s ((bt s 0 : Int) - (240 : Nat)) (4 - 1) = ((((bt s 0 : Int) - 240) * 64 + bt s 1 - 128) * 64 + bt s 2 - 128) * 64 + bt s 3 - 128 := rfl
   rw [hall, hacc]
   generalize bt s 0 = b0 at *
   generalize bt s 1 = b1 at *
   generalize bt s 2 = b2 at *
   generalize bt s 3 = b3 at *
   have d1 : b0 / 32 ≠ 6 := by omega
   have d2 : b0 / 16 ≠ 14 := by omega
   have d3 : b0 / 8 = 30 := by omega
   obtain ⟨A, hA⟩ : ∃ A : Int, A = ((((b0 : Int) - 240) * 64 + b1 - 128) * 64 + b2 - 128) * 64 + b3 - 128 := ⟨_, rfl⟩
   rw [← hA]
   simp only [d1, d2, d3, contB, badR, beq_iff_eq, Bool.and_eq_true, Bool.or_eq_true, decide_eq_true_eq, true_and, false_and, if_false, BEq.rfl]
   by_cases hz : ((1 < s.size ∧ b1 / 64 = 2) ∧ 2 < s.size ∧ b2 / 64 = 2) ∧ 3 < s.size ∧ b3 / 64 = 2
   · rw [if_pos hz, if_neg (by omega), if_pos (by omega)]
     have hv : ((b0 % 8 * 262144 + b1 % 64 * 4096 + b2 % 64 * 64 + b3 % 64 : Nat) : Int) = A := by omega
     by_cases hb : A < (65536 : Nat) ∨ 1114111 < A ∨ 55296 ≤ A ∧ A ≤ 57343
     · rw [if_pos hb, if_neg (by omega)]; exact .inl ⟨rfl, rfl⟩
     · rw [if_neg hb, if_pos (by omega)]
       right; constructor
       · exact Prod.ext (by show _ = ((b0 % 8 * 262144 + b1 % 64 * 4096 + b2 % 64 * 64 + b3 % 64 : Nat) : Int); omega) rfl
       · show (4 : Nat) ≠ 0; decide
   · rw [if_neg hz]; left
     refine ⟨?_, rfl⟩
     by_cases hs : s.size < 4
     · rw [if_pos hs]
     · rw [if_neg hs, if_neg (by omega)]
 · left
   have hr : runeR s = (0, 0) := by unfold runeR; rw [if_neg h0, if_pos (.inl (by rw [e]))]
   refine ⟨hr, ?_⟩
   generalize bt s 0 = b0 at *
   generalize bt s 1 = b1 at *
   generalize bt s 2 = b2 at *
   generalize bt s 3 = b3 at *
   simp only [beq_iff_eq, Bool.and_eq_true, Bool.or_eq_true, decide_eq_true_eq]
   repeat' split
   all_goals first | rfl | omega
open Go.Awp
theorem btF3 {s : ByteArray} {k : Nat} (h : k < s.data.size) : s.data[k].toNat = bt s k := by rw [bt, List.getD_eq_getElem?_getD, Array.getElem?_toList, Array.getElem?_eq_getElem h]; rfl
theorem runeR_le {s : ByteArray} (h : 0 < s.size) : (runeR s).2 ≤ s.size := by
 unfold runeR
 split
 · show (1 : Int) ≤ _; omega
 · split
   · show (0 : Int) ≤ _; omega
   · rename_i q
     split
     · split
       · show (0 : Int) ≤ _; omega
       · show (((clsN (bt s 0)).1 : Nat) : Int) ≤ _; omega
     · show (0 : Int) ≤ _; omega
theorem get_extract {t : ByteArray} {w p : Nat} (hw : w ≤ t.size) : (t.extract w t.size).get! p = t.get! (w + p) := by
 show (t.extract w t.size).data[p]! = t.data[w + p]!
 rw [ByteArray.data_extract, getElem!_def, getElem!_def, Array.getElem?_extract]
 have : t.data.size = t.size := rfl
 by_cases h : p < min t.size t.data.size - w
 · rw [if_pos h]
 · rw [if_neg h, Array.getElem?_eq_none (by omega)]
theorem decode_shift {t : ByteArray} {w p : Nat} (hw : w ≤ t.size) : Utf8.decode t (w + p) = Utf8.decode (t.extract w t.size) p := by
 unfold Utf8.decode
 have hs : (t.extract w t.size).size = t.size - w := by rw [ByteArray.size_extract]; omega
 have hc : ∀ k, decide (w + (p + k) < t.size) = decide (p + k < t.size - w) := fun k => decide_eq_decide.2 (by omega)
 simp only [get_extract hw, hs, Nat.add_assoc, hc]
theorem runesOk_shift {t : ByteArray} {w : Nat} (hw : w ≤ t.size) : ∀ (n p : Nat), t.size - (w + p) ≤ n → runesOk t (w + p) = runesOk (t.extract w t.size) p
 | n, p, hn => by
  have hs : (t.extract w t.size).size = t.size - w := by rw [ByteArray.size_extract]; omega
  conv => lhs; rw [runesOk]
  conv => rhs; rw [runesOk]
  rw [hs, decode_shift hw]
  by_cases h : w + p < t.size
  · rw [if_pos h, if_pos (by omega)]
    have hd := decode_pos (t.extract w t.size) p
    cases n with
    | zero => omega
    | succ n =>
     rw [Nat.add_assoc, runesOk_shift hw n (p + (Utf8.decode (t.extract w t.size) p).2) (by omega)]
  · rw [if_neg h, if_neg (by omega)]
theorem runesOk_step {t : ByteArray} (h : 0 < t.size) : ((runeR t).2 = 0 ∨ mayS (runeR t).1 = false → runesOk t 0 = false) ∧
    ((runeR t).2 ≠ 0 → mayS (runeR t).1 = true → ∃ w : Nat, (runeR t).2 = w ∧ 0 < w ∧ w ≤ t.size ∧ runesOk t 0 = runesOk (t.extract w t.size) 0) := by
 have hu : runesOk t 0 = (mayS (Utf8.decode t 0).1 && runesOk t (0 + (Utf8.decode t 0).2)) := by
  conv => lhs; rw [runesOk]
  rw [if_pos h]
 have hle := runeR_le h
 rcases runeR_decode h with ⟨h1, h2⟩ | ⟨h1, h2, h3⟩
 · refine ⟨fun _ => ?_, fun q => absurd h1 q⟩
   rw [hu, h2]; rfl
 · refine ⟨fun q => ?_, fun _ q => ?_⟩
   · rw [hu, ← h2, q.resolve_left h1]; rfl
   · refine ⟨(Utf8.decode t 0).2, h3, by omega, by omega, ?_⟩
     have := runesOk_shift (t := t) (w := (Utf8.decode t 0).2) (by omega) t.size 0 (by omega)
     rw [hu, ← h2, q, Nat.zero_add]; exact this
theorem nameS_long {s : ByteArray} (h : s.size < 1 ∨ 16 < s.size) : nameS s = false := by
 unfold nameS
 rcases h with h | h
 · have : s.toList = [] := by
    apply List.eq_nil_of_length_eq_zero
    have e := toList_size s
    omega
   simp [this]
 · simp [show ¬ (s.size : Int) ≤ 16 by omega]
theorem nameS_short {s : ByteArray} (h : 1 ≤ s.size ∧ s.size ≤ 16) : nameS s = runesOk s 0 := by
 unfold nameS
 have e := toList_size s
 have : s.toList ≠ [] := fun q => by rw [q] at e; simp at e; omega
 simp [this, show (s.size : Int) ≤ 16 by omega]
open Go.Awp
theorem ct92 (g : Gl) (s : ByteArray) (hs : 0 < s.size) : CtAt Try.prog g 92 [vS s] (.tup [vI (runeR s).1, vI (runeR s).2]) := by
 refine ctAt_of_W Try.func92 rfl rfl (Nat.le_of_ble_eq_true rfl) fun B S => ?_
 have wb : ∀ k, IntKind.i64.wrap (bt s k : Int) = bt s k := fun k => wrap64 (by have := bt_lt s k; omega) (by have := bt_lt s k; omega)
 have hb0 := bt_lt s 0
 refine xU ?_
 iterate 2 refine xO ?_
 refine xG [0] ?_
 iterate 3 refine xO ?_
 refine xG [0,4] ?_
 refine xO ?_
 refine xO ?_ (h := by simp [indexA, hs, btF3 (k := 0) hs]; exact .mk)
 refine xO ?_ (h := by simp [convA, isIntTy, wb]; exact .mk)
 refine xO ?_
 refine xF [0,4,5] ?_
 refine W_seq (xU ?_)
 iterate 2 refine xO ?_
 refine xF [0,4,5,16] ?_
 refine W_cond rfl ?_ ?_
 · intro h16
   have hr : runeR s = ((bt s 0 : Int), 1) := by unfold runeR; rw [if_pos (by simp at h16; omega)]
   refine xU ?_
   iterate 3 refine xO ?_
   refine xF [2,3] ?_
   refine W_ret (xR (by simp [Try.f92]; exact .mk) ?_)
   simp [Try.f92, hr]
 intro h16
 have h0 : ¬ bt s 0 < 128 := by simp at h16; omega
 obtain ⟨k, le, ba, e⟩ : ∃ k le ba, clsN (bt s 0) = (k, le, ba) := ⟨_, _, _, rfl⟩
 have hcc := clsN_cases (bt s 0)
 rw [e] at hcc
 simp only [Prod.mk.injEq] at hcc
 refine W_skip ?_
 refine xT ?_
 refine xO ?_
 refine xG [0,4,5,6] ?_
 refine xO ?_
 refine xF [0,4,5,6,7] ?_
 refine W_seq (xU ?_)
 iterate 3 refine xO ?_
 iterate 2 refine xI ?_
 refine xP ?_
 refine xF [0,4,5,6,7,23] ?_
 refine W_joinW ([(0, .d (vS s)), (4, .d (vI s.size)), (5, .d (vI ((bt s 0 : Int) - ba))), (6, .d (vI k)), (7, .d (vI le))]) ([]) ?_ ?_
 · skip
   refine W_cond rfl ?_ ?_
   · intro h23
     obtain ⟨rfl, rfl, rfl⟩ : k = 2 ∧ le = 128 ∧ ba = 192 := by simp at h23; omega
     have w1 : IntKind.i64.wrap ((bt s 0 : Int) - 192) = (bt s 0 : Int) - 192 := wrap64 (by omega) (by omega)
     refine xU ?_
     refine xO ?_
     refine xG [0,4,5,6] ?_
     refine xO ?_
     refine xF [0,4,5,6,7] ?_
     refine W_reg rfl ?_
     refine xO ?_
     refine xO ?_ (h := by simp [w1]; exact .mk)
     refine xO ?_
     refine xE [0,4,5,6,7] ?_
     exact ⟨rfl, Weak.kills [0,4,5,6,7] (by simp)⟩
   intro h23
   refine xU ?_
   iterate 3 refine xO ?_
   iterate 2 refine xI ?_
   refine xP ?_
   refine xF [0,4,5,6,7,31] ?_
   refine W_cond rfl ?_ ?_
   · intro h31
     obtain ⟨rfl, rfl, rfl⟩ : k = 3 ∧ le = 2048 ∧ ba = 224 := by simp at h31; omega
     have w1 : IntKind.i64.wrap ((bt s 0 : Int) - 224) = (bt s 0 : Int) - 224 := wrap64 (by omega) (by omega)
     refine xU ?_
     refine xO ?_
     refine xG [0,4,5,6] ?_
     refine xO ?_
     refine xF [0,4,5,6,7] ?_
     refine W_reg rfl ?_
     refine xO ?_
     refine xO ?_ (h := by simp [w1]; exact .mk)
     refine xO ?_
     refine xE [0,4,5,6,7] ?_
     exact ⟨rfl, Weak.kills [0,4,5,6,7] (by simp)⟩
   intro h31
   refine xU ?_
   iterate 3 refine xO ?_
   iterate 2 refine xI ?_
   refine xP ?_
   refine xF [0,4,5,6,7,39] ?_
   refine W_cond rfl ?_ ?_
   · intro h39
     obtain ⟨rfl, rfl, rfl⟩ : k = 4 ∧ le = 65536 ∧ ba = 240 := by simp at h39; omega
     have w1 : IntKind.i64.wrap ((bt s 0 : Int) - 240) = (bt s 0 : Int) - 240 := wrap64 (by omega) (by omega)
     refine xU ?_
     refine xO ?_
     refine xG [0,4,5,6] ?_
     refine xO ?_
     refine xF [0,4,5,6,7] ?_
     refine W_reg rfl ?_
     refine xO ?_
     refine xO ?_ (h := by simp [w1]; exact .mk)
     refine xO ?_
     refine xE [0,4,5,6,7] ?_
     exact ⟨rfl, Weak.kills [0,4,5,6,7] (by simp)⟩
   intro h39
   obtain ⟨rfl, rfl, rfl⟩ : k = 0 ∧ le = 0 ∧ ba = 0 := by simp at *; omega
   refine W_skip ?_
   exact ⟨rfl, Weak.kills [0,4,5,6,7] (by simp)⟩
 rintro -
 refine W_seq (xU ?_)
 iterate 3 refine xO ?_
 iterate 3 refine xI ?_
 refine xP ?_
 refine xF [0,5,6,7,48] ?_
 refine W_cond rfl ?_ ?_
 · intro h48
   have hr : runeR s = (0, 0) := by unfold runeR; rw [if_neg h0, if_pos (by rw [e]; simp at h48; omega)]
   refine xU ?_
   iterate 2 refine xO ?_
   refine xF [2,3] ?_
   refine W_ret (xR (by simp [Try.f92]; exact .mk) ?_)
   simp [Try.f92, hr]
 intro h48
 have hk : k ≠ 0 ∧ k ≤ s.size := by simp at h48; omega
 have hr0 := runeR_k h0 e hk.1
 rw [if_neg (by omega)] at hr0
 have hk4 : 2 ≤ k ∧ k ≤ 4 ∧ (ba : Int) ≤ bt s 0 ∧ (bt s 0 : Int) - ba < 32 := by omega
 obtain ⟨a, ha⟩ : ∃ a : Int, a = (bt s 0 : Int) - ba := ⟨_, rfl⟩
 rw [← ha] at hr0 hk4 ⊢
 refine W_skip ?_
 rintro -
 refine W_seq (xU ?_)
 refine xO ?_
 refine xF [0,5,6,7,8] ?_
 refine W_block (W_rounds (fun m σ o => ∃ j : Nat, m = k - (j + 1) ∧ j + 1 ≤ k ∧ (∀ t, t < j → contB (bt s (t + 1)) = true) ∧ (0 ≤ accR s a j ∧ accR s a j < 32 * 64 ^ j) ∧ σ = slots [(0, .d (vS s)), (5, .d (vI (accR s a j))), (6, .d (vI k)), (7, .d (vI le)), (8, .d (vI ((j + 1 : Nat) : Int)))] ∧ o = []) (k - 1) .refl ⟨0, by simp, by omega, by simp, ⟨by show 0 ≤ a; omega, by show a < 32; omega⟩, rfl, rfl⟩ ?_)
 rintro m σ o ⟨j, rfl, hj, hinv, hab, rfl, rfl⟩ _
 have hpw : (64 : Int) ^ j ≤ 64 ^ 3 := by exact_mod_cast Nat.pow_le_pow_right (by decide : 0 < 64) (by omega : j ≤ 3)
 refine W_seq (xU ?_)
 iterate 3 refine xO ?_
 refine xF [0,5,6,7,8,51] ?_
 refine W_cond rfl ?_ ?_
 · intro h51
   have hj2 : j + 1 < k := by simp at h51; omega
   have hj3 : j + 1 < s.size := by omega
   have hj4 : (j : Int) + 1 < s.size := by omega
   have hj5 : (0 : Int) ≤ (j : Int) + 1 := by omega
   have hj6 : ((j : Int) + 1).toNat = j + 1 := by omega
   have hbj := bt_lt s (j + 1)
   refine W_skip ?_
   rintro -
   refine W_seq (W_block ?_)
   refine xU ?_
   iterate 2 refine xO ?_
   refine xO ?_ (h := by simp [indexA, hj3, hj4, hj5, hj6, btF3 hj3]; exact .mk)
   refine xO ?_ (h := by simp [convA, isIntTy, wb]; exact .mk)
   refine xO ?_
   refine xF [0,5,6,7,8,9] ?_
   refine W_seq (xU ?_)
   iterate 3 refine xO ?_
   iterate 2 refine xI ?_
   refine xP ?_
   refine xF [0,5,6,7,8,9,63] ?_
   refine W_cond rfl ?_ ?_
   · intro h63
     have hr : runeR s = (0, 0) := by
      rw [hr0, if_neg]
      rw [all_bad (i := j) (by omega) (by simp [contB]; simp at h63; omega)]; simp
     refine xU ?_
     iterate 2 refine xO ?_
     refine xF [2,3] ?_
     refine W_ret (xR (by simp [Try.f92]; exact .mk) ?_)
     simp [Try.f92, hr]
   intro h63
   have hct : contB (bt s (j + 1)) = true := by simp [contB]; simp at h63; omega
   have hcb : 128 ≤ bt s (j + 1) ∧ bt s (j + 1) < 192 := by simpa [contB] using hct
   have w1 : IntKind.i64.wrap (accR s a j * 64) = accR s a j * 64 := wrap64 (by omega) (by omega)
   have w2 : IntKind.i64.wrap (accR s a j * 64 + bt s (j + 1)) = accR s a j * 64 + bt s (j + 1) := wrap64 (by omega) (by omega)
   have w3 : IntKind.i64.wrap (accR s a j * 64 + bt s (j + 1) - 128) = accR s a j * 64 + bt s (j + 1) - 128 := wrap64 (by omega) (by omega)
   refine W_skip ?_
   rintro -
   refine W_reg rfl ?_
   refine xO ?_
   refine xO ?_ (h := by simp [w1]; exact .mk)
   refine xO ?_
   refine xO ?_ (h := by simp [w2]; exact .mk)
   refine xO ?_ (h := by simp [w3]; exact .mk)
   refine xO ?_
   refine xF [0,5,6,7,8] ?_
   refine W_reg rfl ?_
   iterate 3 refine xO ?_
   refine xE [0,5,6,7,8] ?_
   refine rounds_kill [0,5,6,7,8] ?_
   refine rounds_next (m' := k - (j+1+1)) (by omega) ⟨j+1, rfl, by omega, ?_, ?_, ?_, rfl⟩
   · intro t ht
     rcases Nat.lt_succ_iff_lt_or_eq.1 ht with ht | rfl
     · exact hinv t ht
     exact hct
   · have : accR s a (j + 1) = accR s a j * 64 + bt s (j + 1) - 128 := rfl
     have hp : (64 : Int) ^ (j + 1) = 64 ^ j * 64 := Int.pow_succ 64 j
     omega
   rw [wrap64 (by omega) (by omega)]; rfl
 intro h51
 obtain rfl : k = j + 1 := by simp at h51; omega
 have hall : (List.range (j + 1 - 1)).all (fun i => contB (bt s (i + 1))) = true := all_good (fun t ht => hinv t (by omega))
 rw [if_pos hall, Nat.add_sub_cancel] at hr0
 refine W_exit ?_
 rintro -
 refine W_seq (xU ?_)
 iterate 4 refine xO ?_
 iterate 2 refine xI ?_
 refine xP ?_
 refine xB ?_
 iterate 5 refine xI ?_
 iterate 2 refine xP ?_
 refine xF [5,6,83] ?_
 refine W_cond rfl ?_ ?_
 · intro h83
   have hr : runeR s = (0, 0) := by rw [hr0, if_pos]; simp [badR]; simp at h83; grind
   refine xU ?_
   iterate 2 refine xO ?_
   refine xF [2,3] ?_
   refine W_ret (xR (by simp [Try.f92]; exact .mk) ?_)
   simp [Try.f92, hr]
 intro h83
 have hr : runeR s = (accR s a j, ((j + 1 : Nat) : Int)) := by rw [hr0, if_neg]; simp [badR]; simp at h83; grind
 refine W_skip ?_
 refine xT ?_
 iterate 4 refine xO ?_
 refine xF [2,3] ?_
 refine W_ret (xR (by simp [Try.f92]; exact .mk) ?_)
 simp [Try.f92, hr]

theorem ct48 (g : Gl) (s : ByteArray) : CtAt Try.prog g 48 [vS s] (.v (.bool (nameS s))) := by
 refine ctAt_of_W Try.func48 rfl rfl (Nat.le_of_ble_eq_true rfl) fun B S => ?_
 refine xU ?_
 refine xO ?_
 refine xF [0] ?_
 refine W_seq (xU ?_)
 iterate 4 refine xO ?_
 iterate 3 refine xI ?_
 refine xP ?_
 refine xF [0,12] ?_
 refine W_cond rfl ?_ ?_
 · intro h12
   have hr : nameS s = false := nameS_long (by simp at h12; omega)
   refine xU ?_
   refine xO ?_
   refine xF [2] ?_
   refine W_ret (xR (by simp [Try.f48]; exact .mk) ?_)
   simp [Try.f48, hr]
 intro h12
 have hsz : 1 ≤ s.size ∧ s.size ≤ 16 := by simp at h12; omega
 have hr0 := nameS_short hsz
 refine W_skip ?_
 rintro -
 refine W_seq (W_block ?_)
 refine W_rounds (fun m σ o => ∃ t : ByteArray, m = t.size ∧ runesOk s 0 = runesOk t 0 ∧ σ = slots [(0, .d (vS t))] ∧ o = []) s.size (Weak.kills [0] rfl) ⟨s, rfl, rfl, rfl, rfl⟩ ?_
 rintro m σ o ⟨t, rfl, hro, rfl, rfl⟩ _
 refine W_seq (xU ?_)
 iterate 3 refine xO ?_
 refine xF [0,15] ?_
 refine W_cond rfl ?_ ?_
 · intro h15
   have ht0 : 0 < t.size := by simp at h15; omega
   obtain ⟨s1, s2⟩ := runesOk_step ht0
   refine W_skip ?_
   rintro -
   refine W_block (xU ?_)
   refine xO ?_
   refine xC (ct92 g t ht0) ?_
   iterate 5 refine xO ?_
   refine xF [0,3,4] ?_
   refine W_seq (xU ?_)
   iterate 3 refine xO ?_
   iterate 2 refine xI ?_
   refine xP ?_
   refine xB ?_
   iterate 5 refine xI ?_
   iterate 2 refine xP ?_
   refine xB ?_
   iterate 2 refine xI ?_
   refine xP ?_
   refine xF [0,4,38] ?_
   refine W_cond rfl ?_ ?_
   · intro h38
     have hr : nameS s = false := by rw [hr0, hro]; apply s1; simp [mayS]; simp at h38; grind
     refine xU ?_
     refine xO ?_
     refine xF [2] ?_
     refine W_ret (xR (by simp [Try.f48]; exact .mk) ?_)
     simp [Try.f48, hr]
   intro h38
   obtain ⟨w, w1, w2, w3, w4⟩ := s2 (by simp at h38; grind) (by simp [mayS]; simp at h38; grind)
   have w5 : (w : Int) ≤ t.size := by omega
   refine W_skip ?_
   rintro -
   refine W_reg rfl ?_
   iterate 2 refine xO ?_
   refine xO ?_ (h := by simp [sliceA, optA, w1, w3, w5]; exact .mk)
   refine xO ?_
   refine xE [0] ?_
   refine rounds_kill [0] ?_
   refine rounds_next (m' := (t.extract w t.size).size) (by have q1 : 0 < w := w2; have q2 : w ≤ t.size := w3; rw [ByteArray.size_extract, Nat.min_self]; omega) ⟨t.extract w t.size, rfl, by rw [hro, w4], rfl, rfl⟩
 intro h15
 have hz : ¬ 0 < t.size := by have q := of_decide_eq_false h15; omega
 have hr : nameS s = true := by
  rw [hr0, hro]
  conv => lhs; rw [runesOk]
  exact if_neg hz
 refine W_exit (xT ?_)
 refine xO ?_
 refine xF [2] ?_
 refine W_ret (xR (by simp [Try.f48]; exact .mk) ?_)
 simp [Try.f48, hr]

theorem ct97 (g : Gl) (a b : Int) : CtAt Try.prog g 97 [.agg [vI a, vI b]] (.v (.bool (handleS a b))) := by
 refine ctAt_of_W Try.func97 rfl rfl (Nat.le_of_ble_eq_true rfl) fun B S => ?_
 simp only [List.map, argD_agg]
 refine xU ?_
 iterate 2 refine xO ?_
 refine xG [1] ?_
 iterate 4 refine xO ?_
 iterate 3 refine xI ?_
 refine xP ?_
 refine xB ?_
 iterate 3 refine xI ?_
 refine xP ?_
 refine xB ?_
 iterate 3 refine xI ?_
 refine xP ?_
 refine xB ?_
 refine xF [2] ?_
 refine W_ret (xR (by simp [Try.f97]; exact .mk) ?_)
 first | (simp [Try.f97, handleS, Bool.and_assoc]; done) | (simp [Try.f97, handleS, Bool.and_assoc]; grind)

theorem ct98 (g : Gl) (l : List Root) (nm : ByteArray) (hl : l.length ≤ 2^40) : CtAt Try.prog g 98 [rR l, vS nm] (vI (firstS l nm)) := by
 refine ctAt_of_W Try.func98 rfl rfl (Nat.le_of_ble_eq_true rfl) fun B S => ?_
 refine xU ?_
 refine xO ?_
 refine xF [0,1] ?_
 refine W_seq (xU ?_)
 refine xO ?_
 refine xF [0,1,5] ?_
 refine W_block (W_rounds (fun m σ o => ∃ i : Nat, m = l.length - i ∧ i ≤ l.length ∧ (∀ j, j < i → ((nth l j).name.toList == nm.toList) = false) ∧ σ = slots [(0, .d (rR l)), (1, .d (vS nm)), (5, .d (vI i))] ∧ o = []) l.length .refl ⟨0, by simp, by simp, by simp, rfl, rfl⟩ ?_)
 rintro m σ o ⟨i, rfl, hi, hinv, rfl, rfl⟩ _
 refine W_seq (xU ?_)
 iterate 4 refine xO ?_
 refine xF [0,1,5,9] ?_
 refine W_cond rfl ?_ ?_
 · intro h9
   have hi2 : i < l.length := by simpa using h9
   refine W_skip ?_
   rintro -
   refine W_seq (W_block ?_)
   refine xU ?_
   iterate 2 refine xO ?_
   refine xO ?_ (h := by simp [eRoot, hi2]; exact .mk)
   refine xO ?_
   refine xO ?_ (h := by simp [-List.getElem?_map, map_get hi2, eRoot]; exact .mk)
   iterate 2 refine xO ?_
   refine xF [0,1,5,18] ?_
   refine W_cond rfl ?_ ?_
   · intro h18
     have hr := firstS_at hi2 hinv h18
     refine xU ?_
     iterate 2 refine xO ?_
     refine xF [4] ?_
     refine W_ret (xR (by simp [Try.f98]; exact .mk) ?_)
     simp [Try.f98, hr]
   intro h18
   refine W_skip ?_
   rintro -
   refine W_reg rfl ?_
   iterate 3 refine xO ?_
   refine xE [0,1,5] ?_
   refine rounds_kill [0,1,5] ?_
   refine rounds_next (m' := l.length - (i+1)) (by omega) ⟨i+1, rfl, by omega, ?_, ?_, rfl⟩
   · intro j hj
     rcases Nat.lt_succ_iff_lt_or_eq.1 hj with hj | rfl
     · exact hinv j hj
     exact h18
   rw [wrap64 (by omega) (by omega)]; rfl
 intro h9
 have hr := firstS_none (l := l) (nm := nm) (fun j hj => hinv j (by simp at h9; omega))
 refine W_exit (xT ?_)
 refine xO ?_
 refine xF [4] ?_
 refine W_ret (xR (by simp [Try.f98]; exact .mk) ?_)
 simp [Try.f98, hr]

theorem ct55 (g : Gl) (l : List Root) (hl : l.length ≤ 2^40) : CtAt Try.prog g 55 [rR l] (.v (.bool (rootsS l))) := by
 refine ctAt_of_W Try.func55 rfl rfl (Nat.le_of_ble_eq_true rfl) fun B S => ?_
 refine xU ?_
 refine xO ?_
 refine xG [0] ?_
 refine xO ?_ (h := by simp [splice]; exact .mk)
 refine xO ?_
 refine xO ?_ (h := by simp [splice]; exact .mk)
 refine xF [0,3] ?_
 refine W_seq (xU ?_)
 refine xO ?_
 refine xF [0,3,4] ?_
 refine W_block (W_rounds (fun m σ o => ∃ i : Nat, m = l.length - i ∧ i ≤ l.length ∧ (∀ j, j < i → rootOk l j = true) ∧ σ = slots [(0, .d (rR l)), (3, .ptr 0 0 0), (4, .d (vI i))] ∧ o = [.var 28 [.d (vI 0), .d (vI 0)]]) l.length .refl ⟨0, by simp, by simp, by simp, rfl, rfl⟩ ?_)
 rintro m σ o ⟨i, rfl, hi, hinv, rfl, rfl⟩ _
 refine W_seq (xU ?_)
 iterate 4 refine xO ?_
 refine xF [0,3,4,11] ?_
 refine W_cond rfl ?_ ?_
 · intro h11
   have hi2 : i < l.length := by simpa using h11
   refine W_skip ?_
   rintro -
   refine W_seq (W_block ?_)
   refine W_seq (xU ?_)
   iterate 2 refine xO ?_
   refine xO ?_ (h := by simp [eRoot, hi2]; exact .mk)
   refine xO ?_
   refine xO ?_ (h := by simp [-List.getElem?_map, map_get hi2, eRoot]; exact .mk)
   refine xO ?_
   refine xF [0,3,4,19] ?_
   refine W_cond rfl ?_ ?_
   · intro h19
     have hz0 : (nth l i).name.toList = [] := by simpa using h19
     have hz : ((nth l i).name.toList == (⟨#[]⟩ : ByteArray).toList) = true := by rw [hz0, toList_eq]; rfl
     refine W_seq (W_seq ?_)
     refine W_regD (by kernel_rfl) [] 4 [0,1,2,3,4,5,6] (by decide +kernel) ?_
     iterate 2 refine xO ?_
     refine xO ?_ (h := by simp [eRoot, hi2]; exact .mk)
     refine xO ?_
     refine xO ?_ (h := by simp [-List.getElem?_map, map_get hi2, eRoot]; exact .mk)
     refine xO ?_ (h := by simp [eRoot]; exact .mk)
     refine xO ?_
     refine xF [0,3,4,26] ?_
     refine W_cond rfl ?_ ?_
     · intro h26
       have hr : rootsS l = false := roots_bad hi2 (by
         have hn : nameS (nth l i).name = false := by unfold nameS; rw [hz0]; simp
         unfold rootOk isZero; rw [hn, hz]; simp at h26; simp; grind)
       refine xU ?_
       refine xO ?_
       refine xF [2] ?_
       refine W_ret (xR (by simp [Try.f55]; exact .mk) ?_)
       first | (simp [Try.f55, hr]; done) | (simp [Try.f55, hr, newOk]; grind)
     intro h26
     have hok : rootOk l i = true := by unfold rootOk isZero; rw [hz]; simp at h26; simp; grind
     refine W_skip ?_
     rintro -
     refine W_exit ?_
     rintro -
     refine W_reg rfl ?_
     iterate 3 refine xO ?_
     refine xE [0,3,4] ?_
     refine rounds_kill [0,3,4] ?_
     refine rounds_next (m' := l.length - (i+1)) (by omega) ⟨i+1, rfl, by omega, ?_, ?_, rfl⟩
     · intro j hj
       rcases Nat.lt_succ_iff_lt_or_eq.1 hj with hj | rfl
       · exact hinv j hj
       exact hok
     rw [wrap64 (by omega) (by omega)]; rfl
   intro h19
   have hz : ((nth l i).name.toList == (⟨#[]⟩ : ByteArray).toList) = false := by
    have hz0 : (nth l i).name.toList ≠ [] := by simpa using h19
    rw [toList_eq ⟨#[]⟩]; simpa using hz0
   refine W_skip ?_
   refine xT ?_
   iterate 2 refine xO ?_
   refine xO ?_ (h := by simp [eRoot, hi2]; exact .mk)
   refine xO ?_
   refine xO ?_ (h := by simp [-List.getElem?_map, map_get hi2, eRoot]; exact .mk)
   refine xC (ct48 g (nth l i).name) ?_
   refine xO ?_
   refine xG [0,3,4,5] ?_
   iterate 2 refine xO ?_
   refine xO ?_ (h := by simp [eRoot, hi2]; exact .mk)
   refine xO ?_
   refine xO ?_ (h := by simp [-List.getElem?_map, map_get hi2, eRoot]; exact .mk)
   refine xC (ct97 g (nth l i).ix (nth l i).gen) ?_
   refine xO ?_
   refine xF [0,3,4,5,6] ?_
   refine W_seq ?_
   refine W_regD (by kernel_rfl) [] 4 [0,1,2,3,4,5,6,7,8,9,10,11,12,13,14,15,16,17] (by decide +kernel) ?_
   iterate 3 refine xO ?_
   iterate 2 refine xI ?_
   refine xP ?_
   refine xB ?_
   iterate 2 refine xI ?_
   refine run_if rfl (by simp; exact .mk) rfl (by simp <;> first | omega | grind) (fun hb => by simp [optA, hi2, Nat.le_of_lt hi2]; exact .mk) ?_
   iterate 2 refine xI ?_
   refine run_if rfl (by simp; exact .mk) rfl (by simp <;> first | omega | grind) (fun hb => by simp [eRoot, hi2]; exact .mk) ?_
   refine xI ?_
   refine run_if rfl (by simp; exact .mk) rfl (by simp <;> first | omega | grind) (fun hb => by simp [-List.getElem?_map, map_get hi2, eRoot]; exact .mk) ?_
   refine run_call rfl (by simp; exact .mk) rfl rfl (by simp) (by simp; exact .mk) (by simp; exact .mk) (fun hb => ct98 g (l.take i) (nth l i).name (by simp; omega)) (by simp) (by simp; exact .mk) (by simp) ?_
   refine xI ?_
   refine xP ?_
   refine xF [0,3,4,56] ?_
   refine W_cond rfl ?_ ?_
   · intro h56
     have hr : rootsS l = false := roots_bad hi2 (by unfold rootOk isZero; rw [hz]; simp at h56; simp; grind)
     refine xU ?_
     refine xO ?_
     refine xF [2] ?_
     refine W_ret (xR (by simp [Try.f55]; exact .mk) ?_)
     first | (simp [Try.f55, hr]; done) | (simp [Try.f55, hr, newOk]; grind)
   intro h56
   have hok : rootOk l i = true := by unfold rootOk isZero; rw [hz]; simp at h56; simp; grind
   refine W_skip ?_
   rintro -
   refine W_reg rfl ?_
   iterate 3 refine xO ?_
   refine xE [0,3,4] ?_
   refine rounds_kill [0,3,4] ?_
   refine rounds_next (m' := l.length - (i+1)) (by omega) ⟨i+1, rfl, by omega, ?_, ?_, rfl⟩
   · intro j hj
     rcases Nat.lt_succ_iff_lt_or_eq.1 hj with hj | rfl
     · exact hinv j hj
     exact hok
   rw [wrap64 (by omega) (by omega)]; rfl
 intro h11
 have hr : rootsS l = newOk l.length := roots_good (fun j hj => hinv j (by simp at h11; omega))
 refine W_exit (xT ?_)
 iterate 4 refine xO ?_
 iterate 3 refine xI ?_
 refine xP ?_
 refine xB ?_
 iterate 4 refine xI ?_
 refine xP ?_
 refine xB ?_
 refine xF [2] ?_
 refine W_ret (xR (by simp [Try.f55]; exact .mk) ?_)
 first | (simp [Try.f55, hr]; done) | (simp [Try.f55, hr, newOk]; grind)

open Go.Awp
theorem ct26 (g : Gl) (a : Abs) (ha : a.Ok) : CtAt Try.prog g 26 [eAbs a] (.v (.bool (rightS a))) := by
 refine ctAt_of_W Try.func26 rfl rfl (Nat.le_of_ble_eq_true rfl) fun B S => ?_
 simp only [eAbs, List.map, argD_agg]
 have q1 := ha.h1
 refine xU ?_
 iterate 2 refine xO ?_
 refine xF [1] ?_
 refine W_seq (xU ?_)
 iterate 8 refine xO ?_
 iterate 4 refine xI ?_
 refine xP ?_
 refine xB ?_
 iterate 4 refine xI ?_
 refine xP ?_
 refine xB ?_
 iterate 5 refine xI ?_
 refine xP ?_
 refine xF [1,29] ?_
 refine W_cond rfl ?_ ?_
 · intro h29
   have hr : rightS a = false := right_len (by simp [lensOk] at *; omega)
   refine xU ?_
   refine xO ?_
   refine xF [2] ?_
   refine W_ret (xR (by simp [Try.f26]; exact .mk) ?_)
   simp [Try.f26, hr]
 intro h29
 have h0 : lensOk a = true := by simp [lensOk] at *; omega
 have hgd : a.gens.length = a.data.length := by simp [lensOk] at h0; omega
 refine W_skip ?_
 rintro -
 refine W_seq (xU ?_)
 refine xO ?_
 refine xF [1,3] ?_
 refine W_block (W_rounds (fun m σ o => ∃ i : Nat, m = a.gens.length - i ∧ i ≤ a.gens.length ∧ (∀ j, j < i → slotOk a j = true) ∧ σ = slots [(1, .ptr 0 0 0), (3, .d (vI i))] ∧ o = [.var 26 [.d (rI a.gens), .d (rBB a.data), .d (rR a.roots)]]) a.gens.length .refl ⟨0, by simp, by simp, by simp, rfl, rfl⟩ ?_)
 rintro m σ o ⟨i, rfl, hi, hinv, rfl, rfl⟩ _
 refine W_seq (xU ?_)
 iterate 5 refine xO ?_
 refine xF [1,3,34] ?_
 refine W_cond rfl ?_ ?_
 · intro h34
   have hi2 : i < a.gens.length := by simpa using h34
   have hi3 : i < a.data.length := by omega
   refine W_skip ?_
   rintro -
   refine W_seq (W_block ?_)
   refine xU ?_
   iterate 3 refine xO ?_
   refine xO ?_ (h := by simp [hi2]; exact .mk)
   refine xO ?_ (h := by simp [-List.getElem?_map, map_get hi2]; exact .mk)
   iterate 2 refine xO ?_
   iterate 3 refine xI ?_
   refine run_if rfl (by simp; exact .mk) rfl (by simp <;> first | omega | grind) (fun hb => by simp [hi2]; exact .mk) ?_
   refine run_if rfl (by simp; exact .mk) rfl (by simp <;> first | omega | grind) (fun hb => by simp [-List.getElem?_map, map_get hi2]; exact .mk) ?_
   refine xI ?_
   refine xP ?_
   refine xB ?_
   iterate 3 refine xI ?_
   refine run_if rfl (by simp; exact .mk) rfl (by simp <;> first | omega | grind) (fun hb => by simp [hi3]; exact .mk) ?_
   refine run_if rfl (by simp; exact .mk) rfl (by simp <;> first | omega | grind) (fun hb => by simp [-List.getElem?_map, map_get hi3]; exact .mk) ?_
   iterate 2 refine xI ?_
   refine xP ?_
   refine xF [1,3,59] ?_
   refine W_cond rfl ?_ ?_
   · intro h59
     have hr : rightS a = false := right_bad hi2 (by simp [slotOk] at *; omega)
     refine xU ?_
     refine xO ?_
     refine xF [2] ?_
     refine W_ret (xR (by simp [Try.f26]; exact .mk) ?_)
     simp [Try.f26, hr]
   intro h59
   refine W_skip ?_
   rintro -
   refine W_reg rfl ?_
   iterate 3 refine xO ?_
   refine xE [1,3] ?_
   refine rounds_kill [1,3] ?_
   refine rounds_next (m' := a.gens.length - (i+1)) (by omega) ⟨i+1, rfl, by omega, ?_, ?_, rfl⟩
   · intro j hj
     rcases Nat.lt_succ_iff_lt_or_eq.1 hj with hj | rfl
     · exact hinv j hj
     simp [slotOk] at *; omega
   rw [wrap64 (by omega) (by omega)]; rfl
 intro h34
 have hr : rightS a = rootsS a.roots := right_good h0 (fun j hj => hinv j (by simp at h34; omega))
 refine W_exit (xT ?_)
 iterate 2 refine xO ?_
 refine xC (ct55 g _ ha.h3) ?_
 refine xO ?_
 refine xF [2] ?_
 refine W_ret (xR (by simp [Try.f26]; exact .mk) ?_)
 simp [Try.f26, hr]

open Go.Awp
theorem ct24 (g : Gl) (s : Stt) (hs : s.Ok) : CtAt Try.prog g 24 [eStt s] (oAbs (ofS s)) := by
 refine ctAt_of_W Try.func24 rfl rfl (Nat.le_of_ble_eq_true rfl) fun B S => ?_
 simp only [eStt, List.map, argD_agg, argD_v]
 have q1 := hs.h1
 have q2 := hs.h2
 have q3 := hs.h3
 have e3 : s.roots.length * 32 ≤ 140737488355328 := by omega
 have e4' : s.roots.length ≤ 140737488355328 := by omega
 refine xU ?_
 iterate 2 refine xO ?_
 refine xG [1,2] ?_
 iterate 2 refine xO ?_
 refine xO ?_ (h := by simp [eSlot, eRoot]; exact .mk)
 refine xO ?_ (h := by simp [rows, e3, e4']; exact .mk)
 refine xO ?_ (h := by simp [splice]; exact .mk)
 refine xO ?_
 refine xO ?_ (h := by simp [splice]; exact .mk)
 refine xE [1,2,3] ?_
 simp only [row_rows]
 rintro -
 refine W_seq (xU ?_)
 refine xO ?_
 refine xF [1,2,3,4] ?_
 refine W_block ?_
 refine W_rounds (fun m σ o => ∃ i : Nat, m = s.slots.length - i ∧ i ≤ s.slots.length ∧ σ = slots [(1, .ptr 0 0 0), (2, .ptr 1 0 0), (3, .ptr 4 0 0), (4, .d (vI i))] ∧ o = [.var 52 [.d (vI s.sh.pages), .d (vI s.sh.slots), .d (vI s.sh.roots), .d (vI s.sh.room), .d (vI s.mode), .d (vI s.base), .d (rSl s.slots), .d (rR s.roots), .d (rBB s.data)], .var 26 [.d (.v (.slice none 0 0)), .d (.v (.slice none 0 0)), .d (.v (.slice none 0 0))], .dead, .row 3 (s.roots.map eRoot), .var 26 [.hdr 5 0 i, .hdr 6 0 i, .hdr 3 0 s.roots.length], .row 1 ((ofG s i).map vI), .row 1 ((ofD s i).map oB)]) s.slots.length
  (Weak.trans (Weak.nilCell 4 0 1 rfl rfl) (Weak.nilCell 4 1 1 rfl rfl) (fun _ _ _ h1 h2 => by rw [← h1.len]; exact h2)) ⟨0, by simp, by simp, by simp, by simp [ofG, ofD]⟩ ?_
 rintro m σ o ⟨i, rfl, hi, rfl, rfl⟩ _
 refine W_seq (xU ?_)
 iterate 2 refine xO ?_
 refine xO ?_ (h := by simp [eSlot, eRoot]; exact .mk)
 iterate 2 refine xO ?_
 refine xF [1,2,3,4,15] ?_
 refine W_cond rfl ?_ ?_
 · intro h15
   have hi2 : i < s.slots.length := by simpa using h15
   have e4 : (i + 1) * 16 ≤ 140737488355328 := by omega
   have e5 : i ≤ 140737488355327 := by omega
   have e6 : (i + 1) * 8 ≤ 140737488355328 := by omega
   have e7 : (i + 1) * 24 ≤ 140737488355328 := by omega
   refine W_skip ?_
   rintro -
   refine W_seq (W_block ?_)
   refine W_seq ?_
   refine W_regDS (hard := []) [1,8] (keepOk_lt (by decide)) (by kernel_rfl) 4 [[0,1,2,3,4,5,6,7,8,9,10,11], [0,2,3,4,5,6,7,8,1,9,10,11]] (by decide +kernel) ⟨?_, ?_, trivial⟩
   · skip
     refine xO ?_
     refine xO ?_ (h := by simp [eSlot, eRoot]; exact .mk)
     refine xO ?_
     refine xO ?_ (h := by simp [eSlot, eRoot]; exact .mk)
     refine xO ?_
     refine xO ?_ (h := by simp [eSlot, eRoot, hi2]; exact .mk)
     refine xO ?_
     refine xO ?_ (h := by simp [-List.getElem?_map, map_get hi2, eSlot]; exact .mk)
     refine xO ?_
     refine xO ?_ (h := by simp [rows, e4, e5, e6, e7]; exact .mk)
     refine xO ?_
     refine xO ?_ (h := by simp [splice]; exact .mk)
     refine xE [1,2,3,4] ?_
     simp only [row_rows]
     refine xT ?_
     refine xO ?_
     refine xF [1,2,3,4,5] ?_
     refine W_seq (xU ?_)
     refine xO ?_
     refine xO ?_ (h := by simp [eSlot, eRoot]; exact .mk)
     refine xO ?_
     refine xO ?_ (h := by simp [eSlot, eRoot, hi2]; exact .mk)
     refine xO ?_
     refine xO ?_ (h := by simp [-List.getElem?_map, map_get hi2, eSlot]; exact .mk)
     refine xO ?_
     iterate 2 refine xI ?_
     refine run_if rfl (by simp; exact .mk) rfl (by simp <;> first | omega | grind) (fun hb => by simp [eSlot, eRoot]; exact .mk) ?_
     iterate 2 refine xI ?_
     refine xP ?_
     refine xF [1,2,3,4,5,41] ?_
     refine W_cond rfl ?_ ?_
     · intro h41
       have hc : (nth s.slots i).live = true ∧ i < s.data.length := by simpa using h41
       have hx : ofB s i = nth s.data i := by unfold ofB; rw [if_pos (by simpa using hc)]
       have hd := hc.2
       have hb := hs.h4 i hd
       have f1 : (nth s.data i).length ≤ 140737488355328 := by omega
       refine W_reg rfl ?_
       iterate 2 refine xO ?_
       refine xO ?_ (h := by simp [eSlot, eRoot]; exact .mk)
       refine xO ?_
       refine xO ?_ (h := by simp [eSlot, eRoot, hd]; exact .mk)
       refine xO ?_ (h := by simp [-List.getElem?_map, map_get hd]; exact .mk)
       refine xO ?_ (h := by simp [rows, f1]; exact .mk)
       refine xO ?_
       refine xF [1,2,3,4,5] ?_
       refine W_reg rfl ?_
       refine xO ?_
       refine xO ?_ (h := by simp [eSlot, eRoot]; exact .mk)
       iterate 2 refine xO ?_
       refine xO ?_ (h := by simp [rows, e4, e5, e6, e7, D.noOwn]; exact .mk)
       refine xO ?_
       refine xO ?_ (h := by simp [splice]; exact .mk)
       refine xF [1,2,3,4] ?_
       refine W_reg rfl ?_
       iterate 3 refine xO ?_
       refine xE [1,2,3,4] ?_
       refine rounds_kill [1,2,3,4] ?_
       refine rounds_kills [1,2,3,4] rfl ?_
       refine rounds_swap 5 8 1 (by decide) (by simp) (by decide) rfl rfl ?_
       first
       | (refine rounds_swap 6 12 1 (by decide) (by simp) (by decide) rfl rfl ?_
          refine rounds_drop 7 [1,2,3,4] (by decide) (by rfl) (by rfl) ?_
          refine rounds_next (m' := s.slots.length - (i+1)) (by omega) ⟨i+1, rfl, by omega, by rw [wrap64 (by omega) (by omega)]; rfl, by rw [ofD_s, ofG_s, hx]; simp; try rfl⟩)
       | (refine rounds_swap 6 11 1 (by decide) (by simp) (by decide) rfl rfl ?_
          refine rounds_drop 7 [1,2,3,4] (by decide) (by rfl) (by rfl) ?_
          refine rounds_next (m' := s.slots.length - (i+1)) (by omega) ⟨i+1, rfl, by omega, by rw [wrap64 (by omega) (by omega)]; rfl, by rw [ofD_s, ofG_s, hx]; simp; try rfl⟩)
     intro h41
     have hc : ¬ ((nth s.slots i).live && decide (i < s.data.length)) = true := by simpa using h41
     have hx : ofB s i = [] := by unfold ofB; rw [if_neg hc]
     refine W_weak (Weak.nilRow 5 1 rfl) ?_
     refine W_skip ?_
     rintro -
     refine W_reg rfl ?_
     refine xO ?_
     refine xO ?_ (h := by simp [eSlot, eRoot]; exact .mk)
     iterate 2 refine xO ?_
     refine xO ?_ (h := by simp [rows, e4, e5, e6, e7, D.noOwn]; exact .mk)
     refine xO ?_
     refine xO ?_ (h := by simp [splice]; exact .mk)
     refine xF [1,2,3,4] ?_
     refine W_reg rfl ?_
     iterate 3 refine xO ?_
     refine xE [1,2,3,4] ?_
     refine rounds_kill [1,2,3,4] ?_
     refine rounds_kills [1,2,3,4] rfl ?_
     refine rounds_swap 5 8 1 (by decide) (by simp) (by decide) rfl rfl ?_
     first
     | (refine rounds_swap 6 12 1 (by decide) (by simp) (by decide) rfl rfl ?_
        refine rounds_drop 7 [1,2,3,4] (by decide) (by rfl) (by rfl) ?_
        refine rounds_next (m' := s.slots.length - (i+1)) (by omega) ⟨i+1, rfl, by omega, by rw [wrap64 (by omega) (by omega)]; rfl, by rw [ofD_s, ofG_s, hx]; simp; try rfl⟩)
     | (refine rounds_swap 6 11 1 (by decide) (by simp) (by decide) rfl rfl ?_
        refine rounds_drop 7 [1,2,3,4] (by decide) (by rfl) (by rfl) ?_
        refine rounds_next (m' := s.slots.length - (i+1)) (by omega) ⟨i+1, rfl, by omega, by rw [wrap64 (by omega) (by omega)]; rfl, by rw [ofD_s, ofG_s, hx]; simp; try rfl⟩)
   skip
   iterate 2 refine xO ?_
   refine xO ?_ (h := by simp [eSlot, eRoot]; exact .mk)
   refine xO ?_
   refine xO ?_ (h := by simp [eSlot, eRoot, hi2]; exact .mk)
   refine xO ?_
   refine xO ?_ (h := by simp [-List.getElem?_map, map_get hi2, eSlot]; exact .mk)
   refine xO ?_
   refine xO ?_ (h := by simp [eSlot, eRoot]; exact .mk)
   refine xO ?_ (h := by simp [rows, e4, e5, e6, e7]; exact .mk)
   refine xO ?_
   refine xO ?_ (h := by simp [splice]; exact .mk)
   refine xE [1,2,3,4] ?_
   simp only [row_rows]
   refine xT ?_
   refine xO ?_
   refine xF [1,2,3,4,5] ?_
   refine W_seq (xU ?_)
   refine xO ?_
   refine xO ?_ (h := by simp [eSlot, eRoot]; exact .mk)
   refine xO ?_
   refine xO ?_ (h := by simp [eSlot, eRoot, hi2]; exact .mk)
   refine xO ?_
   refine xO ?_ (h := by simp [-List.getElem?_map, map_get hi2, eSlot]; exact .mk)
   refine xO ?_
   iterate 2 refine xI ?_
   refine run_if rfl (by simp; exact .mk) rfl (by simp <;> first | omega | grind) (fun hb => by simp [eSlot, eRoot]; exact .mk) ?_
   iterate 2 refine xI ?_
   refine xP ?_
   refine xF [1,2,3,4,5,41] ?_
   refine W_cond rfl ?_ ?_
   · intro h41
     have hc : (nth s.slots i).live = true ∧ i < s.data.length := by simpa using h41
     have hx : ofB s i = nth s.data i := by unfold ofB; rw [if_pos (by simpa using hc)]
     have hd := hc.2
     have hb := hs.h4 i hd
     have f1 : (nth s.data i).length ≤ 140737488355328 := by omega
     refine W_reg rfl ?_
     iterate 2 refine xO ?_
     refine xO ?_ (h := by simp [eSlot, eRoot]; exact .mk)
     refine xO ?_
     refine xO ?_ (h := by simp [eSlot, eRoot, hd]; exact .mk)
     refine xO ?_ (h := by simp [-List.getElem?_map, map_get hd]; exact .mk)
     refine xO ?_ (h := by simp [rows, f1]; exact .mk)
     refine xO ?_
     refine xF [1,2,3,4,5] ?_
     refine W_reg rfl ?_
     refine xO ?_
     refine xO ?_ (h := by simp [eSlot, eRoot]; exact .mk)
     iterate 2 refine xO ?_
     refine xO ?_ (h := by simp [rows, e4, e5, e6, e7, D.noOwn]; exact .mk)
     refine xO ?_
     refine xO ?_ (h := by simp [splice]; exact .mk)
     refine xF [1,2,3,4] ?_
     refine W_reg rfl ?_
     iterate 3 refine xO ?_
     refine xE [1,2,3,4] ?_
     refine rounds_kill [1,2,3,4] ?_
     refine rounds_kills [1,2,3,4] rfl ?_
     refine rounds_swap 5 8 1 (by decide) (by simp) (by decide) rfl rfl ?_
     first
     | (refine rounds_swap 6 12 1 (by decide) (by simp) (by decide) rfl rfl ?_
        refine rounds_drop 7 [1,2,3,4] (by decide) (by rfl) (by rfl) ?_
        refine rounds_next (m' := s.slots.length - (i+1)) (by omega) ⟨i+1, rfl, by omega, by rw [wrap64 (by omega) (by omega)]; rfl, by rw [ofD_s, ofG_s, hx]; simp; try rfl⟩)
     | (refine rounds_swap 6 11 1 (by decide) (by simp) (by decide) rfl rfl ?_
        refine rounds_drop 7 [1,2,3,4] (by decide) (by rfl) (by rfl) ?_
        refine rounds_next (m' := s.slots.length - (i+1)) (by omega) ⟨i+1, rfl, by omega, by rw [wrap64 (by omega) (by omega)]; rfl, by rw [ofD_s, ofG_s, hx]; simp; try rfl⟩)
   intro h41
   have hc : ¬ ((nth s.slots i).live && decide (i < s.data.length)) = true := by simpa using h41
   have hx : ofB s i = [] := by unfold ofB; rw [if_neg hc]
   refine W_weak (Weak.nilRow 5 1 rfl) ?_
   refine W_skip ?_
   rintro -
   refine W_reg rfl ?_
   refine xO ?_
   refine xO ?_ (h := by simp [eSlot, eRoot]; exact .mk)
   iterate 2 refine xO ?_
   refine xO ?_ (h := by simp [rows, e4, e5, e6, e7, D.noOwn]; exact .mk)
   refine xO ?_
   refine xO ?_ (h := by simp [splice]; exact .mk)
   refine xF [1,2,3,4] ?_
   refine W_reg rfl ?_
   iterate 3 refine xO ?_
   refine xE [1,2,3,4] ?_
   refine rounds_kill [1,2,3,4] ?_
   refine rounds_kills [1,2,3,4] rfl ?_
   refine rounds_swap 5 8 1 (by decide) (by simp) (by decide) rfl rfl ?_
   first
   | (refine rounds_swap 6 12 1 (by decide) (by simp) (by decide) rfl rfl ?_
      refine rounds_drop 7 [1,2,3,4] (by decide) (by rfl) (by rfl) ?_
      refine rounds_next (m' := s.slots.length - (i+1)) (by omega) ⟨i+1, rfl, by omega, by rw [wrap64 (by omega) (by omega)]; rfl, by rw [ofD_s, ofG_s, hx]; simp; try rfl⟩)
   | (refine rounds_swap 6 11 1 (by decide) (by simp) (by decide) rfl rfl ?_
      refine rounds_drop 7 [1,2,3,4] (by decide) (by rfl) (by rfl) ?_
      refine rounds_next (m' := s.slots.length - (i+1)) (by omega) ⟨i+1, rfl, by omega, by rw [wrap64 (by omega) (by omega)]; rfl, by rw [ofD_s, ofG_s, hx]; simp; try rfl⟩)
 intro h15
 obtain rfl : i = s.slots.length := by simp at h15; omega
 refine W_exit (xT ?_)
 refine xO ?_ (h := by simp [eSlot, eRoot]; exact .mk)
 refine xO ?_ (h := by simp [splice]; exact .mk)
 refine xF [2] ?_
 refine W_ret (end_ret (by simp [Try.f24]; exact .mk) (by simp; exact .mk) ?_ (by simp [oAbs]))
 simp [Try.f24, oAbs, ofS, ownR]

open Go.Awp
theorem ct23 (g : Gl) (s : Stt) (hs : s.Ok) : CtAt Try.prog g 23 [eStt s] (oAbs (ofS s)) := by
 refine ctAt_of_W Try.func23 rfl rfl (Nat.le_of_ble_eq_true rfl) fun B S => ?_
 simp only [eStt, List.map, argD_agg, argD_v]
 have q1 := hs.h1
 refine xU ?_
 iterate 2 refine xO ?_
 refine xG [1,2] ?_
 refine xO ?_
 refine xO ?_ (h := by simp [eSlot, eRoot]; exact .mk)
 refine xC (ct52 g _ hs.h2) ?_ (he := by simp [row_rows, Function.comp_def]; exact .mk) (hi := by simp [oAbs]; exact .mk)
 refine xO ?_ (h := by simp [splice]; exact .mk)
 refine xO ?_
 refine xO ?_ (h := by simp [splice]; exact .mk)
 refine xF [1,2,3] ?_
 refine W_seq (xU ?_)
 refine xO ?_
 refine xO ?_ (h := by simp [eSlot, eRoot]; exact .mk)
 iterate 2 refine xO ?_
 refine xF [1,2,3,12,13,14] ?_
 refine W_block ?_
 refine W_rounds (fun m σ o => ∃ i : Nat, m = s.slots.length - i ∧ i ≤ s.slots.length ∧ σ = slots [(1, .ptr 0 0 0), (2, .ptr 1 0 0), (3, .ptr 3 0 0), (12, .d (rSl s.slots)), (13, .d (vI s.slots.length)), (14, .d (vI i))] ∧ o = [.var 52 [.d (vI s.sh.pages), .d (vI s.sh.slots), .d (vI s.sh.roots), .d (vI s.sh.room), .d (vI s.mode), .d (vI s.base), .d (rSl s.slots), .d (rR s.roots), .d (rBB s.data)], .var 26 [.d (.v (.slice none 0 0)), .d (.v (.slice none 0 0)), .d (.v (.slice none 0 0))], .row 3 (s.roots.map eRoot), .var 26 [.hdr 4 0 i, .hdr 5 0 i, .hdr 2 0 s.roots.length], .row 1 ((ofG s i).map vI), .row 1 ((ofD s i).map oB)]) s.slots.length
  (Weak.trans (Weak.nilCell 3 0 1 rfl rfl) (Weak.nilCell 3 1 1 rfl rfl) (fun _ _ _ h1 h2 => by rw [← h1.len]; exact h2)) ⟨0, by simp, by simp, by simp, by simp [ofG, ofD]⟩ ?_
 rintro m σ o ⟨i, rfl, hi, rfl, rfl⟩ _
 refine xU ?_
 refine xO ?_
 refine xF [1,2,3,12,13,14,15] ?_
 refine W_seq (W_cond rfl ?_ ?_)
 · intro h15
   have hi2 : i < s.slots.length := by simpa using h15
   have e4 : (i + 1) * 16 ≤ 140737488355328 := by omega
   have e5 : i ≤ 140737488355327 := by omega
   have e6 : (i + 1) * 8 ≤ 140737488355328 := by omega
   have e7 : (i + 1) * 24 ≤ 140737488355328 := by omega
   refine W_skip ?_
   rintro -
   refine W_seq (W_block ?_)
   refine xU ?_
   refine xO ?_
   refine xO ?_ (h := by simp [eSlot, eRoot, hi2]; exact .mk)
   refine xO ?_ (h := by simp [-List.getElem?_map, map_get hi2, eSlot]; exact .mk)
   iterate 2 refine xO ?_
   refine xO ?_ (h := by simp [splice]; exact .mk)
   refine xG [1,2,3,4,5,12,13,14] ?_
   refine xO ?_
   refine xF [1,2,3,4,5,6,12,13,14] ?_
   refine W_seq (xU ?_)
   refine xO ?_
   refine xO ?_ (h := by simp [eSlot, eRoot]; exact .mk)
   refine xO ?_
   iterate 2 refine xI ?_
   refine run_if rfl (by simp; exact .mk) rfl (by simp <;> first | omega | grind) (fun hb => by simp [eSlot, eRoot]; exact .mk) ?_
   iterate 2 refine xI ?_
   refine xP ?_
   refine xF [1,2,3,4,5,6,12,13,14,27] ?_
   refine W_cond rfl ?_ ?_
   · intro h27
     have hc : (nth s.slots i).live = true ∧ i < s.data.length := by simpa using h27
     have hx : ofB s i = nth s.data i := by unfold ofB; rw [if_pos (by simpa using hc)]
     have hd := hc.2
     refine W_reg rfl ?_
     refine xO ?_
     refine xO ?_ (h := by simp [eSlot, eRoot]; exact .mk)
     refine xO ?_
     refine xO ?_ (h := by simp [eSlot, eRoot, hd]; exact .mk)
     refine xO ?_ (h := by simp [-List.getElem?_map, map_get hd]; exact .mk)
     refine xC (ct53 g _ (hs.h4 i hd)) ?_ (he := by simp [row_rows, Function.comp_def]; exact .mk) (hi := by simp [oAbs]; exact .mk)
     refine xO ?_
     refine xF [1,2,3,5,6,12,13,14] ?_
     refine W_regDT (hard := []) [1,3,4,5,7,9] (keepOk_lt (by decide)) (by kernel_rfl) 4 [[0,2,6,8,1,3,4,5,7,11,9,10,12,13,14], [0,2,6,8,1,3,4,5,9,7,10,11,12,13,14], [0,2,6,8,1,3,4,7,5,11,9,10,12,13,14], [0,2,6,8,1,3,4,7,9,5,10,11,12,13,14], [0,2,6,8,1,3,4,9,5,7,10,11,12,13,14], [0,2,6,8,1,3,4,9,7,5,10,11,12,13,14], [0,2,6,8,1,3,7,4,5,11,9,10,12,13,14], [0,2,6,8,1,3,7,4,9,5,10,11,12,13,14], [0,2,6,8,1,3,7,9,4,5,10,11,12,13,14], [0,2,6,8,1,3,9,4,5,7,10,11,12,13,14], [0,2,6,8,1,3,9,4,7,5,10,11,12,13,14], [0,2,6,8,1,3,9,7,4,5,10,11,12,13,14], [0,2,6,8,1,7,9,3,4,5,10,11,12,13,14], [0,2,6,8,1,9,3,4,5,7,10,11,12,13,14], [0,2,6,8,1,9,3,4,7,5,10,11,12,13,14], [0,2,6,8,1,9,3,7,4,5,10,11,12,13,14], [0,2,6,8,3,4,1,5,7,11,9,10,12,13,14], [0,2,6,8,3,4,1,5,9,7,10,11,12,13,14], [0,2,6,8,3,4,1,7,5,11,9,10,12,13,14], [0,2,6,8,3,4,1,7,9,5,10,11,12,13,14], [0,2,6,8,3,4,1,9,5,7,10,11,12,13,14], [0,2,6,8,3,4,1,9,7,5,10,11,12,13,14], [0,2,6,8,3,4,7,9,1,5,10,11,12,13,14], [0,2,6,8,3,4,9,1,5,7,10,11,12,13,14], [0,2,6,8,3,4,9,1,7,5,10,11,12,13,14], [0,2,6,8,3,7,4,1,5,11,9,10,12,13,14], [0,2,6,8,3,7,4,1,9,5,10,11,12,13,14], [0,2,6,8,3,7,4,9,1,5,10,11,12,13,14], [0,2,6,8,3,7,9,1,4,5,10,11,12,13,14], [0,2,6,8,3,7,9,4,1,5,10,11,12,13,14], [0,2,6,8,3,9,1,4,5,7,10,11,12,13,14], [0,2,6,8,3,9,1,4,7,5,10,11,12,13,14], [0,2,6,8,3,9,1,7,4,5,10,11,12,13,14], [0,2,6,8,3,9,4,1,5,7,10,11,12,13,14], [0,2,6,8,3,9,4,1,7,5,10,11,12,13,14], [0,2,6,8,3,9,7,4,1,5,10,11,12,13,14], [0,2,6,8,7,9,1,3,4,5,10,11,12,13,14], [0,2,6,8,7,9,3,4,1,5,10,11,12,13,14], [0,2,6,8,9,1,3,4,5,7,10,11,12,13,14], [0,2,6,8,9,1,3,4,7,5,10,11,12,13,14], [0,2,6,8,9,1,3,7,4,5,10,11,12,13,14], [0,2,6,8,9,3,4,1,5,7,10,11,12,13,14], [0,2,6,8,9,3,4,1,7,5,10,11,12,13,14], [0,2,6,8,9,3,7,4,1,5,10,11,12,13,14]] (by decide +kernel) ⟨?_, ?_, ?_, ?_, ?_, ?_, ?_, ?_, ?_, ?_, ?_, ?_, ?_, ?_, ?_, ?_, ?_, ?_, ?_, ?_, ?_, ?_, ?_, ?_, ?_, ?_, ?_, ?_, ?_, ?_, ?_, ?_, ?_, ?_, ?_, ?_, ?_, ?_, ?_, ?_, ?_, ?_, ?_, ?_, trivial⟩
     all_goals
      iterate 15 (first | refine xO ?_ | refine xO ?_ (h := by simp [eSlot, eRoot]; exact .mk) ?_ | refine run_op rfl rfl rfl (by simp [rows, e4, e5, e6, e7]; exact .mk) ?_ | refine run_op rfl rfl rfl (by simp [rows, e4, e5, e6, e7, D.noOwn]; exact .mk) ?_ | refine run_op rfl rfl rfl (by simp [splice]; exact .mk))
      refine xF [1,2,3,12,13,14] ?_
      refine W_reg rfl ?_
      iterate 2 refine xO ?_
      refine xE [1,2,3,12,13,14] ?_
      first | (refine rounds_kills [1,2,3,12,13,14] rfl ?_; refine rounds_swap 4 9 1 (by decide) (by simp) (by decide) rfl rfl ?_; refine rounds_swap 5 11 1 (by decide) (by simp) (by decide) rfl rfl ?_; refine rounds_drop 6 [1,2,3,12,13,14] (by decide) (by rfl) (by rfl) ?_; exact rounds_next (m' := s.slots.length - (i+1)) (by omega) ⟨i+1, rfl, by omega, by rw [wrap64 (by omega) (by omega)]; rfl, by rw [ofD_s, ofG_s, hx]; first | (rw [List.map_append, List.map_append]; rfl) | (simp only [List.map_append]; rfl) | (simp [swapB]; try rfl)⟩) | (refine rounds_kills [1,2,3,12,13,14] rfl ?_; refine rounds_swap 4 10 1 (by decide) (by simp) (by decide) rfl rfl ?_; refine rounds_swap 5 11 1 (by decide) (by simp) (by decide) rfl rfl ?_; refine rounds_drop 6 [1,2,3,12,13,14] (by decide) (by rfl) (by rfl) ?_; exact rounds_next (m' := s.slots.length - (i+1)) (by omega) ⟨i+1, rfl, by omega, by rw [wrap64 (by omega) (by omega)]; rfl, by rw [ofD_s, ofG_s, hx]; first | (rw [List.map_append, List.map_append]; rfl) | (simp only [List.map_append]; rfl) | (simp [swapB]; try rfl)⟩)
   intro h27
   have hc : ¬ ((nth s.slots i).live && decide (i < s.data.length)) = true := by simpa using h27
   have hx : ofB s i = [] := by unfold ofB; rw [if_neg hc]
   refine W_weak (Weak.nilRow 6 1 rfl) ?_
   refine W_skip ?_
   rintro -
   refine W_regDT (hard := []) [1,3,4,5,7,9] (keepOk_lt (by decide)) (by kernel_rfl) 4 [[0,2,6,8,1,3,4,5,7,11,9,10,12,13,14], [0,2,6,8,1,3,4,5,9,7,10,11,12,13,14], [0,2,6,8,1,3,4,7,5,11,9,10,12,13,14], [0,2,6,8,1,3,4,7,9,5,10,11,12,13,14], [0,2,6,8,1,3,4,9,5,7,10,11,12,13,14], [0,2,6,8,1,3,4,9,7,5,10,11,12,13,14], [0,2,6,8,1,3,7,4,5,11,9,10,12,13,14], [0,2,6,8,1,3,7,4,9,5,10,11,12,13,14], [0,2,6,8,1,3,7,9,4,5,10,11,12,13,14], [0,2,6,8,1,3,9,4,5,7,10,11,12,13,14], [0,2,6,8,1,3,9,4,7,5,10,11,12,13,14], [0,2,6,8,1,3,9,7,4,5,10,11,12,13,14], [0,2,6,8,1,7,9,3,4,5,10,11,12,13,14], [0,2,6,8,1,9,3,4,5,7,10,11,12,13,14], [0,2,6,8,1,9,3,4,7,5,10,11,12,13,14], [0,2,6,8,1,9,3,7,4,5,10,11,12,13,14], [0,2,6,8,3,4,1,5,7,11,9,10,12,13,14], [0,2,6,8,3,4,1,5,9,7,10,11,12,13,14], [0,2,6,8,3,4,1,7,5,11,9,10,12,13,14], [0,2,6,8,3,4,1,7,9,5,10,11,12,13,14], [0,2,6,8,3,4,1,9,5,7,10,11,12,13,14], [0,2,6,8,3,4,1,9,7,5,10,11,12,13,14], [0,2,6,8,3,4,7,9,1,5,10,11,12,13,14], [0,2,6,8,3,4,9,1,5,7,10,11,12,13,14], [0,2,6,8,3,4,9,1,7,5,10,11,12,13,14], [0,2,6,8,3,7,4,1,5,11,9,10,12,13,14], [0,2,6,8,3,7,4,1,9,5,10,11,12,13,14], [0,2,6,8,3,7,4,9,1,5,10,11,12,13,14], [0,2,6,8,3,7,9,1,4,5,10,11,12,13,14], [0,2,6,8,3,7,9,4,1,5,10,11,12,13,14], [0,2,6,8,3,9,1,4,5,7,10,11,12,13,14], [0,2,6,8,3,9,1,4,7,5,10,11,12,13,14], [0,2,6,8,3,9,1,7,4,5,10,11,12,13,14], [0,2,6,8,3,9,4,1,5,7,10,11,12,13,14], [0,2,6,8,3,9,4,1,7,5,10,11,12,13,14], [0,2,6,8,3,9,7,4,1,5,10,11,12,13,14], [0,2,6,8,7,9,1,3,4,5,10,11,12,13,14], [0,2,6,8,7,9,3,4,1,5,10,11,12,13,14], [0,2,6,8,9,1,3,4,5,7,10,11,12,13,14], [0,2,6,8,9,1,3,4,7,5,10,11,12,13,14], [0,2,6,8,9,1,3,7,4,5,10,11,12,13,14], [0,2,6,8,9,3,4,1,5,7,10,11,12,13,14], [0,2,6,8,9,3,4,1,7,5,10,11,12,13,14], [0,2,6,8,9,3,7,4,1,5,10,11,12,13,14]] (by decide +kernel) ⟨?_, ?_, ?_, ?_, ?_, ?_, ?_, ?_, ?_, ?_, ?_, ?_, ?_, ?_, ?_, ?_, ?_, ?_, ?_, ?_, ?_, ?_, ?_, ?_, ?_, ?_, ?_, ?_, ?_, ?_, ?_, ?_, ?_, ?_, ?_, ?_, ?_, ?_, ?_, ?_, ?_, ?_, ?_, ?_, trivial⟩
   all_goals
    iterate 15 (first | refine xO ?_ | refine xO ?_ (h := by simp [eSlot, eRoot]; exact .mk) ?_ | refine run_op rfl rfl rfl (by simp [rows, e4, e5, e6, e7]; exact .mk) ?_ | refine run_op rfl rfl rfl (by simp [rows, e4, e5, e6, e7, D.noOwn]; exact .mk) ?_ | refine run_op rfl rfl rfl (by simp [splice]; exact .mk))
    refine xF [1,2,3,12,13,14] ?_
    refine W_reg rfl ?_
    iterate 2 refine xO ?_
    refine xE [1,2,3,12,13,14] ?_
    first | (refine rounds_kills [1,2,3,12,13,14] rfl ?_; refine rounds_swap 4 9 1 (by decide) (by simp) (by decide) rfl rfl ?_; refine rounds_swap 5 11 1 (by decide) (by simp) (by decide) rfl rfl ?_; refine rounds_drop 6 [1,2,3,12,13,14] (by decide) (by rfl) (by rfl) ?_; exact rounds_next (m' := s.slots.length - (i+1)) (by omega) ⟨i+1, rfl, by omega, by rw [wrap64 (by omega) (by omega)]; rfl, by rw [ofD_s, ofG_s, hx]; first | (rw [List.map_append, List.map_append]; rfl) | (simp only [List.map_append]; rfl) | (simp [swapB]; try rfl)⟩) | (refine rounds_kills [1,2,3,12,13,14] rfl ?_; refine rounds_swap 4 10 1 (by decide) (by simp) (by decide) rfl rfl ?_; refine rounds_swap 5 11 1 (by decide) (by simp) (by decide) rfl rfl ?_; refine rounds_drop 6 [1,2,3,12,13,14] (by decide) (by rfl) (by rfl) ?_; exact rounds_next (m' := s.slots.length - (i+1)) (by omega) ⟨i+1, rfl, by omega, by rw [wrap64 (by omega) (by omega)]; rfl, by rw [ofD_s, ofG_s, hx]; first | (rw [List.map_append, List.map_append]; rfl) | (simp only [List.map_append]; rfl) | (simp [swapB]; try rfl)⟩)
 intro h15
 obtain rfl : i = s.slots.length := by simp at h15; omega
 refine W_exit (xT ?_)
 refine xO ?_ (h := by simp [eSlot, eRoot]; exact .mk)
 refine xO ?_ (h := by simp [splice]; exact .mk)
 refine xF [2] ?_
 refine W_ret (end_ret (by simp [Try.f23]; exact .mk) (by simp; exact .mk) ?_ (by simp [oAbs]))
 simp [Try.f23, oAbs, ofS, ownR]

open Go.Awp
theorem slot_clear {x : Slot} (h : slotS1 x = true) (hl : x.live = false) : x = ⟨x.gen, false, false, 0, 0⟩ := by
 unfold slotS1 at h
 split at h
 · cases h
 · skip
   simp only [Bool.and_eq_true, beq_iff_eq] at h
   cases x
   simp only at h hl
   simp [h, hl]
theorem stt_len {s : Stt} (h : sttS s = true) {i : Nat} (hi : i < s.slots.length) : ((nth s.data i).length : Int) = (nth s.slots i).len ∧ ((nth s.slots i).live = false → (nth s.slots i).len = 0) ∧ ((nth s.slots i).live = true → 1 ≤ (nth s.slots i).len ∧ (nth s.slots i).len ≤ 2048) := by
 have hr := sttS_rowsS h
 have hs := tableS_slot (rowsS_t hr) i hi
 simp only [rowsS, Bool.and_eq_true, List.all_eq_true, List.mem_range] at hr
 have hl := hr.2.2.2 i hi
 simp only [lenOk, decide_eq_true_eq] at hl
 refine ⟨hl, fun e => ?_, fun e => ?_⟩
 · rw [slot_clear hs e]
 · have := slotS1_live hs e; exact ⟨this.2.2.1, this.2.2.2⟩
theorem of_eq {s : Stt} (h : sttS s = true) : ofS s = ⟨s.slots.map Slot.gen, s.data, s.roots⟩ := by
 have hd := rowsS_len (sttS_rowsS h)
 unfold ofS
 congr 1
 · unfold ofG
   refine List.ext_getElem (by simp) fun i h1 h2 => ?_
   simp at h1
   simp [nth_eq h1]
 · unfold ofD
   refine List.ext_getElem (by simp [hd]) fun i h1 h2 => ?_
   simp at h1
   simp only [List.getElem_map, List.getElem_range]
   unfold ofB
   obtain ⟨a, b, c⟩ := stt_len h h1
   rw [← nth_eq h2]
   split
   · rfl
   · rename_i q
     have : (nth s.slots i).live = false := by simpa [h2] using q
     have := b this
     exact (List.length_eq_zero_iff.1 (by omega)).symm
theorem of_right {s : Stt} (h : sttS s = true) : rightS (ofS s) = true := by
 have hr := sttS_rowsS h
 have hd := rowsS_len hr
 rw [of_eq h]
 have ht := rowsS_t hr
 simp only [tableS, Bool.and_eq_true, tnewOk, decide_eq_true_eq] at ht
 have ht2 := ht.2
 have hev : (s.slots.length : Int).tmod 2 = 0 := ht2.2.2
 simp only [tmod_two] at hev
 refine rightS_iff.2 ⟨⟨by simpa using hd, by simp; omega, by simp; omega, by simp; omega⟩, fun i hi => ?_, ?_⟩
 · have hi : i < s.slots.length := by simpa using hi
   have hg := slot_gen h hi
   obtain ⟨a, b, c⟩ := stt_len h hi
   show 0 ≤ nth (s.slots.map Slot.gen) i ∧ nth (s.slots.map Slot.gen) i ≤ 65535 ∧ (nth s.data i).length ≤ 2048
   rw [nth_map hi]
   refine ⟨hg.1, hg.2, ?_⟩
   cases hl : (nth s.slots i).live with
   | false => have := b hl; omega
   | true => have := c hl; omega
 · simp only [rowsS, Bool.and_eq_true] at hr; exact hr.2.2.1
theorem ofS_ok {s : Stt} (h : s.Ok) : (ofS s).Ok := by
 refine ⟨by simpa [ofS] using h.h1, by simpa [ofS] using h.h1, h.h2, fun i hi => ?_, h.h5⟩
 have hi2 : i < s.slots.length := by simpa [ofS] using hi
 show (nth (ofD s s.slots.length) i).length ≤ _
 rw [ofD, nth_map (by simpa using hi2), nth_eq (by simpa using hi2)]
 simp only [List.getElem_range]
 unfold ofB
 split
 · rename_i q
   simp only [Bool.and_eq_true, decide_eq_true_eq] at q
   exact h.h4 i q.2
 · simp
open Go.Awp
theorem in81 (g : Gl) (o0 o1 o2 o3 o8 : Awp.Obj) (a : Abs) (o : Op) (ho : ∀ m, objsLt m [o0, o1, o2, o3, o8] = true) (ha : a.Ok) (hgd : a.data.length = a.gens.length) : ∀ B S, CallsA Try.prog g B S ⟨9, true⟩ 81 [.ptr 7 0 0, .agg [.d (vI o.act), .d (vI o.ix), .d (vI o.gen), .d (vI o.n), .d (vI o.off), .d (rB o.b), .d (vS o.name)]] [o0, o1, o2, o3, .row 1 (a.gens.map vI), .row 1 (a.data.map oB), .row 3 (a.roots.map eRoot), .var 79 [.hdr 4 0 a.gens.length, .hdr 5 0 a.data.length, (.hdr 6 0 a.roots.length), .d (vI 0), .d (vI 0), .d (.v (.slice none 0 0))], o8]
    (fun x q => x = .d (vI (allocS a o.n).e) ∧ q = [o0, o1, o2, o3, .row 1 (a.gens.map vI), .row 1 ((allocS a o.n).a.data.map oB), .row 3 (a.roots.map eRoot), .var 79 [.hdr 4 0 a.gens.length, .hdr 5 0 a.data.length, (.hdr 6 0 a.roots.length), .d (vI (allocS a o.n).ix), .d (vI (allocS a o.n).gen), .d (.v (.slice none 0 0))], o8]) := by
 refine callsA_at Try.func81 rfl (Nat.le_of_ble_eq_true rfl) fun B S => ?_
 obtain ⟨z0, z1, z2, z3, z8⟩ : o0.lt 9 = true ∧ o1.lt 9 = true ∧ o2.lt 9 = true ∧ o3.lt 9 = true ∧ o8.lt 9 = true := by simpa using ho 9
 refine xU ?_
 iterate 2 (refine xO ?_ (h := by simp [z0, z1, z2, z3, z8]; exact .mk))
 refine xF [0,3] ?_
 refine W_seq (xU ?_)
 iterate 2 (refine xO ?_ (h := by simp [z0, z1, z2, z3, z8]; exact .mk))
 refine run_call0 rfl rfl rfl rfl (by simp [z0, z1, z2, z3, z8]; exact .mk) (by simp [z0, z1, z2, z3, z8]; exact .mk) (ct115 g _) (by simp [z0, z1, z2, z3, z8]) (by simp [z0, z1, z2, z3, z8]; exact .mk) ?_
 refine xO ?_ (h := by simp [z0, z1, z2, z3, z8]; exact .mk)
 refine xF [0,3,10] ?_
 refine W_cond rfl ?_ ?_
 · intro h10
   have hs : sizedS o.n = false := by simp at h10; simp [sizedS]; omega
   have hr : allocS a o.n = ⟨a, 0, 0, [], 1⟩ := by simp [allocS, hs]
   refine xU ?_
   refine xO ?_ (h := by simp [z0, z1, z2, z3, z8]; exact .mk)
   refine xF [4] ?_
   refine W_ret (endAt_drop 9 (by simp [z0, z1, z2, z3, z8, Try.f81]; exact .mk) ?_ ?_ (by simp) (by simp [z0, z1, z2, z3, z8]) (by simp [z0, z1, z2, z3, z8]))
   · simp [hr]
   simp [hr, List.map_set, ownR, nrmL]; try rfl
 intro h10
 have hs : sizedS o.n = true := by simp at h10; simp [sizedS]; omega
 have hn : 1 ≤ o.n ∧ o.n ≤ 2048 := by simpa [sizedS] using hs
 refine W_skip ?_
 rintro -
 refine W_seq (xU ?_)
 iterate 7 (refine xO ?_ (h := by simp [z0, z1, z2, z3, z8]; exact .mk))
 refine xF [0,3,15,16,17] ?_
 refine W_block (W_rounds (fun m σ q => ∃ i : Nat, m = a.gens.length - i ∧ i ≤ a.gens.length ∧ (∀ j, j < i → openS a j = false) ∧ σ = slots [(0, .ptr 7 0 0), (3, .ptr 9 0 0), (15, .hdr 4 0 a.gens.length), (16, .d (vI a.gens.length)), (17, .d (vI i))] ∧ q = [o0, o1, o2, o3, .row 1 (a.gens.map vI), .row 1 (a.data.map oB), .row 3 (a.roots.map eRoot), .var 79 [.hdr 4 0 a.gens.length, .hdr 5 0 a.data.length, (.hdr 6 0 a.roots.length), .d (vI 0), .d (vI 0), .d (.v (.slice none 0 0))], o8, .var 31 [.d (vI o.act), .d (vI o.ix), .d (vI o.gen), .d (vI o.n), .d (vI o.off), .d (rB o.b), .d (vS o.name)]]) a.gens.length .refl ⟨0, by simp, by simp, by simp, rfl, rfl⟩ ?_)
 have q1 := ha.h1
 rintro m σ q ⟨i, rfl, hi, hinv, rfl, rfl⟩ _
 refine xU ?_
 refine xO ?_ (h := by simp [z0, z1, z2, z3, z8]; exact .mk)
 refine xF [0,3,15,16,17,18] ?_
 refine W_seq (W_cond rfl ?_ ?_)
 · intro h18
   have hi2 : i < a.gens.length := by simpa using h18
   have hi3 : i < a.data.length := by omega
   refine W_skip ?_
   rintro -
   refine W_seq (W_block ?_)
   refine xU ?_
   refine xO ?_ (h := by simp [z0, z1, z2, z3, z8]; exact .mk)
   refine xO ?_ (h := by simp [z0, z1, z2, z3, z8, hi2]; exact .mk)
   refine xO ?_ (h := by simp [z0, z1, z2, z3, z8, -List.getElem?_map, map_get hi2]; exact .mk)
   iterate 2 (refine xO ?_ (h := by simp [z0, z1, z2, z3, z8]; exact .mk))
   refine xG [0,3,5,6,15,16,17] ?_
   iterate 6 (refine xO ?_ (h := by simp [z0, z1, z2, z3, z8]; exact .mk))
   refine xO ?_ (h := by simp [z0, z1, z2, z3, z8, hi3]; exact .mk)
   refine xO ?_ (h := by simp [z0, z1, z2, z3, z8, -List.getElem?_map, map_get hi3]; exact .mk)
   iterate 3 (refine xO ?_ (h := by simp [z0, z1, z2, z3, z8]; exact .mk))
   iterate 2 (refine run_if rfl (by simp [z0, z1, z2, z3, z8]; exact .mk) rfl (by simp <;> omega) (fun hb => by simp [z0, z1, z2, z3, z8]; exact .mk) ?_)
   refine run_pick rfl (by simp [z0, z1, z2, z3, z8]; exact .mk) rfl rfl (by simp) (by simp [z0, z1, z2, z3, z8]; exact .mk) (by simp [z0, z1, z2, z3, z8]; exact .mk) (by simp; exact .mk) ?_
   refine run_end [0,3,5,6,15,16,17,35] (by simp <;> omega) (by simp; exact .mk) ?_
   rintro -
   refine W_cond rfl ?_ ?_
   · intro h35
     have hr : allocS a o.n = ⟨{ a with data := a.data.set i (List.replicate o.n.toNat 0) }, i, nth a.gens i, [], 0⟩ := by
      have : openS a i = true := by simp [openS] at *; exact h35
      simp [allocS, hs, allocIx_at hi2 hinv this]
     refine W_seq ?_
     have e1 : 0 ≤ o.n := by omega
     have e2 : o.n ≤ 140737488355328 := by omega
     refine W_regD (by kernel_rfl) [] 4 [0,1,2,3,4,5,6,7,8,9,10] (by decide +kernel) ?_
     iterate 8 (refine xO ?_ (h := by simp [z0, z1, z2, z3, z8]; exact .mk))
     refine xO ?_ (h := by simp [z0, z1, z2, z3, z8, e1, e2]; exact .mk)
     refine xO ?_ (h := by simp [z0, z1, z2, z3, z8, hi3]; exact .mk)
     refine xO ?_ (h := by simp [z0, z1, z2, z3, z8, splice, -List.getElem?_map, map_get hi3, nrmL, nrm, putC]; exact .mk)
     refine xG [0,5,6] ?_
     iterate 3 (refine xO ?_ (h := by simp [z0, z1, z2, z3, z8]; exact .mk))
     refine xO ?_ (h := by simp [z0, z1, z2, z3, z8, splice]; exact .mk)
     iterate 3 (refine xO ?_ (h := by simp [z0, z1, z2, z3, z8]; exact .mk))
     refine xO ?_ (h := by simp [z0, z1, z2, z3, z8, splice]; exact .mk)
     refine xG [] ?_
     refine xO ?_ (h := by simp [z0, z1, z2, z3, z8]; exact .mk)
     refine xF [4] ?_
     refine W_ret (endAt_drop 9 (by simp [z0, z1, z2, z3, z8, Try.f81]; exact .mk) ?_ ?_ (by simp) (by simp [z0, z1, z2, z3, z8]) (by simp [z0, z1, z2, z3, z8]))
     · simp [hr]
     simp [hr, List.map_set, ownR, nrmL]; try rfl
   intro h35
   refine W_skip ?_
   rintro -
   refine W_reg rfl ?_
   iterate 2 (refine xO ?_ (h := by simp [z0, z1, z2, z3, z8]; exact .mk))
   refine xE [0,3,15,16,17] ?_
   refine rounds_kill [0,3,15,16,17] ?_
   refine rounds_next (m' := a.gens.length - (i+1)) (by omega) ⟨i+1, rfl, by omega, ?_, ?_, rfl⟩
   · intro j hj
     rcases Nat.lt_succ_iff_lt_or_eq.1 hj with hj | rfl
     · exact hinv j hj
     simp [openS] at *; exact h35
   rw [wrap64 (by omega) (by omega)]; rfl
 intro h18
 have hr : allocS a o.n = ⟨a, 0, 0, [], 9⟩ := by simp [allocS, hs, allocIx_none (fun j hj => hinv j (by simp at h18; omega))]
 refine W_exit (xT ?_)
 refine xO ?_ (h := by simp [z0, z1, z2, z3, z8]; exact .mk)
 refine xF [4] ?_
 refine W_ret (endAt_drop 9 (by simp [z0, z1, z2, z3, z8, Try.f81]; exact .mk) ?_ ?_ (by simp) (by simp [z0, z1, z2, z3, z8]) (by simp [z0, z1, z2, z3, z8]))
 · simp [hr]
 simp [hr, List.map_set, ownR, nrmL]; try rfl

theorem in85 (g : Gl) (o0 o1 o2 o3 o8 : Awp.Obj) (a : Abs) (o : Op) (ho : ∀ m, objsLt m [o0, o1, o2, o3, o8] = true) (ha : a.Ok) (k : Nat) (hix : o.ix = k) (hk : k < a.data.length) (hk2 : k < a.gens.length) (hgn : 0 ≤ nth a.gens k ∧ nth a.gens k ≤ 65535) : ∀ B S, CallsA Try.prog g B S ⟨9, true⟩ 85 [.ptr 7 0 0, .agg [.d (vI o.act), .d (vI o.ix), .d (vI o.gen), .d (vI o.n), .d (vI o.off), .d (rB o.b), .d (vS o.name)]] [o0, o1, o2, o3, .row 1 (a.gens.map vI), .row 1 (a.data.map oB), .row 3 (a.roots.map eRoot), .var 79 [.hdr 4 0 a.gens.length, .hdr 5 0 a.data.length, (.hdr 6 0 a.roots.length), .d (vI 0), .d (vI 0), .d (.v (.slice none 0 0))], o8]
    (fun x q => x = .d (vI (freeS a k).e) ∧ q = [o0, o1, o2, o3, .row 1 ((freeS a k).a.gens.map vI), .row 1 ((freeS a k).a.data.map oB), .row 3 (a.roots.map eRoot), .var 79 [.hdr 4 0 a.gens.length, .hdr 5 0 a.data.length, (.hdr 6 0 a.roots.length), .d (vI 0), .d (vI 0), .d (.v (.slice none 0 0))], o8]) := by
 refine callsA_at Try.func85 rfl (Nat.le_of_ble_eq_true rfl) fun B S => ?_
 obtain ⟨z0, z1, z2, z3, z8⟩ : o0.lt 9 = true ∧ o1.lt 9 = true ∧ o2.lt 9 = true ∧ o3.lt 9 = true ∧ o8.lt 9 = true := by simpa using ho 9
 simp only [hix]
 refine xU ?_
 iterate 2 (refine xO ?_ (h := by simp [z0, z1, z2, z3, z8]; exact .mk))
 refine xG [0,3] ?_
 iterate 4 (refine xO ?_ (h := by simp [z0, z1, z2, z3, z8]; exact .mk))
 refine xF [0,5] ?_
 refine W_seq ?_
 have e1 : IntKind.i64.wrap (nth a.gens k + 1) = nth a.gens k + 1 := wrap64 (by omega) (by omega)
 have em : (if 65535 < nth a.gens k + 1 then (65535 : Int) else nth a.gens k + 1) = min (nth a.gens k + 1) 65535 := by omega
 refine W_regD (by kernel_rfl) [] 4 [0,1,2,3,4,5,6,7,8,9,10,11,12,13,14,15,16,17,18,19,20,22,21,23,24,25] (by decide +kernel) ?_
 iterate 18 (refine xO ?_ (h := by simp [z0, z1, z2, z3, z8]; exact .mk))
 refine xO ?_ (h := by simp [z0, z1, z2, z3, z8, hk2]; exact .mk)
 refine xO ?_ (h := by simp [z0, z1, z2, z3, z8, -List.getElem?_map, map_get hk2]; exact .mk)
 refine xO ?_ (h := by simp [z0, z1, z2, z3, z8, e1]; exact .mk)
 refine xO ?_ (h := by simp [z0, z1, z2, z3, z8, hk]; exact .mk)
 refine xO ?_ (h := by simp [z0, z1, z2, z3, z8, minA]; exact .mk)
 refine xO ?_ (h := by simp [z0, z1, z2, z3, z8, splice, -List.getElem?_map, map_get hk, nrmL, nrm, putC]; exact .mk)
 refine xO ?_ (h := by simp [z0, z1, z2, z3, z8, hk2]; exact .mk)
 refine xO ?_ (h := by simp [z0, z1, z2, z3, z8, splice, -List.getElem?_map, map_get hk2, nrmL, nrm, putC]; exact .mk)
 refine xG [] ?_
 refine xO ?_ (h := by simp [z0, z1, z2, z3, z8]; exact .mk)
 refine xF [4] ?_
 refine W_ret (endAt_drop 9 (by simp [z0, z1, z2, z3, z8, Try.f85]; exact .mk) ?_ ?_ (by simp) (by simp [z0, z1, z2, z3, z8]) (by simp [z0, z1, z2, z3, z8]))
 · simp [freeS]
 simp [freeS, em, List.map_set, ownR, nrmL]; try rfl

theorem in86 (g : Gl) (o0 o1 o2 o3 o8 : Awp.Obj) (a : Abs) (o : Op) (ho : ∀ m, objsLt m [o0, o1, o2, o3, o8] = true) (ha : a.Ok) (k : Nat) (hix : o.ix = k) (hk : k < a.data.length) (hd : (nth a.data k).length ≤ 2^40) : ∀ B S, CallsA Try.prog g B S ⟨9, true⟩ 86 [.ptr 7 0 0, .agg [.d (vI o.act), .d (vI o.ix), .d (vI o.gen), .d (vI o.n), .d (vI o.off), .d (rB o.b), .d (vS o.name)]] [o0, o1, o2, o3, .row 1 (a.gens.map vI), .row 1 (a.data.map oB), .row 3 (a.roots.map eRoot), .var 79 [.hdr 4 0 a.gens.length, .hdr 5 0 a.data.length, (.hdr 6 0 a.roots.length), .d (vI 0), .d (vI 0), .d (.v (.slice none 0 0))], o8]
    (fun x q => x = .d (vI (resizeS a k o.n).e) ∧ q = [o0, o1, o2, o3, .row 1 (a.gens.map vI), .row 1 ((resizeS a k o.n).a.data.map oB), .row 3 (a.roots.map eRoot), .var 79 [.hdr 4 0 a.gens.length, .hdr 5 0 a.data.length, (.hdr 6 0 a.roots.length), .d (vI 0), .d (vI 0), .d (.v (.slice none 0 0))], o8]) := by
 refine callsA_at Try.func86 rfl (Nat.le_of_ble_eq_true rfl) fun B S => ?_
 obtain ⟨z0, z1, z2, z3, z8⟩ : o0.lt 9 = true ∧ o1.lt 9 = true ∧ o2.lt 9 = true ∧ o3.lt 9 = true ∧ o8.lt 9 = true := by simpa using ho 9
 simp only [hix]
 refine xU ?_
 iterate 2 (refine xO ?_ (h := by simp [z0, z1, z2, z3, z8]; exact .mk))
 refine xF [0,3] ?_
 refine W_seq (xU ?_)
 iterate 2 (refine xO ?_ (h := by simp [z0, z1, z2, z3, z8]; exact .mk))
 refine run_call0 rfl rfl rfl rfl (by simp [z0, z1, z2, z3, z8]; exact .mk) (by simp [z0, z1, z2, z3, z8]; exact .mk) (ct115 g _) (by simp [z0, z1, z2, z3, z8]) (by simp [z0, z1, z2, z3, z8]; exact .mk) ?_
 refine xO ?_ (h := by simp [z0, z1, z2, z3, z8]; exact .mk)
 refine xF [0,3,9] ?_
 refine W_cond rfl ?_ ?_
 · intro h9
   have hs : sizedS o.n = false := by simp at h9; simp [sizedS]; omega
   have hr : resizeS a k o.n = ⟨a, 0, 0, [], 1⟩ := by simp [resizeS, hs]
   refine xU ?_
   refine xO ?_ (h := by simp [z0, z1, z2, z3, z8]; exact .mk)
   refine xF [4] ?_
   refine W_ret (endAt_drop 9 (by simp [z0, z1, z2, z3, z8, Try.f86]; exact .mk) ?_ ?_ (by simp) (by simp [z0, z1, z2, z3, z8]) (by simp [z0, z1, z2, z3, z8]))
   · simp [resizeS, hs]
   simp [resizeS, hs, List.map_set, ownR, nrmL]
 intro h9
 have hs : sizedS o.n = true := by simp at h9; simp [sizedS]; omega
 have hn : 1 ≤ o.n ∧ o.n ≤ 2048 := by simpa [sizedS] using hs
 have e1 : 0 ≤ o.n := by omega
 have e2 : o.n ≤ 140737488355328 := by omega
 refine W_skip ?_
 refine xT ?_
 iterate 2 (refine xO ?_ (h := by simp [z0, z1, z2, z3, z8]; exact .mk))
 refine xO ?_ (h := by simp [z0, z1, z2, z3, z8, e1, e2]; exact .mk)
 refine xO ?_ (h := by simp [z0, z1, z2, z3, z8]; exact .mk)
 refine xF [0,3,5] ?_
 refine W_seq ?_
 refine W_regD (by kernel_rfl) [] 4 [0,1,2,3,4,5,6,7,8,9,10,11] (by decide +kernel) ?_
 iterate 9 (refine xO ?_ (h := by simp [z0, z1, z2, z3, z8]; exact .mk))
 refine xO ?_ (h := by simp [z0, z1, z2, z3, z8, hk]; exact .mk)
 refine xO ?_ (h := by simp [z0, z1, z2, z3, z8, -List.getElem?_map, map_get hk]; exact .mk)
 refine xO ?_ (h := by simp [z0, z1, z2, z3, z8, copyA]; exact .mk)
 refine xF [0,3,5] ?_
 refine W_seq ?_
 rw [resize_row]
 refine W_regD (by kernel_rfl) [] 4 [0,1,2,3,4,5,6,7,8,9,10] (by decide +kernel) ?_
 iterate 9 (refine xO ?_ (h := by simp [z0, z1, z2, z3, z8]; exact .mk))
 refine xO ?_ (h := by simp [z0, z1, z2, z3, z8, hk]; exact .mk)
 refine xO ?_ (h := by simp [z0, z1, z2, z3, z8, splice, iff_true_intro (show o.n.toNat = min o.n.toNat (nth a.data k).length + (o.n.toNat - (nth a.data k).length) from by omega), -List.getElem?_map, map_get hk, nrmL, nrm, putC]; exact .mk)
 refine xG [] ?_
 refine xO ?_ (h := by simp [z0, z1, z2, z3, z8]; exact .mk)
 refine xF [4] ?_
 refine W_ret (endAt_drop 9 (by simp [z0, z1, z2, z3, z8, Try.f86]; exact .mk) ?_ ?_ (by simp) (by simp [z0, z1, z2, z3, z8]) (by simp [z0, z1, z2, z3, z8]))
 · simp [resizeS, hs]
 simp [resizeS, hs, List.map_set, ownR, nrmL]

open Go.Awp
theorem in120 (g : Gl) (o0 o1 o2 o3 o8 o9 : Awp.Obj) (a : Abs) (k : Nat) (gn off n : Int) (q : Bool) (ho : ∀ m, objsLt m [o0, o1, o2, o3, o8, o9] = true) (hk : k < a.data.length) (hd : (nth a.data k).length ≤ 2^40) (hq : reachS (nth a.data k).length off n = q) : ∀ B S, CallsA Try.prog g B S ⟨10, true⟩ 120 [.ptr 7 0 0, .agg [.d (vI k), .d (vI gn)], .d (vI off), .d (vI n)] [o0, o1, o2, o3, .row 1 (a.gens.map vI), .row 1 (a.data.map oB), .row 3 (a.roots.map eRoot), .var 79 [.hdr 4 0 a.gens.length, .hdr 5 0 a.data.length, (.hdr 6 0 a.roots.length), .d (vI 0), .d (vI 0), .d (.v (.slice none 0 0))], o8, o9]
    (fun x o => x = .tup [bif q then .d (snR 1 vB (((nth a.data k).drop off.toNat).take n.toNat)) else .d (.v (.slice none 0 0)), .d (.v (.bool q))] ∧ o = [o0, o1, o2, o3, .row 1 (a.gens.map vI), .row 1 (a.data.map oB), .row 3 (a.roots.map eRoot), .var 79 [.hdr 4 0 a.gens.length, .hdr 5 0 a.data.length, (.hdr 6 0 a.roots.length), .d (vI 0), .d (vI 0), .d (.v (.slice none 0 0))], o8, o9]) := by
 refine callsA_at Try.func120 rfl (Nat.le_of_ble_eq_true rfl) fun B S => ?_
 obtain ⟨z0, z1, z2, z3, z8, z9⟩ : o0.lt 10 = true ∧ o1.lt 10 = true ∧ o2.lt 10 = true ∧ o3.lt 10 = true ∧ o8.lt 10 = true ∧ o9.lt 10 = true := by simpa using ho 10
 refine xU ?_
 iterate 3 (refine xO ?_ (h := by simp [z0, z1, z2, z3, z8, z9]; exact .mk))
 refine xF [0,2,3,5] ?_
 refine W_seq ?_
 refine W_regD (by kernel_rfl) [] 4 [0,1,2,3,4,5,6,7,8,9] (by decide +kernel) ?_
 iterate 7 (refine xO ?_ (h := by simp [z0, z1, z2, z3, z8, z9]; exact .mk))
 refine xO ?_ (h := by simp [z0, z1, z2, z3, z8, z9, hk]; exact .mk)
 refine xO ?_ (h := by simp [z0, z1, z2, z3, z8, z9, -List.getElem?_map, map_get hk]; exact .mk)
 refine xO ?_ (h := by simp [z0, z1, z2, z3, z8, z9]; exact .mk)
 refine xF [2,3,10] ?_
 refine W_seq (xU ?_)
 iterate 3 (refine xO ?_ (h := by simp [z0, z1, z2, z3, z8, z9]; exact .mk))
 iterate 4 (refine run_if rfl (by simp [z0, z1, z2, z3, z8, z9]; exact .mk) rfl (by simp <;> omega) (fun hb => by simp [z0, z1, z2, z3, z8, z9]; exact .mk) ?_)
 refine run_pick rfl (by simp [z0, z1, z2, z3, z8, z9]; exact .mk) rfl rfl (by simp) (by simp [z0, z1, z2, z3, z8, z9]; exact .mk) (by simp [z0, z1, z2, z3, z8, z9]; exact .mk) (by simp; exact .mk) ?_
 refine run_op1 rfl rfl rfl (by simp <;> omega) (by simp [z0, z1, z2, z3, z8, z9]; exact .mk) ?_
 iterate 2 (refine run_if rfl (by simp [z0, z1, z2, z3, z8, z9]; exact .mk) rfl (by simp <;> omega) (fun hb => by simp [z0, z1, z2, z3, z8, z9]; exact .mk) ?_)
 refine run_pick rfl (by simp [z0, z1, z2, z3, z8, z9]; exact .mk) rfl rfl (by simp) (by simp [z0, z1, z2, z3, z8, z9]; exact .mk) (by simp [z0, z1, z2, z3, z8, z9]; exact .mk) (by simp; exact .mk) ?_
 refine run_op1 rfl rfl rfl (by simp <;> omega) (by simp [z0, z1, z2, z3, z8, z9]; exact .mk) ?_
 iterate 6 (refine run_if rfl (by simp [z0, z1, z2, z3, z8, z9]; exact .mk) rfl (by simp <;> omega) (fun hb => by simp [z0, z1, z2, z3, z8, z9]; exact .mk) ?_)
 refine run_pick rfl (by simp [z0, z1, z2, z3, z8, z9]; exact .mk) rfl rfl (by simp) (by simp [z0, z1, z2, z3, z8, z9]; exact .mk) (by simp [z0, z1, z2, z3, z8, z9]; exact .mk) (by simp; exact .mk) ?_
 refine run_end [2,3,10,39] (by simp <;> omega) (by simp; exact .mk) ?_
 rintro -
 refine W_cond rfl ?_ ?_
 · intro h39
   rw [reach_eq hd, hq] at h39
   obtain rfl : q = false := by simpa using h39
   refine xU ?_
   iterate 2 (refine xO ?_ (h := by simp [z0, z1, z2, z3, z8, z9]; exact .mk))
   refine xF [8,9] ?_
   refine W_ret (endAt_drop 10 (by simp [z0, z1, z2, z3, z8, z9, Try.f120]; exact .mk) ?_ ?_ (by simp) (by simp [z0, z1, z2, z3, z8, z9]) (by simp [z0, z1, z2, z3, z8, z9]))
   · simp <;> (try rw [show (off + n).toNat - off.toNat = n.toNat from by omega])
   rfl
 intro h39
 rw [reach_eq hd, hq] at h39
 obtain rfl : q = true := by simpa using h39
 have hx : 0 ≤ off ∧ off ≤ (nth a.data k).length ∧ 0 ≤ n ∧ n ≤ (nth a.data k).length - off := by rw [reachS] at hq; simp at hq; omega
 refine W_skip ?_
 rintro -
 refine W_seq ?_
 have e1 : IntKind.i64.wrap (off + n) = off + n := wrap64 (by omega) (by omega)
 refine W_reg rfl ?_
 iterate 4 (refine xO ?_ (h := by simp [z0, z1, z2, z3, z8, z9]; exact .mk))
 refine xO ?_ (h := by simp [z0, z1, z2, z3, z8, z9, e1]; exact .mk)
 refine xO ?_ (h := by simp [z0, z1, z2, z3, z8, z9, optA, hx.1, show off ≤ off + n from by omega, show off + n ≤ ↑(nth a.data k).length from by omega]; exact .mk)
 iterate 2 (refine xO ?_ (h := by simp [z0, z1, z2, z3, z8, z9]; exact .mk))
 refine xF [8,9] ?_
 refine W_ret (endAt_drop 10 (by simp [z0, z1, z2, z3, z8, z9, Try.f120]; exact .mk) ?_ ?_ (by simp) (by simp [z0, z1, z2, z3, z8, z9]) (by simp [z0, z1, z2, z3, z8, z9]))
 · simp <;> (try rw [show (off + n).toNat - off.toNat = n.toNat from by omega])
 rfl

theorem in120h (g : Gl) (o0 o1 o2 o3 o8 o9 : Awp.Obj) (a : Abs) (k : Nat) (gn off n : Int) (q : Bool) (ho : ∀ m, objsLt m [o0, o1, o2, o3, o8, o9] = true) (hk : k < a.data.length) (hd : (nth a.data k).length ≤ 2^40) (hq : reachS (nth a.data k).length off n = q) : ∀ B S, CallsA Try.prog g B S ⟨11, true⟩ 120 [.ptr 7 0 0, .agg [.d (vI k), .d (vI gn)], .d (vI off), .d (vI n)] [o0, o1, o2, o3, .row 1 (a.gens.map vI), .hole k 10 (nth a.data k).length (a.data.map oB), .row 3 (a.roots.map eRoot), .var 79 [.hdr 4 0 a.gens.length, .hdr 5 0 a.data.length, (.hdr 6 0 a.roots.length), .d (vI 0), .d (vI 0), .d (.v (.slice none 0 0))], o8, o9, .row 1 ((nth a.data k).map vB)]
    (fun x o => x = .tup [bif q then .hdr 10 off.toNat n.toNat else .d (.v (.slice none 0 0)), .d (.v (.bool q))] ∧ o = [o0, o1, o2, o3, .row 1 (a.gens.map vI), .hole k 10 (nth a.data k).length (a.data.map oB), .row 3 (a.roots.map eRoot), .var 79 [.hdr 4 0 a.gens.length, .hdr 5 0 a.data.length, (.hdr 6 0 a.roots.length), .d (vI 0), .d (vI 0), .d (.v (.slice none 0 0))], o8, o9, .row 1 ((nth a.data k).map vB)]) := by
 refine callsA_at Try.func120 rfl (Nat.le_of_ble_eq_true rfl) fun B S => ?_
 obtain ⟨z0, z1, z2, z3, z8, z9⟩ : o0.lt 11 = true ∧ o1.lt 11 = true ∧ o2.lt 11 = true ∧ o3.lt 11 = true ∧ o8.lt 11 = true ∧ o9.lt 11 = true := by simpa using ho 11
 refine xU ?_
 iterate 3 (refine xO ?_ (h := by simp [z0, z1, z2, z3, z8, z9]; exact .mk))
 refine xF [0,2,3,5] ?_
 refine W_seq ?_
 refine W_regD (by kernel_rfl) [] 4 [0,1,2,3,4,5,6,7,8,9] (by decide +kernel) ?_
 iterate 7 (refine xO ?_ (h := by simp [z0, z1, z2, z3, z8, z9]; exact .mk))
 refine xO ?_ (h := by simp [z0, z1, z2, z3, z8, z9, hk]; exact .mk)
 refine xO ?_ (h := by simp [z0, z1, z2, z3, z8, z9, -List.getElem?_map, map_get hk]; exact .mk)
 refine xO ?_ (h := by simp [z0, z1, z2, z3, z8, z9]; exact .mk)
 refine xF [2,3,10] ?_
 refine W_seq (xU ?_)
 iterate 3 (refine xO ?_ (h := by simp [z0, z1, z2, z3, z8, z9]; exact .mk))
 iterate 4 (refine run_if rfl (by simp [z0, z1, z2, z3, z8, z9]; exact .mk) rfl (by simp <;> omega) (fun hb => by simp [z0, z1, z2, z3, z8, z9]; exact .mk) ?_)
 refine run_pick rfl (by simp [z0, z1, z2, z3, z8, z9]; exact .mk) rfl rfl (by simp) (by simp [z0, z1, z2, z3, z8, z9]; exact .mk) (by simp [z0, z1, z2, z3, z8, z9]; exact .mk) (by simp; exact .mk) ?_
 refine run_op1 rfl rfl rfl (by simp <;> omega) (by simp [z0, z1, z2, z3, z8, z9]; exact .mk) ?_
 iterate 2 (refine run_if rfl (by simp [z0, z1, z2, z3, z8, z9]; exact .mk) rfl (by simp <;> omega) (fun hb => by simp [z0, z1, z2, z3, z8, z9]; exact .mk) ?_)
 refine run_pick rfl (by simp [z0, z1, z2, z3, z8, z9]; exact .mk) rfl rfl (by simp) (by simp [z0, z1, z2, z3, z8, z9]; exact .mk) (by simp [z0, z1, z2, z3, z8, z9]; exact .mk) (by simp; exact .mk) ?_
 refine run_op1 rfl rfl rfl (by simp <;> omega) (by simp [z0, z1, z2, z3, z8, z9]; exact .mk) ?_
 iterate 6 (refine run_if rfl (by simp [z0, z1, z2, z3, z8, z9]; exact .mk) rfl (by simp <;> omega) (fun hb => by simp [z0, z1, z2, z3, z8, z9]; exact .mk) ?_)
 refine run_pick rfl (by simp [z0, z1, z2, z3, z8, z9]; exact .mk) rfl rfl (by simp) (by simp [z0, z1, z2, z3, z8, z9]; exact .mk) (by simp [z0, z1, z2, z3, z8, z9]; exact .mk) (by simp; exact .mk) ?_
 refine run_end [2,3,10,39] (by simp <;> omega) (by simp; exact .mk) ?_
 rintro -
 refine W_cond rfl ?_ ?_
 · intro h39
   rw [reach_eq hd, hq] at h39
   obtain rfl : q = false := by simpa using h39
   refine xU ?_
   iterate 2 (refine xO ?_ (h := by simp [z0, z1, z2, z3, z8, z9]; exact .mk))
   refine xF [8,9] ?_
   refine W_ret (endAt_drop 11 (by simp [z0, z1, z2, z3, z8, z9, Try.f120]; exact .mk) ?_ ?_ (by simp) (by simp [z0, z1, z2, z3, z8, z9]) (by simp [z0, z1, z2, z3, z8, z9]))
   · simp <;> (try rw [show (off + n).toNat - off.toNat = n.toNat from by omega])
   rfl
 intro h39
 rw [reach_eq hd, hq] at h39
 obtain rfl : q = true := by simpa using h39
 have hx : 0 ≤ off ∧ off ≤ (nth a.data k).length ∧ 0 ≤ n ∧ n ≤ (nth a.data k).length - off := by rw [reachS] at hq; simp at hq; omega
 refine W_skip ?_
 rintro -
 refine W_seq ?_
 have e1 : IntKind.i64.wrap (off + n) = off + n := wrap64 (by omega) (by omega)
 refine W_reg rfl ?_
 iterate 4 (refine xO ?_ (h := by simp [z0, z1, z2, z3, z8, z9]; exact .mk))
 refine xO ?_ (h := by simp [z0, z1, z2, z3, z8, z9, e1]; exact .mk)
 refine xO ?_ (h := by simp [z0, z1, z2, z3, z8, z9, optA, hx.1, show off ≤ off + n from by omega, show off + n ≤ ↑(nth a.data k).length from by omega]; exact .mk)
 iterate 2 (refine xO ?_ (h := by simp [z0, z1, z2, z3, z8, z9]; exact .mk))
 refine xF [8,9] ?_
 refine W_ret (endAt_drop 11 (by simp [z0, z1, z2, z3, z8, z9, Try.f120]; exact .mk) ?_ ?_ (by simp) (by simp [z0, z1, z2, z3, z8, z9]) (by simp [z0, z1, z2, z3, z8, z9]))
 · simp <;> (try rw [show (off + n).toNat - off.toNat = n.toNat from by omega])
 rfl

end Go.Proofs
