/- Contracts of the program's functions and plain facts, for arguments as each lemma says. -/
import Derived.Test.YtokgokbgidgfeaaAwpD
import Derived.Test.YtokgokbgidgfeaaProg
import Derived.KernelRfl
import Derived.Test.YtokgokbgidgfeaaAwpC
import Derived.Test.YtokgokbgidgfeaaRows
set_option linter.all false
namespace Go.Proofs
open Go.Awp
@[simp] theorem ty1 : ty Try.prog 1 = some ⟨1, 8, .fn, [.nilFunc]⟩ := by kernel_rfl
@[simp] theorem ty2 : ty Try.prog 2 = some ⟨1, 8, .int .i64, [.int .i64 0]⟩ := by kernel_rfl
@[simp] theorem ty3 : ty Try.prog 3 = some ⟨1, 8, .int .i64, [.int .i64 0]⟩ := by kernel_rfl
@[simp] theorem ty4 : ty Try.prog 4 = some ⟨1, 1, .bool, [.bool false]⟩ := by kernel_rfl
@[simp] theorem ty5 : ty Try.prog 5 = some ⟨1, 1, .int .u8, [.int .u8 0]⟩ := by kernel_rfl
@[simp] theorem ty6 : ty Try.prog 6 = some ⟨1, 1, .int .u8, [.int .u8 0]⟩ := by kernel_rfl
@[simp] theorem ty8 : ty Try.prog 8 = some ⟨4, 24, .struct [(2, 0), (3, 1), (4, 2), (6, 3)], [.int .i64 0, .int .i64 0, .bool false, .int .u8 0]⟩ := by kernel_rfl
@[simp] theorem ty9 : ty Try.prog 9 = some ⟨1, 16, .str, [.string ⟨#[]⟩]⟩ := by kernel_rfl
@[simp] theorem ty21 : ty Try.prog 21 = some ⟨1, 4, .int .i32, [.int .i32 0]⟩ := by kernel_rfl
@[simp] theorem ty22 : ty Try.prog 22 = some ⟨1, 24, .slice 3, [.slice none 0 0]⟩ := by kernel_rfl
@[simp] theorem ty23 : ty Try.prog 23 = some ⟨1, 24, .slice 29, [.slice none 0 0]⟩ := by kernel_rfl
@[simp] theorem ty24 : ty Try.prog 24 = some ⟨1, 24, .slice 76, [.slice none 0 0]⟩ := by kernel_rfl
@[simp] theorem ty26 : ty Try.prog 26 = some ⟨3, 72, .struct [(22, 0), (23, 1), (24, 2)], [.slice none 0 0, .slice none 0 0, .slice none 0 0]⟩ := by kernel_rfl
@[simp] theorem ty28 : ty Try.prog 28 = some ⟨2, 16, .struct [(3, 0), (3, 1)], [.int .i64 0, .int .i64 0]⟩ := by kernel_rfl
@[simp] theorem ty29 : ty Try.prog 29 = some ⟨1, 24, .slice 5, [.slice none 0 0]⟩ := by kernel_rfl
@[simp] theorem ty31 : ty Try.prog 31 = some ⟨7, 80, .struct [(3, 0), (28, 1), (3, 3), (3, 4), (29, 5), (9, 6)], [.int .i64 0, .int .i64 0, .int .i64 0, .int .i64 0, .int .i64 0, .slice none 0 0, .string ⟨#[]⟩]⟩ := by kernel_rfl
@[simp] theorem ty32 : ty Try.prog 32 = some ⟨1, 8, .fn, [.nilFunc]⟩ := by kernel_rfl
@[simp] theorem ty38 : ty Try.prog 38 = some ⟨3, 40, .struct [(28, 0), (29, 2)], [.int .i64 0, .int .i64 0, .slice none 0 0]⟩ := by kernel_rfl
@[simp] theorem ty39 : ty Try.prog 39 = some ⟨1, 8, .int .i64, [.int .i64 0]⟩ := by kernel_rfl
@[simp] theorem ty76 : ty Try.prog 76 = some ⟨3, 32, .struct [(9, 0), (28, 1)], [.string ⟨#[]⟩, .int .i64 0, .int .i64 0]⟩ := by kernel_rfl
@[simp] theorem ty77 : ty Try.prog 77 = some ⟨1, 8, .ptr 79, [.pointer none]⟩ := by kernel_rfl
@[simp] theorem ty79 : ty Try.prog 79 = some ⟨6, 112, .struct [(26, 0), (38, 3)], [.slice none 0 0, .slice none 0 0, .slice none 0 0, .int .i64 0, .int .i64 0, .slice none 0 0]⟩ := by kernel_rfl
@[simp] theorem ty80 : ty Try.prog 80 = some ⟨1, 8, .fn, [.nilFunc]⟩ := by kernel_rfl
@[simp] theorem ty121 : ty Try.prog 121 = some ⟨1, 8, .fn, [.nilFunc]⟩ := by kernel_rfl
@[simp] theorem ty164 : ty Try.prog 164 = some ⟨1, 8, .fn, [.nilFunc]⟩ := by kernel_rfl
open Go.Awp
abbrev vI (n : Int) : D := .v (.int .i64 n)
abbrev vS (s : ByteArray) : D := .v (.string s)
abbrev vB (b : UInt8) : D := .v (.int .u8 b.toNat)
abbrev rI (x : List Int) : D := rows 1 vI x
abbrev oI (x : List Int) : D := ownR 1 vI x
abbrev rB (x : List UInt8) : D := rows 1 vB x
abbrev oB (x : List UInt8) : D := ownR 1 vB x
structure Root where
 name : ByteArray
 ix : Int
 gen : Int
 deriving Inhabited
def eRoot (r : Root) : D := .agg [vS r.name, vI r.ix, vI r.gen]
abbrev rR (x : List Root) : D := rows 3 eRoot x
abbrev oR (x : List Root) : D := ownR 3 eRoot x
@[simp] theorem roed_eRoot (r : Root) : (eRoot r).roed = eRoot r := by simp [eRoot]
@[simp] theorem noRo_eRoot (r : Root) : (eRoot r).noRo = true := by simp [eRoot]
@[simp] theorem noSn_eRoot (r : Root) : (eRoot r).noSn = true := by simp [eRoot]
@[simp] theorem eqg82 : Try.prog.eqGuardType Try.prog.depth 82 = false := by kernel_rfl
@[simp] theorem eqk76 : eqOk Try.prog 76 = true := by kernel_rfl
@[simp] theorem eqg28 : Try.prog.eqGuardType Try.prog.depth 28 = false := by kernel_rfl
@[simp] theorem eqk28 : eqOk Try.prog 28 = true := by kernel_rfl

def mayS (c : Int) : Bool := !(decide (c ≤ 32) || (decide (127 ≤ c) && decide (c ≤ 160)) || decide (c = 65533))
def handleS (a b : Int) : Bool := decide (0 ≤ a) && decide (a < 32) && decide (0 ≤ b) && decide (b < 65536)
theorem decode_pos (s : ByteArray) (i : Nat) : 1 ≤ (Utf8.decode s i).2 := by
 unfold Utf8.decode
 dsimp only
 repeat' split
 all_goals simp

def runesOk (s : ByteArray) (pos : Nat) : Bool :=
 if pos < s.size then mayS (Utf8.decode s pos).1 && runesOk s (pos + (Utf8.decode s pos).2) else true
termination_by s.size - pos
decreasing_by have := decode_pos s pos; omega

def nameS (s : ByteArray) : Bool := runesOk s 0 && (!(s.toList == []) && decide ((s.size : Int) ≤ 16))

def firstS (l : List Root) (nm : ByteArray) : Int := match l.findIdx? (fun r => r.name.toList == nm.toList) with
 | some i => i
 | none => -1

theorem firstS_at {l : List Root} {nm : ByteArray} {i : Nat} (hi : i < l.length) (h : ∀ j, j < i → ((nth l j).name.toList == nm.toList) = false) (ht : ((nth l i).name.toList == nm.toList) = true) : firstS l nm = i := by
 have : l.findIdx? (fun r => r.name.toList == nm.toList) = some i := by
  rw [List.findIdx?_eq_some_iff_getElem]
  refine ⟨hi, by rw [nth_eq hi] at ht; exact ht, fun j hj => ?_⟩
  have := h j hj
  have hj2 : j < l.length := by omega
  rw [nth_eq hj2] at this
  simpa using this
 simp [firstS, this]

theorem firstS_none {l : List Root} {nm : ByteArray} (h : ∀ j, j < l.length → ((nth l j).name.toList == nm.toList) = false) : firstS l nm = -1 := by
 have : l.findIdx? (fun r => r.name.toList == nm.toList) = none := by
  rw [List.findIdx?_eq_none_iff]
  intro x hx
  obtain ⟨j, hj, rfl⟩ := List.getElem_of_mem hx
  have := h j hj
  rw [nth_eq hj] at this
  exact this
 simp [firstS, this]

def zRoot : Root := ⟨⟨#[]⟩, 0, 0⟩
def newOk (n : Int) : Bool := !(decide (n < 2) || decide (8 < n) || (n.tmod 2 != 0))
def isZero (r : Root) : Bool := r.name.toList == (⟨#[]⟩ : ByteArray).toList && (r.ix == 0 && (r.gen == 0))
def rootOk (l : List Root) (i : Nat) : Bool := isZero (nth l i) || (nameS (nth l i).name && handleS (nth l i).ix (nth l i).gen && !decide (0 ≤ firstS (l.take i) (nth l i).name))
def rootsS (l : List Root) : Bool := (List.range l.length).all (rootOk l) && newOk l.length

theorem roots_bad {l : List Root} {i : Nat} (hi : i < l.length) (h : rootOk l i = false) : rootsS l = false := by
 have : (List.range l.length).all (rootOk l) = false := by
  rw [List.all_eq_false]; exact ⟨i, by simpa using hi, by simp [h]⟩
 simp [rootsS, this]
theorem roots_good {l : List Root} (h : ∀ i, i < l.length → rootOk l i = true) : rootsS l = newOk l.length := by
 have : (List.range l.length).all (rootOk l) = true := by
  rw [List.all_eq_true]; intro i hi; exact h i (by simpa using hi)
 simp [rootsS, this]

@[simp] theorem tmod_two (n : Nat) : (n : Int).tmod 2 = ((n % 2 : Nat) : Int) := rfl
structure Abs where
 gens : List Int
 data : List (List UInt8)
 roots : List Root
 deriving Inhabited
@[simp] theorem roed_rB (x : List UInt8) : (rB x).roed = rB x := by simp
abbrev rBB (x : List (List UInt8)) : D := rows 1 rB x
def eAbs (a : Abs) : D := .agg [rI a.gens, rBB a.data, rR a.roots]
structure Abs.Ok (a : Abs) : Prop where
 h1 : a.gens.length ≤ 2^40
 h2 : a.data.length ≤ 2^40
 h3 : a.roots.length ≤ 2^40
 h4 : ∀ i, i < a.data.length → (nth a.data i).length ≤ 2^40
 h5 : ∀ i, i < a.roots.length → (nth a.roots i).name.size ≤ 2^40
def slotOk (a : Abs) (i : Nat) : Bool := !(decide (nth a.gens i < 0) || decide (65535 < nth a.gens i) || decide (2048 < (nth a.data i).length))
def lensOk (a : Abs) : Bool := !((a.gens.length != a.data.length) || decide (a.gens.length < 2) || decide (32 < a.gens.length) || (a.gens.length % 2 != 0))
def rightS (a : Abs) : Bool := lensOk a && (List.range a.gens.length).all (slotOk a) && rootsS a.roots

theorem right_len {a : Abs} (h : lensOk a = false) : rightS a = false := by simp [rightS, h]
theorem right_bad {a : Abs} {i : Nat} (hi : i < a.gens.length) (h : slotOk a i = false) : rightS a = false := by
 have : (List.range a.gens.length).all (slotOk a) = false := by
  rw [List.all_eq_false]; exact ⟨i, by simpa using hi, by simp [h]⟩
 simp [rightS, this]
theorem right_good {a : Abs} (h0 : lensOk a = true) (h : ∀ i, i < a.gens.length → slotOk a i = true) : rightS a = rootsS a.roots := by
 have : (List.range a.gens.length).all (slotOk a) = true := by
  rw [List.all_eq_true]; intro i hi; exact h i (by simpa using hi)
 simp [rightS, this, h0]

theorem all_bad {f : Nat → Bool} {n i : Nat} (hi : i < n) (h : f i = false) : (List.range n).all f = false := by
 rw [List.all_eq_false]; exact ⟨i, by simpa using hi, by simp [h]⟩
theorem all_good {f : Nat → Bool} {n : Nat} (h : ∀ i, i < n → f i = true) : (List.range n).all f = true := by
 rw [List.all_eq_true]; intro i hi; exact h i (by simpa using hi)

def sameL {α : Type} [Inhabited α] (eq : α → α → Bool) (x y : List α) : Bool := (x.length == y.length) && (List.range x.length).all fun i => eq (nth x i) (nth y i)
theorem sameL_len {α : Type} [Inhabited α] {eq : α → α → Bool} {x y : List α} (h : x.length ≠ y.length) : sameL eq x y = false := by simp [sameL, h]
theorem sameL_bad {α : Type} [Inhabited α] {eq : α → α → Bool} {x y : List α} {i : Nat} (hi : i < x.length) (h : eq (nth x i) (nth y i) = false) : sameL eq x y = false := by
 simp only [sameL]; rw [all_bad hi h]; simp
theorem sameL_good {α : Type} [Inhabited α] {eq : α → α → Bool} {x y : List α} (hl : x.length = y.length) (h : ∀ i, i < x.length → eq (nth x i) (nth y i) = true) : sameL eq x y = true := by
 simp only [sameL]; rw [all_good h]; simp [hl]

def str (b : List UInt8) : ByteArray := ⟨b.toArray⟩
theorem bytesD_vB (l : List UInt8) : bytesD (l.map vB) = some (l.map fun b => (b.toNat : Int)) := by
 induction l with
 | nil => rfl
 | cons b l ih => simp [bytesD, ih]
theorem bytesStr_vB (l : List UInt8) : bytesStr (l.map fun b => (b.toNat : Int)) = str l := by
 have key : ∀ (l : List UInt8) (r : ByteArray), (l.map fun b => (b.toNat : Int)).foldl (fun r n => r.push (UInt8.ofNat n.toNat)) r = ⟨r.data ++ l.toArray⟩ := by
  intro l
  induction l with
  | nil => intro r; simp
  | cons b l ih => intro r; simp only [List.map_cons, List.foldl_cons]; rw [ih]; simp [ByteArray.push]
 simp [bytesStr, key, str]
theorem conv_rB (objs : List Awp.Obj) (b : List UInt8) : convA Try.prog objs 29 9 (.d (rB b)) = some (.d (.v (.string (str b))), objs) := by
 simp [convA, rows, isStrTy, isBytesTy, isIntTy, elemsOf, fullA, bytesD_vB, bytesStr_vB]
def sameRoot (a b : Root) : Bool := a.name.toList == b.name.toList && (a.ix == b.ix && (a.gen == b.gen))
def sameAbs (a b : Abs) : Bool := sameL (· == ·) a.gens b.gens && (sameL (fun x y => (str x).toList == (str y).toList) a.data b.data && sameL sameRoot a.roots b.roots)

structure Op where
 act : Int
 ix : Int
 gen : Int
 n : Int
 off : Int
 b : List UInt8
 name : ByteArray
def eOp (o : Op) : D := .agg [vI o.act, vI o.ix, vI o.gen, vI o.n, vI o.off, rB o.b, vS o.name]
def fewOp (o : Op) : Bool := decide ((o.b.length : Int) ≤ 4096) && decide ((o.name.size : Int) ≤ 1024)
def goodS (a : Abs) (ix gn : Int) : Bool := decide (0 ≤ ix) && (decide (ix < a.gens.length) && (decide (0 < ((nth a.data ix.toNat).length : Int)) && (nth a.gens ix.toNat == gn)))
theorem and3_f {a b c : Bool} (h : (!a || (!b || !c)) = true) : (a && (b && c)) = false := by cases a <;> cases b <;> cases c <;> simp at *
theorem and3_t {a b c : Bool} (h : (!a || (!b || !c)) = false) : (a && (b && c)) = true := by cases a <;> cases b <;> cases c <;> simp at *

def findS (l : List Root) (nm : ByteArray) : Int × Int := if rootsS l = false then (0, 1) else if nameS nm = false then (0, 3) else (firstS l nm, 0)
structure RootsOk (l : List Root) : Prop where
 h1 : l.length ≤ 2^40
 h2 : ∀ i, i < l.length → (nth l i).name.size ≤ 2^40
theorem firstS_range (l : List Root) (nm : ByteArray) : -1 ≤ firstS l nm ∧ firstS l nm < l.length := by
 unfold firstS
 split
 · rename_i i h
   rw [List.findIdx?_eq_some_iff_getElem] at h
   obtain ⟨h, _⟩ := h
   omega
 · omega

def dropS (l : List Root) (nm : ByteArray) : List Root × Int := if (findS l nm).2 ≠ 0 then ([], (findS l nm).2) else if (findS l nm).1 < 0 then ([], 11) else (l.set (findS l nm).1.toNat zRoot, 0)
theorem findS_nat {l : List Root} {nm : ByteArray} (hl : RootsOk l) (h1 : (findS l nm).2 = 0) (h2 : 0 ≤ (findS l nm).1) : ∃ k : Nat, (findS l nm).1 = k ∧ k < l.length := by
 unfold findS at h1 h2 ⊢
 by_cases q1 : rootsS l = false
 · simp [q1] at h1
 · by_cases q2 : nameS nm = false
   · simp [q1, q2] at h1
   · rw [if_neg q1, if_neg q2] at h2 ⊢
     simp only at h2 ⊢
     have := firstS_range l nm
     exact ⟨(firstS l nm).toNat, by omega, by omega⟩

def getS (l : List Root) (nm : ByteArray) : Int × Int × Int := if (findS l nm).2 ≠ 0 then (0, 0, (findS l nm).2) else if (findS l nm).1 < 0 then (0, 0, 11) else ((nth l (findS l nm).1.toNat).ix, (nth l (findS l nm).1.toNat).gen, 0)

def slotS (l : List Root) (nm : ByteArray) : Int := if (findS l nm).1 < 0 then firstS l ⟨#[]⟩ else (findS l nm).1
def setS (l : List Root) (nm : ByteArray) (ix gn : Int) : List Root × Int :=
 if (findS l nm).2 ≠ 0 then ([], (findS l nm).2) else if handleS ix gn = false then ([], 1) else if slotS l nm < 0 then ([], 9) else (l.set (slotS l nm).toNat ⟨nm, ix, gn⟩, 0)
theorem slotS_nat {l : List Root} {nm : ByteArray} (hl : RootsOk l) (h1 : (findS l nm).2 = 0) (h2 : 0 ≤ slotS l nm) : ∃ k : Nat, slotS l nm = k ∧ k < l.length := by
 unfold slotS at h2 ⊢
 split at h2
 · rename_i q
   rw [if_pos q]
   have := firstS_range l ⟨#[]⟩
   exact ⟨(firstS l ⟨#[]⟩).toNat, by omega, by omega⟩
 · rename_i q
   rw [if_neg q]
   exact findS_nat hl h1 h2
open Go.Awp
abbrev oBB (x : List (List UInt8)) : D := ownR 1 oB x
def oAbs (a : Abs) : D := .agg [oI a.gens, oBB a.data, oR a.roots]
@[simp] theorem snap_eRoot (r : Root) : (eRoot r).snap = eRoot r := by simp [eRoot, snap_agg, snap_v]
@[simp] theorem noOwn_eRoot (r : Root) : (eRoot r).noOwn = true := by simp [eRoot, noOwn_agg, noOwn_v]
def reachS (size : Nat) (off n : Int) : Bool := !(decide (off < 0) || (decide ((size : Int) < off) || (decide (n < 0) || decide ((size : Int) - off < n))))
theorem reach_eq {len : Nat} {off n : Int} (h : len ≤ 2^40) : (decide (off < 0) || decide ((len : Int) < off) || decide (n < 0) || decide (IntKind.i64.wrap ((len : Int) - off) < n)) = !reachS len off n := by
 by_cases h1 : off < 0
 · simp [reachS, h1]
 by_cases h2 : (len : Int) < off
 · simp [reachS, h2]
 rw [wrap64 (by omega) (by omega)]
 simp [reachS, h1, h2]
def sizedS (n : Int) : Bool := decide (1 ≤ n) && decide (n ≤ 2048)
def openS (a : Abs) (i : Nat) : Bool := decide ((nth a.data i).length = 0) && (nth a.gens i != 65535)
def allocIx (a : Abs) : Option Nat := (List.range a.gens.length).find? (openS a)
theorem allocIx_at {a : Abs} {i : Nat} (hi : i < a.gens.length) (h : ∀ j, j < i → openS a j = false) (ht : openS a i = true) : allocIx a = some i := by
 unfold allocIx
 rw [List.find?_range_eq_some]
 exact ⟨ht, by simpa using hi, fun j hj => by simp [h j hj]⟩
theorem allocIx_none {a : Abs} (h : ∀ j, j < a.gens.length → openS a j = false) : allocIx a = none := by
 unfold allocIx
 rw [List.find?_eq_none]
 intro j hj; simp [h j (by simpa using hj)]
structure Eff where
 a : Abs
 ix : Int
 gen : Int
 b : List UInt8
 e : Int
def allocS (a : Abs) (n : Int) : Eff := if sizedS n = false then ⟨a, 0, 0, [], 1⟩ else match allocIx a with
 | some i => ⟨{ a with data := a.data.set i (List.replicate n.toNat 0) }, i, nth a.gens i, [], 0⟩
 | none => ⟨a, 0, 0, [], 9⟩
def freeS (a : Abs) (k : Nat) : Eff := ⟨{ a with data := a.data.set k [], gens := a.gens.set k (min (nth a.gens k + 1) 65535) }, 0, 0, [], 0⟩
def resizeS (a : Abs) (k : Nat) (n : Int) : Eff := if sizedS n = false then ⟨a, 0, 0, [], 1⟩ else ⟨{ a with data := a.data.set k ((nth a.data k).take n.toNat ++ List.replicate (n.toNat - (nth a.data k).length) 0) }, 0, 0, [], 0⟩
def readS (a : Abs) (k : Nat) (off n : Int) : Eff := if reachS (nth a.data k).length off n = false then ⟨a, 0, 0, [], 1⟩ else ⟨a, 0, 0, ((nth a.data k).drop off.toNat).take n.toNat, 0⟩
def writeS (a : Abs) (k : Nat) (off : Int) (b : List UInt8) : Eff := if reachS (nth a.data k).length off b.length = false then ⟨a, 0, 0, [], 1⟩ else ⟨{ a with data := a.data.set k (Go.splice (nth a.data k) off.toNat b) }, 0, 0, [], 0⟩
def rootS (a : Abs) (o : Op) : Eff :=
 if o.act = 6 then ⟨{ a with roots := (setS a.roots o.name o.ix o.gen).1 }, 0, 0, [], (setS a.roots o.name o.ix o.gen).2⟩
 else if o.act = 7 then ⟨a, (getS a.roots o.name).1, (getS a.roots o.name).2.1, [], (getS a.roots o.name).2.2⟩
 else if o.act = 8 then ⟨{ a with roots := (dropS a.roots o.name).1 }, 0, 0, [], (dropS a.roots o.name).2⟩
 else ⟨a, 0, 0, [], 0⟩
open Go.Awp
theorem resize_row (b : List UInt8) (n : Nat) : Go.splice (List.replicate n (D.v (.int .u8 0))) 0 ((b.map vB).take (min b.length n)) = (b.take n ++ List.replicate (n - b.length) 0).map vB := by
 simp only [Go.splice, List.take_zero, List.nil_append, Nat.zero_add, List.drop_replicate, List.map_append, List.map_take, List.map_replicate, List.length_take, List.length_map]
 rw [show min (min b.length n) b.length = min b.length n by omega]
 rw [show (vB 0) = D.v (.int .u8 0) from rfl, show n - min b.length n = n - b.length by omega]
 congr 1
 rw [show min b.length n = min n (b.map vB).length by simp; omega]
 exact List.take_eq_take_min.symm
open Go.Awp
theorem set_self {α β : Type} [Inhabited α] (f : α → β) {l : List α} {k : Nat} (hk : k < l.length) : (l.map f).set k (f (nth l k)) = l.map f := by
 rw [← List.map_set, nth_eq hk]; congr 1; exact List.set_getElem_self ..
theorem set_oB_self {l : List (List UInt8)} {k : Nat} (hk : k < l.length) : (l.map oB).set k (.row .own 1 ((nth l k).map vB)) = l.map oB := set_self oB hk
theorem splice_map {α β : Type} (f : α → β) (l : List α) (i : Nat) (b : List α) : Go.splice (l.map f) i (b.map f) = (Go.splice l i b).map f := by
 simp [Go.splice, List.map_take, List.map_drop]
theorem set_oB_splice {l : List (List UInt8)} {k i : Nat} {b : List UInt8} : (l.map oB).set k (.row .own 1 (Go.splice ((nth l k).map vB) i (b.map vB))) = (l.set k (Go.splice (nth l k) i b)).map oB := by
 rw [splice_map, List.map_set]; rfl
open Go.Awp
def kindS (a : Abs) (o : Op) : Int := if o.act = 1 then 81 else if o.act = 7 ∨ o.act = 8 then 82 else if o.act < 1 ∨ 8 < o.act then -1 else if o.act = 6 ∧ nameS o.name = false then -3
 else if goodS a o.ix o.gen = false then -8 else if o.act = 2 then 85 else if o.act = 3 then 86 else if o.act = 4 then 87 else if o.act = 5 then 88 else 82
open Go.Awp
def mixB (i : Nat) (l : List (List UInt8)) : List D := (l.take i).map oB ++ (l.drop i).map rB
theorem mixB_zero {l : List (List UInt8)} : mixB 0 l = l.map rB := by simp [mixB]
theorem mixB_all {l : List (List UInt8)} : mixB l.length l = l.map oB := by simp [mixB]
@[simp] theorem mixB_length {i : Nat} {l : List (List UInt8)} : (mixB i l).length = l.length := by simp [mixB]; omega
theorem mixB_get {i : Nat} {l : List (List UInt8)} (h : i < l.length) : (mixB i l)[i]? = some (rB (nth l i)) := by
 unfold mixB
 rw [List.getElem?_append_right (by simp; omega)]
 have e : i - ((l.take i).map oB).length = 0 := by simp; omega
 rw [e, List.getElem?_map, List.getElem?_drop, Nat.add_zero, get_some h]; rfl
theorem mixB_set {i : Nat} {l : List (List UInt8)} (h : i < l.length) : (mixB i l).set i (.row .own 1 ((nth l i).map vB)) = mixB (i + 1) l := by
 unfold mixB
 rw [List.set_append_right _ _ (by simp; omega)]
 have e : i - ((l.take i).map oB).length = 0 := by simp; omega
 rw [e, nth_eq h, List.drop_eq_getElem_cons h, List.map_cons, List.set_cons_zero, List.take_succ_eq_append_getElem h, List.map_append]
 simp [ownR]
open Go.Awp
@[simp] theorem noSn_oAbs (a : Abs) : (oAbs a).noSn = true := by simp [oAbs]
@[simp] theorem noRo_oAbs (a : Abs) : (oAbs a).noRo = true := by simp [oAbs]
open Go.Awp
def zAbs : Abs := ⟨[], [], []⟩
def effS (a : Abs) (o : Op) : Eff := if kindS a o = 81 then allocS a o.n else if kindS a o = 82 then rootS a o else if kindS a o = 85 then freeS a o.ix.toNat else if kindS a o = 86 then resizeS a o.ix.toNat o.n
 else if kindS a o = 87 then readS a o.ix.toNat o.off o.n else if kindS a o = 88 then writeS a o.ix.toNat o.off o.b else ⟨a, 0, 0, [], -(kindS a o)⟩
def failS (e : Int) : Eff := ⟨zAbs, 0, 0, [], e⟩
def doS (a : Abs) (o : Op) : Eff := if rightS a = false then failS 1 else if (effS a o).e ≠ 0 then failS (effS a o).e else effS a o
theorem doS_fail {a : Abs} {o : Op} (h : rightS a = true) (he : (effS a o).e ≠ 0) : doS a o = failS (effS a o).e := by simp [doS, h, he]
theorem doS_ok {a : Abs} {o : Op} (h : rightS a = true) (he : (effS a o).e = 0) : doS a o = effS a o := by simp [doS, h, he]
@[simp] theorem allocS_b {a n} : (allocS a n).b = [] := by unfold allocS; split; rfl; split <;> rfl
@[simp] theorem allocS_gens {a n} : (allocS a n).a.gens = a.gens := by unfold allocS; split; rfl; split <;> rfl
@[simp] theorem allocS_roots {a n} : (allocS a n).a.roots = a.roots := by unfold allocS; split; rfl; split <;> rfl
@[simp] theorem allocS_len {a n} : (allocS a n).a.data.length = a.data.length := by unfold allocS; split; rfl; split <;> simp
@[simp] theorem resizeS_b {a k n} : (resizeS a k n).b = [] := by unfold resizeS; split <;> rfl
@[simp] theorem resizeS_ix {a k n} : (resizeS a k n).ix = 0 := by unfold resizeS; split <;> rfl
@[simp] theorem resizeS_gen {a k n} : (resizeS a k n).gen = 0 := by unfold resizeS; split <;> rfl
@[simp] theorem resizeS_gens {a k n} : (resizeS a k n).a.gens = a.gens := by unfold resizeS; split <;> rfl
@[simp] theorem resizeS_roots {a k n} : (resizeS a k n).a.roots = a.roots := by unfold resizeS; split <;> rfl
@[simp] theorem resizeS_len {a k n} : (resizeS a k n).a.data.length = a.data.length := by unfold resizeS; split <;> simp
@[simp] theorem writeS_b {a k n b} : (writeS a k n b).b = [] := by unfold writeS; split <;> rfl
@[simp] theorem writeS_ix {a k n b} : (writeS a k n b).ix = 0 := by unfold writeS; split <;> rfl
@[simp] theorem writeS_gen {a k n b} : (writeS a k n b).gen = 0 := by unfold writeS; split <;> rfl
@[simp] theorem writeS_gens {a k n b} : (writeS a k n b).a.gens = a.gens := by unfold writeS; split <;> rfl
@[simp] theorem writeS_roots {a k n b} : (writeS a k n b).a.roots = a.roots := by unfold writeS; split <;> rfl
@[simp] theorem writeS_len {a k n b} : (writeS a k n b).a.data.length = a.data.length := by unfold writeS; split <;> simp
theorem kindS_84 {a o} (h : kindS a o = 82) : o.act = 6 ∨ o.act = 7 ∨ o.act = 8 := by
 unfold kindS at h
 (repeat' split at h) <;> omega
theorem kindS_good {a o} (h : 85 ≤ kindS a o) : goodS a o.ix o.gen = true := by
 unfold kindS at h
 by_cases hg : goodS a o.ix o.gen = true
 · exact hg
 · rw [if_pos (show goodS a o.ix o.gen = false by simpa using hg)] at h
   (repeat' split at h) <;> omega
theorem goodS_nat {a ix gn} (h : goodS a ix gn = true) : ∃ k : Nat, ix = k ∧ k < a.gens.length ∧ 0 < (nth a.data k).length ∧ nth a.gens k = gn := by
 simp [goodS] at h
 obtain ⟨h1, h2, h3, h4⟩ := h
 refine ⟨ix.toNat, by omega, by omega, ?_, h4⟩
 exact h3
theorem kindS_cases (a : Abs) (o : Op) : kindS a o = 81 ∨ (kindS a o = 82 ∧ o.act = 6) ∨ (kindS a o = 82 ∧ o.act = 7) ∨ (kindS a o = 82 ∧ o.act = 8) ∨ kindS a o = 85 ∨ kindS a o = 86 ∨ kindS a o = 87 ∨ kindS a o = 88 ∨ (∃ e : Nat, 0 < e ∧ kindS a o = -(e : Int)) := by
 have h84 := @kindS_84 a o
 have : kindS a o = 81 ∨ kindS a o = 82 ∨ kindS a o = 85 ∨ kindS a o = 86 ∨ kindS a o = 87 ∨ kindS a o = 88 ∨ kindS a o = -1 ∨ kindS a o = -3 ∨ kindS a o = -8 := by
  unfold kindS
  (repeat' split) <;> simp
 rcases this with h | h | h | h | h | h | h | h | h
 · exact .inl h
 · rcases h84 h with h' | h' | h' <;> simp [h, h']
 · simp [h]
 · simp [h]
 · simp [h]
 · simp [h]
 · simp [h]; exact ⟨1, by omega, rfl⟩
 · simp [h]; exact ⟨3, by omega, rfl⟩
 · simp [h]; exact ⟨8, by omega, rfl⟩
theorem rightS_len {a : Abs} (h : rightS a = true) : a.data.length = a.gens.length ∧ 2 ≤ a.gens.length ∧ a.gens.length ≤ 32 := by
 simp [rightS, lensOk] at h; omega
theorem rightS_slot {a : Abs} (h : rightS a = true) {k : Nat} (hk : k < a.gens.length) : 0 ≤ nth a.gens k ∧ nth a.gens k ≤ 65535 ∧ (nth a.data k).length ≤ 2048 := by
 simp [rightS] at h
 have := h.1.2 k hk
 simp [slotOk] at this; omega
open Go.Awp
theorem do_cases (a : Abs) (o : Op) : kindS a o = 81 ∨ (kindS a o = 82 ∧ o.act = 6) ∨ (kindS a o = 82 ∧ o.act = 7) ∨ (kindS a o = 82 ∧ o.act = 8) ∨ kindS a o = 85 ∨ kindS a o = 86 ∨ (kindS a o = 87 ∧ reachS (nth a.data o.ix.toNat).length o.off o.n = true)
    ∨ (kindS a o = 87 ∧ reachS (nth a.data o.ix.toNat).length o.off o.n = false) ∨ kindS a o = 88 ∨ (∃ e : Nat, 0 < e ∧ kindS a o = -(e : Int)) := by
 have := kindS_cases a o
 cases h : reachS (nth a.data o.ix.toNat).length o.off o.n <;> simp [h] <;> exact this
open Go.Awp
@[simp] theorem freeS_gens {a k} : (freeS a k).a.gens.length = a.gens.length := by simp [freeS]
@[simp] theorem freeS_data {a k} : (freeS a k).a.data.length = a.data.length := by simp [freeS]
@[simp] theorem freeS_roots {a k} : (freeS a k).a.roots = a.roots := rfl
@[simp] theorem freeS_b {a k} : (freeS a k).b = [] := rfl
@[simp] theorem freeS_ix {a k} : (freeS a k).ix = 0 := rfl
@[simp] theorem freeS_gen {a k} : (freeS a k).gen = 0 := rfl
@[simp] theorem freeS_e {a k} : (freeS a k).e = 0 := rfl
open Go.Awp
theorem op3 : Opens Try.prog 3 fun n : Int => [vI n] := opens_int Try.underlying3
theorem op5 : Opens Try.prog 5 fun b : UInt8 => [vB b] := opens_byte Try.underlying5
theorem op9 : Opens Try.prog 9 fun s : ByteArray => [vS s] := opens_str Try.underlying9
theorem op22 : Opens Try.prog 22 fun l : List Int => [rI l] := opens_slice (k := 1) (f := vI) Try.underlying22 (by kernel_rfl) (by decide) op3 (fun _ => rfl) (fun _ => ⟨rfl, by simp [D.cells, D.isCell]⟩)
theorem op29 : Opens Try.prog 29 fun l : List UInt8 => [rB l] := opens_slice (k := 1) (f := vB) Try.underlying29 (by kernel_rfl) (by decide) op5 (fun _ => rfl) (fun _ => ⟨rfl, by simp [D.cells, D.isCell]⟩)
theorem op23 : Opens Try.prog 23 fun l : List (List UInt8) => [rBB l] := opens_slice (k := 1) (f := rB) Try.underlying23 (by kernel_rfl) (by decide) op29 (fun _ => rfl) (fun _ => ⟨rfl, by simp [rows, D.isCell]⟩)
theorem op28 : Opens Try.prog 28 fun p : Int × Int => [vI p.1, vI p.2] :=
 (opens_struct (n := 2) Try.underlying28 (by kernel_rfl) (fs_cons rfl (size := 1) (by kernel_rfl) op3 (fs_cons rfl (size := 1) (by kernel_rfl) op3 (fs_nil (by decide))))).map (fun p => (p.1, p.2.1)) fun _ => rfl
theorem op76 : Opens Try.prog 76 fun r : Root => [vS r.name, vI r.ix, vI r.gen] :=
 (opens_struct (n := 3) Try.underlying76 (by kernel_rfl) (fs_cons rfl (size := 1) (by kernel_rfl) op9 (fs_cons rfl (size := 2) (by kernel_rfl) op28 (fs_nil (by decide))))).map (fun p => ⟨p.1, p.2.1.1, p.2.1.2⟩) fun _ => rfl
theorem op24 : Opens Try.prog 24 fun l : List Root => [rR l] := opens_slice (k := 3) (f := eRoot) Try.underlying24 (by kernel_rfl) (by decide) op76 (fun _ => rfl) (fun _ => ⟨rfl, by simp [eRoot, D.cells, D.isCell]⟩)
theorem op26 : Opens Try.prog 26 fun a : Abs => [rI a.gens, rBB a.data, rR a.roots] :=
 (opens_struct (n := 3) Try.underlying26 (by kernel_rfl) (fs_cons rfl (size := 1) (by kernel_rfl) op22 (fs_cons rfl (size := 1) (by kernel_rfl) op23 (fs_cons rfl (size := 1) (by kernel_rfl) op24 (fs_nil (by decide)))))).map (fun p => ⟨p.1, p.2.1, p.2.2.1⟩) fun _ => rfl
theorem op31 : Opens Try.prog 31 fun o : Op => [vI o.act, vI o.ix, vI o.gen, vI o.n, vI o.off, rB o.b, vS o.name] :=
 (opens_struct (n := 7) Try.underlying31 (by kernel_rfl) (fs_cons rfl (size := 1) (by kernel_rfl) op3 (fs_cons rfl (size := 2) (by kernel_rfl) op28 (fs_cons rfl (size := 1) (by kernel_rfl) op3 (fs_cons rfl (size := 1) (by kernel_rfl) op3
   (fs_cons rfl (size := 1) (by kernel_rfl) op29 (fs_cons rfl (size := 1) (by kernel_rfl) op9 (fs_nil (by decide))))))))).map (fun p => ⟨p.1, p.2.1.1, p.2.1.2, p.2.2.1, p.2.2.2.1, p.2.2.2.2.1, p.2.2.2.2.2.1⟩) fun _ => rfl
theorem own : ownKnob Try.prog.godebug = none := by kernel_rfl
theorem laidOut : laidOutB Try.prog = true := by kernel_rfl
def glT : Gl := ⟨fun _ => True, 0, fun _ _ _ _ => trivial⟩
open Go.Awp
open Go.Awp
def fewS (a : Abs) : Bool := (List.range (min a.data.length 100)).all (fun i => decide (((nth a.data i).length : Int) ≤ 4096)) && ((List.range (min a.roots.length 100)).all (fun i => decide (((nth a.roots i).name.size : Int) ≤ 1024))
  && (decide ((a.data.length : Int) ≤ 60) && (decide ((a.gens.length : Int) ≤ 60) && decide ((a.roots.length : Int) ≤ 60))))
theorem few_ok {a : Abs} (h : fewS a = true) : a.Ok := by
 simp [fewS] at h
 obtain ⟨h1, h2, h3, h4, h5⟩ := h
 refine ⟨by omega, by omega, by omega, fun i hi => ?_, fun i hi => ?_⟩
 · have := h1 i (by omega); omega
 · have := h2 i (by omega); omega
def A0 : Abs := ⟨[0,0], [[], []], [zRoot, zRoot]⟩
def A1 : Abs := ⟨[0,0], [[0,0,0,0], []], [zRoot, zRoot]⟩
def A2 : Abs := ⟨[0,0], [[0,7,0,0], []], [zRoot, zRoot]⟩
def A3 : Abs := ⟨[1,0], [[], []], [zRoot, zRoot]⟩
def A4 : Abs := ⟨[1,0], [[0], []], [zRoot, zRoot]⟩
def O (act n off : Int) (b : List UInt8) : Op := ⟨act, 0, 0, n, off, b, ⟨#[]⟩⟩
theorem d1 : doS A0 (O 1 4 0 []) = ⟨A1, 0, 0, [], 0⟩ := by kernel_rfl
theorem d2 : doS A1 (O 5 0 1 [7]) = ⟨A2, 0, 0, [], 0⟩ := by kernel_rfl
theorem d3 : doS A2 (O 4 4 0 []) = ⟨A2, 0, 0, [0,7,0,0], 0⟩ := by kernel_rfl
theorem d4 : doS A2 (O 2 0 0 []) = ⟨A3, 0, 0, [], 0⟩ := by kernel_rfl
theorem d5 : doS A3 (O 4 0 0 []) = failS 8 := by kernel_rfl
theorem d6 : doS A3 (O 1 1 0 []) = ⟨A4, 0, 1, [], 0⟩ := by kernel_rfl
open Go.Awp
theorem conv_hB {objs : List Awp.Obj} {r : Nat} {b : List UInt8} (h : objs[r]? = some (.row 1 (b.map vB))) : convA Try.prog objs 29 9 (.hdr r 0 b.length) = some (.d (.v (.string (str b))), objs) := by
 simp [convA, isStrTy, isBytesTy, isIntTy, elemsOf, fullA, h, bytesD_vB, bytesStr_vB]
theorem conv_h4 {objs : List Awp.Obj} {r : Nat} (h : objs[r]? = some (.row 1 [.v (.int .u8 0), .v (.int .u8 7), .v (.int .u8 0), .v (.int .u8 0)])) : convA Try.prog objs 29 9 (.hdr r 0 4) = some (.d (.v (.string ⟨#[0,7,0,0]⟩)), objs) :=
 conv_hB (b := [0,7,0,0]) h
set_option maxHeartbeats 4000000
open Go.Awp
theorem toList_loop (s : ByteArray) : ∀ (n i : Nat) (r : List UInt8), s.size - i = n → ByteArray.toList.loop s i r = r.reverse ++ s.data.toList.drop i := by
 have hlen : s.data.toList.length = s.size := rfl
 intro n
 induction n with
 | zero =>
  intro i r h
  rw [ByteArray.toList.loop, if_neg (by omega), List.drop_eq_nil_of_le (by omega)]; simp
 | succ n ih =>
  intro i r h
  have hi : i < s.size := by omega
  rw [ByteArray.toList.loop, if_pos hi, ih (i + 1) _ (by omega)]
  have hi2 : i < s.data.toList.length := by omega
  rw [List.drop_eq_getElem_cons hi2]
  have : s.get! i = s.data.toList[i] := by
   have hi3 : i < s.data.size := hi
   show s.data[i]! = _
   rw [getElem!_pos s.data i hi3]
   simp
  rw [this]; simp
theorem toList_eq (s : ByteArray) : s.toList = s.data.toList := by
 unfold ByteArray.toList
 rw [toList_loop s _ 0 [] rfl]; simp
theorem toList_size (s : ByteArray) : s.toList.length = s.size := by rw [toList_eq]; rfl
theorem nth_set {α : Type} [Inhabited α] {l : List α} {k i : Nat} {v : α} (hk : k < l.length) : nth (l.set k v) i = if i = k then v else nth l i := by
 simp only [nth, List.getD_eq_getElem?_getD]
 by_cases h : i = k
 · subst h; simp [hk]
 · rw [List.getElem?_set_ne (fun e => h e.symm), if_neg h]
theorem rightS_iff {a : Abs} : rightS a = true ↔ (a.data.length = a.gens.length ∧ 2 ≤ a.gens.length ∧ a.gens.length ≤ 32 ∧ a.gens.length % 2 = 0) ∧ (∀ i, i < a.gens.length → 0 ≤ nth a.gens i ∧ nth a.gens i ≤ 65535 ∧ (nth a.data i).length ≤ 2048) ∧ rootsS a.roots = true := by
 simp only [rightS, lensOk, slotOk, Bool.and_eq_true, List.all_eq_true, List.mem_range]
 constructor
 · rintro ⟨⟨h1, h2⟩, h3⟩
   refine ⟨by simp at h1; omega, fun i hi => ?_, h3⟩
   have := h2 i hi; simp at this; omega
 · rintro ⟨h1, h2, h3⟩
   refine ⟨⟨by simp; omega, fun i hi => ?_⟩, h3⟩
   have := h2 i hi; simp; omega
theorem rootsS_iff {l : List Root} : rootsS l = true ↔ (∀ i, i < l.length → rootOk l i = true) ∧ newOk l.length = true := by
 simp only [rootsS, Bool.and_eq_true, List.all_eq_true, List.mem_range]
theorem nameS_pos {s : ByteArray} (h : nameS s = true) : s.toList ≠ [] ∧ s.size ≤ 16 := by
 simp [nameS] at h
 obtain ⟨_, h1, h2⟩ := h
 exact ⟨h1, by omega⟩
theorem firstS_neg {l : List Root} {nm : ByteArray} : firstS l nm < 0 ↔ ∀ j, j < l.length → ((nth l j).name.toList == nm.toList) = false := by
 constructor
 · intro h j hj
   unfold firstS at h
   split at h
   · rename_i i _; omega
   · rename_i hn
     rw [List.findIdx?_eq_none_iff] at hn
     have := hn l[j] (List.getElem_mem hj)
     rw [nth_eq hj]; exact this
 · intro h; rw [firstS_none h]; omega
theorem firstS_pos {l : List Root} {nm : ByteArray} {k : Nat} (h : firstS l nm = k) : k < l.length ∧ ((nth l k).name.toList == nm.toList) = true ∧ ∀ j, j < k → ((nth l j).name.toList == nm.toList) = false := by
 unfold firstS at h
 split at h
 · rename_i i hi
   have : i = k := by omega
   subst this
   rw [List.findIdx?_eq_some_iff_getElem] at hi
   obtain ⟨h1, h2, h3⟩ := hi
   refine ⟨h1, by rw [nth_eq h1]; exact h2, fun j hj => ?_⟩
   have := h3 j hj
   rw [nth_eq (by omega)]; simpa using this
 · omega
theorem nth_take {α : Type} [Inhabited α] {l : List α} {i j : Nat} (h : j < i) : nth (l.take i) j = nth l j := by
 simp [nth, List.getD_eq_getElem?_getD, List.getElem?_take, h]
theorem rootOk_iff {l : List Root} {i : Nat} (hi : i < l.length) : rootOk l i = true ↔ isZero (nth l i) = true ∨ (nameS (nth l i).name = true ∧ handleS (nth l i).ix (nth l i).gen = true ∧ ∀ j, j < i → ((nth l j).name.toList == (nth l i).name.toList) = false) := by
 have hf : (!decide (0 ≤ firstS (l.take i) (nth l i).name)) = true ↔ ∀ j, j < i → ((nth l j).name.toList == (nth l i).name.toList) = false := by
  rw [show (!decide (0 ≤ firstS (l.take i) (nth l i).name)) = decide (firstS (l.take i) (nth l i).name < 0) by
    by_cases h : 0 ≤ firstS (l.take i) (nth l i).name
    · simp [h]
    · simp [h]; omega]
  rw [decide_eq_true_eq, firstS_neg]
  have hl : (l.take i).length = i := by simp; omega
  rw [hl]
  constructor
  · intro h j hj; have := h j hj; rwa [nth_take hj] at this
  · intro h j hj; rw [nth_take hj]; exact h j hj
 simp only [rootOk, Bool.or_eq_true, Bool.and_eq_true]
 rw [hf]
 exact or_congr Iff.rfl and_assoc
theorem isZero_name {r : Root} (h : isZero r = true) : r.name.toList = [] := by
 simp [isZero] at h
 have := h.1
 exact this.trans rfl
theorem roots_set {l : List Root} {k : Nat} {r : Root} (hl : rootsS l = true) (hk : k < l.length) (hr : isZero r = true ∨ (nameS r.name = true ∧ handleS r.ix r.gen = true ∧ ∀ j, j < l.length → j ≠ k → ((nth l j).name.toList == r.name.toList) = false)) :
    rootsS (l.set k r) = true := by
 rw [rootsS_iff] at hl ⊢
 refine ⟨fun i hi => ?_, by simpa using hl.2⟩
 have hi' : i < l.length := by simpa using hi
 rw [rootOk_iff hi]
 have hold := (rootOk_iff hi').1 (hl.1 i hi')
 rw [nth_set hk]
 by_cases hik : i = k
 · subst hik
   rw [if_pos rfl]
   rcases hr with hr | ⟨h1, h2, h3⟩
   · exact .inl hr
   · refine .inr ⟨h1, h2, fun j hj => ?_⟩
     rw [nth_set hk, if_neg (by omega)]
     exact h3 j (by omega) (by omega)
 · rw [if_neg hik]
   rcases hold with hz | ⟨h1, h2, h3⟩
   · exact .inl hz
   · refine .inr ⟨h1, h2, fun j hj => ?_⟩
     rw [nth_set hk]
     by_cases hjk : j = k
     · subst hjk
       rw [if_pos rfl]
       rcases hr with hr | ⟨_, _, g3⟩
       · have e := isZero_name hr
         have := (nameS_pos h1).1
         rw [e]
         cases hq : (nth l i).name.toList with
         | nil => exact absurd hq this
         | cons => rfl
       · have := g3 i hi' hik
         rw [Bool.eq_false_iff] at this ⊢
         intro e; apply this
         simp only [beq_iff_eq] at e ⊢
         exact e.symm
     · rw [if_neg hjk]; exact h3 j hj
theorem rootsOk_of {l : List Root} (h : rootsS l = true) : RootsOk l := by
 have h' := rootsS_iff.1 h
 have hn : l.length ≤ 8 := by have := h'.2; simp [newOk] at this; omega
 refine ⟨by omega, fun i hi => ?_⟩
 rcases (rootOk_iff hi).1 (h'.1 i hi) with hz | ⟨h1, _, _⟩
 · have := isZero_name hz
   have e : (nth l i).name.size = 0 := by
    rw [← toList_size, this]; rfl
   omega
 · have := (nameS_pos h1).2; omega
theorem right_ok {a : Abs} (h : rightS a = true) : a.Ok := by
 obtain ⟨h1, h2, h3⟩ := rightS_iff.1 h
 have hr := rootsOk_of h3
 exact ⟨by omega, by omega, hr.h1, fun i hi => by have := h2 i (by omega); omega, hr.h2⟩
theorem findS_ok {l : List Root} {nm : ByteArray} (h : (findS l nm).2 = 0) : rootsS l = true ∧ nameS nm = true ∧ (findS l nm).1 = firstS l nm := by
 unfold findS at h ⊢
 split at h
 · simp at h
 · split at h
   · simp at h
   · rename_i h1 h2
     rw [if_neg h1, if_neg h2]
     exact ⟨by simpa using h1, by simpa using h2, rfl⟩
theorem set_law {l : List Root} {nm : ByteArray} {ix gn : Int} (h : (setS l nm ix gn).2 = 0) : rootsS (setS l nm ix gn).1 = true ∧ (setS l nm ix gn).1.length = l.length := by
 unfold setS at h ⊢
 split at h
 · rename_i q; exact absurd h q
 · rename_i q
   have q : (findS l nm).2 = 0 := by simpa using q
   obtain ⟨h1, h2, h3⟩ := findS_ok q
   split at h
   · simp at h
   · rename_i q2
     split at h
     · simp at h
     · rename_i q3
       rw [if_neg (by simpa using q), if_neg q2, if_neg q3]
       have hok := rootsOk_of h1
       obtain ⟨k, hk, hkl⟩ := slotS_nat hok q (by omega)
       rw [hk]
       refine ⟨roots_set h1 (by simpa using hkl) (.inr ⟨h2, by simpa using q2, fun j hj hjk => ?_⟩), by simp⟩
       simp only [Int.toNat_natCast] at hjk
       by_cases hf : (findS l nm).1 < 0
       · rw [h3] at hf
         exact firstS_neg.1 hf j hj
       · have hs : slotS l nm = firstS l nm := by unfold slotS; rw [if_neg hf, h3]
         have hk' := firstS_pos (hs ▸ hk)
         -- j is another one of the same name: it would not be right
         cases hc : ((nth l j).name.toList == nm.toList) with
         | false => rfl
         | true =>
          exfalso
          have hr := (rootsS_iff.1 h1).1
          have hjn : (nth l j).name.toList = nm.toList := by simpa using hc
          have hkn : (nth l k).name.toList = nm.toList := by simpa using hk'.2.1
          have hne := (nameS_pos h2).1
          rcases Nat.lt_or_gt_of_ne hjk with hlt | hgt
          · have := hk'.2.2 j hlt; rw [hc] at this; cases this
          · rcases (rootOk_iff hj).1 (hr j hj) with hz | ⟨_, _, g3⟩
            · exact hne (hjn ▸ isZero_name hz)
            · have := g3 k hgt; rw [hkn, hjn] at this; simp at this
theorem drop_law {l : List Root} {nm : ByteArray} (h : (dropS l nm).2 = 0) : rootsS (dropS l nm).1 = true ∧ (dropS l nm).1.length = l.length := by
 unfold dropS at h ⊢
 split at h
 · rename_i q; exact absurd h q
 · rename_i q
   have q : (findS l nm).2 = 0 := by simpa using q
   obtain ⟨h1, h2, h3⟩ := findS_ok q
   split at h
   · simp at h
   · rename_i q2
     rw [if_neg (by simpa using q), if_neg q2]
     obtain ⟨k, hk, hkl⟩ := findS_nat (rootsOk_of h1) q (by omega)
     rw [hk]
     exact ⟨roots_set h1 (by simpa using hkl) (.inl (by decide +kernel)), by simp⟩

structure Keeps (a : Abs) (o : Op) (x : Eff) : Prop where
 right : rightS x.a = true
 gl : x.a.gens.length = a.gens.length
 rl : x.a.roots.length = a.roots.length
 other : ∀ i : Nat, i < a.gens.length → (i : Int) ≠ (if o.act = 1 then x.ix else o.ix) → nth x.a.gens i = nth a.gens i ∧ nth x.a.data i = nth a.data i
 up : ∀ i, i < a.gens.length → nth a.gens i ≤ nth x.a.gens i
 roots : o.act ≠ 6 → o.act ≠ 8 → x.a.roots = a.roots

theorem kind_act {a o} : (kindS a o = 81 → o.act = 1) ∧ (kindS a o = 82 → o.act ≠ 1) ∧ (85 ≤ kindS a o → o.act ≠ 1 ∧ o.act ≠ 6 ∧ o.act ≠ 8) := by
 unfold kindS
 (repeat' split) <;> omega

theorem right_data {a : Abs} (h : rightS a = true) {k : Nat} {b : List UInt8} (hk : k < a.gens.length) (hb : b.length ≤ 2048) : rightS { a with data := a.data.set k b } = true := by
 obtain ⟨h1, h2, h3⟩ := rightS_iff.1 h
 refine rightS_iff.2 ⟨by simpa using h1, fun i hi => ?_, h3⟩
 have := h2 i hi
 refine ⟨this.1, this.2.1, ?_⟩
 simp only
 rw [nth_set (by omega)]
 split
 · exact hb
 · exact this.2.2

theorem keeps_data {a : Abs} {o : Op} (h : rightS a = true) {k : Nat} {b : List UInt8} (hk : k < a.gens.length) (hb : b.length ≤ 2048) {ix gen : Int} {r : List UInt8} (hix : (if o.act = 1 then ix else o.ix) = k) : Keeps a o ⟨{ a with data := a.data.set k b }, ix, gen, r, 0⟩ := by
 have hl := (rightS_iff.1 h).1.1
 refine ⟨right_data h hk hb, rfl, rfl, fun i hi hne => ⟨rfl, ?_⟩, fun i hi => by simp, fun _ _ => rfl⟩
 simp only at hne ⊢
 rw [hix] at hne
 rw [nth_set (by omega), if_neg (by omega)]

theorem allocIx_spec {a : Abs} {i : Nat} (h : allocIx a = some i) : i < a.gens.length ∧ openS a i = true ∧ ∀ j, j < i → openS a j = false := by
 unfold allocIx at h
 rw [List.find?_range_eq_some] at h
 exact ⟨by simpa using h.2.1, h.1, fun j hj => by simpa using h.2.2 j hj⟩

theorem keeps_same {a : Abs} {o : Op} (h : rightS a = true) {ix gen : Int} {r : List UInt8} : Keeps a o ⟨a, ix, gen, r, 0⟩ :=
 ⟨h, rfl, rfl, fun _ _ _ => ⟨rfl, rfl⟩, fun _ _ => Int.le_refl _, fun _ _ => rfl⟩

theorem splice_length {α : Type} {l b : List α} {i : Nat} (h : i + b.length ≤ l.length) : (Go.splice l i b).length = l.length := by simp [Go.splice]; omega

theorem keeps_ok {a : Abs} {o : Op} (hR : rightS a = true) (he : (doS a o).e = 0) : Keeps a o (doS a o) := by
 have hE : (effS a o).e = 0 := by
  unfold doS at he
  rw [if_neg (by simp [hR])] at he
  split at he
  · exact he
  · exact he
 have hd := doS_ok hR hE
 rw [hd]
 clear he hd
 have hl := (rightS_iff.1 hR).1
 have hs := (rightS_iff.1 hR).2.1
 have hka := @kind_act a o
 have good : 85 ≤ kindS a o → ∃ k : Nat, o.ix = k ∧ o.ix.toNat = k ∧ k < a.gens.length ∧ (if o.act = 1 then (0 : Int) else o.ix) = k := fun h => by
  obtain ⟨k, h1, h2, _, _⟩ := goodS_nat (kindS_good h)
  exact ⟨k, h1, by omega, h2, by rw [if_neg (hka.2.2 h).1]; exact h1⟩
 rcases do_cases a o with hk | ⟨hk, ha⟩ | ⟨hk, ha⟩ | ⟨hk, ha⟩ | hk | hk | ⟨hk, hq⟩ | ⟨hk, hq⟩ | hk | ⟨e, h1, hk⟩
 · have hx : effS a o = allocS a o.n := by simp [effS, hk]
   rw [hx] at hE ⊢
   unfold allocS at hE ⊢
   split at hE
   · simp at hE
   · rename_i hsz
     rw [if_neg hsz]
     have hsz : 1 ≤ o.n ∧ o.n ≤ 2048 := by simpa [sizedS] using hsz
     split at hE
     · rename_i i hi
       have := allocIx_spec hi
       exact keeps_data hR this.1 (by simp; omega) (by rw [if_pos (hka.1 hk)])
     · simp at hE
 · have hx : effS a o = ⟨{ a with roots := (setS a.roots o.name o.ix o.gen).1 }, 0, 0, [], (setS a.roots o.name o.ix o.gen).2⟩ := by simp [effS, hk, rootS, ha]
   rw [hx] at hE ⊢
   simp only at hE
   have := set_law hE
   exact ⟨rightS_iff.2 ⟨hl, hs, this.1⟩, rfl, this.2, fun _ _ _ => ⟨rfl, rfl⟩, fun _ _ => Int.le_refl _, fun h => absurd ha h⟩
 · have hx : effS a o = ⟨a, (getS a.roots o.name).1, (getS a.roots o.name).2.1, [], (getS a.roots o.name).2.2⟩ := by simp [effS, hk, rootS, ha]
   rw [hx] at hE ⊢
   exact ⟨hR, rfl, rfl, fun _ _ _ => ⟨rfl, rfl⟩, fun _ _ => Int.le_refl _, fun _ _ => rfl⟩
 · have hx : effS a o = ⟨{ a with roots := (dropS a.roots o.name).1 }, 0, 0, [], (dropS a.roots o.name).2⟩ := by simp [effS, hk, rootS, ha]
   rw [hx] at hE ⊢
   simp only at hE
   have := drop_law hE
   exact ⟨rightS_iff.2 ⟨hl, hs, this.1⟩, rfl, this.2, fun _ _ _ => ⟨rfl, rfl⟩, fun _ _ => Int.le_refl _, fun _ h => absurd ha h⟩
 · obtain ⟨k, e1, e2, e3, e4⟩ := good (by omega)
   have hx : effS a o = freeS a k := by simp [effS, hk, e2]
   rw [hx]
   have hg := hs k e3
   refine ⟨rightS_iff.2 ⟨by simp [freeS]; omega, fun i hi => ?_, (rightS_iff.1 hR).2.2⟩, by simp, rfl, fun i hi hne => ?_, fun i hi => ?_, fun _ _ => rfl⟩
   · have hi' : i < a.gens.length := by simpa using hi
     have := hs i hi'
     simp only [freeS]
     rw [nth_set e3, nth_set (by omega)]
     split
     · refine ⟨?_, ?_, by simp⟩ <;> omega
     · exact this
   · rw [show (freeS a k).ix = 0 from rfl, e4] at hne
     simp only [freeS]
     rw [nth_set e3, nth_set (by omega), if_neg (by omega), if_neg (by omega)]
     exact ⟨rfl, rfl⟩
   · simp only [freeS]
     rw [nth_set e3]
     split
     · rename_i hik; subst hik; omega
     · exact Int.le_refl _
 · obtain ⟨k, e1, e2, e3, e4⟩ := good (by omega)
   have hx : effS a o = resizeS a k o.n := by simp [effS, hk, e2]
   rw [hx] at hE ⊢
   unfold resizeS at hE ⊢
   split at hE
   · simp at hE
   · rename_i hsz
     rw [if_neg hsz]
     have hsz : 1 ≤ o.n ∧ o.n ≤ 2048 := by simpa [sizedS] using hsz
     exact keeps_data hR e3 (by simp; omega) e4
 · obtain ⟨k, e1, e2, e3, e4⟩ := good (by omega)
   have hx : effS a o = readS a k o.off o.n := by simp [effS, hk, e2]
   rw [e2] at hq
   rw [hx]
   unfold readS
   rw [if_neg (by simp [hq])]
   exact keeps_same hR
 · obtain ⟨k, e1, e2, e3, e4⟩ := good (by omega)
   have hx : effS a o = readS a k o.off o.n := by simp [effS, hk, e2]
   rw [e2] at hq
   rw [hx] at hE
   unfold readS at hE
   rw [if_pos hq] at hE
   simp at hE
 · obtain ⟨k, e1, e2, e3, e4⟩ := good (by omega)
   have hx : effS a o = writeS a k o.off o.b := by simp [effS, hk, e2]
   rw [hx] at hE ⊢
   unfold writeS at hE ⊢
   split at hE
   · simp at hE
   · rename_i hsz
     rw [if_neg hsz]
     have hr : 0 ≤ o.off ∧ o.off ≤ (nth a.data k).length ∧ (o.b.length : Int) ≤ (nth a.data k).length - o.off := by simp [reachS] at hsz; omega
     have := hs k e3
     exact keeps_data hR e3 (by rw [splice_length (by omega)]; exact this.2.2) e4
 · have hx : effS a o = ⟨a, 0, 0, [], e⟩ := by
    have h1 : kindS a o ≠ 81 ∧ kindS a o ≠ 82 ∧ kindS a o ≠ 85 ∧ kindS a o ≠ 86 ∧ kindS a o ≠ 87 ∧ kindS a o ≠ 88 := by omega
    unfold effS
    rw [if_neg h1.1, if_neg h1.2.1, if_neg h1.2.2.1, if_neg h1.2.2.2.1, if_neg h1.2.2.2.2.1, if_neg h1.2.2.2.2.2, hk]
    simp
   rw [hx] at hE
   simp only at hE; omega
theorem doS_err {a : Abs} {o : Op} (h : (doS a o).e ≠ 0) : (doS a o).a = zAbs ∧ (doS a o).b = [] := by
 unfold doS at h ⊢
 split
 · exact ⟨rfl, rfl⟩
 · split
   · exact ⟨rfl, rfl⟩
   · rename_i h1 h2
     rw [if_neg h1, if_neg h2] at h
     exact absurd (by simpa using h2) h
theorem sameL_refl {α : Type} [Inhabited α] {eq : α → α → Bool} (h : ∀ x, eq x x = true) (l : List α) : sameL eq l l = true := sameL_good rfl fun i _ => h _
theorem sameAbs_refl (a : Abs) : sameAbs a a = true := by
 simp only [sameAbs, Bool.and_eq_true]
 exact ⟨sameL_refl (by simp) _, sameL_refl (by simp) _, sameL_refl (by simp [sameRoot]) _⟩
open Go.Awp
theorem doS_right {a : Abs} {o : Op} (h : (doS a o).e = 0) : rightS a = true := by
 cases hr : rightS a with
 | true => rfl
 | false => simp [doS, hr, failS] at h
def opW (ix gn off : Int) (b : List UInt8) : Op := ⟨5, ix, gn, 0, off, b, ⟨#[]⟩⟩
def opR (ix gn off n : Int) : Op := ⟨4, ix, gn, n, off, [], ⟨#[]⟩⟩
def opF (ix gn : Int) : Op := ⟨2, ix, gn, 0, 0, [], ⟨#[]⟩⟩

structure Wrote (a x : Abs) (ix gn off : Int) (b : List UInt8) : Prop where
 right : rightS x = true
 read : doS x (opR ix gn off b.length) = ⟨x, 0, 0, b, 0⟩
 free : (doS x (opF ix gn)).e = 0
 dead : gn ≠ 65535 → ∃ k : Nat, ix = k ∧ k < (doS x (opF ix gn)).a.gens.length ∧ gn < nth (doS x (opF ix gn)).a.gens k

def Gone (y : Abs) (ix gn : Int) : Prop := rightS y = true ∧ (gn ≠ 65535 → ∃ k : Nat, ix = k ∧ k < y.gens.length ∧ gn < nth y.gens k)
open Go.Awp
@[simp] theorem roed_eOp (o : Op) : (eOp o).roed = eOp o := by simp [eOp]
end Go.Proofs
namespace Go.Proofs
instance : Inhabited Op := ⟨⟨0, 0, 0, 0, 0, [], ⟨#[]⟩⟩⟩
open Go.Awp
def opA (n : Int) : Op := ⟨1, 0, 0, n, 0, [], ⟨#[]⟩⟩
def Seen1 (y : Abs) (k v : Int) : Prop := (v = -1 ∧ ∀ j : Nat, k < j → j < y.gens.length → openS y j = false) ∨ (∃ j : Nat, v = j ∧ k < j ∧ j < y.gens.length ∧ openS y j = true ∧ ∀ j' : Nat, k < j' → j' < j → openS y j' = false)
structure Fill (y : Abs) (last : Int) (i : Nat) : Prop where
 right : rightS y = true
 low : (i : Int) - 1 ≤ last
 high : last < y.gens.length
 neg : -1 ≤ last
 full : ∀ j : Nat, (j : Int) ≤ last → openS y j = false
set_option maxHeartbeats 4000000
open Go.Awp
def opZ (ix gn n : Int) : Op := ⟨3, ix, gn, n, 0, [], ⟨#[]⟩⟩
def cutTo (b : List UInt8) (n : Int) : List UInt8 := b.take n.toNat ++ List.replicate (n.toNat - b.length) 0
structure Sized (a : Abs) (ix gn n : Int) (x : Eff) : Prop where
 hn : 1 ≤ n ∧ n ≤ 2048
 ra : rightS a = true
 ex : ∃ k : Nat, ix = k ∧ k < a.gens.length ∧ k < a.data.length ∧ 0 < (nth a.data k).length ∧ nth a.gens k = gn ∧ x.a = { a with data := a.data.set k (cutTo (nth a.data k) n) }
 rx : rightS x.a = true

structure Twice (a : Abs) (ix gn n m : Int) (x y z : Eff) : Prop where
 hm : 1 ≤ m ∧ m ≤ 2048
 ze : z.e = 0
 ry : rightS y.a = true
 rz : rightS z.a = true
 ex : ∃ k : Nat, ix = k ∧ k < a.data.length ∧ x.a.data.length = a.data.length ∧ y.a.data.length = a.data.length ∧ z.a.data.length = a.data.length ∧ nth x.a.data k = cutTo (nth a.data k) n ∧
  nth y.a.data k = cutTo (cutTo (nth a.data k) n) m ∧ nth z.a.data k = cutTo (nth a.data k) m ∧ ((¬ n < (nth a.data k).length ∨ ¬ n < m) → y.a = z.a)

open Go.Awp
theorem do_ok (a : Abs) (o : Op) : (doS a o).a.Ok := by
 by_cases h : (doS a o).e = 0
 · exact right_ok (keeps_ok (doS_right h) h).right
 · rw [(doS_err h).1]; exact ⟨by decide, by decide, by decide, by simp [zAbs], by simp [zAbs]⟩
open Go.Awp
structure Shape where
 pages : Int
 slots : Int
 roots : Int
 room : Int
 deriving Inhabited
def eShape (s : Shape) : D := .agg [vI s.pages, vI s.slots, vI s.roots, vI s.room]
structure Slot where
 gen : Int
 live : Bool
 two : Bool
 at_ : Int
 len : Int
 deriving Inhabited
abbrev vT (b : Bool) : D := .v (.bool b)
def eSlot (s : Slot) : D := .agg [vI s.gen, vT s.live, vT s.two, vI s.at_, vI s.len]
abbrev rSl (x : List Slot) : D := rows 5 eSlot x
abbrev oSl (x : List Slot) : D := ownR 5 eSlot x
@[simp] theorem roed_eSlot (s : Slot) : (eSlot s).roed = eSlot s := by simp [eSlot]
@[simp] theorem snap_eSlot (s : Slot) : (eSlot s).snap = eSlot s := by simp [eSlot]
@[simp] theorem noRo_eSlot (s : Slot) : (eSlot s).noRo = true := by simp [eSlot]
@[simp] theorem noSn_eSlot (s : Slot) : (eSlot s).noSn = true := by simp [eSlot]
@[simp] theorem noOwn_eSlot (s : Slot) : (eSlot s).noOwn = true := by simp [eSlot]
def wordsL : List Int := [2,3,5,7,10,15]
def upS (n : Int) : Int := (n + 4 - 1).tdiv 4 * 4
def needS (n : Int) : Int × Int := if n < 1 ∨ 2048 < n then (0, 1) else (upS (2 + (n + 8 - 1).tdiv 8), 0)
def classS (n : Int) : Int × Bool := if n < 1 ∨ 120 < n then (0, false) else match wordsL.findIdx? (fun w => decide (n ≤ w * 8)) with
 | some i => (i, true)
 | none => (0, false)
def whichS (c off : Int) : Int × Bool := if c < 0 ∨ 6 ≤ c ∨ off < 4 then (0, false)
 else if (off - 4).tmod (nth wordsL c.toNat) ≠ 0 ∨ (28 : Int).tdiv (nth wordsL c.toNat) ≤ (off - 4).tdiv (nth wordsL c.toNat) then (0, false) else ((off - 4).tdiv (nth wordsL c.toNat), true)
def pagesS (n : Int) : Int × Int := if n ≤ 120 ∨ 2048 < n then (0, 1) else ((n + 256 - 1).tdiv 256, 0)
def sizedSh (s : Shape) : Bool := decide (1 ≤ s.pages ∧ s.pages ≤ 64 ∧ 1 ≤ s.room ∧ s.room ≤ 4096 ∧ 2 ≤ s.slots ∧ s.slots ≤ 32 ∧ s.slots.tmod 2 = 0 ∧ 2 ≤ s.roots ∧ s.roots ≤ 8 ∧ s.roots.tmod 2 = 0)
def walS (mark first room n : Int) : Bool := decide (1 ≤ room ∧ room ≤ 4096 ∧ 0 ≤ first ∧ first ≤ n ∧ 2 * room ≤ n - first ∧ 0 ≤ mark ∧ mark < n ∧ (mark < first ∨ 2 * room ≤ mark - first))
def headsS (s : Shape) : Int := 2 + s.room * 2
def tableA (s : Shape) : Int := headsS s + 1
def rootsA (s : Shape) : Int := tableA s + s.slots.tdiv 2
def treeA (s : Shape) : Int := rootsA s + s.roots.tdiv 2
def heapA (s : Shape) : Int := treeA s + 26
def linesA (s : Shape) : Int := heapA s + s.pages * 4
def shapeS (s : Shape) : Bool := sizedSh s && decide (linesA s ≤ 4096)
def superS (s : Shape) (mode base : Int) : Bool := shapeS s && decide (0 ≤ base ∧ base ≤ s.pages) && (if mode = 1 then decide (base = 0) else if mode = 2 then decide (base = s.pages) else decide (mode = 3 ∨ mode = 4))
def slotS1 (s : Slot) : Bool := if s.gen < 0 ∨ 65535 < s.gen then false else if s.live = false then (s.two == false && s.at_ == 0 && s.len == 0) else decide (0 ≤ s.at_ ∧ s.at_ ≤ 2048 ∧ 1 ≤ s.len ∧ s.len ≤ 2048)
def tnewOk (n : Int) : Bool := decide (2 ≤ n ∧ n ≤ 32 ∧ n.tmod 2 = 0)
def zSlot : Slot := ⟨0, false, false, 0, 0⟩
def tableS (l : List Slot) : Bool := (List.range l.length).all (fun i => slotS1 (nth l i)) && tnewOk l.length
open Go.Awp
structure Stt where
 sh : Shape
 mode : Int
 base : Int
 slots : List Slot
 roots : List Root
 data : List (List UInt8)
def eStt (s : Stt) : D := .agg [vI s.sh.pages, vI s.sh.slots, vI s.sh.roots, vI s.sh.room, vI s.mode, vI s.base, rSl s.slots, rR s.roots, rBB s.data]
structure Stt.Ok (s : Stt) : Prop where
 h1 : s.slots.length ≤ 2^40
 h2 : s.roots.length ≤ 2^40
 h3 : s.data.length ≤ 2^40
 h4 : ∀ i, i < s.data.length → (nth s.data i).length ≤ 2^40
 h5 : ∀ i, i < s.roots.length → (nth s.roots i).name.size ≤ 2^40
def eObj (p : Int × Int) : D := .agg [vI p.1, vI p.2]
@[simp] theorem roed_eObj (s) : (eObj s).roed = eObj s := by simp [eObj]
@[simp] theorem snap_eObj (s) : (eObj s).snap = eObj s := by simp [eObj]
@[simp] theorem noRo_eObj (s) : (eObj s).noRo = true := by simp [eObj]
@[simp] theorem noSn_eObj (s) : (eObj s).noSn = true := by simp [eObj]
@[simp] theorem noOwn_eObj (s) : (eObj s).noOwn = true := by simp [eObj]
abbrev rO (x : List (Int × Int)) : D := rows 2 eObj x
abbrev oO (x : List (Int × Int)) : D := ownR 2 eObj x
def isTwo (s : Slot) : Bool := s.live && s.two
def twoIx (l : List Slot) (i : Nat) : List Nat := (List.range i).filter fun j => isTwo (nth l j)
def objAt (l : List Slot) (j : Nat) : Int × Int := ((nth l j).at_, (nth l j).len)
def twosO (l : List Slot) : List (Int × Int) := (twoIx l l.length).map (objAt l)
def twosI (l : List Slot) : List Int := (twoIx l l.length).map fun (j : Nat) => (j : Int)
def liveIx (l : List Slot) (i : Nat) : Nat := ((List.range i).filter fun j => (nth l j).live).length
def lenOk (s : Stt) (i : Nat) : Bool := decide (((nth s.data i).length : Int) = (nth s.slots i).len)
def rowsS (s : Stt) : Bool := decide ((s.slots.length : Int) = s.sh.slots ∧ (s.roots.length : Int) = s.sh.roots ∧ s.data.length = s.slots.length) && (tableS s.slots && (rootsS s.roots && (List.range s.slots.length).all (lenOk s)))
def gapBad (to at_ : Int) (p : Int × Int) : Bool := decide (p.1 < at_ ∨ to < p.1 ∨ p.2 < 4 ∨ to - p.1 < p.2 ∨ p.1.tmod 4 ≠ 0 ∨ p.2.tmod 4 ≠ 0)
def gapsOk (to : Int) : Int → List (Int × Int) → Bool
 | _, [] => true
 | at_, p :: l => !gapBad to at_ p && gapsOk to (p.1 + p.2) l
def gapsHead (fr to : Int) : Bool := decide (0 ≤ fr ∧ fr ≤ to ∧ to ≤ 2048 ∧ fr.tmod 4 = 0 ∧ to.tmod 4 = 0)
def gapsS (fr to : Int) (l : List (Int × Int)) : Bool := gapsHead fr to && gapsOk to fr l
open Go.Awp
open Go.Awp
theorem reach_eq2 {len : Nat} {off n : Int} (h : len ≤ 2^40) : (decide (0 ≤ off) && (decide (off ≤ (len : Int)) && (decide (0 ≤ n) && decide (n ≤ IntKind.i64.wrap ((len : Int) - off))))) = reachS len off n := by
 by_cases h1 : off < 0
 · simp [reachS, h1]; omega
 by_cases h2 : (len : Int) < off
 · simp [reachS, h2]; omega
 rw [wrap64 (by omega) (by omega)]
 simp only [reachS, h1, h2]
 rw [Bool.eq_iff_iff]; simp; omega
theorem findS_first {l : List Root} {nm : ByteArray} (h : (findS l nm).2 = 0) : (findS l nm).1 = firstS l nm := by
 unfold findS at h ⊢
 by_cases q1 : rootsS l = false
 · simp [q1] at h
 by_cases q2 : nameS nm = false
 · simp [q1, q2] at h
 rw [if_neg q1, if_neg q2]
open Go.Awp
structure Spot where
 page : Int
 count : Int
 small : Bool
 cls : Int
 cell : Int
 deriving Inhabited
def eSpot (s : Spot) : D := .agg [vI s.page, vI s.count, vT s.small, vI s.cls, vI s.cell]
@[simp] theorem roed_eSpot (s) : (eSpot s).roed = eSpot s := by simp [eSpot]
@[simp] theorem snap_eSpot (s) : (eSpot s).snap = eSpot s := by simp [eSpot]
@[simp] theorem noRo_eSpot (s) : (eSpot s).noRo = true := by simp [eSpot]
@[simp] theorem noSn_eSpot (s) : (eSpot s).noSn = true := by simp [eSpot]
@[simp] theorem noOwn_eSpot (s) : (eSpot s).noOwn = true := by simp [eSpot]
def spotS (pages : Int) (o : Int × Int) : Spot × Bool :=
 if o.1 < 0 then (⟨0, 0, false, 0, 0⟩, false)
 else if (classS o.2).2 then
  let w := whichS (classS o.2).1 (o.1.tmod 32)
  (⟨o.1.tdiv 32, 1, true, (classS o.2).1, w.1⟩, w.2 && decide (o.1.tdiv 32 < pages))
 else (⟨o.1.tdiv 32, (pagesS o.2).1, false, (classS o.2).1, 0⟩,
   decide ((pagesS o.2).2 = 0) && decide (o.1.tmod 32 = 0) && decide (o.1.tdiv 32 < pages) && decide ((pagesS o.2).1 ≤ pages - o.1.tdiv 32))
open Go.Awp
section
variable {α : Type} [Inhabited α] (lt : α → α → Bool)
def swp (l : List α) (i j : Nat) : List α := if i < l.length ∧ j < l.length then (l.set i (nth l j)).set j (nth l i) else l
def sink (a : Nat) : Nat → List α → List α
 | 0, l => l
 | j + 1, l => if a < j + 1 ∧ lt (nth l (j + 1)) (nth l j) = true then sink a j (swp l (j + 1) j) else l
def insF (a : Nat) : Nat → Nat → List α → List α
 | 0, _, l => l
 | k + 1, i, l => insF a k (i + 1) (sink lt a i l)
def insS (a b : Nat) (l : List α) : List α := insF lt a (b - (a + 1)) (a + 1) l
def swrF (a b : Nat) : Nat → Nat → List α → List α
 | 0, _, l => l
 | k + 1, i, l => swrF a b k (i + 1) (swp l (a + i) (b + i))
def swr (a b n : Nat) (l : List α) : List α := swrF a b n 0 l
def rotF (m : Nat) : Nat → Nat → Nat → List α → List α
 | 0, _, _, l => l
 | f + 1, i, j, l => if i = j then swr (m - i) m i l else if j < i then rotF m f (i - j) j (swr (m - i) m j l) else rotF m f i (j - i) (swr (m - i) (m + j - i) i l)
def rotS (a m b : Nat) (l : List α) : List α := rotF m (m - a + (b - m)) (m - a) (b - m) l
def bsF (p : Nat → Bool) : Nat → Nat → Nat → Nat
 | 0, i, _ => i
 | f + 1, i, j => if i < j then (if p ((i + j) / 2) = true then bsF p f ((i + j) / 2 + 1) j else bsF p f i ((i + j) / 2)) else i
def bsS (p : Nat → Bool) (i j : Nat) : Nat := bsF p (j - i) i j
def upF : Nat → Nat → List α → List α
 | 0, _, l => l
 | k + 1, i, l => upF k (i + 1) (swp l i (i + 1))
def dnF : Nat → Nat → List α → List α
 | 0, _, l => l
 | k + 1, i, l => dnF k (i - 1) (swp l i (i - 1))
def symF : Nat → Nat → Nat → Nat → List α → List α
 | 0, _, _, _, l => l
 | f + 1, a, m, b, l =>
  if m - a = 1 then (let i := bsS (fun h => lt (nth l h) (nth l a)) m b; upF (i - 1 - a) a l)
  else if b - m = 1 then (let i := bsS (fun h => !lt (nth l m) (nth l h)) a m; dnF (m - i) m l)
  else
   let mid := (a + b) / 2
   let n := mid + m
   let s0 := if mid < m then n - b else a
   let r0 := if mid < m then mid else m
   let st := bsS (fun c => !lt (nth l (n - 1 - c)) (nth l c)) s0 r0
   let en := n - st
   let l1 := if st < m ∧ m < en then rotS st m en l else l
   let l2 := if a < st ∧ st < mid then symF f a st mid l1 else l1
   if mid < en ∧ en < b then symF f mid en b l2 else l2
def stableS (l : List α) : List α :=
 if l.length < 20 then insS lt 0 l.length l
 else
  let l2 := insS lt 20 l.length (insS lt 0 20 l)
  if l.length = 20 then l2 else symF lt l.length 0 20 l.length l2

end
open Go.Awp
structure Blk where
 at_ : Int
 len : Int
 slot : Int
 deriving Inhabited
def eBlk (b : Blk) : D := .agg [vI b.at_, vI b.len, vI b.slot]
@[simp] theorem roed_eBlk (s) : (eBlk s).roed = eBlk s := by simp [eBlk]
@[simp] theorem snap_eBlk (s) : (eBlk s).snap = eBlk s := by simp [eBlk]
@[simp] theorem noRo_eBlk (s) : (eBlk s).noRo = true := by simp [eBlk]
@[simp] theorem noSn_eBlk (s) : (eBlk s).noSn = true := by simp [eBlk]
@[simp] theorem noOwn_eBlk (s) : (eBlk s).noOwn = true := by simp [eBlk]
abbrev rBk (x : List Blk) : D := rows 3 eBlk x
abbrev oBk (x : List Blk) : D := ownR 3 eBlk x
def cmpI (a b : Int) : Int := if a < b then -1 else if b < a then 1 else 0
def ltB (x y : Blk) : Bool := decide (cmpI x.at_ y.at_ < 0)
set_option maxHeartbeats 4000000
set_option maxRecDepth 4000
open Go.Awp
open Go.Awp
open Go.Awp
open Go.Awp
open Go.Awp
open Go.Awp
open Go.Awp
section
variable {α : Type} [Inhabited α] (lt : α → α → Bool)
def blkF : Nat → Nat → List α → List α
 | 0, a, l => insS lt a l.length l
 | f + 1, a, l => if a + 20 ≤ l.length then blkF f (a + 20) (insS lt a (a + 20) l) else insS lt a l.length l
def symS (a m b : Nat) (l : List α) : List α := symF lt (b - a) a m b l
def lastP (bs a : Nat) (l : List α) : List α := if a + bs < l.length then symS lt a (a + bs) l.length l else l
def pairF (bs : Nat) : Nat → Nat → List α → List α
 | 0, a, l => lastP lt bs a l
 | f + 1, a, l => if a + 2 * bs ≤ l.length then pairF bs f (a + 2 * bs) (symS lt a (a + bs) (a + 2 * bs) l) else lastP lt bs a l
def mrgF : Nat → Nat → List α → List α
 | 0, _, l => l
 | f + 1, bs, l => if bs < l.length then mrgF f (2 * bs) (pairF lt bs l.length 0 l) else l
def stS (l : List α) : List α := mrgF lt l.length 20 (blkF lt l.length 0 l)
variable {lt}
end
set_option maxHeartbeats 4000000
set_option maxRecDepth 4000
open Go.Awp
open Go.Awp
open Go.Awp
open Go.Awp
open Go.Awp
def isOne (s : Slot) : Bool := s.live && !s.two
def oneIx (l : List Slot) (i : Nat) : List Nat := (List.range i).filter fun j => isOne (nth l j)
def blkAt (l : List Slot) (j : Nat) : Blk := ⟨(nth l j).at_, (needS (nth l j).len).1, j⟩
def onesR (l : List Slot) : List Blk := (oneIx l l.length).map (blkAt l)
def onesS (l : List Slot) : List Blk := stS ltB (onesR l)
open Go.Awp
abbrev vU (m : Nat) : D := .v (.int .u64 m)
def cU (m : Nat) : AV := .d (vU m)
@[simp] theorem lts_cU (m : Nat) (l : List Nat) : AV.lts m (l.map cU) = true := by
 induction l with
 | nil => rfl
 | cons a l ih => simp [AV.lts, AV.lt, cU, ih]
@[simp] theorem lts_cU_set (m : Nat) (l : List Nat) (p x : Nat) : AV.lts m ((l.map cU).set p (cU x)) = true := by rw [← List.map_set]; exact lts_cU _ _
def fillF (p : Nat) : Nat → Nat → List Int → Bool × List Int
 | 0, _, l => (true, l)
 | f + 1, j, l => if nth l (p + j) = -1 then fillF p f (j + 1) (l.set (p + j) 7) else (false, l)
def layS (ks : List Int) (ms : List Nat) (p k : Nat) (small : Bool) (cls : Int) (c : Nat) : Bool × List Int × List Nat :=
 if small = true then
  if nth ks p = cls ∧ nth ms p &&& 2 ^ c = 0 then (true, ks, ms.set p (nth ms p ||| 2 ^ c))
  else if nth ks p = -1 then (true, ks.set p cls, ms.set p (2 ^ c))
  else (false, ks, ms)
 else if (fillF p k 0 ks).1 = true then (true, (fillF p k 0 ks).2.set p 6, ms) else (false, (fillF p k 0 ks).2, ms)
open Go.Awp
open Go.Awp
open Go.Awp
def layO (pages : Int) (st : List Int × List Nat) (o : Int × Int) : Bool × List Int × List Nat :=
 if (spotS pages o).2 = true then layS st.1 st.2 (spotS pages o).1.page.toNat (spotS pages o).1.count.toNat (spotS pages o).1.small (spotS pages o).1.cls (spotS pages o).1.cell.toNat else (false, st)
def stI (pages : Int) (l : List (Int × Int)) : Nat → List Int × List Nat
 | 0 => (List.replicate pages.toNat (-1), List.replicate 64 0)
 | i + 1 => (layO pages (stI pages l i) (nth l i)).2
def okI (pages : Int) (l : List (Int × Int)) (i : Nat) : Bool := (layO pages (stI pages l i) (nth l i)).1
def laidS (pages : Int) (l : List (Int × Int)) : Option (List Int × List Nat) :=
 if decide (0 ≤ pages ∧ pages ≤ 64) && (List.range l.length).all (okI pages l) then some (stI pages l l.length) else none
def fillL (n i : Nat) : List Int := List.replicate i (-1) ++ List.replicate (n - i) 0
open Go.Awp
open Go.Awp
open Go.Awp
open Go.Awp
open Go.Awp
theorem ct119 (g : Gl) (c : Int) : CtAt Try.prog g 119 [.v (.int .i32 c)] (.v (.bool (mayS c))) := by
 refine ctAt_of_W Try.func119 rfl rfl (Nat.le_of_ble_eq_true rfl) fun B S => ?_
 refine xU ?_
 refine xO ?_
 refine xF [0] ?_
 refine W_seq (W_block ?_)
 refine W_seq (xU ?_)
 iterate 3 refine xO ?_
 refine xF [0,3] ?_
 refine W_cond rfl ?_ ?_
 · intro h3
   refine W_skip ?_
   rintro -
   refine W_cond rfl ?_ ?_
   · intro h3'
     refine xU ?_
     refine xO ?_
     refine xF [2] ?_
     refine W_ret (xR (by simp [Try.f119]; exact .mk) ?_)
     simp [mayS] at * <;> omega
   intro h3'
   refine W_skip ?_
   refine xT ?_
   refine xO ?_
   refine xF [2] ?_
   refine W_ret (xR (by simp [Try.f119]; exact .mk) ?_)
   simp [mayS] at * <;> omega
 intro h3
 refine xU ?_
 iterate 3 refine xO ?_
 iterate 2 (refine run_if rfl (by simp; exact .mk) rfl (by simp <;> omega) (fun hb => by simp; exact .mk) ?_)
 refine xP ?_
 refine run_op1 rfl rfl rfl (by simp <;> omega) (by simp; exact .mk) ?_
 refine run_end [0,3] (by simp <;> omega) (by simp; exact .mk) ?_
 rintro -
 refine W_cond rfl ?_ ?_
 · intro h3'
   refine W_skip ?_
   rintro -
   refine W_cond rfl ?_ ?_
   · intro h3''
     refine xU ?_
     refine xO ?_
     refine xF [2] ?_
     refine W_ret (xR (by simp [Try.f119]; exact .mk) ?_)
     simp [mayS] at * <;> omega
   intro h3''
   refine W_skip ?_
   refine xT ?_
   refine xO ?_
   refine xF [2] ?_
   refine W_ret (xR (by simp [Try.f119]; exact .mk) ?_)
   simp [mayS] at * <;> omega
 intro h3'
 refine W_reg rfl ?_
 iterate 3 refine xO ?_
 refine xF [3] ?_
 refine W_cond rfl ?_ ?_
 · intro h3''
   refine xU ?_
   refine xO ?_
   refine xF [2] ?_
   refine W_ret (xR (by simp [Try.f119]; exact .mk) ?_)
   simp [mayS] at * <;> omega
 intro h3''
 refine W_skip ?_
 refine xT ?_
 refine xO ?_
 refine xF [2] ?_
 refine W_ret (xR (by simp [Try.f119]; exact .mk) ?_)
 simp [mayS] at * <;> omega

theorem ct94 (g : Gl) (a b : Int) : CtAt Try.prog g 94 [.agg [vI a, vI b]] (.v (.bool (handleS a b))) := by
 refine ctAt_of_W Try.func94 rfl rfl (Nat.le_of_ble_eq_true rfl) fun B S => ?_
 refine xU ?_
 iterate 2 refine xO ?_
 refine xG [1] ?_
 iterate 4 refine xO ?_
 iterate 3 (refine run_if rfl (by simp; exact .mk) rfl (by simp <;> omega) (fun hb => by simp; exact .mk) ?_)
 refine xP ?_
 refine run_op1 rfl rfl rfl (by simp <;> omega) (by simp; exact .mk) ?_
 iterate 3 (refine run_if rfl (by simp; exact .mk) rfl (by simp <;> omega) (fun hb => by simp; exact .mk) ?_)
 refine xP ?_
 refine run_op1 rfl rfl rfl (by simp <;> omega) (by simp; exact .mk) ?_
 iterate 3 (refine run_if rfl (by simp; exact .mk) rfl (by simp <;> omega) (fun hb => by simp; exact .mk) ?_)
 refine xP ?_
 refine run_op1 rfl rfl rfl (by simp <;> omega) (by simp; exact .mk) ?_
 refine run_end [2] (by simp <;> omega) (by simp; exact .mk) ?_
 rintro -
 refine W_ret (xR (by simp [Try.f94]; exact .mk) ?_)
 simp [handleS]

theorem ct83 (g : Gl) (s : ByteArray) (hs : s.size ≤ 2^40) : CtAt Try.prog g 83 [vS s] (.v (.bool (nameS s))) := by
 refine ctAt_of_W Try.func83 rfl rfl (Nat.le_of_ble_eq_true rfl) fun B S => ?_
 refine xU ?_
 refine xO ?_
 refine xF [0] ?_
 refine W_seq (xU ?_)
 iterate 2 refine xO ?_
 refine xF [0,6] ?_
 refine W_block (W_rounds (fun m σ o => ∃ pos : Nat, m = s.size + 1 - pos ∧ runesOk s pos = runesOk s 0 ∧ σ = slots [(0, .d (vS s)), (6, .ptr 0 0 0)] ∧ o = [.it s pos]) (s.size + 1) .refl ⟨0, by simp, rfl, rfl, rfl⟩ ?_)
 rintro m σ o ⟨pos, rfl, hinv, rfl, rfl⟩ _
 refine W_seq ?_
 by_cases hp : pos < s.size
 · skip
   refine W_reg rfl ?_
   refine xO ?_ (h := by simp [hp]; exact .mk)
   refine xO ?_
   refine xF [0,6,7,8] ?_
   refine W_seq (W_cond rfl ?_ ?_)
   · intro h8
     refine W_skip ?_
     rintro -
     refine W_block (xU ?_)
     iterate 2 refine xO ?_
     refine xG [0,4,6] ?_
     refine xO ?_
     refine xC (ct119 g _) ?_
     refine xO ?_
     refine xF [0,6,12] ?_
     refine W_cond rfl ?_ ?_
     · intro h12
       have hr : runesOk s 0 = false := by rw [← hinv, runesOk]; simp at h12; simp [hp, h12]
       refine xU ?_
       refine xO ?_
       refine xF [2] ?_
       refine W_ret (xR (by simp [Try.f83]; exact .mk) ?_)
       simp [nameS, hr]
     intro h12
     refine W_skip ?_
     refine rounds_kill [0,6] ?_
     refine rounds_next (m' := s.size + 1 - (pos + (Utf8.decode s pos).2)) (by have := decode_pos s pos; omega) ⟨pos + (Utf8.decode s pos).2, rfl, ?_, rfl, rfl⟩
     rw [← hinv]; conv => rhs; rw [runesOk]
     simp at h12; simp [hp, h12]
   intro h8
   simp at h8
 skip
 refine W_reg rfl ?_
 refine xO ?_ (h := by simp [hp]; exact .mk)
 refine xO ?_
 refine xF [0,6,7,8] ?_
 refine W_seq (W_cond rfl ?_ ?_)
 · intro h8
   simp at h8
 intro h8
 refine W_exit ?_
 rintro -
 refine W_seq ?_
 have hr : runesOk s 0 = true := by rw [← hinv, runesOk]; simp [hp]
 refine W_reg rfl ?_
 iterate 3 refine xO ?_
 iterate 3 (refine run_if rfl (by simp; exact .mk) rfl (by simp <;> omega) (fun hb => by simp; exact .mk) ?_)
 refine xP ?_
 refine run_op1 rfl rfl rfl (by simp <;> omega) (by simp; exact .mk) ?_
 refine run_end [2] (by simp <;> omega) (by simp; exact .mk) ?_
 rintro -
 refine W_ret (xR (by simp [Try.f83]; exact .mk) ?_)
 simp [nameS, hr]

open Go.Awp
theorem in123 (g : Gl) (nm : ByteArray) (r : Root) (a b c : D) : ∀ B S, CallsA Try.prog g B S ⟨2, true⟩ 123 [.agg [.d (vS r.name), .d (vI r.ix), .d (vI r.gen)], .ptr 0 0 0] [.var 9 [.d (vS nm)], .var 76 [.d a, .d b, .d c]]
    (fun q o => q = .d (.v (.bool (r.name.toList == nm.toList))) ∧ o = [.var 9 [.d (vS nm)], .var 76 [.d a, .d b, .d c]]) := by
 refine callsA_at Try.func123 rfl (Nat.le_of_ble_eq_true rfl) fun B S => ?_
 refine xU ?_
 iterate 2 refine xO ?_
 refine xG [1,2] ?_
 iterate 5 refine xO ?_
 refine xF [3] ?_
 refine W_ret (endAt_drop 2 (by simp [Try.f123]; exact .mk) ?_ ?_ (by simp) (by simp) (by simp))
 · rfl
 rfl

theorem in122 (g : Gl) (l : List Root) (nm : ByteArray) (hl : l.length ≤ 2^40) : ∀ B S, CallsA Try.prog g B S ⟨1, true⟩ 122 [.d (rR l), .fn (.func 123) [] [.ptr 0 0 0]] [.var 9 [.d (vS nm)]]
    (fun a o => a = .d (vI (firstS l nm)) ∧ o = [.var 9 [.d (vS nm)]]) := by
 refine callsA_at Try.func122 rfl (Nat.le_of_ble_eq_true rfl) fun B S => ?_
 refine xU ?_
 refine xO ?_
 refine xF [0,1] ?_
 refine W_seq (xU ?_)
 iterate 3 refine xO ?_
 refine xF [1,7,8,9] ?_
 refine W_block (W_rounds (fun m σ o => ∃ i : Nat, m = l.length - i ∧ i ≤ l.length ∧ (∀ j, j < i → ((nth l j).name.toList == nm.toList) = false) ∧ σ = slots [(1, .fn (.func 123) [] [.ptr 0 0 0]), (7, .d (rR l)), (8, .d (vI l.length)), (9, .d (vI i))] ∧ o = [.var 9 [.d (vS nm)]]) l.length .refl ⟨0, by simp, by simp, by simp, rfl, rfl⟩ ?_)
 rintro m σ o ⟨i, rfl, hi, hinv, rfl, rfl⟩ _
 refine xU ?_
 refine xO ?_
 refine xF [1,7,8,9,10] ?_
 refine W_seq (W_cond rfl ?_ ?_)
 · intro h10
   have hi2 : i < l.length := by simpa using h10
   refine W_skip ?_
   rintro -
   refine W_seq (W_block ?_)
   refine xU ?_
   refine xO ?_
   refine xO ?_ (h := by simp [eRoot, *]; exact .mk)
   refine xO ?_ (h := by simp [eRoot]; exact .mk)
   iterate 2 refine xO ?_
   refine xO ?_ (h := by simp [splice]; exact .mk)
   refine xG [1,5,6,7,8,9] ?_
   refine xO ?_
   refine xO ?_ (h := by simp [eRoot]; exact .mk)
   refine run_inl0 rfl rfl rfl rfl (by simp; exact .mk) ⟨_, Try.func123, rfl, rfl⟩ (in123 g nm (nth l i) _ _ _) (.inr ⟨[], rfl⟩) ?_
   refine xF [1,5,7,8,9,16] ?_
   refine W_cond rfl ?_ ?_
   · intro h16
     have hr : firstS l nm = i := firstS_at hi2 hinv h16
     refine xU ?_
     iterate 2 refine xO ?_
     refine xF [4] ?_
     refine W_ret (endAt_drop 1 (by simp [Try.f122]; exact .mk) ?_ ?_ (by simp) (by simp) (by simp))
     · rw [hr]; rfl
     rfl
   intro h16
   refine W_skip ?_
   rintro -
   refine W_reg rfl ?_
   iterate 2 refine xO ?_
   refine xE [1,7,8,9] ?_
   refine rounds_drop 1 [1,7,8,9] (by simp) (by simp) (by simp) ?_
   refine rounds_next (m' := l.length - (i+1)) (by omega) ⟨i+1, rfl, by omega, ?_, ?_, rfl⟩
   · intro j hj
     rcases Nat.lt_succ_iff_lt_or_eq.1 hj with hj | rfl
     · exact hinv j hj
     exact h16
   rw [wrap64 (by omega) (by omega)]; rfl
 intro h10
 have hr : firstS l nm = -1 := firstS_none (fun j hj => hinv j (by simp at h10; omega))
 refine W_exit (xT ?_)
 refine xO ?_
 refine xF [4] ?_
 refine W_ret (endAt_drop 1 (by simp [Try.f122]; exact .mk) ?_ ?_ (by simp) (by simp) (by simp))
 · rw [hr]; rfl
 rfl

theorem ct95 (g : Gl) (l : List Root) (nm : ByteArray) (hl : l.length ≤ 2^40) : CtAt Try.prog g 95 [rR l, vS nm] (vI (firstS l nm)) := by
 refine ctAt_of_W Try.func95 rfl rfl (Nat.le_of_ble_eq_true rfl) fun B S => ?_
 refine xU ?_
 iterate 2 refine xO ?_
 refine xG [0,3] ?_
 iterate 2 refine xO ?_
 refine run_inl0 rfl rfl rfl rfl (by simp; exact .mk) ⟨_, Try.func122, rfl, rfl⟩ (in122 g l nm hl) (.inr ⟨[], rfl⟩) ?_
 refine xO ?_
 refine xF [4] ?_
 refine W_ret (xR (by simp [Try.f95]; exact .mk) ?_)
 simp [nrmR, nrmK]

theorem ct96 (g : Gl) (n : Int) : CtAt Try.prog g 96 [vI n] (.tup [oR (if newOk n then List.replicate n.toNat zRoot else []), vI (if newOk n then 0 else 1)]) := by
 refine ctAt_of_W Try.func96 rfl rfl (Nat.le_of_ble_eq_true rfl) fun B S => ?_
 refine xU ?_
 iterate 2 refine xO ?_
 refine xF [0] ?_
 refine W_seq (xU ?_)
 iterate 3 refine xO ?_
 iterate 2 (refine run_if rfl (by simp; exact .mk) rfl (by simp <;> omega) (fun hb => by simp; exact .mk) ?_)
 refine xP ?_
 refine run_op1 rfl rfl rfl (by simp <;> omega) (by simp; exact .mk) ?_
 iterate 3 (refine run_if rfl (by simp; exact .mk) rfl (by simp <;> omega) (fun hb => by simp; exact .mk) ?_)
 refine xP ?_
 refine run_end [0,14] (by simp <;> omega) (by simp; exact .mk) ?_
 rintro -
 refine W_cond rfl ?_ ?_
 · intro h14
   have hr : newOk n = false := by simp at h14; simp [newOk]; omega
   refine xU ?_
   iterate 2 refine xO ?_
   refine xF [2,3] ?_
   refine W_ret (xR (by simp [Try.f96]; exact .mk) ?_)
   simp [Try.f96, hr, ownR, eRoot, zRoot]
 intro h14
 have hr : newOk n = true := by simp at h14; simp [newOk]; omega
 have hn : 2 ≤ n ∧ n ≤ 8 := by simp at h14; omega
 refine W_skip ?_
 rintro -
 refine W_seq ?_
 have e1 : 0 ≤ n := by omega
 have e2 : 32 * n ≤ 140737488355328 := by omega
 have e3 : n ≤ 140737488355328 := by omega
 refine W_reg rfl ?_
 refine xO ?_
 refine xO ?_ (h := by simp [e1, e2, e3]; exact .mk)
 iterate 2 refine xO ?_
 refine xF [2,3] ?_
 refine W_ret (xR (by simp [Try.f96]; exact .mk) ?_)
 simp [Try.f96, hr, ownR, eRoot, zRoot]

open Go.Awp
theorem ct54 (g : Gl) (l : List Root) (hl : l.length ≤ 2^40) (hn : ∀ i, i < l.length → (nth l i).name.size ≤ 2^40) : CtAt Try.prog g 54 [rR l] (.v (.bool (rootsS l))) := by
 refine ctAt_of_W Try.func54 rfl rfl (Nat.le_of_ble_eq_true rfl) fun B S => ?_
 refine xU ?_
 refine xO ?_
 refine xF [0] ?_
 refine W_seq (xU ?_)
 iterate 3 refine xO ?_
 refine xF [0,7,8,9] ?_
 refine W_block (W_rounds (fun m σ o => ∃ i : Nat, m = l.length - i ∧ i ≤ l.length ∧ (∀ j, j < i → rootOk l j = true) ∧ σ = slots [(0, .d (rR l)), (7, .d (rR l)), (8, .d (vI l.length)), (9, .d (vI i))] ∧ o = []) l.length .refl ⟨0, by simp, by simp, by simp, rfl, rfl⟩ ?_)
 rintro m σ o ⟨i, rfl, hi, hinv, rfl, rfl⟩ _
 refine xU ?_
 refine xO ?_
 refine xF [0,7,8,9,10] ?_
 refine W_seq (W_cond rfl ?_ ?_)
 · intro h10
   have hi2 : i < l.length := by simpa using h10
   refine W_skip ?_
   rintro -
   refine W_seq (W_block ?_)
   refine xU ?_
   refine xO ?_
   refine xO ?_ (h := by simp [eRoot, *]; exact .mk)
   refine xO ?_ (h := by simp [eRoot]; exact .mk)
   iterate 2 refine xO ?_
   refine xO ?_ (h := by simp [splice]; exact .mk)
   refine xF [0,3,4,7,8,9] ?_
   refine W_block (xU ?_)
   refine xO ?_ (h := by simp [eRoot]; exact .mk)
   refine xO ?_ (h := by simp [splice]; exact .mk)
   iterate 2 refine xO ?_
   refine xF [0,3,4,7,8,9,14] ?_
   refine W_cond rfl ?_ ?_
   · intro h14
     refine W_skip ?_
     rintro -
     refine W_reg rfl ?_
     iterate 2 refine xO ?_
     refine xE [0,7,8,9] ?_
     refine rounds_drop 0 [0,7,8,9] (by simp) (by simp) (by simp) ?_
     refine rounds_next (m' := l.length - (i+1)) (by omega) ⟨i+1, rfl, by omega, ?_, ?_, rfl⟩
     · intro j hj
       rcases Nat.lt_succ_iff_lt_or_eq.1 hj with hj | rfl
       · exact hinv j hj
       simp [rootOk, isZero] at *; simp_all
     rw [wrap64 (by omega) (by omega)]; rfl
   intro h14
   refine W_seq (xU ?_)
   refine xO ?_
   refine xO ?_ (h := by simp [eRoot]; exact .mk)
   refine xC (ct83 g _ (hn i hi2)) ?_
   iterate 2 refine xO ?_
   refine xF [0,3,4,7,8,9,18] ?_
   refine W_cond rfl ?_ ?_
   · intro h18
     refine W_skip ?_
     rintro -
     refine W_cond rfl ?_ ?_
     · intro h18'
       refine W_seq ?_
       have hr : rootsS l = false := roots_bad hi2 (by simp [rootOk, isZero] at *; simp_all)
       refine W_reg rfl ?_
       refine xO ?_
       refine xF [2] ?_
       refine W_ret (xR (by simp [Try.f54]; exact .mk) ?_)
       simp [Try.f54, hr]
       try (cases newOk l.length <;> rfl)
     intro h18'
     refine W_skip ?_
     rintro -
     refine W_reg rfl ?_
     iterate 2 refine xO ?_
     refine xE [0,7,8,9] ?_
     refine rounds_drop 0 [0,7,8,9] (by simp) (by simp) (by simp) ?_
     refine rounds_next (m' := l.length - (i+1)) (by omega) ⟨i+1, rfl, by omega, ?_, ?_, rfl⟩
     · intro j hj
       rcases Nat.lt_succ_iff_lt_or_eq.1 hj with hj | rfl
       · exact hinv j hj
       simp [rootOk, isZero] at *; simp_all
     rw [wrap64 (by omega) (by omega)]; rfl
   intro h18
   refine xU ?_
   refine xO ?_
   refine xO ?_ (h := by simp [eRoot]; exact .mk)
   refine xC (ct94 g _ _) ?_
   iterate 2 refine xO ?_
   refine xF [0,3,4,7,8,9,18] ?_
   refine W_cond rfl ?_ ?_
   · intro h18'
     refine W_skip ?_
     rintro -
     refine W_cond rfl ?_ ?_
     · intro h18''
       refine W_seq ?_
       have hr : rootsS l = false := roots_bad hi2 (by simp [rootOk, isZero] at *; simp_all)
       refine W_reg rfl ?_
       refine xO ?_
       refine xF [2] ?_
       refine W_ret (xR (by simp [Try.f54]; exact .mk) ?_)
       simp [Try.f54, hr]
       try (cases newOk l.length <;> rfl)
     intro h18''
     refine W_skip ?_
     rintro -
     refine W_reg rfl ?_
     iterate 2 refine xO ?_
     refine xE [0,7,8,9] ?_
     refine rounds_drop 0 [0,7,8,9] (by simp) (by simp) (by simp) ?_
     refine rounds_next (m' := l.length - (i+1)) (by omega) ⟨i+1, rfl, by omega, ?_, ?_, rfl⟩
     · intro j hj
       rcases Nat.lt_succ_iff_lt_or_eq.1 hj with hj | rfl
       · exact hinv j hj
       simp [rootOk, isZero] at *; simp_all
     rw [wrap64 (by omega) (by omega)]; rfl
   intro h18'
   refine W_regD (by kernel_rfl) [] 4 [0,1,2,3,4,5,6,7] (by decide +kernel) ?_
   iterate 2 refine xO ?_
   refine xO ?_ (h := by simp [optA, *]; exact .mk)
   refine xO ?_
   refine xO ?_ (h := by simp [eRoot]; exact .mk)
   refine run_call0 rfl rfl rfl rfl (by simp; exact .mk) (by simp; exact .mk) (by have := ct95 g (l.take i) (nth l i).name (by simp; omega); exact this) (by simp) (by simp; exact .mk) ?_
   iterate 2 refine xO ?_
   refine xF [0,7,8,9,18] ?_
   refine W_cond rfl ?_ ?_
   · intro h18''
     refine W_seq ?_
     have hr : rootsS l = false := roots_bad hi2 (by simp [rootOk, isZero] at *; simp_all)
     refine W_reg rfl ?_
     refine xO ?_
     refine xF [2] ?_
     refine W_ret (xR (by simp [Try.f54]; exact .mk) ?_)
     simp [Try.f54, hr]
     try (cases newOk l.length <;> rfl)
   intro h18''
   refine W_skip ?_
   rintro -
   refine W_reg rfl ?_
   iterate 2 refine xO ?_
   refine xE [0,7,8,9] ?_
   refine rounds_drop 0 [0,7,8,9] (by simp) (by simp) (by simp) ?_
   refine rounds_next (m' := l.length - (i+1)) (by omega) ⟨i+1, rfl, by omega, ?_, ?_, rfl⟩
   · intro j hj
     rcases Nat.lt_succ_iff_lt_or_eq.1 hj with hj | rfl
     · exact hinv j hj
     simp [rootOk, isZero] at *; simp_all
   rw [wrap64 (by omega) (by omega)]; rfl
 intro h10
 refine W_exit ?_
 rintro -
 refine W_seq ?_
 have hr : rootsS l = newOk l.length := roots_good (fun j hj => hinv j (by simp at h10; omega))
 refine W_reg rfl ?_
 iterate 2 refine xO ?_
 refine xC (ct96 g _) ?_
 iterate 5 refine xO ?_
 refine xG [6] ?_
 iterate 3 refine xO ?_
 refine xF [2] ?_
 refine W_ret (xR (by simp [Try.f54]; exact .mk) ?_)
 simp [Try.f54, hr]
 try (cases newOk l.length <;> rfl)

open Go.Awp
open Go.Awp
open Go.Awp
def spanOf (b : Blk) : Int × Int := (b.at_, b.len)
def spansS (l : List Slot) : List (Int × Int) := (onesS l).map spanOf
def modeOk (s : Stt) : Bool := if s.mode = 1 then decide ((twosO s.slots).length = 0) else if s.mode = 2 then decide ((spansS s.slots).length = 0) else true
def sttS (s : Stt) : Bool := superS s.sh s.mode s.base && (rowsS s && ((laidS s.base (twosO s.slots)).isSome && (gapsS (s.base * 32) (s.sh.pages * 32) (spansS s.slots) && modeOk s)))
theorem take_succ {α : Type} [Inhabited α] {l : List α} {i : Nat} (h : i < l.length) : l.take (i + 1) = l.take i ++ [nth l i] := by
 rw [List.take_succ_eq_append_getElem h, nth_eq h]
open Go.Awp
open Go.Awp
def oStt (s : Stt) : D := .agg [vI s.sh.pages, vI s.sh.slots, vI s.sh.roots, vI s.sh.room, vI s.mode, vI s.base, oSl s.slots, oR s.roots, oBB s.data]
@[simp] theorem noSn_oStt (s : Stt) : (oStt s).noSn = true := by simp [oStt]
@[simp] theorem noRo_oStt (s : Stt) : (oStt s).noRo = true := by simp [oStt]
def zStt : Stt := ⟨⟨0, 0, 0, 0⟩, 0, 0, [], [], []⟩
def baseOf (sh : Shape) (mode : Int) : Int := if mode = 2 then sh.pages else 0
def firstStt (sh : Shape) (mode : Int) : Stt := ⟨sh, mode, baseOf sh mode, List.replicate sh.slots.toNat zSlot, List.replicate sh.roots.toNat zRoot, List.replicate sh.slots.toNat []⟩
def newS (sh : Shape) (mode : Int) : Stt × Int := if superS sh mode (baseOf sh mode) && decide (mode ≤ 2) then (firstStt sh mode, 0) else (zStt, 1)
def fewStt (s : Stt) : Bool := (List.range (min s.data.length 100)).all (fun i => decide (((nth s.data i).length : Int) ≤ 4096)) && ((List.range (min s.roots.length 100)).all (fun i => decide (((nth s.roots i).name.size : Int) ≤ 1024))
  && (decide ((s.slots.length : Int) ≤ 60) && (decide ((s.roots.length : Int) ≤ 60) && decide ((s.data.length : Int) ≤ 60))))
def sh4 : Shape := ⟨4, 4, 2, 30⟩
open Go.Awp
open Go.Awp
open Go.Awp
theorem ct25 (g : Gl) (a : Abs) (ha : a.Ok) : CtAt Try.prog g 25 [eAbs a] (.v (.bool (rightS a))) := by
 refine ctAt_of_W Try.func25 rfl rfl (Nat.le_of_ble_eq_true rfl) fun B S => ?_
 simp only [eAbs, List.map, argD_agg]
 refine xU ?_
 iterate 2 refine xO ?_
 refine xG [1] ?_
 iterate 4 refine xO ?_
 refine xF [1,3] ?_
 refine W_seq (xU ?_)
 iterate 6 refine xO ?_
 iterate 2 (refine run_if rfl (by simp; exact .mk) rfl (by simp <;> omega) (fun hb => by simp; exact .mk) ?_)
 refine xP ?_
 refine run_op1 rfl rfl rfl (by simp <;> omega) (by simp; exact .mk) ?_
 iterate 2 (refine run_if rfl (by simp; exact .mk) rfl (by simp <;> omega) (fun hb => by simp; exact .mk) ?_)
 refine xP ?_
 refine run_op1 rfl rfl rfl (by simp <;> omega) (by simp; exact .mk) ?_
 iterate 3 (refine run_if rfl (by simp; exact .mk) rfl (by simp <;> omega) (fun hb => by simp; exact .mk) ?_)
 refine xP ?_
 refine run_end [1,26] (by simp <;> omega) (by simp; exact .mk) ?_
 rintro -
 refine W_cond rfl ?_ ?_
 · intro h26
   have hr : rightS a = false := right_len (by simp [lensOk] at *; omega)
   refine xU ?_
   refine xO ?_
   refine xF [2] ?_
   refine W_ret (xR (by simp [Try.f25]; exact .mk) ?_)
   simp [Try.f25, hr]
 intro h26
 have h0 : lensOk a = true := by simp [lensOk] at *; omega
 have hgd : a.gens.length = a.data.length := by simp [lensOk] at h0; omega
 refine W_skip ?_
 rintro -
 refine W_seq (xU ?_)
 iterate 4 refine xO ?_
 refine xF [1,28,29,30] ?_
 refine W_block (W_rounds (fun m σ o => ∃ i : Nat, m = a.gens.length - i ∧ i ≤ a.gens.length ∧ (∀ j, j < i → slotOk a j = true) ∧ σ = slots [(1, .ptr 0 0 0), (28, .d (rI a.gens)), (29, .d (vI a.gens.length)), (30, .d (vI i))] ∧ o = [.var 26 [.d (rI a.gens), .d (rBB a.data), .d (rR a.roots)]]) a.gens.length .refl ⟨0, by simp, by simp, by simp, rfl, rfl⟩ ?_)
 have q1 := ha.h1
 rintro m σ o ⟨i, rfl, hi, hinv, rfl, rfl⟩ _
 refine xU ?_
 refine xO ?_
 refine xF [1,28,29,30,31] ?_
 refine W_seq (W_cond rfl ?_ ?_)
 · intro h31
   have hi2 : i < a.gens.length := by simpa using h31
   have hi3 : i < a.data.length := by omega
   refine W_skip ?_
   rintro -
   refine W_seq (W_block ?_)
   refine xU ?_
   refine xO ?_
   refine xO ?_ (h := by simp [*]; exact .mk)
   iterate 3 refine xO ?_
   refine xG [1,4,5,28,29,30] ?_
   iterate 3 refine xO ?_
   iterate 2 (refine run_if rfl (by simp; exact .mk) rfl (by simp <;> omega) (fun hb => by simp; exact .mk) ?_)
   refine xP ?_
   refine run_op1 rfl rfl rfl (by simp <;> omega) (by simp; exact .mk) ?_
   iterate 3 (refine run_if rfl (by simp; exact .mk) rfl (by simp <;> omega) (fun hb => by simp; exact .mk) ?_)
   refine run_if rfl (by simp; exact .mk) rfl (by simp <;> omega) (fun hb => by simp [*]; exact .mk) ?_
   iterate 3 (refine run_if rfl (by simp; exact .mk) rfl (by simp <;> omega) (fun hb => by simp; exact .mk) ?_)
   refine xP ?_
   refine run_end [1,28,29,30,49] (by simp <;> omega) (by simp; exact .mk) ?_
   rintro -
   refine W_cond rfl ?_ ?_
   · intro h49
     refine W_seq ?_
     have hr : rightS a = false := right_bad hi2 (by simp [slotOk] at *; omega)
     refine W_reg rfl ?_
     refine xO ?_
     refine xF [2] ?_
     refine W_ret (xR (by simp [Try.f25]; exact .mk) ?_)
     simp [Try.f25, hr]
   intro h49
   refine W_skip ?_
   rintro -
   refine W_reg rfl ?_
   iterate 2 refine xO ?_
   refine xE [1,28,29,30] ?_
   refine rounds_kill [1,28,29,30] ?_
   refine rounds_next (m' := a.gens.length - (i+1)) (by omega) ⟨i+1, rfl, by omega, ?_, ?_, rfl⟩
   · intro j hj
     rcases Nat.lt_succ_iff_lt_or_eq.1 hj with hj | rfl
     · exact hinv j hj
     simp [slotOk] at *; omega
   rw [wrap64 (by omega) (by omega)]; rfl
 intro h31
 refine W_exit ?_
 rintro -
 refine W_seq ?_
 have hr : rightS a = rootsS a.roots := right_good h0 (fun j hj => hinv j (by simp at h31; omega))
 refine W_reg rfl ?_
 iterate 2 refine xO ?_
 refine xC (ct54 g _ ha.h3 ha.h5) ?_
 refine xO ?_
 refine xF [2] ?_
 refine W_ret (xR (by simp [Try.f25]; exact .mk) ?_)
 simp [Try.f25, hr]

theorem ct43 (g : Gl) (x y : List Int) (hx : x.length ≤ 2^40) : CtAt Try.prog g 43 [rI x, rI y] (.v (.bool (sameL (fun a b => a == b) x y))) := by
 refine ctAt_of_W Try.func43 rfl rfl (Nat.le_of_ble_eq_true rfl) fun B S => ?_
 refine xU ?_
 refine xO ?_
 refine xF [0,1] ?_
 refine W_seq (xU ?_)
 iterate 5 refine xO ?_
 refine xF [0,1,10] ?_
 refine W_cond rfl ?_ ?_
 · intro h10
   have hr : sameL (fun a b => a == b) x y = false := sameL_len (by simp at h10; omega)
   refine xU ?_
   refine xO ?_
   refine xF [4] ?_
   refine W_ret (xR (by simp [Try.f43]; exact .mk) ?_)
   simp [Try.f43, hr]
 intro h10
 have hxy : x.length = y.length := by simp at h10; omega
 refine W_skip ?_
 rintro -
 refine W_seq (xU ?_)
 refine xO ?_
 refine xF [0,1,5] ?_
 refine W_block (W_rounds (fun m σ o => ∃ i : Nat, m = x.length - i ∧ i ≤ x.length ∧ (∀ j, j < i → (fun a b => a == b) (nth x j) (nth y j) = true) ∧ σ = slots [(0, .d (rI x)), (1, .d (rI y)), (5, .d (vI i))] ∧ o = []) x.length .refl ⟨0, by simp, by simp, by simp, rfl, rfl⟩ ?_)
 rintro m σ o ⟨i, rfl, hi, hinv, rfl, rfl⟩ _
 refine W_seq (xU ?_)
 iterate 4 refine xO ?_
 refine xF [0,1,5,14] ?_
 refine W_cond rfl ?_ ?_
 · intro h14
   have h2 : i < x.length := by simpa using h14
   have h3 : i < y.length := by omega
   refine W_skip ?_
   rintro -
   refine W_seq (W_block ?_)
   refine W_seq ?_
   refine W_regD (by kernel_rfl) [] 4 [0,1,2,3,4,5,6,7,8] (by decide +kernel) ?_
   iterate 2 refine xO ?_
   refine xO ?_ (h := by simp [*]; exact .mk)
   iterate 3 refine xO ?_
   refine xO ?_ (h := by simp [*]; exact .mk)
   iterate 2 refine xO ?_
   refine xF [0,1,5,25] ?_
   refine W_cond rfl ?_ ?_
   · intro h25
     have hr : sameL (fun a b => a == b) x y = false := sameL_bad h2 (by simpa using h25)
     refine xU ?_
     refine xO ?_
     refine xF [4] ?_
     refine W_ret (xR (by simp [Try.f43]; exact .mk) ?_)
     simp [Try.f43, hr]
   intro h25
   refine W_skip ?_
   rintro -
   refine W_reg rfl ?_
   iterate 3 refine xO ?_
   refine xE [0,1,5] ?_
   refine rounds_kill [0,1,5] ?_
   refine rounds_next (m' := x.length - (i+1)) (by omega) ⟨i+1, rfl, by omega, ?_, ?_, rfl⟩
   · intro j hj
     rcases Nat.lt_succ_iff_lt_or_eq.1 hj with hj | rfl
     · exact hinv j hj
     simpa using h25
   rw [wrap64 (by omega) (by omega)]; rfl
 intro h14
 have hr : sameL (fun a b => a == b) x y = true := sameL_good hxy (fun j hj => hinv j (by simp at h14; omega))
 refine W_exit (xT ?_)
 refine xO ?_
 refine xF [4] ?_
 refine W_ret (xR (by simp [Try.f43]; exact .mk) ?_)
 simp [Try.f43, hr]

theorem ct44 (g : Gl) (x y : List (List UInt8)) (hx : x.length ≤ 2^40) : CtAt Try.prog g 44 [rBB x, rBB y] (.v (.bool (sameL (fun a b => (str a).toList == (str b).toList) x y))) := by
 refine ctAt_of_W Try.func44 rfl rfl (Nat.le_of_ble_eq_true rfl) fun B S => ?_
 refine xU ?_
 refine xO ?_
 refine xF [0,1] ?_
 refine W_seq (xU ?_)
 iterate 5 refine xO ?_
 refine xF [0,1,10] ?_
 refine W_cond rfl ?_ ?_
 · intro h10
   have hr : sameL (fun a b => (str a).toList == (str b).toList) x y = false := sameL_len (by simp at h10; omega)
   refine xU ?_
   refine xO ?_
   refine xF [4] ?_
   refine W_ret (xR (by simp [Try.f44]; exact .mk) ?_)
   simp [Try.f44, hr]
 intro h10
 have hxy : x.length = y.length := by simp at h10; omega
 refine W_skip ?_
 rintro -
 refine W_seq (xU ?_)
 refine xO ?_
 refine xF [0,1,5] ?_
 refine W_block (W_rounds (fun m σ o => ∃ i : Nat, m = x.length - i ∧ i ≤ x.length ∧ (∀ j, j < i → (fun a b => (str a).toList == (str b).toList) (nth x j) (nth y j) = true) ∧ σ = slots [(0, .d (rBB x)), (1, .d (rBB y)), (5, .d (vI i))] ∧ o = []) x.length .refl ⟨0, by simp, by simp, by simp, rfl, rfl⟩ ?_)
 rintro m σ o ⟨i, rfl, hi, hinv, rfl, rfl⟩ _
 refine W_seq (xU ?_)
 iterate 4 refine xO ?_
 refine xF [0,1,5,14] ?_
 refine W_cond rfl ?_ ?_
 · intro h14
   have h2 : i < x.length := by simpa using h14
   have h3 : i < y.length := by omega
   refine W_skip ?_
   rintro -
   refine W_seq (W_block ?_)
   refine W_seq ?_
   refine W_regD (by kernel_rfl) [] 4 [0,1,2,3,5,6,7,8,4,9,10] (by decide +kernel) ?_
   iterate 2 refine xO ?_
   refine xO ?_ (h := by simp [*]; exact .mk)
   iterate 3 refine xO ?_
   refine xO ?_ (h := by simp [*]; exact .mk)
   refine xO ?_
   iterate 2 (refine xO ?_ (h := by simp [conv_rB]; exact .mk))
   refine xO ?_
   refine xF [0,1,5,27] ?_
   refine W_cond rfl ?_ ?_
   · intro h27
     have hr : sameL (fun a b => (str a).toList == (str b).toList) x y = false := sameL_bad h2 (by simpa using h27)
     refine xU ?_
     refine xO ?_
     refine xF [4] ?_
     refine W_ret (xR (by simp [Try.f44]; exact .mk) ?_)
     simp [Try.f44, hr]
   intro h27
   refine W_skip ?_
   rintro -
   refine W_reg rfl ?_
   iterate 3 refine xO ?_
   refine xE [0,1,5] ?_
   refine rounds_kill [0,1,5] ?_
   refine rounds_next (m' := x.length - (i+1)) (by omega) ⟨i+1, rfl, by omega, ?_, ?_, rfl⟩
   · intro j hj
     rcases Nat.lt_succ_iff_lt_or_eq.1 hj with hj | rfl
     · exact hinv j hj
     simpa using h27
   rw [wrap64 (by omega) (by omega)]; rfl
 intro h14
 have hr : sameL (fun a b => (str a).toList == (str b).toList) x y = true := sameL_good hxy (fun j hj => hinv j (by simp at h14; omega))
 refine W_exit (xT ?_)
 refine xO ?_
 refine xF [4] ?_
 refine W_ret (xR (by simp [Try.f44]; exact .mk) ?_)
 simp [Try.f44, hr]

theorem ct45 (g : Gl) (x y : List Root) (hx : x.length ≤ 2^40) : CtAt Try.prog g 45 [rR x, rR y] (.v (.bool (sameL sameRoot x y))) := by
 refine ctAt_of_W Try.func45 rfl rfl (Nat.le_of_ble_eq_true rfl) fun B S => ?_
 refine xU ?_
 refine xO ?_
 refine xF [0,1] ?_
 refine W_seq (xU ?_)
 iterate 5 refine xO ?_
 refine xF [0,1,10] ?_
 refine W_cond rfl ?_ ?_
 · intro h10
   have hr : sameL sameRoot x y = false := sameL_len (by simp at h10; omega)
   refine xU ?_
   refine xO ?_
   refine xF [4] ?_
   refine W_ret (xR (by simp [Try.f45]; exact .mk) ?_)
   simp [Try.f45, hr]
 intro h10
 have hxy : x.length = y.length := by simp at h10; omega
 refine W_skip ?_
 rintro -
 refine W_seq (xU ?_)
 refine xO ?_
 refine xF [0,1,5] ?_
 refine W_block (W_rounds (fun m σ o => ∃ i : Nat, m = x.length - i ∧ i ≤ x.length ∧ (∀ j, j < i → sameRoot (nth x j) (nth y j) = true) ∧ σ = slots [(0, .d (rR x)), (1, .d (rR y)), (5, .d (vI i))] ∧ o = []) x.length .refl ⟨0, by simp, by simp, by simp, rfl, rfl⟩ ?_)
 rintro m σ o ⟨i, rfl, hi, hinv, rfl, rfl⟩ _
 refine W_seq (xU ?_)
 iterate 4 refine xO ?_
 refine xF [0,1,5,14] ?_
 refine W_cond rfl ?_ ?_
 · intro h14
   have h2 : i < x.length := by simpa using h14
   have h3 : i < y.length := by omega
   refine W_skip ?_
   rintro -
   refine W_seq (W_block ?_)
   refine W_seq ?_
   refine W_regD (by kernel_rfl) [] 4 [0,1,2,3,4,5,6,7,8] (by decide +kernel) ?_
   iterate 2 refine xO ?_
   refine xO ?_ (h := by simp [eRoot, *]; exact .mk)
   refine xO ?_ (h := by simp [eRoot]; exact .mk)
   iterate 2 refine xO ?_
   refine xO ?_ (h := by simp [eRoot, *]; exact .mk)
   refine xO ?_ (h := by simp [eRoot]; exact .mk)
   refine xO ?_
   refine xF [0,1,5,25] ?_
   refine W_cond rfl ?_ ?_
   · intro h25
     have hr : sameL sameRoot x y = false := sameL_bad h2 (and3_f h25)
     refine xU ?_
     refine xO ?_
     refine xF [4] ?_
     refine W_ret (xR (by simp [Try.f45]; exact .mk) ?_)
     simp [Try.f45, hr]
   intro h25
   refine W_skip ?_
   rintro -
   refine W_reg rfl ?_
   iterate 3 refine xO ?_
   refine xE [0,1,5] ?_
   refine rounds_kill [0,1,5] ?_
   refine rounds_next (m' := x.length - (i+1)) (by omega) ⟨i+1, rfl, by omega, ?_, ?_, rfl⟩
   · intro j hj
     rcases Nat.lt_succ_iff_lt_or_eq.1 hj with hj | rfl
     · exact hinv j hj
     exact and3_t h25
   rw [wrap64 (by omega) (by omega)]; rfl
 intro h14
 have hr : sameL sameRoot x y = true := sameL_good hxy (fun j hj => hinv j (by simp at h14; omega))
 refine W_exit (xT ?_)
 refine xO ?_
 refine xF [4] ?_
 refine W_ret (xR (by simp [Try.f45]; exact .mk) ?_)
 simp [Try.f45, hr]

theorem ct115 (g : Gl) (n : Int) : CtAt Try.prog g 115 [vI n] (.v (.bool (decide (1 ≤ n) && decide (n ≤ 2048)))) := by
 refine ctAt_of_W Try.func115 rfl rfl (Nat.le_of_ble_eq_true rfl) fun B S => ?_
 refine xU ?_
 refine xO ?_
 refine xG [0] ?_
 iterate 3 refine xO ?_
 iterate 2 (refine run_if rfl (by simp; exact .mk) rfl (by simp <;> omega) (fun hb => by simp; exact .mk) ?_)
 refine xP ?_
 refine run_op1 rfl rfl rfl (by simp <;> omega) (by simp; exact .mk) ?_
 refine run_end [2] (by simp <;> omega) (by simp; exact .mk) ?_
 rintro -
 refine W_ret (xR (by simp [Try.f115]; exact .mk) ?_)
 simp [Try.f115]

theorem ct16 (g : Gl) (a b : Abs) (ha : a.Ok) : CtAt Try.prog g 16 [eAbs a, eAbs b] (.v (.bool (sameAbs a b))) := by
 refine ctAt_of_W Try.func16 rfl rfl (Nat.le_of_ble_eq_true rfl) fun B S => ?_
 simp only [eAbs, List.map, argD_agg]
 refine xU ?_
 iterate 3 refine xO ?_
 refine xG [2,3] ?_
 iterate 4 refine xO ?_
 refine xC (ct43 g _ _ ha.h1) ?_
 refine xO ?_
 iterate 4 (refine run_if rfl (by simp; exact .mk) rfl (by simp <;> omega) (fun hb => by simp; exact .mk) ?_)
 refine run_call rfl (by simp; exact .mk) rfl rfl (by simp) (by simp; exact .mk) (by simp; exact .mk) (fun hb => ct44 g _ _ ha.h2) (by simp) (by simp; exact .mk) (by simp) ?_
 refine xP ?_
 refine run_op1 rfl rfl rfl (by simp <;> omega) (by simp; exact .mk) ?_
 iterate 4 (refine run_if rfl (by simp; exact .mk) rfl (by simp <;> omega) (fun hb => by simp; exact .mk) ?_)
 refine run_call rfl (by simp; exact .mk) rfl rfl (by simp) (by simp; exact .mk) (by simp; exact .mk) (fun hb => ct45 g _ _ ha.h3) (by simp) (by simp; exact .mk) (by simp) ?_
 refine xP ?_
 refine run_op1 rfl rfl rfl (by simp <;> omega) (by simp; exact .mk) ?_
 refine run_end [4] (by simp <;> omega) (by simp; exact .mk) ?_
 rintro -
 refine W_ret (xR (by simp [Try.f16]; exact .mk) ?_)
 simp [Try.f16, sameAbs, Bool.and_assoc]

theorem ct11 (g : Gl) (o : Op) : CtAt Try.prog g 11 [eOp o] (.v (.bool (fewOp o))) := by
 refine ctAt_of_W Try.func11 rfl rfl (Nat.le_of_ble_eq_true rfl) fun B S => ?_
 simp only [eOp, List.map, argD_agg]
 refine xU ?_
 iterate 2 refine xO ?_
 refine xG [1] ?_
 iterate 5 refine xO ?_
 iterate 4 (refine run_if rfl (by simp; exact .mk) rfl (by simp <;> omega) (fun hb => by simp; exact .mk) ?_)
 refine xP ?_
 refine run_op1 rfl rfl rfl (by simp <;> omega) (by simp; exact .mk) ?_
 refine run_end [2] (by simp <;> omega) (by simp; exact .mk) ?_
 rintro -
 refine W_ret (xR (by simp [Try.f11]; exact .mk) ?_)
 simp [Try.f11, fewOp]

theorem ct84 (g : Gl) (a : Abs) (ix gn : Int) (hl : a.data.length = a.gens.length) : CtAt Try.prog g 84 [eAbs a, .agg [vI ix, vI gn]] (.v (.bool (goodS a ix gn))) := by
 refine ctAt_of_W Try.func84 rfl rfl (Nat.le_of_ble_eq_true rfl) fun B S => ?_
 simp only [eAbs, List.map, argD_agg]
 refine xU ?_
 iterate 3 refine xO ?_
 refine xF [2,3] ?_
 refine W_seq ?_
 refine W_regD (by kernel_rfl) [] 4 [0,1,2,3,4,5,6,7,8,9,10,11,12,13,14,15,16,17,18,19,20,21,22,23,24,25,26,27,28,29,30,31,32] (by decide +kernel) ?_
 iterate 4 refine xO ?_
 iterate 6 (refine run_if rfl (by simp; exact .mk) rfl (by simp <;> omega) (fun hb => by simp; exact .mk) ?_)
 refine xP ?_
 refine run_op1 rfl rfl rfl (by simp <;> omega) (by simp; exact .mk) ?_
 iterate 4 (refine run_if rfl (by simp; exact .mk) rfl (by simp <;> omega) (fun hb => by simp; exact .mk) ?_)
 refine run_if rfl (by simp; exact .mk) rfl (by simp <;> omega) (fun hb => by simp at hb; simp [show 0 ≤ ix ∧ ix < a.data.length from by omega]; exact .mk) ?_
 iterate 3 (refine run_if rfl (by simp; exact .mk) rfl (by simp <;> omega) (fun hb => by simp; exact .mk) ?_)
 refine xP ?_
 refine run_op1 rfl rfl rfl (by simp <;> omega) (by simp; exact .mk) ?_
 iterate 4 (refine run_if rfl (by simp; exact .mk) rfl (by simp <;> omega) (fun hb => by simp; exact .mk) ?_)
 refine run_if rfl (by simp; exact .mk) rfl (by simp <;> omega) (fun hb => by simp at hb; simp [show 0 ≤ ix ∧ ix < a.gens.length from by omega]; exact .mk) ?_
 iterate 4 (refine run_if rfl (by simp; exact .mk) rfl (by simp <;> omega) (fun hb => by simp; exact .mk) ?_)
 refine xP ?_
 refine run_op1 rfl rfl rfl (by simp <;> omega) (by simp; exact .mk) ?_
 refine run_end [4] (by simp <;> omega) (by simp; exact .mk) ?_
 rintro -
 refine W_ret (xR (by simp [Try.f84]; exact .mk) ?_)
 simp [Try.f84, goodS, Bool.and_assoc]

open Go.Awp
theorem ct51 (g : Gl) (x y : List UInt8) : CtAt Try.prog g 51 [rB x, rB y] (.v (.bool ((str x).toList == (str y).toList))) := by
 refine ctAt_of_W Try.func51 rfl rfl (Nat.le_of_ble_eq_true rfl) fun B S => ?_
 refine xU ?_
 refine xO ?_
 refine xG [0,1] ?_
 refine xO ?_
 refine xO ?_ (h := by simp [conv_rB]; exact .mk)
 refine xO ?_
 refine xO ?_ (h := by simp [conv_rB]; exact .mk)
 iterate 2 refine xO ?_
 refine xF [4] ?_
 refine W_ret (xR (by simp [Try.f51]; exact .mk) ?_)
 simp [Try.f51]

open Go.Awp
theorem ct78 (g : Gl) (l : List Int) (hl : l.length ≤ 2^40) : CtAt Try.prog g 78 [rI l] (oI l) := by
 refine ctAt_of_W Try.func78 rfl rfl (Nat.le_of_ble_eq_true rfl) fun B S => ?_
 refine xU ?_
 refine xO ?_
 refine xF [0] ?_
 refine W_seq (W_seq ?_)
 refine W_region rfl (WR_cut (hard := []) [0] [1] ?_)
 refine xO ?_
 refine xE [0,3] ?_
 refine WR_nilcmp rfl rfl rfl (.inl rfl) rfl ⟨_, Try.underlying22⟩ (by simp; rfl) ?_
 intro nb hnb
 refine WR_run (hard := []) ?_
 refine xF [0,4] ?_
 refine W_cond rfl ?_ ?_
 · intro h4
   have hl0 : l = [] := List.eq_nil_of_length_eq_zero (hnb (by simpa using h4))
   subst hl0
   refine xU ?_
   refine xO ?_
   refine xF [2] ?_
   refine W_ret (xR (by simp [Try.f78]; exact .mk) ?_)
   simp [Try.f78, ownR]
 intro h4
 refine W_skip ?_
 rintro -
 refine W_seq ?_
 have e1 : l.length * 32 ≤ 140737488355328 := by omega
 have e2 : l.length ≤ 140737488355328 := by omega
 have e3 : l.length * 8 ≤ 140737488355328 := by omega
 refine W_reg rfl ?_
 iterate 2 refine xO ?_
 refine xO ?_ (h := by simp [rows, e1, e2, e3]; exact .mk)
 refine xO ?_
 refine xF [2] ?_
 refine W_ret (xR (by simp [Try.f78]; exact .mk) ?_)
 simp [Try.f78, ownR]

theorem ct52 (g : Gl) (l : List Root) (hl : l.length ≤ 2^40) : CtAt Try.prog g 52 [rR l] (oR l) := by
 refine ctAt_of_W Try.func52 rfl rfl (Nat.le_of_ble_eq_true rfl) fun B S => ?_
 refine xU ?_
 refine xO ?_
 refine xF [0] ?_
 refine W_seq (W_seq ?_)
 refine W_region rfl (WR_cut (hard := []) [0] [1] ?_)
 refine xO ?_
 refine xE [0,3] ?_
 refine WR_nilcmp rfl rfl rfl (.inl rfl) rfl ⟨_, Try.underlying24⟩ (by simp; rfl) ?_
 intro nb hnb
 refine WR_run (hard := []) ?_
 refine xF [0,4] ?_
 refine W_cond rfl ?_ ?_
 · intro h4
   have hl0 : l = [] := List.eq_nil_of_length_eq_zero (hnb (by simpa using h4))
   subst hl0
   refine xU ?_
   refine xO ?_
   refine xF [2] ?_
   refine W_ret (xR (by simp [Try.f52]; exact .mk) ?_)
   simp [Try.f52, ownR]
 intro h4
 refine W_skip ?_
 rintro -
 refine W_seq ?_
 have e1 : l.length * 32 ≤ 140737488355328 := by omega
 have e2 : l.length ≤ 140737488355328 := by omega
 have e3 : l.length * 8 ≤ 140737488355328 := by omega
 refine W_reg rfl ?_
 iterate 2 refine xO ?_
 refine xO ?_ (h := by simp [rows, e1, e2, e3]; exact .mk)
 refine xO ?_
 refine xF [2] ?_
 refine W_ret (xR (by simp [Try.f52]; exact .mk) ?_)
 simp [Try.f52, ownR]

theorem ct53 (g : Gl) (l : List UInt8) (hl : l.length ≤ 2^40) : CtAt Try.prog g 53 [rB l] (oB l) := by
 refine ctAt_of_W Try.func53 rfl rfl (Nat.le_of_ble_eq_true rfl) fun B S => ?_
 refine xU ?_
 refine xO ?_
 refine xF [0] ?_
 refine W_seq (W_seq ?_)
 refine W_region rfl (WR_cut (hard := []) [0] [1] ?_)
 refine xO ?_
 refine xE [0,3] ?_
 refine WR_nilcmp rfl rfl rfl (.inl rfl) rfl ⟨_, Try.underlying29⟩ (by simp; rfl) ?_
 intro nb hnb
 refine WR_run (hard := []) ?_
 refine xF [0,4] ?_
 refine W_cond rfl ?_ ?_
 · intro h4
   have hl0 : l = [] := List.eq_nil_of_length_eq_zero (hnb (by simpa using h4))
   subst hl0
   refine xU ?_
   refine xO ?_
   refine xF [2] ?_
   refine W_ret (xR (by simp [Try.f53]; exact .mk) ?_)
   simp [Try.f53, ownR]
 intro h4
 refine W_skip ?_
 rintro -
 refine W_seq ?_
 have e1 : l.length * 32 ≤ 140737488355328 := by omega
 have e2 : l.length ≤ 140737488355328 := by omega
 have e3 : l.length * 8 ≤ 140737488355328 := by omega
 refine W_reg rfl ?_
 iterate 2 refine xO ?_
 refine xO ?_ (h := by simp [rows, e1, e2, e3]; exact .mk)
 refine xO ?_
 refine xF [2] ?_
 refine W_ret (xR (by simp [Try.f53]; exact .mk) ?_)
 simp [Try.f53, ownR]

end Go.Proofs
