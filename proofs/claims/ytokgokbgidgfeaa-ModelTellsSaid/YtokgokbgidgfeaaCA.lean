/- Contracts of the program's functions and plain facts, for arguments as each lemma says. -/
import Derived.Test.YtokgokbgidgfeaaAwpD
import Derived.Test.YtokgokbgidgfeaaProg
import Derived.KernelRfl
import Derived.Test.YtokgokbgidgfeaaAwpC
import Derived.Test.YtokgokbgidgfeaaRows
set_option linter.all false
namespace Go.Proofs
open Go.Awp
@[simp] theorem ty1 : ty Try.prog 1 = some ⟨1, 8, .fn, [.nilFunc]⟩ := by kernel_rfl
@[simp] theorem ty2 : ty Try.prog 2 = some ⟨1, 8, .int .i64, [.int .i64 0]⟩ := by kernel_rfl
@[simp] theorem ty3 : ty Try.prog 3 = some ⟨1, 8, .int .i64, [.int .i64 0]⟩ := by kernel_rfl
@[simp] theorem ty4 : ty Try.prog 4 = some ⟨1, 1, .bool, [.bool false]⟩ := by kernel_rfl
@[simp] theorem ty5 : ty Try.prog 5 = some ⟨1, 1, .int .u8, [.int .u8 0]⟩ := by kernel_rfl
@[simp] theorem ty6 : ty Try.prog 6 = some ⟨1, 1, .int .u8, [.int .u8 0]⟩ := by kernel_rfl
@[simp] theorem ty7 : ty Try.prog 7 = some ⟨4, 24, .struct [(2, 0), (3, 1), (4, 2), (6, 3)], [.int .i64 0, .int .i64 0, .bool false, .int .u8 0]⟩ := by kernel_rfl
@[simp] theorem ty8 : ty Try.prog 8 = some ⟨4, 24, .struct [(2, 0), (3, 1), (4, 2), (6, 3)], [.int .i64 0, .int .i64 0, .bool false, .int .u8 0]⟩ := by kernel_rfl
@[simp] theorem ty9 : ty Try.prog 9 = some ⟨1, 16, .str, [.string ⟨#[]⟩]⟩ := by kernel_rfl
@[simp] theorem ty21 : ty Try.prog 21 = some ⟨1, 4, .int .i32, [.int .i32 0]⟩ := by kernel_rfl
@[simp] theorem ty22 : ty Try.prog 22 = some ⟨1, 24, .slice 3, [.slice none 0 0]⟩ := by kernel_rfl
@[simp] theorem ty23 : ty Try.prog 23 = some ⟨1, 24, .slice 29, [.slice none 0 0]⟩ := by kernel_rfl
@[simp] theorem ty24 : ty Try.prog 24 = some ⟨1, 24, .slice 76, [.slice none 0 0]⟩ := by kernel_rfl
@[simp] theorem ty26 : ty Try.prog 26 = some ⟨3, 72, .struct [(22, 0), (23, 1), (24, 2)], [.slice none 0 0, .slice none 0 0, .slice none 0 0]⟩ := by kernel_rfl
@[simp] theorem ty28 : ty Try.prog 28 = some ⟨2, 16, .struct [(3, 0), (3, 1)], [.int .i64 0, .int .i64 0]⟩ := by kernel_rfl
@[simp] theorem ty29 : ty Try.prog 29 = some ⟨1, 24, .slice 5, [.slice none 0 0]⟩ := by kernel_rfl
@[simp] theorem ty31 : ty Try.prog 31 = some ⟨7, 80, .struct [(3, 0), (28, 1), (3, 3), (3, 4), (29, 5), (9, 6)], [.int .i64 0, .int .i64 0, .int .i64 0, .int .i64 0, .int .i64 0, .slice none 0 0, .string ⟨#[]⟩]⟩ := by kernel_rfl
@[simp] theorem ty32 : ty Try.prog 32 = some ⟨1, 8, .fn, [.nilFunc]⟩ := by kernel_rfl
@[simp] theorem ty38 : ty Try.prog 38 = some ⟨3, 40, .struct [(28, 0), (29, 2)], [.int .i64 0, .int .i64 0, .slice none 0 0]⟩ := by kernel_rfl
@[simp] theorem ty39 : ty Try.prog 39 = some ⟨1, 8, .int .i64, [.int .i64 0]⟩ := by kernel_rfl
@[simp] theorem ty42 : ty Try.prog 42 = some ⟨1, 8, .fn, [.nilFunc]⟩ := by kernel_rfl
@[simp] theorem ty49 : ty Try.prog 49 = some ⟨4, 32, .struct [(3, 0), (3, 1), (3, 2), (3, 3)], [.int .i64 0, .int .i64 0, .int .i64 0, .int .i64 0]⟩ := by kernel_rfl
@[simp] theorem ty50 : ty Try.prog 50 = some ⟨1, 24, .slice 60, [.slice none 0 0]⟩ := by kernel_rfl
@[simp] theorem ty52 : ty Try.prog 52 = some ⟨9, 120, .struct [(49, 0), (3, 4), (3, 5), (50, 6), (24, 7), (23, 8)], [.int .i64 0, .int .i64 0, .int .i64 0, .int .i64 0, .int .i64 0, .int .i64 0, .slice none 0 0, .slice none 0 0, .slice none 0 0]⟩ := by kernel_rfl
@[simp] theorem ty60 : ty Try.prog 60 = some ⟨5, 32, .struct [(3, 0), (4, 1), (4, 2), (3, 3), (3, 4)], [.int .i64 0, .bool false, .bool false, .int .i64 0, .int .i64 0]⟩ := by kernel_rfl
@[simp] theorem ty76 : ty Try.prog 76 = some ⟨3, 32, .struct [(9, 0), (28, 1)], [.string ⟨#[]⟩, .int .i64 0, .int .i64 0]⟩ := by kernel_rfl
@[simp] theorem ty77 : ty Try.prog 77 = some ⟨1, 8, .ptr 79, [.pointer none]⟩ := by kernel_rfl
@[simp] theorem ty79 : ty Try.prog 79 = some ⟨6, 112, .struct [(26, 0), (38, 3)], [.slice none 0 0, .slice none 0 0, .slice none 0 0, .int .i64 0, .int .i64 0, .slice none 0 0]⟩ := by kernel_rfl
@[simp] theorem ty80 : ty Try.prog 80 = some ⟨1, 8, .fn, [.nilFunc]⟩ := by kernel_rfl
@[simp] theorem ty92 : ty Try.prog 92 = some ⟨1, 24, .slice 98, [.slice none 0 0]⟩ := by kernel_rfl
@[simp] theorem ty93 : ty Try.prog 93 = some ⟨1, 24, .slice 96, [.slice none 0 0]⟩ := by kernel_rfl
@[simp] theorem ty96 : ty Try.prog 96 = some ⟨3, 24, .struct [(3, 0), (3, 1), (3, 2)], [.int .i64 0, .int .i64 0, .int .i64 0]⟩ := by kernel_rfl
@[simp] theorem ty98 : ty Try.prog 98 = some ⟨2, 16, .struct [(3, 0), (3, 1)], [.int .i64 0, .int .i64 0]⟩ := by kernel_rfl
@[simp] theorem ty99 : ty Try.prog 99 = some ⟨1, 24, .slice 141, [.slice none 0 0]⟩ := by kernel_rfl
@[simp] theorem ty121 : ty Try.prog 121 = some ⟨1, 8, .fn, [.nilFunc]⟩ := by kernel_rfl
@[simp] theorem ty139 : ty Try.prog 139 = some ⟨1, 8, .fn, [.nilFunc]⟩ := by kernel_rfl
@[simp] theorem ty141 : ty Try.prog 141 = some ⟨2, 16, .struct [(3, 0), (3, 1)], [.int .i64 0, .int .i64 0]⟩ := by kernel_rfl
@[simp] theorem ty142 : ty Try.prog 142 = some ⟨1, 8, .ptr 148, [.pointer none]⟩ := by kernel_rfl
@[simp] theorem ty145 : ty Try.prog 145 = some ⟨1, 8, .int .u64, [.int .u64 0]⟩ := by kernel_rfl
@[simp] theorem ty146 : ty Try.prog 146 = some ⟨64, 512, .array 64 145, [.int .u64 0, .int .u64 0, .int .u64 0, .int .u64 0, .int .u64 0, .int .u64 0, .int .u64 0, .int .u64 0, .int .u64 0, .int .u64 0, .int .u64 0, .int .u64 0, .int .u64 0, .int .u64 0, .int .u64 0, .int .u64 0, .int .u64 0, .int .u64 0, .int .u64 0, .int .u64 0, .int .u64 0, .int .u64 0, .int .u64 0, .int .u64 0, .int .u64 0, .int .u64 0, .int .u64 0, .int .u64 0, .int .u64 0, .int .u64 0, .int .u64 0, .int .u64 0, .int .u64 0, .int .u64 0, .int .u64 0, .int .u64 0, .int .u64 0, .int .u64 0, .int .u64 0, .int .u64 0, .int .u64 0, .int .u64 0, .int .u64 0, .int .u64 0, .int .u64 0, .int .u64 0, .int .u64 0, .int .u64 0, .int .u64 0, .int .u64 0, .int .u64 0, .int .u64 0, .int .u64 0, .int .u64 0, .int .u64 0, .int .u64 0, .int .u64 0, .int .u64 0, .int .u64 0, .int .u64 0, .int .u64 0, .int .u64 0, .int .u64 0, .int .u64 0]⟩ := by kernel_rfl
@[simp] theorem ty148 : ty Try.prog 148 = some ⟨65, 536, .struct [(22, 0), (146, 1)], [.slice none 0 0, .int .u64 0, .int .u64 0, .int .u64 0, .int .u64 0, .int .u64 0, .int .u64 0, .int .u64 0, .int .u64 0, .int .u64 0, .int .u64 0, .int .u64 0, .int .u64 0, .int .u64 0, .int .u64 0, .int .u64 0, .int .u64 0, .int .u64 0, .int .u64 0, .int .u64 0, .int .u64 0, .int .u64 0, .int .u64 0, .int .u64 0, .int .u64 0, .int .u64 0, .int .u64 0, .int .u64 0, .int .u64 0, .int .u64 0, .int .u64 0, .int .u64 0, .int .u64 0, .int .u64 0, .int .u64 0, .int .u64 0, .int .u64 0, .int .u64 0, .int .u64 0, .int .u64 0, .int .u64 0, .int .u64 0, .int .u64 0, .int .u64 0, .int .u64 0, .int .u64 0, .int .u64 0, .int .u64 0, .int .u64 0, .int .u64 0, .int .u64 0, .int .u64 0, .int .u64 0, .int .u64 0, .int .u64 0, .int .u64 0, .int .u64 0, .int .u64 0, .int .u64 0, .int .u64 0, .int .u64 0, .int .u64 0, .int .u64 0, .int .u64 0, .int .u64 0]⟩ := by kernel_rfl
@[simp] theorem ty150 : ty Try.prog 150 = some ⟨1, 8, .fn, [.nilFunc]⟩ := by kernel_rfl
@[simp] theorem ty164 : ty Try.prog 164 = some ⟨1, 8, .fn, [.nilFunc]⟩ := by kernel_rfl
@[simp] theorem ty166 : ty Try.prog 166 = some ⟨3, 24, .struct [(3, 0), (3, 1), (3, 2)], [.int .i64 0, .int .i64 0, .int .i64 0]⟩ := by kernel_rfl
@[simp] theorem ty168 : ty Try.prog 168 = some ⟨9, 72, .struct [(166, 0), (3, 3), (3, 4), (3, 5), (3, 6), (3, 7), (3, 8)], [.int .i64 0, .int .i64 0, .int .i64 0, .int .i64 0, .int .i64 0, .int .i64 0, .int .i64 0, .int .i64 0, .int .i64 0]⟩ := by kernel_rfl
@[simp] theorem ty171 : ty Try.prog 171 = some ⟨1, 8, .fn, [.nilFunc]⟩ := by kernel_rfl
@[simp] theorem ty173 : ty Try.prog 173 = some ⟨1, 8, .fn, [.nilFunc]⟩ := by kernel_rfl
@[simp] theorem ty174 : ty Try.prog 174 = some ⟨1, 8, .fn, [.nilFunc]⟩ := by kernel_rfl
@[simp] theorem ty177 : ty Try.prog 177 = some ⟨5, 40, .struct [(3, 0), (3, 1), (4, 2), (3, 3), (3, 4)], [.int .i64 0, .int .i64 0, .bool false, .int .i64 0, .int .i64 0]⟩ := by kernel_rfl
@[simp] theorem ty192 : ty Try.prog 192 = some ⟨1, 8, .fn, [.nilFunc]⟩ := by kernel_rfl
@[simp] theorem ty197 : ty Try.prog 197 = some ⟨6, 48, .array 6 3, [.int .i64 0, .int .i64 0, .int .i64 0, .int .i64 0, .int .i64 0, .int .i64 0]⟩ := by kernel_rfl
open Go.Awp
abbrev vI (n : Int) : D := .v (.int .i64 n)
abbrev vS (s : ByteArray) : D := .v (.string s)
abbrev vB (b : UInt8) : D := .v (.int .u8 b.toNat)
abbrev rI (x : List Int) : D := rows 1 vI x
abbrev oI (x : List Int) : D := ownR 1 vI x
abbrev rB (x : List UInt8) : D := rows 1 vB x
abbrev oB (x : List UInt8) : D := ownR 1 vB x
structure Root where
 name : ByteArray
 ix : Int
 gen : Int
 deriving Inhabited
def eRoot (r : Root) : D := .agg [vS r.name, vI r.ix, vI r.gen]
abbrev rR (x : List Root) : D := rows 3 eRoot x
abbrev oR (x : List Root) : D := ownR 3 eRoot x
@[simp] theorem roed_eRoot (r : Root) : (eRoot r).roed = eRoot r := by simp [eRoot]
@[simp] theorem noRo_eRoot (r : Root) : (eRoot r).noRo = true := by simp [eRoot]
@[simp] theorem noSn_eRoot (r : Root) : (eRoot r).noSn = true := by simp [eRoot]
@[simp] theorem eqg82 : Try.prog.eqGuardType Try.prog.depth 82 = false := by kernel_rfl
@[simp] theorem eqk76 : eqOk Try.prog 76 = true := by kernel_rfl
@[simp] theorem eqg28 : Try.prog.eqGuardType Try.prog.depth 28 = false := by kernel_rfl
@[simp] theorem eqk28 : eqOk Try.prog 28 = true := by kernel_rfl

def mayS (c : Int) : Bool := !(decide (c ≤ 32) || (decide (127 ≤ c) && decide (c ≤ 160)) || decide (c = 65533))
def handleS (a b : Int) : Bool := decide (0 ≤ a) && decide (a < 32) && decide (0 ≤ b) && decide (b < 65536)
theorem decode_pos (s : ByteArray) (i : Nat) : 1 ≤ (Utf8.decode s i).2 := by
 unfold Utf8.decode
 dsimp only
 repeat' split
 all_goals simp

def runesOk (s : ByteArray) (pos : Nat) : Bool :=
 if pos < s.size then mayS (Utf8.decode s pos).1 && runesOk s (pos + (Utf8.decode s pos).2) else true
termination_by s.size - pos
decreasing_by have := decode_pos s pos; omega

def nameS (s : ByteArray) : Bool := runesOk s 0 && (!(s.toList == []) && decide ((s.size : Int) ≤ 16))

def firstS (l : List Root) (nm : ByteArray) : Int := match l.findIdx? (fun r => r.name.toList == nm.toList) with
 | some i => i
 | none => -1

theorem firstS_at {l : List Root} {nm : ByteArray} {i : Nat} (hi : i < l.length) (h : ∀ j, j < i → ((nth l j).name.toList == nm.toList) = false) (ht : ((nth l i).name.toList == nm.toList) = true) : firstS l nm = i := by
 have : l.findIdx? (fun r => r.name.toList == nm.toList) = some i := by
  rw [List.findIdx?_eq_some_iff_getElem]
  refine ⟨hi, by rw [nth_eq hi] at ht; exact ht, fun j hj => ?_⟩
  have := h j hj
  have hj2 : j < l.length := by omega
  rw [nth_eq hj2] at this
  simpa using this
 simp [firstS, this]

theorem firstS_none {l : List Root} {nm : ByteArray} (h : ∀ j, j < l.length → ((nth l j).name.toList == nm.toList) = false) : firstS l nm = -1 := by
 have : l.findIdx? (fun r => r.name.toList == nm.toList) = none := by
  rw [List.findIdx?_eq_none_iff]
  intro x hx
  obtain ⟨j, hj, rfl⟩ := List.getElem_of_mem hx
  have := h j hj
  rw [nth_eq hj] at this
  exact this
 simp [firstS, this]

def zRoot : Root := ⟨⟨#[]⟩, 0, 0⟩
def newOk (n : Int) : Bool := !(decide (n < 2) || decide (8 < n) || (n.tmod 2 != 0))
def isZero (r : Root) : Bool := r.name.toList == (⟨#[]⟩ : ByteArray).toList && (r.ix == 0 && (r.gen == 0))
def rootOk (l : List Root) (i : Nat) : Bool := isZero (nth l i) || (nameS (nth l i).name && handleS (nth l i).ix (nth l i).gen && !decide (0 ≤ firstS (l.take i) (nth l i).name))
def rootsS (l : List Root) : Bool := (List.range l.length).all (rootOk l) && newOk l.length

theorem roots_bad {l : List Root} {i : Nat} (hi : i < l.length) (h : rootOk l i = false) : rootsS l = false := by
 have : (List.range l.length).all (rootOk l) = false := by
  rw [List.all_eq_false]; exact ⟨i, by simpa using hi, by simp [h]⟩
 simp [rootsS, this]
theorem roots_good {l : List Root} (h : ∀ i, i < l.length → rootOk l i = true) : rootsS l = newOk l.length := by
 have : (List.range l.length).all (rootOk l) = true := by
  rw [List.all_eq_true]; intro i hi; exact h i (by simpa using hi)
 simp [rootsS, this]

@[simp] theorem tmod_two (n : Nat) : (n : Int).tmod 2 = ((n % 2 : Nat) : Int) := rfl
structure Abs where
 gens : List Int
 data : List (List UInt8)
 roots : List Root
 deriving Inhabited
@[simp] theorem roed_rB (x : List UInt8) : (rB x).roed = rB x := by simp
abbrev rBB (x : List (List UInt8)) : D := rows 1 rB x
def eAbs (a : Abs) : D := .agg [rI a.gens, rBB a.data, rR a.roots]
structure Abs.Ok (a : Abs) : Prop where
 h1 : a.gens.length ≤ 2^40
 h2 : a.data.length ≤ 2^40
 h3 : a.roots.length ≤ 2^40
 h4 : ∀ i, i < a.data.length → (nth a.data i).length ≤ 2^40
 h5 : ∀ i, i < a.roots.length → (nth a.roots i).name.size ≤ 2^40
def slotOk (a : Abs) (i : Nat) : Bool := !(decide (nth a.gens i < 0) || decide (65535 < nth a.gens i) || decide (2048 < (nth a.data i).length))
def lensOk (a : Abs) : Bool := !((a.gens.length != a.data.length) || decide (a.gens.length < 2) || decide (32 < a.gens.length) || (a.gens.length % 2 != 0))
def rightS (a : Abs) : Bool := lensOk a && (List.range a.gens.length).all (slotOk a) && rootsS a.roots

theorem right_len {a : Abs} (h : lensOk a = false) : rightS a = false := by simp [rightS, h]
theorem right_bad {a : Abs} {i : Nat} (hi : i < a.gens.length) (h : slotOk a i = false) : rightS a = false := by
 have : (List.range a.gens.length).all (slotOk a) = false := by
  rw [List.all_eq_false]; exact ⟨i, by simpa using hi, by simp [h]⟩
 simp [rightS, this]
theorem right_good {a : Abs} (h0 : lensOk a = true) (h : ∀ i, i < a.gens.length → slotOk a i = true) : rightS a = rootsS a.roots := by
 have : (List.range a.gens.length).all (slotOk a) = true := by
  rw [List.all_eq_true]; intro i hi; exact h i (by simpa using hi)
 simp [rightS, this, h0]

theorem all_bad {f : Nat → Bool} {n i : Nat} (hi : i < n) (h : f i = false) : (List.range n).all f = false := by
 rw [List.all_eq_false]; exact ⟨i, by simpa using hi, by simp [h]⟩
theorem all_good {f : Nat → Bool} {n : Nat} (h : ∀ i, i < n → f i = true) : (List.range n).all f = true := by
 rw [List.all_eq_true]; intro i hi; exact h i (by simpa using hi)

def sameL {α : Type} [Inhabited α] (eq : α → α → Bool) (x y : List α) : Bool := (x.length == y.length) && (List.range x.length).all fun i => eq (nth x i) (nth y i)
theorem sameL_len {α : Type} [Inhabited α] {eq : α → α → Bool} {x y : List α} (h : x.length ≠ y.length) : sameL eq x y = false := by simp [sameL, h]
theorem sameL_bad {α : Type} [Inhabited α] {eq : α → α → Bool} {x y : List α} {i : Nat} (hi : i < x.length) (h : eq (nth x i) (nth y i) = false) : sameL eq x y = false := by
 simp only [sameL]; rw [all_bad hi h]; simp
theorem sameL_good {α : Type} [Inhabited α] {eq : α → α → Bool} {x y : List α} (hl : x.length = y.length) (h : ∀ i, i < x.length → eq (nth x i) (nth y i) = true) : sameL eq x y = true := by
 simp only [sameL]; rw [all_good h]; simp [hl]

def str (b : List UInt8) : ByteArray := ⟨b.toArray⟩
theorem bytesD_vB (l : List UInt8) : bytesD (l.map vB) = some (l.map fun b => (b.toNat : Int)) := by
 induction l with
 | nil => rfl
 | cons b l ih => simp [bytesD, ih]
theorem bytesStr_vB (l : List UInt8) : bytesStr (l.map fun b => (b.toNat : Int)) = str l := by
 have key : ∀ (l : List UInt8) (r : ByteArray), (l.map fun b => (b.toNat : Int)).foldl (fun r n => r.push (UInt8.ofNat n.toNat)) r = ⟨r.data ++ l.toArray⟩ := by
  intro l
  induction l with
  | nil => intro r; simp
  | cons b l ih => intro r; simp only [List.map_cons, List.foldl_cons]; rw [ih]; simp [ByteArray.push]
 simp [bytesStr, key, str]
theorem conv_rB (objs : List Awp.Obj) (b : List UInt8) : convA Try.prog objs 29 9 (.d (rB b)) = some (.d (.v (.string (str b))), objs) := by
 simp [convA, rows, isStrTy, isBytesTy, isIntTy, elemsOf, fullA, bytesD_vB, bytesStr_vB]
def sameRoot (a b : Root) : Bool := a.name.toList == b.name.toList && (a.ix == b.ix && (a.gen == b.gen))
def sameAbs (a b : Abs) : Bool := sameL (· == ·) a.gens b.gens && (sameL (fun x y => (str x).toList == (str y).toList) a.data b.data && sameL sameRoot a.roots b.roots)

structure Op where
 act : Int
 ix : Int
 gen : Int
 n : Int
 off : Int
 b : List UInt8
 name : ByteArray
def eOp (o : Op) : D := .agg [vI o.act, vI o.ix, vI o.gen, vI o.n, vI o.off, rB o.b, vS o.name]
def fewOp (o : Op) : Bool := decide ((o.b.length : Int) ≤ 4096) && decide ((o.name.size : Int) ≤ 1024)
def goodS (a : Abs) (ix gn : Int) : Bool := decide (0 ≤ ix) && (decide (ix < a.gens.length) && (decide (0 < ((nth a.data ix.toNat).length : Int)) && (nth a.gens ix.toNat == gn)))
theorem and3_f {a b c : Bool} (h : (!a || (!b || !c)) = true) : (a && (b && c)) = false := by cases a <;> cases b <;> cases c <;> simp at *
theorem and3_t {a b c : Bool} (h : (!a || (!b || !c)) = false) : (a && (b && c)) = true := by cases a <;> cases b <;> cases c <;> simp at *

def findS (l : List Root) (nm : ByteArray) : Int × Int := if rootsS l = false then (0, 1) else if nameS nm = false then (0, 3) else (firstS l nm, 0)
structure RootsOk (l : List Root) : Prop where
 h1 : l.length ≤ 2^40
 h2 : ∀ i, i < l.length → (nth l i).name.size ≤ 2^40
theorem firstS_range (l : List Root) (nm : ByteArray) : -1 ≤ firstS l nm ∧ firstS l nm < l.length := by
 unfold firstS
 split
 · rename_i i h
   rw [List.findIdx?_eq_some_iff_getElem] at h
   obtain ⟨h, _⟩ := h
   omega
 · omega

def dropS (l : List Root) (nm : ByteArray) : List Root × Int := if (findS l nm).2 ≠ 0 then ([], (findS l nm).2) else if (findS l nm).1 < 0 then ([], 11) else (l.set (findS l nm).1.toNat zRoot, 0)
theorem findS_nat {l : List Root} {nm : ByteArray} (hl : RootsOk l) (h1 : (findS l nm).2 = 0) (h2 : 0 ≤ (findS l nm).1) : ∃ k : Nat, (findS l nm).1 = k ∧ k < l.length := by
 unfold findS at h1 h2 ⊢
 by_cases q1 : rootsS l = false
 · simp [q1] at h1
 · by_cases q2 : nameS nm = false
   · simp [q1, q2] at h1
   · rw [if_neg q1, if_neg q2] at h2 ⊢
     simp only at h2 ⊢
     have := firstS_range l nm
     exact ⟨(firstS l nm).toNat, by omega, by omega⟩

def getS (l : List Root) (nm : ByteArray) : Int × Int × Int := if (findS l nm).2 ≠ 0 then (0, 0, (findS l nm).2) else if (findS l nm).1 < 0 then (0, 0, 11) else ((nth l (findS l nm).1.toNat).ix, (nth l (findS l nm).1.toNat).gen, 0)

def slotS (l : List Root) (nm : ByteArray) : Int := if (findS l nm).1 < 0 then firstS l ⟨#[]⟩ else (findS l nm).1
def setS (l : List Root) (nm : ByteArray) (ix gn : Int) : List Root × Int :=
 if (findS l nm).2 ≠ 0 then ([], (findS l nm).2) else if handleS ix gn = false then ([], 1) else if slotS l nm < 0 then ([], 9) else (l.set (slotS l nm).toNat ⟨nm, ix, gn⟩, 0)
theorem slotS_nat {l : List Root} {nm : ByteArray} (hl : RootsOk l) (h1 : (findS l nm).2 = 0) (h2 : 0 ≤ slotS l nm) : ∃ k : Nat, slotS l nm = k ∧ k < l.length := by
 unfold slotS at h2 ⊢
 split at h2
 · rename_i q
   rw [if_pos q]
   have := firstS_range l ⟨#[]⟩
   exact ⟨(firstS l ⟨#[]⟩).toNat, by omega, by omega⟩
 · rename_i q
   rw [if_neg q]
   exact findS_nat hl h1 h2
open Go.Awp
abbrev oBB (x : List (List UInt8)) : D := ownR 1 oB x
def oAbs (a : Abs) : D := .agg [oI a.gens, oBB a.data, oR a.roots]
@[simp] theorem snap_eRoot (r : Root) : (eRoot r).snap = eRoot r := by simp [eRoot, snap_agg, snap_v]
@[simp] theorem noOwn_eRoot (r : Root) : (eRoot r).noOwn = true := by simp [eRoot, noOwn_agg, noOwn_v]
def reachS (size : Nat) (off n : Int) : Bool := !(decide (off < 0) || (decide ((size : Int) < off) || (decide (n < 0) || decide ((size : Int) - off < n))))
theorem reach_eq {len : Nat} {off n : Int} (h : len ≤ 2^40) : (decide (off < 0) || decide ((len : Int) < off) || decide (n < 0) || decide (IntKind.i64.wrap ((len : Int) - off) < n)) = !reachS len off n := by
 by_cases h1 : off < 0
 · simp [reachS, h1]
 by_cases h2 : (len : Int) < off
 · simp [reachS, h2]
 rw [wrap64 (by omega) (by omega)]
 simp [reachS, h1, h2]
def sizedS (n : Int) : Bool := decide (1 ≤ n) && decide (n ≤ 2048)
def openS (a : Abs) (i : Nat) : Bool := decide ((nth a.data i).length = 0) && (nth a.gens i != 65535)
def allocIx (a : Abs) : Option Nat := (List.range a.gens.length).find? (openS a)
theorem allocIx_at {a : Abs} {i : Nat} (hi : i < a.gens.length) (h : ∀ j, j < i → openS a j = false) (ht : openS a i = true) : allocIx a = some i := by
 unfold allocIx
 rw [List.find?_range_eq_some]
 exact ⟨ht, by simpa using hi, fun j hj => by simp [h j hj]⟩
theorem allocIx_none {a : Abs} (h : ∀ j, j < a.gens.length → openS a j = false) : allocIx a = none := by
 unfold allocIx
 rw [List.find?_eq_none]
 intro j hj; simp [h j (by simpa using hj)]
structure Eff where
 a : Abs
 ix : Int
 gen : Int
 b : List UInt8
 e : Int
def allocS (a : Abs) (n : Int) : Eff := if sizedS n = false then ⟨a, 0, 0, [], 1⟩ else match allocIx a with
 | some i => ⟨{ a with data := a.data.set i (List.replicate n.toNat 0) }, i, nth a.gens i, [], 0⟩
 | none => ⟨a, 0, 0, [], 9⟩
def freeS (a : Abs) (k : Nat) : Eff := ⟨{ a with data := a.data.set k [], gens := a.gens.set k (min (nth a.gens k + 1) 65535) }, 0, 0, [], 0⟩
def resizeS (a : Abs) (k : Nat) (n : Int) : Eff := if sizedS n = false then ⟨a, 0, 0, [], 1⟩ else ⟨{ a with data := a.data.set k ((nth a.data k).take n.toNat ++ List.replicate (n.toNat - (nth a.data k).length) 0) }, 0, 0, [], 0⟩
def readS (a : Abs) (k : Nat) (off n : Int) : Eff := if reachS (nth a.data k).length off n = false then ⟨a, 0, 0, [], 1⟩ else ⟨a, 0, 0, ((nth a.data k).drop off.toNat).take n.toNat, 0⟩
def writeS (a : Abs) (k : Nat) (off : Int) (b : List UInt8) : Eff := if reachS (nth a.data k).length off b.length = false then ⟨a, 0, 0, [], 1⟩ else ⟨{ a with data := a.data.set k (Go.splice (nth a.data k) off.toNat b) }, 0, 0, [], 0⟩
def rootS (a : Abs) (o : Op) : Eff :=
 if o.act = 6 then ⟨{ a with roots := (setS a.roots o.name o.ix o.gen).1 }, 0, 0, [], (setS a.roots o.name o.ix o.gen).2⟩
 else if o.act = 7 then ⟨a, (getS a.roots o.name).1, (getS a.roots o.name).2.1, [], (getS a.roots o.name).2.2⟩
 else if o.act = 8 then ⟨{ a with roots := (dropS a.roots o.name).1 }, 0, 0, [], (dropS a.roots o.name).2⟩
 else ⟨a, 0, 0, [], 0⟩
open Go.Awp
theorem resize_row (b : List UInt8) (n : Nat) : Go.splice (List.replicate n (D.v (.int .u8 0))) 0 ((b.map vB).take (min b.length n)) = (b.take n ++ List.replicate (n - b.length) 0).map vB := by
 simp only [Go.splice, List.take_zero, List.nil_append, Nat.zero_add, List.drop_replicate, List.map_append, List.map_take, List.map_replicate, List.length_take, List.length_map]
 rw [show min (min b.length n) b.length = min b.length n by omega]
 rw [show (vB 0) = D.v (.int .u8 0) from rfl, show n - min b.length n = n - b.length by omega]
 congr 1
 rw [show min b.length n = min n (b.map vB).length by simp; omega]
 exact List.take_eq_take_min.symm
open Go.Awp
theorem set_self {α β : Type} [Inhabited α] (f : α → β) {l : List α} {k : Nat} (hk : k < l.length) : (l.map f).set k (f (nth l k)) = l.map f := by
 rw [← List.map_set, nth_eq hk]; congr 1; exact List.set_getElem_self ..
theorem set_oB_self {l : List (List UInt8)} {k : Nat} (hk : k < l.length) : (l.map oB).set k (.row .own 1 ((nth l k).map vB)) = l.map oB := set_self oB hk
theorem splice_map {α β : Type} (f : α → β) (l : List α) (i : Nat) (b : List α) : Go.splice (l.map f) i (b.map f) = (Go.splice l i b).map f := by
 simp [Go.splice, List.map_take, List.map_drop]
theorem set_oB_splice {l : List (List UInt8)} {k i : Nat} {b : List UInt8} : (l.map oB).set k (.row .own 1 (Go.splice ((nth l k).map vB) i (b.map vB))) = (l.set k (Go.splice (nth l k) i b)).map oB := by
 rw [splice_map, List.map_set]; rfl
open Go.Awp
def kindS (a : Abs) (o : Op) : Int := if o.act = 1 then 81 else if o.act = 7 ∨ o.act = 8 then 82 else if o.act < 1 ∨ 8 < o.act then -1 else if o.act = 6 ∧ nameS o.name = false then -3
 else if goodS a o.ix o.gen = false then -8 else if o.act = 2 then 85 else if o.act = 3 then 86 else if o.act = 4 then 87 else if o.act = 5 then 88 else 82
open Go.Awp
def mixB (i : Nat) (l : List (List UInt8)) : List D := (l.take i).map oB ++ (l.drop i).map rB
theorem mixB_zero {l : List (List UInt8)} : mixB 0 l = l.map rB := by simp [mixB]
theorem mixB_all {l : List (List UInt8)} : mixB l.length l = l.map oB := by simp [mixB]
@[simp] theorem mixB_length {i : Nat} {l : List (List UInt8)} : (mixB i l).length = l.length := by simp [mixB]; omega
theorem mixB_get {i : Nat} {l : List (List UInt8)} (h : i < l.length) : (mixB i l)[i]? = some (rB (nth l i)) := by
 unfold mixB
 rw [List.getElem?_append_right (by simp; omega)]
 have e : i - ((l.take i).map oB).length = 0 := by simp; omega
 rw [e, List.getElem?_map, List.getElem?_drop, Nat.add_zero, get_some h]; rfl
theorem mixB_set {i : Nat} {l : List (List UInt8)} (h : i < l.length) : (mixB i l).set i (.row .own 1 ((nth l i).map vB)) = mixB (i + 1) l := by
 unfold mixB
 rw [List.set_append_right _ _ (by simp; omega)]
 have e : i - ((l.take i).map oB).length = 0 := by simp; omega
 rw [e, nth_eq h, List.drop_eq_getElem_cons h, List.map_cons, List.set_cons_zero, List.take_succ_eq_append_getElem h, List.map_append]
 simp [ownR]
open Go.Awp
@[simp] theorem noSn_oAbs (a : Abs) : (oAbs a).noSn = true := by simp [oAbs]
@[simp] theorem noRo_oAbs (a : Abs) : (oAbs a).noRo = true := by simp [oAbs]
open Go.Awp
def zAbs : Abs := ⟨[], [], []⟩
def effS (a : Abs) (o : Op) : Eff := if kindS a o = 81 then allocS a o.n else if kindS a o = 82 then rootS a o else if kindS a o = 85 then freeS a o.ix.toNat else if kindS a o = 86 then resizeS a o.ix.toNat o.n
 else if kindS a o = 87 then readS a o.ix.toNat o.off o.n else if kindS a o = 88 then writeS a o.ix.toNat o.off o.b else ⟨a, 0, 0, [], -(kindS a o)⟩
def failS (e : Int) : Eff := ⟨zAbs, 0, 0, [], e⟩
def doS (a : Abs) (o : Op) : Eff := if rightS a = false then failS 1 else if (effS a o).e ≠ 0 then failS (effS a o).e else effS a o
theorem doS_fail {a : Abs} {o : Op} (h : rightS a = true) (he : (effS a o).e ≠ 0) : doS a o = failS (effS a o).e := by simp [doS, h, he]
theorem doS_ok {a : Abs} {o : Op} (h : rightS a = true) (he : (effS a o).e = 0) : doS a o = effS a o := by simp [doS, h, he]
@[simp] theorem allocS_b {a n} : (allocS a n).b = [] := by unfold allocS; split; rfl; split <;> rfl
@[simp] theorem allocS_gens {a n} : (allocS a n).a.gens = a.gens := by unfold allocS; split; rfl; split <;> rfl
@[simp] theorem allocS_roots {a n} : (allocS a n).a.roots = a.roots := by unfold allocS; split; rfl; split <;> rfl
@[simp] theorem allocS_len {a n} : (allocS a n).a.data.length = a.data.length := by unfold allocS; split; rfl; split <;> simp
@[simp] theorem resizeS_b {a k n} : (resizeS a k n).b = [] := by unfold resizeS; split <;> rfl
@[simp] theorem resizeS_ix {a k n} : (resizeS a k n).ix = 0 := by unfold resizeS; split <;> rfl
@[simp] theorem resizeS_gen {a k n} : (resizeS a k n).gen = 0 := by unfold resizeS; split <;> rfl
@[simp] theorem resizeS_gens {a k n} : (resizeS a k n).a.gens = a.gens := by unfold resizeS; split <;> rfl
@[simp] theorem resizeS_roots {a k n} : (resizeS a k n).a.roots = a.roots := by unfold resizeS; split <;> rfl
@[simp] theorem resizeS_len {a k n} : (resizeS a k n).a.data.length = a.data.length := by unfold resizeS; split <;> simp
@[simp] theorem writeS_b {a k n b} : (writeS a k n b).b = [] := by unfold writeS; split <;> rfl
@[simp] theorem writeS_ix {a k n b} : (writeS a k n b).ix = 0 := by unfold writeS; split <;> rfl
@[simp] theorem writeS_gen {a k n b} : (writeS a k n b).gen = 0 := by unfold writeS; split <;> rfl
@[simp] theorem writeS_gens {a k n b} : (writeS a k n b).a.gens = a.gens := by unfold writeS; split <;> rfl
@[simp] theorem writeS_roots {a k n b} : (writeS a k n b).a.roots = a.roots := by unfold writeS; split <;> rfl
@[simp] theorem writeS_len {a k n b} : (writeS a k n b).a.data.length = a.data.length := by unfold writeS; split <;> simp
theorem kindS_84 {a o} (h : kindS a o = 82) : o.act = 6 ∨ o.act = 7 ∨ o.act = 8 := by
 unfold kindS at h
 (repeat' split at h) <;> omega
theorem kindS_good {a o} (h : 85 ≤ kindS a o) : goodS a o.ix o.gen = true := by
 unfold kindS at h
 by_cases hg : goodS a o.ix o.gen = true
 · exact hg
 · rw [if_pos (show goodS a o.ix o.gen = false by simpa using hg)] at h
   (repeat' split at h) <;> omega
theorem goodS_nat {a ix gn} (h : goodS a ix gn = true) : ∃ k : Nat, ix = k ∧ k < a.gens.length ∧ 0 < (nth a.data k).length ∧ nth a.gens k = gn := by
 simp [goodS] at h
 obtain ⟨h1, h2, h3, h4⟩ := h
 refine ⟨ix.toNat, by omega, by omega, ?_, h4⟩
 exact h3
theorem kindS_cases (a : Abs) (o : Op) : kindS a o = 81 ∨ (kindS a o = 82 ∧ o.act = 6) ∨ (kindS a o = 82 ∧ o.act = 7) ∨ (kindS a o = 82 ∧ o.act = 8) ∨ kindS a o = 85 ∨ kindS a o = 86 ∨ kindS a o = 87 ∨ kindS a o = 88 ∨ (∃ e : Nat, 0 < e ∧ kindS a o = -(e : Int)) := by
 have h84 := @kindS_84 a o
 have : kindS a o = 81 ∨ kindS a o = 82 ∨ kindS a o = 85 ∨ kindS a o = 86 ∨ kindS a o = 87 ∨ kindS a o = 88 ∨ kindS a o = -1 ∨ kindS a o = -3 ∨ kindS a o = -8 := by
  unfold kindS
  (repeat' split) <;> simp
 rcases this with h | h | h | h | h | h | h | h | h
 · exact .inl h
 · rcases h84 h with h' | h' | h' <;> simp [h, h']
 · simp [h]
 · simp [h]
 · simp [h]
 · simp [h]
 · simp [h]; exact ⟨1, by omega, rfl⟩
 · simp [h]; exact ⟨3, by omega, rfl⟩
 · simp [h]; exact ⟨8, by omega, rfl⟩
theorem rightS_len {a : Abs} (h : rightS a = true) : a.data.length = a.gens.length ∧ 2 ≤ a.gens.length ∧ a.gens.length ≤ 32 := by
 simp [rightS, lensOk] at h; omega
theorem rightS_slot {a : Abs} (h : rightS a = true) {k : Nat} (hk : k < a.gens.length) : 0 ≤ nth a.gens k ∧ nth a.gens k ≤ 65535 ∧ (nth a.data k).length ≤ 2048 := by
 simp [rightS] at h
 have := h.1.2 k hk
 simp [slotOk] at this; omega
open Go.Awp
theorem do_cases (a : Abs) (o : Op) : kindS a o = 81 ∨ (kindS a o = 82 ∧ o.act = 6) ∨ (kindS a o = 82 ∧ o.act = 7) ∨ (kindS a o = 82 ∧ o.act = 8) ∨ kindS a o = 85 ∨ kindS a o = 86 ∨ (kindS a o = 87 ∧ reachS (nth a.data o.ix.toNat).length o.off o.n = true)
    ∨ (kindS a o = 87 ∧ reachS (nth a.data o.ix.toNat).length o.off o.n = false) ∨ kindS a o = 88 ∨ (∃ e : Nat, 0 < e ∧ kindS a o = -(e : Int)) := by
 have := kindS_cases a o
 cases h : reachS (nth a.data o.ix.toNat).length o.off o.n <;> simp [h] <;> exact this
open Go.Awp
@[simp] theorem freeS_gens {a k} : (freeS a k).a.gens.length = a.gens.length := by simp [freeS]
@[simp] theorem freeS_data {a k} : (freeS a k).a.data.length = a.data.length := by simp [freeS]
@[simp] theorem freeS_roots {a k} : (freeS a k).a.roots = a.roots := rfl
@[simp] theorem freeS_b {a k} : (freeS a k).b = [] := rfl
@[simp] theorem freeS_ix {a k} : (freeS a k).ix = 0 := rfl
@[simp] theorem freeS_gen {a k} : (freeS a k).gen = 0 := rfl
@[simp] theorem freeS_e {a k} : (freeS a k).e = 0 := rfl
open Go.Awp
theorem op3 : Opens Try.prog 3 fun n : Int => [vI n] := opens_int Try.underlying3
theorem op5 : Opens Try.prog 5 fun b : UInt8 => [vB b] := opens_byte Try.underlying5
theorem op9 : Opens Try.prog 9 fun s : ByteArray => [vS s] := opens_str Try.underlying9
theorem op22 : Opens Try.prog 22 fun l : List Int => [rI l] := opens_slice (k := 1) (f := vI) Try.underlying22 (by kernel_rfl) (by decide) op3 (fun _ => rfl) (fun _ => ⟨rfl, by simp [D.cells, D.isCell]⟩)
theorem op29 : Opens Try.prog 29 fun l : List UInt8 => [rB l] := opens_slice (k := 1) (f := vB) Try.underlying29 (by kernel_rfl) (by decide) op5 (fun _ => rfl) (fun _ => ⟨rfl, by simp [D.cells, D.isCell]⟩)
theorem op23 : Opens Try.prog 23 fun l : List (List UInt8) => [rBB l] := opens_slice (k := 1) (f := rB) Try.underlying23 (by kernel_rfl) (by decide) op29 (fun _ => rfl) (fun _ => ⟨rfl, by simp [rows, D.isCell]⟩)
theorem op28 : Opens Try.prog 28 fun p : Int × Int => [vI p.1, vI p.2] :=
 (opens_struct (n := 2) Try.underlying28 (by kernel_rfl) (fs_cons rfl (size := 1) (by kernel_rfl) op3 (fs_cons rfl (size := 1) (by kernel_rfl) op3 (fs_nil (by decide))))).map (fun p => (p.1, p.2.1)) fun _ => rfl
theorem op76 : Opens Try.prog 76 fun r : Root => [vS r.name, vI r.ix, vI r.gen] :=
 (opens_struct (n := 3) Try.underlying76 (by kernel_rfl) (fs_cons rfl (size := 1) (by kernel_rfl) op9 (fs_cons rfl (size := 2) (by kernel_rfl) op28 (fs_nil (by decide))))).map (fun p => ⟨p.1, p.2.1.1, p.2.1.2⟩) fun _ => rfl
theorem op24 : Opens Try.prog 24 fun l : List Root => [rR l] := opens_slice (k := 3) (f := eRoot) Try.underlying24 (by kernel_rfl) (by decide) op76 (fun _ => rfl) (fun _ => ⟨rfl, by simp [eRoot, D.cells, D.isCell]⟩)
theorem op26 : Opens Try.prog 26 fun a : Abs => [rI a.gens, rBB a.data, rR a.roots] :=
 (opens_struct (n := 3) Try.underlying26 (by kernel_rfl) (fs_cons rfl (size := 1) (by kernel_rfl) op22 (fs_cons rfl (size := 1) (by kernel_rfl) op23 (fs_cons rfl (size := 1) (by kernel_rfl) op24 (fs_nil (by decide)))))).map (fun p => ⟨p.1, p.2.1, p.2.2.1⟩) fun _ => rfl
theorem own : ownKnob Try.prog.godebug = none := by kernel_rfl
theorem laidOut : laidOutB Try.prog = true := by kernel_rfl
def glT : Gl := ⟨fun _ => True, 0, fun _ _ _ _ => trivial⟩
open Go.Awp
open Go.Awp
def fewS (a : Abs) : Bool := (List.range (min a.data.length 100)).all (fun i => decide (((nth a.data i).length : Int) ≤ 4096)) && ((List.range (min a.roots.length 100)).all (fun i => decide (((nth a.roots i).name.size : Int) ≤ 1024))
  && (decide ((a.data.length : Int) ≤ 60) && (decide ((a.gens.length : Int) ≤ 60) && decide ((a.roots.length : Int) ≤ 60))))
theorem few_ok {a : Abs} (h : fewS a = true) : a.Ok := by
 simp [fewS] at h
 obtain ⟨h1, h2, h3, h4, h5⟩ := h
 refine ⟨by omega, by omega, by omega, fun i hi => ?_, fun i hi => ?_⟩
 · have := h1 i (by omega); omega
 · have := h2 i (by omega); omega
def A0 : Abs := ⟨[0,0], [[], []], [zRoot, zRoot]⟩
def A1 : Abs := ⟨[0,0], [[0,0,0,0], []], [zRoot, zRoot]⟩
def A2 : Abs := ⟨[0,0], [[0,7,0,0], []], [zRoot, zRoot]⟩
def A3 : Abs := ⟨[1,0], [[], []], [zRoot, zRoot]⟩
def A4 : Abs := ⟨[1,0], [[0], []], [zRoot, zRoot]⟩
def O (act n off : Int) (b : List UInt8) : Op := ⟨act, 0, 0, n, off, b, ⟨#[]⟩⟩
theorem d1 : doS A0 (O 1 4 0 []) = ⟨A1, 0, 0, [], 0⟩ := by kernel_rfl
theorem d2 : doS A1 (O 5 0 1 [7]) = ⟨A2, 0, 0, [], 0⟩ := by kernel_rfl
theorem d3 : doS A2 (O 4 4 0 []) = ⟨A2, 0, 0, [0,7,0,0], 0⟩ := by kernel_rfl
theorem d4 : doS A2 (O 2 0 0 []) = ⟨A3, 0, 0, [], 0⟩ := by kernel_rfl
theorem d5 : doS A3 (O 4 0 0 []) = failS 8 := by kernel_rfl
theorem d6 : doS A3 (O 1 1 0 []) = ⟨A4, 0, 1, [], 0⟩ := by kernel_rfl
open Go.Awp
theorem conv_hB {objs : List Awp.Obj} {r : Nat} {b : List UInt8} (h : objs[r]? = some (.row 1 (b.map vB))) : convA Try.prog objs 29 9 (.hdr r 0 b.length) = some (.d (.v (.string (str b))), objs) := by
 simp [convA, isStrTy, isBytesTy, isIntTy, elemsOf, fullA, h, bytesD_vB, bytesStr_vB]
theorem conv_h4 {objs : List Awp.Obj} {r : Nat} (h : objs[r]? = some (.row 1 [.v (.int .u8 0), .v (.int .u8 7), .v (.int .u8 0), .v (.int .u8 0)])) : convA Try.prog objs 29 9 (.hdr r 0 4) = some (.d (.v (.string ⟨#[0,7,0,0]⟩)), objs) :=
 conv_hB (b := [0,7,0,0]) h
set_option maxHeartbeats 4000000
open Go.Awp
theorem toList_loop (s : ByteArray) : ∀ (n i : Nat) (r : List UInt8), s.size - i = n → ByteArray.toList.loop s i r = r.reverse ++ s.data.toList.drop i := by
 have hlen : s.data.toList.length = s.size := rfl
 intro n
 induction n with
 | zero =>
  intro i r h
  rw [ByteArray.toList.loop, if_neg (by omega), List.drop_eq_nil_of_le (by omega)]; simp
 | succ n ih =>
  intro i r h
  have hi : i < s.size := by omega
  rw [ByteArray.toList.loop, if_pos hi, ih (i + 1) _ (by omega)]
  have hi2 : i < s.data.toList.length := by omega
  rw [List.drop_eq_getElem_cons hi2]
  have : s.get! i = s.data.toList[i] := by
   have hi3 : i < s.data.size := hi
   show s.data[i]! = _
   rw [getElem!_pos s.data i hi3]
   simp
  rw [this]; simp
theorem toList_eq (s : ByteArray) : s.toList = s.data.toList := by
 unfold ByteArray.toList
 rw [toList_loop s _ 0 [] rfl]; simp
theorem toList_size (s : ByteArray) : s.toList.length = s.size := by rw [toList_eq]; rfl
theorem rightS_iff {a : Abs} : rightS a = true ↔ (a.data.length = a.gens.length ∧ 2 ≤ a.gens.length ∧ a.gens.length ≤ 32 ∧ a.gens.length % 2 = 0) ∧ (∀ i, i < a.gens.length → 0 ≤ nth a.gens i ∧ nth a.gens i ≤ 65535 ∧ (nth a.data i).length ≤ 2048) ∧ rootsS a.roots = true := by
 simp only [rightS, lensOk, slotOk, Bool.and_eq_true, List.all_eq_true, List.mem_range]
 constructor
 · rintro ⟨⟨h1, h2⟩, h3⟩
   refine ⟨by simp at h1; omega, fun i hi => ?_, h3⟩
   have := h2 i hi; simp at this; omega
 · rintro ⟨h1, h2, h3⟩
   refine ⟨⟨by simp; omega, fun i hi => ?_⟩, h3⟩
   have := h2 i hi; simp; omega
structure Keeps (a : Abs) (o : Op) (x : Eff) : Prop where
 right : rightS x.a = true
 gl : x.a.gens.length = a.gens.length
 rl : x.a.roots.length = a.roots.length
 other : ∀ i : Nat, i < a.gens.length → (i : Int) ≠ (if o.act = 1 then x.ix else o.ix) → nth x.a.gens i = nth a.gens i ∧ nth x.a.data i = nth a.data i
 up : ∀ i, i < a.gens.length → nth a.gens i ≤ nth x.a.gens i
 roots : o.act ≠ 6 → o.act ≠ 8 → x.a.roots = a.roots

theorem sameL_refl {α : Type} [Inhabited α] {eq : α → α → Bool} (h : ∀ x, eq x x = true) (l : List α) : sameL eq l l = true := sameL_good rfl fun i _ => h _
theorem sameAbs_refl (a : Abs) : sameAbs a a = true := by
 simp only [sameAbs, Bool.and_eq_true]
 exact ⟨sameL_refl (by simp) _, sameL_refl (by simp) _, sameL_refl (by simp [sameRoot]) _⟩
open Go.Awp
def opW (ix gn off : Int) (b : List UInt8) : Op := ⟨5, ix, gn, 0, off, b, ⟨#[]⟩⟩
def opR (ix gn off n : Int) : Op := ⟨4, ix, gn, n, off, [], ⟨#[]⟩⟩
def opF (ix gn : Int) : Op := ⟨2, ix, gn, 0, 0, [], ⟨#[]⟩⟩

structure Wrote (a x : Abs) (ix gn off : Int) (b : List UInt8) : Prop where
 right : rightS x = true
 read : doS x (opR ix gn off b.length) = ⟨x, 0, 0, b, 0⟩
 free : (doS x (opF ix gn)).e = 0
 dead : gn ≠ 65535 → ∃ k : Nat, ix = k ∧ k < (doS x (opF ix gn)).a.gens.length ∧ gn < nth (doS x (opF ix gn)).a.gens k

def Gone (y : Abs) (ix gn : Int) : Prop := rightS y = true ∧ (gn ≠ 65535 → ∃ k : Nat, ix = k ∧ k < y.gens.length ∧ gn < nth y.gens k)
open Go.Awp
@[simp] theorem roed_eOp (o : Op) : (eOp o).roed = eOp o := by simp [eOp]
end Go.Proofs
namespace Go.Proofs
instance : Inhabited Op := ⟨⟨0, 0, 0, 0, 0, [], ⟨#[]⟩⟩⟩
open Go.Awp
def opA (n : Int) : Op := ⟨1, 0, 0, n, 0, [], ⟨#[]⟩⟩
def Seen1 (y : Abs) (k v : Int) : Prop := (v = -1 ∧ ∀ j : Nat, k < j → j < y.gens.length → openS y j = false) ∨ (∃ j : Nat, v = j ∧ k < j ∧ j < y.gens.length ∧ openS y j = true ∧ ∀ j' : Nat, k < j' → j' < j → openS y j' = false)
structure Fill (y : Abs) (last : Int) (i : Nat) : Prop where
 right : rightS y = true
 low : (i : Int) - 1 ≤ last
 high : last < y.gens.length
 neg : -1 ≤ last
 full : ∀ j : Nat, (j : Int) ≤ last → openS y j = false
set_option maxHeartbeats 4000000
open Go.Awp
def opZ (ix gn n : Int) : Op := ⟨3, ix, gn, n, 0, [], ⟨#[]⟩⟩
def cutTo (b : List UInt8) (n : Int) : List UInt8 := b.take n.toNat ++ List.replicate (n.toNat - b.length) 0
structure Sized (a : Abs) (ix gn n : Int) (x : Eff) : Prop where
 hn : 1 ≤ n ∧ n ≤ 2048
 ra : rightS a = true
 ex : ∃ k : Nat, ix = k ∧ k < a.gens.length ∧ k < a.data.length ∧ 0 < (nth a.data k).length ∧ nth a.gens k = gn ∧ x.a = { a with data := a.data.set k (cutTo (nth a.data k) n) }
 rx : rightS x.a = true

structure Twice (a : Abs) (ix gn n m : Int) (x y z : Eff) : Prop where
 hm : 1 ≤ m ∧ m ≤ 2048
 ze : z.e = 0
 ry : rightS y.a = true
 rz : rightS z.a = true
 ex : ∃ k : Nat, ix = k ∧ k < a.data.length ∧ x.a.data.length = a.data.length ∧ y.a.data.length = a.data.length ∧ z.a.data.length = a.data.length ∧ nth x.a.data k = cutTo (nth a.data k) n ∧
  nth y.a.data k = cutTo (cutTo (nth a.data k) n) m ∧ nth z.a.data k = cutTo (nth a.data k) m ∧ ((¬ n < (nth a.data k).length ∨ ¬ n < m) → y.a = z.a)

open Go.Awp
open Go.Awp
structure Shape where
 pages : Int
 slots : Int
 roots : Int
 room : Int
 deriving Inhabited
def eShape (s : Shape) : D := .agg [vI s.pages, vI s.slots, vI s.roots, vI s.room]
structure Slot where
 gen : Int
 live : Bool
 two : Bool
 at_ : Int
 len : Int
 deriving Inhabited
abbrev vT (b : Bool) : D := .v (.bool b)
def eSlot (s : Slot) : D := .agg [vI s.gen, vT s.live, vT s.two, vI s.at_, vI s.len]
abbrev rSl (x : List Slot) : D := rows 5 eSlot x
abbrev oSl (x : List Slot) : D := ownR 5 eSlot x
@[simp] theorem roed_eSlot (s : Slot) : (eSlot s).roed = eSlot s := by simp [eSlot]
@[simp] theorem snap_eSlot (s : Slot) : (eSlot s).snap = eSlot s := by simp [eSlot]
@[simp] theorem noRo_eSlot (s : Slot) : (eSlot s).noRo = true := by simp [eSlot]
@[simp] theorem noSn_eSlot (s : Slot) : (eSlot s).noSn = true := by simp [eSlot]
@[simp] theorem noOwn_eSlot (s : Slot) : (eSlot s).noOwn = true := by simp [eSlot]
def wordsL : List Int := [2,3,5,7,10,15]
theorem impAs_vI {objs : List Awp.Obj} (l : List Int) : impAs objs (l.map vI) = some (l.map fun n => .d (vI n), objs) := by
 induction l with
 | nil => rfl
 | cons a l ih => simp [impAs, impA, ih]
def upS (n : Int) : Int := (n + 4 - 1).tdiv 4 * 4
def needS (n : Int) : Int × Int := if n < 1 ∨ 2048 < n then (0, 1) else (upS (2 + (n + 8 - 1).tdiv 8), 0)
def classS (n : Int) : Int × Bool := if n < 1 ∨ 120 < n then (0, false) else match wordsL.findIdx? (fun w => decide (n ≤ w * 8)) with
 | some i => (i, true)
 | none => (0, false)
def whichS (c off : Int) : Int × Bool := if c < 0 ∨ 6 ≤ c ∨ off < 4 then (0, false)
 else if (off - 4).tmod (nth wordsL c.toNat) ≠ 0 ∨ (28 : Int).tdiv (nth wordsL c.toNat) ≤ (off - 4).tdiv (nth wordsL c.toNat) then (0, false) else ((off - 4).tdiv (nth wordsL c.toNat), true)
def pagesS (n : Int) : Int × Int := if n ≤ 120 ∨ 2048 < n then (0, 1) else ((n + 256 - 1).tdiv 256, 0)
def sizedSh (s : Shape) : Bool := decide (1 ≤ s.pages ∧ s.pages ≤ 64 ∧ 1 ≤ s.room ∧ s.room ≤ 4096 ∧ 2 ≤ s.slots ∧ s.slots ≤ 32 ∧ s.slots.tmod 2 = 0 ∧ 2 ≤ s.roots ∧ s.roots ≤ 8 ∧ s.roots.tmod 2 = 0)
def walS (mark first room n : Int) : Bool := decide (1 ≤ room ∧ room ≤ 4096 ∧ 0 ≤ first ∧ first ≤ n ∧ 2 * room ≤ n - first ∧ 0 ≤ mark ∧ mark < n ∧ (mark < first ∨ 2 * room ≤ mark - first))
def headsS (s : Shape) : Int := 2 + s.room * 2
def tableA (s : Shape) : Int := headsS s + 1
def rootsA (s : Shape) : Int := tableA s + s.slots.tdiv 2
def treeA (s : Shape) : Int := rootsA s + s.roots.tdiv 2
def heapA (s : Shape) : Int := treeA s + 26
def linesA (s : Shape) : Int := heapA s + s.pages * 4
def shapeS (s : Shape) : Bool := sizedSh s && decide (linesA s ≤ 4096)
def superS (s : Shape) (mode base : Int) : Bool := shapeS s && decide (0 ≤ base ∧ base ≤ s.pages) && (if mode = 1 then decide (base = 0) else if mode = 2 then decide (base = s.pages) else decide (mode = 3 ∨ mode = 4))
def slotS1 (s : Slot) : Bool := if s.gen < 0 ∨ 65535 < s.gen then false else if s.live = false then (s.two == false && s.at_ == 0 && s.len == 0) else decide (0 ≤ s.at_ ∧ s.at_ ≤ 2048 ∧ 1 ≤ s.len ∧ s.len ≤ 2048)
def tnewOk (n : Int) : Bool := decide (2 ≤ n ∧ n ≤ 32 ∧ n.tmod 2 = 0)
def zSlot : Slot := ⟨0, false, false, 0, 0⟩
def tableS (l : List Slot) : Bool := (List.range l.length).all (fun i => slotS1 (nth l i)) && tnewOk l.length
open Go.Awp
structure Stt where
 sh : Shape
 mode : Int
 base : Int
 slots : List Slot
 roots : List Root
 data : List (List UInt8)
def eStt (s : Stt) : D := .agg [vI s.sh.pages, vI s.sh.slots, vI s.sh.roots, vI s.sh.room, vI s.mode, vI s.base, rSl s.slots, rR s.roots, rBB s.data]
structure Stt.Ok (s : Stt) : Prop where
 h1 : s.slots.length ≤ 2^40
 h2 : s.roots.length ≤ 2^40
 h3 : s.data.length ≤ 2^40
 h4 : ∀ i, i < s.data.length → (nth s.data i).length ≤ 2^40
 h5 : ∀ i, i < s.roots.length → (nth s.roots i).name.size ≤ 2^40
def eObj (p : Int × Int) : D := .agg [vI p.1, vI p.2]
@[simp] theorem roed_eObj (s) : (eObj s).roed = eObj s := by simp [eObj]
@[simp] theorem snap_eObj (s) : (eObj s).snap = eObj s := by simp [eObj]
@[simp] theorem noRo_eObj (s) : (eObj s).noRo = true := by simp [eObj]
@[simp] theorem noSn_eObj (s) : (eObj s).noSn = true := by simp [eObj]
@[simp] theorem noOwn_eObj (s) : (eObj s).noOwn = true := by simp [eObj]
abbrev rO (x : List (Int × Int)) : D := rows 2 eObj x
abbrev oO (x : List (Int × Int)) : D := ownR 2 eObj x
def isTwo (s : Slot) : Bool := s.live && s.two
def twoIx (l : List Slot) (i : Nat) : List Nat := (List.range i).filter fun j => isTwo (nth l j)
theorem twoIx_t {l : List Slot} {i : Nat} (h : isTwo (nth l i) = true) : twoIx l (i + 1) = twoIx l i ++ [i] := by simp [twoIx, List.range_succ, List.filter_append, h]
theorem twoIx_f {l : List Slot} {i : Nat} (h : isTwo (nth l i) = false) : twoIx l (i + 1) = twoIx l i := by simp [twoIx, List.range_succ, List.filter_append, h]
theorem twoIx_len {l : List Slot} {i : Nat} : (twoIx l i).length ≤ i := by
 have := List.length_filter_le (fun j => isTwo (nth l j)) (List.range i)
 simpa [twoIx] using this
def objAt (l : List Slot) (j : Nat) : Int × Int := ((nth l j).at_, (nth l j).len)
def twosO (l : List Slot) : List (Int × Int) := (twoIx l l.length).map (objAt l)
def twosI (l : List Slot) : List Int := (twoIx l l.length).map fun (j : Nat) => (j : Int)
def liveIx (l : List Slot) (i : Nat) : Nat := ((List.range i).filter fun j => (nth l j).live).length
def lenOk (s : Stt) (i : Nat) : Bool := decide (((nth s.data i).length : Int) = (nth s.slots i).len)
def rowsS (s : Stt) : Bool := decide ((s.slots.length : Int) = s.sh.slots ∧ (s.roots.length : Int) = s.sh.roots ∧ s.data.length = s.slots.length) && (tableS s.slots && (rootsS s.roots && (List.range s.slots.length).all (lenOk s)))
def gapBad (to at_ : Int) (p : Int × Int) : Bool := decide (p.1 < at_ ∨ to < p.1 ∨ p.2 < 4 ∨ to - p.1 < p.2 ∨ p.1.tmod 4 ≠ 0 ∨ p.2.tmod 4 ≠ 0)
def gapsOk (to : Int) : Int → List (Int × Int) → Bool
 | _, [] => true
 | at_, p :: l => !gapBad to at_ p && gapsOk to (p.1 + p.2) l
def gapsHead (fr to : Int) : Bool := decide (0 ≤ fr ∧ fr ≤ to ∧ to ≤ 2048 ∧ fr.tmod 4 = 0 ∧ to.tmod 4 = 0)
def gapsS (fr to : Int) (l : List (Int × Int)) : Bool := gapsHead fr to && gapsOk to fr l
theorem gapsOk_drop {to at_ : Int} {l : List (Int × Int)} {i : Nat} (h : i < l.length) : gapsOk to at_ (l.drop i) = (!gapBad to at_ (nth l i) && gapsOk to ((nth l i).1 + (nth l i).2) (l.drop (i + 1))) := by
 rw [List.drop_eq_getElem_cons h, nth_eq h]; rfl
open Go.Awp
theorem op4 : Opens Try.prog 4 fun b : Bool => [vT b] := opens_bool Try.underlying4
theorem op49 : Opens Try.prog 49 fun s : Shape => [vI s.pages, vI s.slots, vI s.roots, vI s.room] :=
 (opens_struct (n := 4) Try.underlying49 (by kernel_rfl) (fs_cons rfl (size := 1) (by kernel_rfl) op3 (fs_cons rfl (size := 1) (by kernel_rfl) op3 (fs_cons rfl (size := 1) (by kernel_rfl) op3 (fs_cons rfl (size := 1) (by kernel_rfl) op3 (fs_nil (by decide))))))).map (fun p => ⟨p.1, p.2.1, p.2.2.1, p.2.2.2.1⟩) fun _ => rfl
theorem op60 : Opens Try.prog 60 fun s : Slot => [vI s.gen, vT s.live, vT s.two, vI s.at_, vI s.len] :=
 (opens_struct (n := 5) Try.underlying60 (by kernel_rfl) (fs_cons rfl (size := 1) (by kernel_rfl) op3 (fs_cons rfl (size := 1) (by kernel_rfl) op4 (fs_cons rfl (size := 1) (by kernel_rfl) op4 (fs_cons rfl (size := 1) (by kernel_rfl) op3 (fs_cons rfl (size := 1) (by kernel_rfl) op3 (fs_nil (by decide)))))))).map (fun p => ⟨p.1, p.2.1, p.2.2.1, p.2.2.2.1, p.2.2.2.2.1⟩) fun _ => rfl
theorem op50 : Opens Try.prog 50 fun l : List Slot => [rSl l] := opens_slice (k := 5) (f := eSlot) Try.underlying50 (by kernel_rfl) (by decide) op60 (fun _ => rfl) (fun _ => ⟨rfl, by simp [eSlot, D.cells, D.isCell]⟩)
theorem op52 : Opens Try.prog 52 fun s : Stt => [vI s.sh.pages, vI s.sh.slots, vI s.sh.roots, vI s.sh.room, vI s.mode, vI s.base, rSl s.slots, rR s.roots, rBB s.data] :=
 (opens_struct (n := 9) Try.underlying52 (by kernel_rfl) (fs_cons rfl (size := 4) (by kernel_rfl) op49 (fs_cons rfl (size := 1) (by kernel_rfl) op3 (fs_cons rfl (size := 1) (by kernel_rfl) op3 (fs_cons rfl (size := 1) (by kernel_rfl) op50 (fs_cons rfl (size := 1) (by kernel_rfl) op24 (fs_cons rfl (size := 1) (by kernel_rfl) op23 (fs_nil (by decide))))))))).map (fun p => ⟨p.1, p.2.1, p.2.2.1, p.2.2.2.1, p.2.2.2.2.1, p.2.2.2.2.2.1⟩) fun _ => rfl
set_option maxRecDepth 4000
open Go.Awp
theorem in21 (g : Gl) (os tl : List Awp.Obj) (xs : List (List UInt8)) (ho : objsFix os = true) (ht : objsFix tl = true) (hlo : objsLt (os.length + 1 + tl.length) os = true) (hlt : objsLt (os.length + 1 + tl.length) tl = true) (hl : xs.length ≤ 2^40) : ∀ B S, CallsA Try.prog g B S ⟨(os ++ Awp.Obj.row 1 (xs.map oB) :: tl).length, false⟩ 21 [.hdr os.length 0 xs.length] (os ++ .row 1 (xs.map oB) :: tl) (fun x r => x = .dead ∧ r = os ++ .dead :: tl) := by
 refine callsA_at Try.func21 rfl (Nat.le_of_ble_eq_true rfl) fun B S => ?_
 refine W_nest os.length (xs := xs.map oB) (by simp) (fun x hx => ?_) fun L0 hL0 hall0 => ?_
 · obtain ⟨b, _, rfl⟩ := List.mem_map.1 hx
   exact ⟨b.map fun b => .int .u8 b.toNat, by simp [ownR]⟩
 rw [show (os ++ Awp.Obj.row 1 (xs.map oB) :: tl).set os.length (.nest L0) = os ++ .nest L0 :: tl from by simp]
 have hL1 : L0.length = xs.length := by simpa using hL0
 have hrow0 : ∀ j, j < xs.length → ∃ l c f, L0[j]? = some (.row l c f) := fun j hj => by
  have hj2 : j < L0.length := by omega
  have := List.all_eq_true.1 hall0 L0[j] (List.getElem_mem hj2)
  rw [List.getElem?_eq_getElem hj2]
  cases hq : L0[j] with
  | row l c f => exact ⟨l, c, f, rfl⟩
  | raw v => rw [hq] at this; cases this
 refine xU ?_
 refine xO ?_
 refine xF [0] ?_
 refine W_seq (xU ?_)
 refine xO ?_
 refine xF [0,3] ?_
 refine W_block (W_rounds (fun m σ o => ∃ (i : Nat) (T : List Awp.Obj) (L : List NE), m = xs.length - i ∧ i ≤ xs.length ∧ ((∃ ds, tl ++ ds = T) ∧ objsFix T = true ∧ L.length = xs.length ∧ (∀ j, j < xs.length → ∃ l c f, L[j]? = some (.row l c f))) ∧ (∀ j, j < i → ∃ l c, L[j]? = some (.row l c true)) ∧ σ = slots [(0, .hdr os.length 0 xs.length), (3, .d (vI i))] ∧ o = os ++ .nest L :: T) xs.length .refl ⟨0, tl, L0, by simp, by simp, ⟨⟨[], by simp⟩, ht, hL1, hrow0⟩, by simp, rfl, rfl⟩ ?_)
 rintro m σ o ⟨i, T, L, rfl, hi, ⟨⟨ds, hTd⟩, hT, hLl, hrow⟩, hfull, rfl, rfl⟩ _
 refine W_seq (xU ?_)
 iterate 4 refine xO ?_
 refine xF [0,3,12] ?_
 refine W_cond rfl ?_ ?_
 · intro h12
   have hi2 : i < xs.length := by simpa using h12
   refine W_skip ?_
   rintro -
   refine W_seq (W_block ?_)
   refine W_seq ?_
   obtain ⟨len, cap, full, hLi⟩ := hrow i (by omega)
   refine W_nopen os.length i (L := L) (len := len) (cap := cap) (full := full) rfl (by simp) hLi (by simp) (by simp [fix_append, ho, hT]) fun zs hz1 hz2 hlc hcm => ?_
   rw [show (os ++ Awp.Obj.nest L :: T).set os.length (.nhole i (os ++ Awp.Obj.nest L :: T).length len L) ++ [.grow cap zs] = os ++ .nhole i (os.length + (T.length + 1)) len L :: (T ++ [.grow cap zs]) from by simp]
   have hcb : (cap : Int) ≤ cap := Int.le_refl _
   refine W_regD (by kernel_rfl) [] 4 [0,1,2,3,4,5,6,7,8,9,10] (by decide +kernel) ?_
   iterate 2 refine xO ?_
   refine xO ?_ (h := by simp [hi2]; exact .mk)
   iterate 3 refine xO ?_
   refine xO ?_ (h := by simp [hi2]; exact .mk)
   iterate 2 refine xO ?_
   refine xO ?_ (h := by simp [optA, *]; exact .mk)
   refine xO ?_
   refine xG [0,3,4] ?_
   refine xO ?_
   refine xF [0,3,4,5] ?_
   refine W_block (W_rounds (fun m σ o => ∃ (k : Nat) (zs : List Int), m = cap - k ∧ k ≤ cap ∧ k ≤ zs.length ∧ zs.length ≤ cap ∧ σ = slots [(0, .hdr os.length 0 xs.length), (3, .d (vI i)), (4, .hdr (os.length + (T.length + 1)) 0 cap), (5, .d (vI k))] ∧ o = os ++ .nhole i (os.length + (T.length + 1)) len L :: (T ++ [.grow cap zs])) cap .refl ⟨0, zs, by simp, by simp, by simp, by cases full <;> simp_all, by simp, by simp⟩ ?_)
   clear hz1 hz2
   rintro m σ o ⟨k, zs, rfl, hk, hkz, hzc, rfl, rfl⟩ _
   refine W_seq (xU ?_)
   iterate 4 refine xO ?_
   refine xF [0,3,4,5,28] ?_
   refine W_cond rfl ?_ ?_
   · intro h28
     have hk2 : k < cap := by simpa using h28
     refine W_skip ?_
     rintro -
     refine W_seq (W_block ?_)
     refine W_reg rfl ?_
     iterate 4 refine xO ?_
     refine xO ?_ (h := by simp [convA]; exact .mk)
     refine xO ?_ (h := by simp [hk2]; exact .mk)
     refine xO ?_ (h := by simp [splice, hk2, hkz, isIntTy]; exact .mk)
     refine xF [0,3,4,5] ?_
     refine W_reg rfl ?_
     iterate 3 refine xO ?_
     refine xE [0,3,4,5] ?_
     refine rounds_kill [0,3,4,5] ?_
     refine rounds_next (m' := cap - (k+1)) (by omega) ⟨k+1, _, rfl, by omega, ?_, ?_, ?_, rfl⟩
     · simp; omega
     · simp; omega
     rw [wrap64 (by have := hcm; simp [maxLen] at this; omega) (by have := hcm; simp [maxLen] at this; omega)]; rfl
   intro h28
   have hkc : k = cap := by simp at h28; omega
   have hzl : zs.length = cap := by omega
   refine W_exit ?_
   rintro -
   refine W_reg rfl ?_
   iterate 3 refine xO ?_
   refine xE [0,3] ?_
   refine rounds_kill [0,3] ?_
   refine rounds_kills [0,3] rfl ?_
   refine rounds_weak (Weak.nclose os.length (i := i) (r' := os.length + (T.length + 1)) (len := len) (c := cap) (L := L) (zs := zs) true (by simp) (by simp) (fun _ => hzl)) ?_
   refine rounds_next (m' := xs.length - (i+1)) (by omega) ⟨i+1, T ++ [.dead], L.set i (.row len cap true), rfl, by omega, ⟨⟨ds ++ [.dead], by rw [← hTd, List.append_assoc]⟩, by simp [fix_append, hT], by simpa using hLl, fun j hj => ?_⟩, fun j hj => ?_, ?_, by simp⟩
   · by_cases e : i = j
     · subst e; exact ⟨len, cap, true, by simp [hLl, hj]⟩
     obtain ⟨a, b, c, h⟩ := hrow j hj
     exact ⟨a, b, c, by rw [List.getElem?_set_ne e]; exact h⟩
   · by_cases e : i = j
     · subst e; exact ⟨len, cap, by simp [hLl, hi2]⟩
     obtain ⟨a, b, h⟩ := hfull j (by omega)
     exact ⟨a, b, by rw [List.getElem?_set_ne e]; exact h⟩
   rw [wrap64 (by omega) (by omega)]; rfl
 intro h12
 have hii : i = xs.length := by simp at h12; omega
 rw [hii] at hfull
 clear hi hii
 refine W_exit ?_
 rintro -
 refine W_seq (xU ?_)
 refine xO ?_
 refine xF [0,6] ?_
 refine W_block (W_rounds (fun m σ o => ∃ (i : Nat) (T : List Awp.Obj) (L : List NE), m = xs.length - i ∧ i ≤ xs.length ∧ ((∃ ds, tl ++ ds = T) ∧ objsFix T = true ∧ L.length = xs.length ∧ (∀ j, j < xs.length → ∃ l c f, L[j]? = some (.row l c f))) ∧ (∀ j, j < xs.length → ∃ l c, L[j]? = some (.row l c true)) ∧ σ = slots [(0, .hdr os.length 0 xs.length), (6, .d (vI i))] ∧ o = os ++ .nest L :: T) xs.length .refl ⟨0, T, L, by simp, by simp, ⟨⟨ds, hTd⟩, hT, hLl, hrow⟩, hfull, rfl, rfl⟩ ?_)
 rintro m σ o ⟨i, T, L, rfl, hi, ⟨⟨ds, hTd⟩, hT, hLl, hrow⟩, hfull, rfl, rfl⟩ _
 refine W_seq (xU ?_)
 iterate 4 refine xO ?_
 refine xF [0,6,40] ?_
 refine W_cond rfl ?_ ?_
 · intro h40
   have hi2 : i < xs.length := by simpa using h40
   refine W_skip ?_
   rintro -
   refine W_seq (W_block ?_)
   refine W_seq ?_
   obtain ⟨len, cap, hLi⟩ := hfull i (by omega)
   refine W_nopen os.length i (L := L) (len := len) (cap := cap) (full := true) rfl (by simp) hLi (by simp) (by simp [fix_append, ho, hT]) fun zs hz1 hz2 hlc hcm => ?_
   rw [show (os ++ Awp.Obj.nest L :: T).set os.length (.nhole i (os ++ Awp.Obj.nest L :: T).length len L) ++ [.grow cap zs] = os ++ .nhole i (os.length + (T.length + 1)) len L :: (T ++ [.grow cap zs]) from by simp]
   have hcb : (cap : Int) ≤ cap := Int.le_refl _
   refine W_regD (by kernel_rfl) [] 4 [0,1,2,3,4,5,6,7,8,9,10] (by decide +kernel) ?_
   iterate 2 refine xO ?_
   refine xO ?_ (h := by simp [hi2]; exact .mk)
   iterate 3 refine xO ?_
   refine xO ?_ (h := by simp [hi2]; exact .mk)
   iterate 2 refine xO ?_
   refine xO ?_ (h := by simp [optA, *]; exact .mk)
   refine xO ?_
   refine xG [0,6,7] ?_
   refine xO ?_
   refine xF [0,6,7,8] ?_
   refine W_block ?_
   have hzl : zs.length = cap := hz1 rfl
   refine W_rounds (fun m σ o => ∃ (k : Nat), m = cap - k ∧ k ≤ cap ∧ σ = slots [(0, .hdr os.length 0 xs.length), (6, .d (vI i)), (7, .hdr (os.length + (T.length + 1)) 0 cap), (8, .d (vI k))] ∧ o = os ++ .nhole i (os.length + (T.length + 1)) len L :: (T ++ [.grow cap zs])) cap .refl ⟨0, by simp, by simp, by simp, by simp⟩ ?_
   rintro m σ o ⟨k, rfl, hk, rfl, rfl⟩ _
   refine W_seq (xU ?_)
   iterate 4 refine xO ?_
   refine xF [0,6,7,8,56] ?_
   refine W_cond rfl ?_ ?_
   · intro h56
     have hk2 : k < cap := by simpa using h56
     have hk3 : k < zs.length := by omega
     refine W_skip ?_
     rintro -
     refine W_seq (W_block ?_)
     refine xU ?_
     iterate 2 refine xO ?_
     refine xO ?_ (h := by simp [hk2]; exact .mk)
     refine xO ?_ (h := by simp [hk3]; exact .mk)
     iterate 2 refine xO ?_
     refine xO ?_ (h := by simp [convA, isIntTy]; exact .mk)
     refine xO ?_
     refine xF [0,6,7,8,66] ?_
     refine W_cond rfl ?_ ?_
     · intro h66
       refine W_weak (s2 := slots []) (objs2 := os ++ .dead :: (T ++ [.grow cap zs])) (Weak.trans (Weak.kills [] rfl) (by have := Weak.objDead (B := B) (S := S) (n := Try.f21.ntmps) (fl := ⟨(os ++ Awp.Obj.row 1 (xs.map oB) :: tl).length, false⟩) (s := slots []) (objs := os ++ .nhole i (os.length + (T.length + 1)) len L :: (T ++ [.grow cap zs])) os.length; simpa using this) (fun _ _ _ h1 h2 => by rw [← h1.len]; exact h2)) ?_
       obtain ⟨dd, hdd⟩ : ∃ dd, T ++ [.grow cap zs] = tl ++ dd := ⟨ds ++ [.grow cap zs], by rw [← hTd]; simp⟩
       rw [hdd]
       refine xU ?_
       refine xO ?_
       refine xF [] ?_
       refine W_ret ?_
       exact endAt_tail os tl dd (by simp [Try.f21]; exact .mk) rfl rfl (by simp; omega) rfl rfl hlo hlt
     intro h66
     refine W_skip ?_
     rintro -
     refine W_reg rfl ?_
     iterate 3 refine xO ?_
     refine xE [0,6,7,8] ?_
     refine rounds_kill [0,6,7,8] ?_
     refine rounds_next (m' := cap - (k+1)) (by omega) ⟨k+1, rfl, by omega, ?_, rfl⟩
     rw [wrap64 (by have := hcm; simp [maxLen] at this; omega) (by have := hcm; simp [maxLen] at this; omega)]; rfl
   intro h56
   refine W_exit ?_
   rintro -
   refine W_reg rfl ?_
   iterate 3 refine xO ?_
   refine xE [0,6] ?_
   refine rounds_kill [0,6] ?_
   refine rounds_kills [0,6] rfl ?_
   refine rounds_weak (Weak.nclose os.length (i := i) (r' := os.length + (T.length + 1)) (len := len) (c := cap) (L := L) (zs := zs) true (by simp) (by simp) (fun _ => hzl)) ?_
   refine rounds_next (m' := xs.length - (i+1)) (by omega) ⟨i+1, T ++ [.dead], L.set i (.row len cap true), rfl, by omega, ⟨⟨ds ++ [.dead], by rw [← hTd, List.append_assoc]⟩, by simp [fix_append, hT], by simpa using hLl, fun j hj => ?_⟩, fun j hj => ?_, ?_, by simp⟩
   · by_cases e : i = j
     · subst e; exact ⟨len, cap, true, by simp [hLl, hj]⟩
     obtain ⟨a, b, c, h⟩ := hrow j hj
     exact ⟨a, b, c, by rw [List.getElem?_set_ne e]; exact h⟩
   · by_cases e : i = j
     · subst e; exact ⟨len, cap, by simp [hLl, hj]⟩
     obtain ⟨a, b, h⟩ := hfull j (by omega)
     exact ⟨a, b, by rw [List.getElem?_set_ne e]; exact h⟩
   rw [wrap64 (by omega) (by omega)]; rfl
 intro h40
 refine W_weak (s2 := slots []) (objs2 := os ++ .dead :: T) (Weak.trans (Weak.kills [] rfl) (by have := Weak.objDead (B := B) (S := S) (n := Try.f21.ntmps) (fl := ⟨(os ++ Awp.Obj.row 1 (xs.map oB) :: tl).length, false⟩) (s := slots []) (objs := os ++ .nest L :: T) os.length; simpa using this) (fun _ _ _ h1 h2 => by rw [← h1.len]; exact h2)) ?_
 obtain ⟨dd, hdd⟩ : ∃ dd, T = tl ++ dd := ⟨ds, hTd.symm⟩
 rw [hdd]
 refine W_exit (xT ?_)
 refine xO ?_
 refine xF [] ?_
 refine W_ret ?_
 exact endAt_tail os tl dd (by simp [Try.f21]; exact .mk) rfl rfl (by simp; omega) rfl rfl hlo hlt

open Go.Awp
theorem in20 (g : Gl) (os tl : List Awp.Obj) (a : Abs) (ha : a.Ok) (ho : objsFix os = true) (ht : objsFix tl = true) (hlo : objsLt (os.length + 3 + tl.length) os = true) (hlt : objsLt (os.length + 3 + tl.length) tl = true) : ∀ B S, CallsA Try.prog g B S ⟨(os ++ Awp.Obj.row 1 (a.gens.map vI) :: .row 1 (a.data.map oB) :: .row 3 (a.roots.map eRoot) :: tl).length, false⟩ 20 [.agg [.hdr os.length 0 a.gens.length, .hdr (os.length + 1) 0 a.data.length, .hdr (os.length + 2) 0 a.roots.length]] (os ++ Awp.Obj.row 1 (a.gens.map vI) :: .row 1 (a.data.map oB) :: .row 3 (a.roots.map eRoot) :: tl) (fun x r => x = .tup [] ∧ r = os ++ .dead :: .dead :: .dead :: tl) := by
 refine callsA_at Try.func20 rfl (Nat.le_of_ble_eq_true rfl) fun B S => ?_
 have q0 := ha.h1
 have q1 := ha.h3
 have c21 := in21 g (os ++ [.row 1 (a.gens.map vI)]) (.row 3 (a.roots.map eRoot) :: (tl ++ [.var 26 [.hdr os.length 0 a.gens.length, .hdr (os.length + 1) 0 a.data.length, .hdr (os.length + 2) 0 a.roots.length]])) a.data (by simp [fix_append, ho, eRoot]) (by simp [fix_append, ht, eRoot]) (by rw [olt_append]; simp only [Bool.and_eq_true]; exact ⟨olt_mono (by simp <;> omega) hlo, rfl⟩) (by simp only [objsLt, olt_append, Bool.and_eq_true]; exact ⟨rfl, olt_mono (by simp <;> omega) hlt, by simp <;> omega⟩) ha.h2
 simp only [List.append_assoc, List.cons_append, List.nil_append, List.length_append, List.length_cons, List.length_nil, Nat.zero_add, Nat.reduceAdd] at c21
 refine xU ?_
 refine xO ?_
 refine xF [1] ?_
 refine W_seq ?_
 refine W_regK rfl [1002] rfl ?_
 refine xO ?_
 refine xO ?_ (h := by simp [eRoot]; exact .mk)
 refine run_inlK rfl rfl rfl rfl (by simp; exact .mk) ⟨_, Try.func21, rfl, rfl⟩ (fixS_put (by simp) (fixS_put (by simp) (fixS_slots (by simp)))) (by simpa using c21) (by simp) (by decide) ?_
 refine xF [1] ?_
 refine W_seq (xU ?_)
 refine xO ?_
 refine xF [1,2] ?_
 refine W_block (W_rounds (fun m σ o => ∃ (i : Nat) (L : List Int), m = a.gens.length - i ∧ i ≤ a.gens.length ∧ L.length = a.gens.length ∧ σ = slots [(1, .ptr (os.length + (tl.length + 3)) 0 0), (2, .d (vI i))] ∧ o = os ++ .row 1 (L.map vI) :: .dead :: .row 3 (a.roots.map eRoot) :: (tl ++ [.var 26 [.hdr os.length 0 a.gens.length, .hdr (os.length + 1) 0 a.data.length, .hdr (os.length + 2) 0 a.roots.length]])) a.gens.length .refl ⟨0, a.gens, by simp, by simp, rfl, by simp, by simp⟩ ?_)
 rintro m σ o ⟨i, L, rfl, hi, hL, rfl, rfl⟩ _
 refine W_seq (xU ?_)
 iterate 2 refine xO ?_
 refine xO ?_ (h := by simp [eRoot]; exact .mk)
 iterate 2 refine xO ?_
 refine xF [1,2,11] ?_
 refine W_cond rfl ?_ ?_
 · intro h11
   have hi2 : i < a.gens.length := by simpa using h11
   have hi3 : i < L.length := by omega
   refine W_skip ?_
   rintro -
   refine W_seq (W_block ?_)
   refine W_reg rfl ?_
   refine xO ?_
   refine xO ?_ (h := by simp [eRoot]; exact .mk)
   refine xO ?_
   refine xO ?_ (h := by simp [eRoot, hi2]; exact .mk)
   refine xO ?_ (h := by simp [-List.getElem?_map, map_get hi3, nrmL, nrm, putC, splice]; exact .mk)
   refine xF [1,2] ?_
   refine W_reg rfl ?_
   iterate 3 refine xO ?_
   refine xE [1,2] ?_
   refine rounds_kill [1,2] ?_
   refine rounds_next (m' := a.gens.length - (i+1)) (by omega) ⟨i+1, L.set i (-7), rfl, by omega, by simpa using hL, ?_, ?_⟩
   · rw [wrap64 (by omega) (by omega)]; rfl
   rw [List.map_set]; try rfl
 intro h11
 refine W_exit (xT ?_)
 refine xO ?_
 refine xF [1,3] ?_
 refine W_block (W_rounds (fun m σ o => ∃ (i : Nat) (K : List Root), m = a.roots.length - i ∧ i ≤ a.roots.length ∧ K.length = a.roots.length ∧ σ = slots [(1, .ptr (os.length + (tl.length + 3)) 0 0), (3, .d (vI i))] ∧ o = os ++ .row 1 (L.map vI) :: .dead :: .row 3 (K.map eRoot) :: (tl ++ [.var 26 [.hdr os.length 0 a.gens.length, .hdr (os.length + 1) 0 a.data.length, .hdr (os.length + 2) 0 a.roots.length]])) a.roots.length .refl ⟨0, a.roots, by simp, by simp, rfl, rfl, rfl⟩ ?_)
 rintro m σ o ⟨i, K, rfl, hi, hK, rfl, rfl⟩ _
 refine W_seq (xU ?_)
 iterate 2 refine xO ?_
 refine xO ?_ (h := by simp [eRoot]; exact .mk)
 iterate 2 refine xO ?_
 refine xF [1,3,22] ?_
 refine W_cond rfl ?_ ?_
 · intro h22
   have hi2 : i < a.roots.length := by simpa using h22
   have hi3 : i < K.length := by omega
   refine W_skip ?_
   rintro -
   refine W_seq (W_block ?_)
   refine W_reg rfl ?_
   refine xO ?_
   refine xO ?_ (h := by simp [eRoot]; exact .mk)
   refine xO ?_
   refine xO ?_ (h := by simp [eRoot, hi2]; exact .mk)
   refine xO ?_ (h := by simp [hi2]; exact .mk)
   refine xO ?_ (h := by simp [-List.getElem?_map, map_get hi3, eRoot, nrmL, nrm, putC, splice]; exact .mk)
   refine xF [1,3] ?_
   refine W_reg rfl ?_
   iterate 3 refine xO ?_
   refine xE [1,3] ?_
   refine rounds_kill [1,3] ?_
   refine rounds_next (m' := a.roots.length - (i+1)) (by omega) ⟨i+1, K.set i ⟨⟨#[115,112,111,105,108,116]⟩, (nth K i).ix, (nth K i).gen⟩, rfl, by omega, by simpa using hK, ?_, ?_⟩
   · rw [wrap64 (by omega) (by omega)]; rfl
   rw [List.map_set]; rfl
 intro h22
 refine W_weak (s2 := slots []) (objs2 := os ++ .dead :: .dead :: .dead :: (tl ++ [.var 26 [.hdr os.length 0 a.gens.length, .hdr (os.length + 1) 0 a.data.length, .hdr (os.length + 2) 0 a.roots.length]])) (Weak.trans (Weak.kills [] rfl) (Weak.trans (Weak.objDead os.length) (by have := Weak.objDead (B := B) (S := S) (n := Try.f20.ntmps) (fl := ⟨(os ++ Awp.Obj.row 1 (a.gens.map vI) :: .row 1 (a.data.map oB) :: .row 3 (a.roots.map eRoot) :: tl).length, false⟩) (s := slots []) (objs := (os ++ Awp.Obj.row 1 (L.map vI) :: .dead :: .row 3 (K.map eRoot) :: (tl ++ [.var 26 [.hdr os.length 0 a.gens.length, .hdr (os.length + 1) 0 a.data.length, .hdr (os.length + 2) 0 a.roots.length]])).set os.length .dead) (os.length + 2); simpa using this) (fun _ _ _ h1 h2 => by rw [← h1.len]; exact h2)) (fun _ _ _ h1 h2 => by rw [← h1.len]; exact h2)) ?_
 refine W_exit ?_
 exact endAt_tailN os tl [.var 26 [.hdr os.length 0 a.gens.length, .hdr (os.length + 1) 0 a.data.length, .hdr (os.length + 2) 0 a.roots.length]] (by simp [Try.f20]; exact .mk) rfl (by simp) (by simp; omega) rfl rfl rfl rfl hlo hlt

open Go.Awp
structure Spot where
 page : Int
 count : Int
 small : Bool
 cls : Int
 cell : Int
 deriving Inhabited
def eSpot (s : Spot) : D := .agg [vI s.page, vI s.count, vT s.small, vI s.cls, vI s.cell]
@[simp] theorem roed_eSpot (s) : (eSpot s).roed = eSpot s := by simp [eSpot]
@[simp] theorem snap_eSpot (s) : (eSpot s).snap = eSpot s := by simp [eSpot]
@[simp] theorem noRo_eSpot (s) : (eSpot s).noRo = true := by simp [eSpot]
@[simp] theorem noSn_eSpot (s) : (eSpot s).noSn = true := by simp [eSpot]
@[simp] theorem noOwn_eSpot (s) : (eSpot s).noOwn = true := by simp [eSpot]
def spotS (pages : Int) (o : Int × Int) : Spot × Bool :=
 if o.1 < 0 then (⟨0, 0, false, 0, 0⟩, false)
 else if (classS o.2).2 then
  let w := whichS (classS o.2).1 (o.1.tmod 32)
  (⟨o.1.tdiv 32, 1, true, (classS o.2).1, w.1⟩, w.2 && decide (o.1.tdiv 32 < pages))
 else (⟨o.1.tdiv 32, (pagesS o.2).1, false, (classS o.2).1, 0⟩,
   decide ((pagesS o.2).2 = 0) && decide (o.1.tmod 32 = 0) && decide (o.1.tdiv 32 < pages) && decide ((pagesS o.2).1 ≤ pages - o.1.tdiv 32))
open Go.Awp
section
variable {α : Type} [Inhabited α] (lt : α → α → Bool)
def swp (l : List α) (i j : Nat) : List α := if i < l.length ∧ j < l.length then (l.set i (nth l j)).set j (nth l i) else l
def sink (a : Nat) : Nat → List α → List α
 | 0, l => l
 | j + 1, l => if a < j + 1 ∧ lt (nth l (j + 1)) (nth l j) = true then sink a j (swp l (j + 1) j) else l
def insF (a : Nat) : Nat → Nat → List α → List α
 | 0, _, l => l
 | k + 1, i, l => insF a k (i + 1) (sink lt a i l)
def insS (a b : Nat) (l : List α) : List α := insF lt a (b - (a + 1)) (a + 1) l
def swrF (a b : Nat) : Nat → Nat → List α → List α
 | 0, _, l => l
 | k + 1, i, l => swrF a b k (i + 1) (swp l (a + i) (b + i))
def swr (a b n : Nat) (l : List α) : List α := swrF a b n 0 l
def rotF (m : Nat) : Nat → Nat → Nat → List α → List α
 | 0, _, _, l => l
 | f + 1, i, j, l => if i = j then swr (m - i) m i l else if j < i then rotF m f (i - j) j (swr (m - i) m j l) else rotF m f i (j - i) (swr (m - i) (m + j - i) i l)
def rotS (a m b : Nat) (l : List α) : List α := rotF m (m - a + (b - m)) (m - a) (b - m) l
def bsF (p : Nat → Bool) : Nat → Nat → Nat → Nat
 | 0, i, _ => i
 | f + 1, i, j => if i < j then (if p ((i + j) / 2) = true then bsF p f ((i + j) / 2 + 1) j else bsF p f i ((i + j) / 2)) else i
def bsS (p : Nat → Bool) (i j : Nat) : Nat := bsF p (j - i) i j
def upF : Nat → Nat → List α → List α
 | 0, _, l => l
 | k + 1, i, l => upF k (i + 1) (swp l i (i + 1))
def dnF : Nat → Nat → List α → List α
 | 0, _, l => l
 | k + 1, i, l => dnF k (i - 1) (swp l i (i - 1))
def symF : Nat → Nat → Nat → Nat → List α → List α
 | 0, _, _, _, l => l
 | f + 1, a, m, b, l =>
  if m - a = 1 then (let i := bsS (fun h => lt (nth l h) (nth l a)) m b; upF (i - 1 - a) a l)
  else if b - m = 1 then (let i := bsS (fun h => !lt (nth l m) (nth l h)) a m; dnF (m - i) m l)
  else
   let mid := (a + b) / 2
   let n := mid + m
   let s0 := if mid < m then n - b else a
   let r0 := if mid < m then mid else m
   let st := bsS (fun c => !lt (nth l (n - 1 - c)) (nth l c)) s0 r0
   let en := n - st
   let l1 := if st < m ∧ m < en then rotS st m en l else l
   let l2 := if a < st ∧ st < mid then symF f a st mid l1 else l1
   if mid < en ∧ en < b then symF f mid en b l2 else l2
def stableS (l : List α) : List α :=
 if l.length < 20 then insS lt 0 l.length l
 else
  let l2 := insS lt 20 l.length (insS lt 0 20 l)
  if l.length = 20 then l2 else symF lt l.length 0 20 l.length l2

theorem swp_len (l : List α) (i j : Nat) : (swp l i j).length = l.length := by unfold swp; split <;> simp
theorem swp_perm (l : List α) (i j : Nat) : (swp l i j).Perm l := by
 unfold swp
 split
 · rename_i h
   obtain ⟨hi, hj⟩ := h
   rw [nth_eq hi, nth_eq hj]
   exact List.set_set_perm hi hj
 · exact .refl _
theorem sink_perm (a : Nat) : ∀ (j : Nat) (l : List α), (sink lt a j l).Perm l
 | 0, l => .refl _
 | j + 1, l => by
  unfold sink
  split
  · exact (sink_perm a j _).trans (swp_perm ..)
  · exact .refl _
theorem insF_perm (a : Nat) : ∀ (k i : Nat) (l : List α), (insF lt a k i l).Perm l
 | 0, _, l => .refl _
 | k + 1, i, l => (insF_perm a k (i + 1) _).trans (sink_perm lt a i l)
theorem swrF_perm (a b : Nat) : ∀ (k i : Nat) (l : List α), (swrF a b k i l).Perm l
 | 0, _, l => .refl _
 | k + 1, i, l => (swrF_perm a b k (i + 1) _).trans (swp_perm ..)
theorem swr_perm (a b n : Nat) (l : List α) : (swr a b n l).Perm l := swrF_perm a b n 0 l
theorem rotF_perm (m : Nat) : ∀ (f i j : Nat) (l : List α), (rotF m f i j l).Perm l
 | 0, _, _, l => .refl _
 | f + 1, i, j, l => by
  unfold rotF
  split
  · exact swr_perm ..
  · split
    · exact (rotF_perm m f _ _ _).trans (swr_perm ..)
    · exact (rotF_perm m f _ _ _).trans (swr_perm ..)
theorem upF_perm : ∀ (k i : Nat) (l : List α), (upF k i l).Perm l
 | 0, _, l => .refl _
 | k + 1, i, l => (upF_perm k (i + 1) _).trans (swp_perm ..)
theorem dnF_perm : ∀ (k i : Nat) (l : List α), (dnF k i l).Perm l
 | 0, _, l => .refl _
 | k + 1, i, l => (dnF_perm k (i - 1) _).trans (swp_perm ..)
theorem symF_perm : ∀ (f a m b : Nat) (l : List α), (symF lt f a m b l).Perm l
 | 0, _, _, _, l => .refl _
 | f + 1, a, m, b, l => by
  unfold symF
  split
  · exact upF_perm ..
  · split
    · exact dnF_perm ..
    · have h1 : ∀ (c : Prop) [Decidable c] (x y z : List α), (c → x.Perm z) → (¬ c → y.Perm z) → (if c then x else y).Perm z := fun c _ x y z hx hy => by
       split
       · exact hx ‹_›
       · exact hy ‹_›
      simp only
      refine h1 _ _ _ _ (fun _ => (symF_perm f _ _ _ _).trans ?_) (fun _ => ?_) <;>
      refine h1 _ _ _ _ (fun _ => (symF_perm f _ _ _ _).trans ?_) (fun _ => ?_) <;>
      exact h1 _ _ _ _ (fun _ => rotF_perm ..) (fun _ => .refl _)
end
theorem bsF_le (p : Nat → Bool) : ∀ (f i j : Nat), i ≤ j → i ≤ bsF p f i j ∧ bsF p f i j ≤ j
 | 0, i, j, h => ⟨Nat.le_refl _, h⟩
 | f + 1, i, j, h => by
  unfold bsF
  split
  · split
    · have := bsF_le p f ((i + j) / 2 + 1) j (by omega)
      omega
    · have := bsF_le p f i ((i + j) / 2) (by omega)
      omega
  · exact ⟨Nat.le_refl _, h⟩
theorem bsF_end {p : Nat → Bool} {f i j : Nat} (h : j ≤ i) : bsF p f i j = i := by
 cases f with
 | zero => rfl
 | succ f => unfold bsF; rw [if_neg (by omega)]
theorem bsF_t {p : Nat → Bool} {f i j : Nat} (h : i < j) (hp : p ((i + j) / 2) = true) : bsF p (f + 1) i j = bsF p f ((i + j) / 2 + 1) j := by
 conv => lhs; unfold bsF
 rw [if_pos h, if_pos hp]
theorem bsF_f {p : Nat → Bool} {f i j : Nat} (h : i < j) (hp : p ((i + j) / 2) = false) : bsF p (f + 1) i j = bsF p f i ((i + j) / 2) := by
 conv => lhs; unfold bsF
 rw [if_pos h, if_neg (by simp [hp])]
theorem bsS_le {p : Nat → Bool} {i j : Nat} (h : i ≤ j) : i ≤ bsS p i j ∧ bsS p i j ≤ j := bsF_le p _ i j h
theorem symF_gen {α : Type} [Inhabited α] {lt : α → α → Bool} {f a m b : Nat} {l : List α} (k1 : ¬ m - a = 1) (k2 : ¬ b - m = 1) {mid N p s0 r0 st en : Nat} (hmid : mid = (a + b) / 2) (hN : N = mid + m) (hp : p = N - 1)
    (hs0 : s0 = if mid < m then N - b else a) (hr0 : r0 = if mid < m then mid else m) (hst : bsS (fun c => !lt (nth l (p - c)) (nth l c)) s0 r0 = st) (hen : en = N - st) :
    symF lt (f + 1) a m b l = (let l1 := if st < m ∧ m < en then rotS st m en l else l
      let l2 := if a < st ∧ st < mid then symF lt f a st mid l1 else l1
      if mid < en ∧ en < b then symF lt f mid en b l2 else l2) := by
 subst hen hst hs0 hr0 hp hN hmid
 conv => lhs; unfold symF
 rw [if_neg k1, if_neg k2]
open Go.Awp
structure Blk where
 at_ : Int
 len : Int
 slot : Int
 deriving Inhabited
def eBlk (b : Blk) : D := .agg [vI b.at_, vI b.len, vI b.slot]
@[simp] theorem roed_eBlk (s) : (eBlk s).roed = eBlk s := by simp [eBlk]
@[simp] theorem snap_eBlk (s) : (eBlk s).snap = eBlk s := by simp [eBlk]
@[simp] theorem noRo_eBlk (s) : (eBlk s).noRo = true := by simp [eBlk]
@[simp] theorem noSn_eBlk (s) : (eBlk s).noSn = true := by simp [eBlk]
@[simp] theorem noOwn_eBlk (s) : (eBlk s).noOwn = true := by simp [eBlk]
abbrev rBk (x : List Blk) : D := rows 3 eBlk x
abbrev oBk (x : List Blk) : D := ownR 3 eBlk x
def cmpI (a b : Int) : Int := if a < b then -1 else if b < a then 1 else 0
def ltB (x y : Blk) : Bool := decide (cmpI x.at_ y.at_ < 0)
theorem set_eBlk {l : List Blk} {k : Nat} {x : Blk} : (l.map eBlk).set k (D.agg [vI x.at_, vI x.len, vI x.slot]) = (l.set k x).map eBlk := by rw [List.map_set]; rfl
theorem wrapU {n : Int} (h0 : 0 ≤ n) (h : n < 2^63) : IntKind.u64.wrap n = n := by
 simp only [IntKind.wrap, IntKind.signed, IntKind.bits]
 simp
 omega
set_option maxHeartbeats 4000000
set_option maxRecDepth 4000
open Go.Awp
theorem ct127 (g : Gl) (a : Int) : CtAt Try.prog g 127 [vI a] (.v (.bool false)) := by
 refine ctAt_of_W Try.func127 rfl rfl (Nat.le_of_ble_eq_true rfl) fun B S => ?_
 refine xU ?_
 refine xO ?_
 refine xG [0] ?_
 iterate 4 refine xO ?_
 refine xF [2] ?_
 refine W_ret (xR (by simp [Try.f127]; exact .mk) ?_)
 simp [Try.f127]

theorem ct104 (g : Gl) (a b : Int) : CtAt Try.prog g 104 [vI a, vI b] (vI (cmpI a b)) := by
 refine ctAt_of_W Try.func104 rfl rfl (Nat.le_of_ble_eq_true rfl) fun B S => ?_
 refine xU ?_
 refine xO ?_
 refine xG [0,1] ?_
 refine xO ?_
 refine xC (ct127 g a) ?_
 refine xO ?_
 refine xG [0,1,5] ?_
 refine xO ?_
 refine xC (ct127 g b) ?_
 refine xO ?_
 refine xF [0,1,5,6] ?_
 refine W_seq (xU ?_)
 refine xO ?_
 refine xF [0,1,6,11] ?_
 refine W_cond rfl ?_ ?_
 · intro h11
   refine W_seq (xU ?_)
   refine xO ?_
   refine xF [12] ?_
   refine W_cond rfl ?_ ?_
   · intro h12
     refine xU ?_
     refine xO ?_
     refine xF [4] ?_
     refine W_ret (xR (by simp [Try.f104]; exact .mk) ?_)
     simp [Try.f104, cmpI] at * <;> first | omega | grind
   intro h12
   refine W_skip ?_
   refine xT ?_
   refine xO ?_
   refine xF [4] ?_
   refine W_ret (xR (by simp [Try.f104]; exact .mk) ?_)
   simp [Try.f104, cmpI] at * <;> first | omega | grind
 intro h11
 refine W_skip ?_
 rintro -
 refine W_seq (xU ?_)
 refine xO ?_
 refine xF [0,1,13] ?_
 refine W_cond rfl ?_ ?_
 · intro h13
   refine xU ?_
   refine xO ?_
   refine xF [4] ?_
   refine W_ret (xR (by simp [Try.f104]; exact .mk) ?_)
   simp [Try.f104, cmpI] at * <;> first | omega | grind
 intro h13
 refine W_skip ?_
 rintro -
 refine W_seq (xU ?_)
 iterate 3 refine xO ?_
 refine xF [0,1,16] ?_
 refine W_cond rfl ?_ ?_
 · intro h16
   refine xU ?_
   refine xO ?_
   refine xF [4] ?_
   refine W_ret (xR (by simp [Try.f104]; exact .mk) ?_)
   simp [Try.f104, cmpI] at * <;> first | omega | grind
 intro h16
 refine W_skip ?_
 rintro -
 refine W_seq (xU ?_)
 iterate 3 refine xO ?_
 refine xF [19] ?_
 refine W_cond rfl ?_ ?_
 · intro h19
   refine xU ?_
   refine xO ?_
   refine xF [4] ?_
   refine W_ret (xR (by simp [Try.f104]; exact .mk) ?_)
   simp [Try.f104, cmpI] at * <;> first | omega | grind
 intro h19
 refine W_skip ?_
 refine xT ?_
 refine xO ?_
 refine xF [4] ?_
 refine W_ret (xR (by simp [Try.f104]; exact .mk) ?_)
 simp [Try.f104, cmpI] at * <;> first | omega | grind

theorem ct103 (g : Gl) (x y : Blk) : CtAt Try.prog g 103 [eBlk x, eBlk y] (vI (cmpI x.at_ y.at_)) := by
 refine ctAt_of_W Try.func103 rfl rfl (Nat.le_of_ble_eq_true rfl) fun B S => ?_
 simp only [eBlk, List.map, argD_agg]
 refine xU ?_
 iterate 3 refine xO ?_
 refine xG [2,3] ?_
 iterate 4 refine xO ?_
 refine xC (ct104 g x.at_ y.at_) ?_
 refine xO ?_
 refine xF [4] ?_
 refine W_ret (xR (by simp [Try.f103]; exact .mk) ?_)
 simp [Try.f103]

open Go.Awp
theorem in160 (g : Gl) (o : Awp.Obj) (l : List Blk) (a b n : Nat) (hl : l.length ≤ 2^40) (ha : a + n ≤ l.length) (hb : b + n ≤ l.length) : ∀ B S, CallsA Try.prog g B S ⟨[o, Awp.Obj.row 3 (l.map eBlk)].length, true⟩ 160 [.hdr 1 0 l.length, .d (vI a), .d (vI b), .d (vI n), .fn (.func 103) [] []] [o, Awp.Obj.row 3 (l.map eBlk)] (fun x r => x = .tup [] ∧ r = [o, Awp.Obj.row 3 ((swr a b n l).map eBlk)]) := by
 refine callsA_at Try.func160 rfl (Nat.le_of_ble_eq_true rfl) fun B S => ?_
 refine xU ?_
 refine xO ?_
 refine xF [0,1,2,3,10] ?_
 refine W_block (W_rounds (fun m σ o' => ∃ (i : Nat) (l' : List Blk), m = n - i ∧ i ≤ n ∧ l'.length = l.length ∧ swrF a b (n - i) i l' = swr a b n l ∧ σ = slots [(0, .hdr 1 0 l'.length), (1, .d (vI a)), (2, .d (vI b)), (3, .d (vI n)), (10, .d (vI i))] ∧ o' = [o, Awp.Obj.row 3 (l'.map eBlk)]) n .refl ⟨0, l, by simp, by simp, rfl, rfl, rfl, rfl⟩ ?_)
 rintro m σ o' ⟨i, l', rfl, hi, hlen, hinv, rfl, rfl⟩ _
 refine W_seq (xU ?_)
 iterate 3 refine xO ?_
 refine xF [0,1,2,3,10,13] ?_
 refine W_cond rfl ?_ ?_
 · intro h13
   have hi2 : i < n := by simpa using h13
   have e1 : IntKind.i64.wrap ((a : Int) + (i : Int)) = (a : Int) + (i : Int) := wrap64 (by omega) (by omega)
   have e2 : IntKind.i64.wrap ((b : Int) + (i : Int)) = (b : Int) + (i : Int) := wrap64 (by omega) (by omega)
   have q1 : 0 ≤ (a : Int) + (i : Int) ∧ (a : Int) + (i : Int) < (l'.length : Int) := by omega
   have q2 : 0 ≤ (b : Int) + (i : Int) ∧ (b : Int) + (i : Int) < (l'.length : Int) := by omega
   have r1 : a + i < l'.length := by omega
   have r2 : b + i < l'.length := by omega
   have t1 : ((a : Int) + (i : Int)).toNat = a + i := by omega
   have t2 : ((b : Int) + (i : Int)).toNat = b + i := by omega
   refine W_skip ?_
   rintro -
   refine W_seq (W_block ?_)
   refine W_regD (by kernel_rfl) [] 4 [0,1,2,3,4,5,6,7,8,9,10,11,12,13,14,15,16,17,18,19,20,21,22,23] (by decide +kernel) ?_
   iterate 3 refine xO ?_
   refine xO ?_ (h := by simp [e1]; exact .mk)
   iterate 3 refine xO ?_
   refine xO ?_ (h := by simp [e2]; exact .mk)
   iterate 3 refine xO ?_
   refine xO ?_ (h := by simp [e2]; exact .mk)
   refine xO ?_ (h := by simp [eBlk, q2, t2]; exact .mk)
   refine xO ?_ (h := by simp [eBlk, r2]; exact .mk)
   iterate 3 refine xO ?_
   refine xO ?_ (h := by simp [e1]; exact .mk)
   refine xO ?_ (h := by simp [eBlk, q1, t1]; exact .mk)
   refine xO ?_ (h := by simp [eBlk, r1]; exact .mk)
   refine xO ?_ (h := by simp [eBlk, q1, t1]; exact .mk)
   refine xO ?_ (h := by simp [splice, r1, putC, nrmL, nrm, set_eBlk, -List.map_set]; exact .mk)
   refine xO ?_ (h := by simp [eBlk, q2, t2]; exact .mk)
   refine xO ?_ (h := by simp [splice, r2, putC, nrmL, nrm, set_eBlk, -List.map_set]; exact .mk)
   refine xF [0,1,2,3,10] ?_
   refine W_reg rfl ?_
   iterate 3 refine xO ?_
   refine xE [0,1,2,3,10] ?_
   refine rounds_kill [0,1,2,3,10] ?_
   refine rounds_next (m' := n - (i+1)) (by omega) ⟨i+1, swp l' (a + i) (b + i), rfl, by omega, by rw [swp_len, hlen], ?_, ?_, ?_⟩
   · rw [← hinv, show n - i = n - (i + 1) + 1 by omega]; rfl
   · rw [wrap64 (by omega) (by omega), swp_len]; rfl
   simp [swp, r1, r2, eBlk, nrmL, nrm, nth_eq]
 intro h13
 obtain rfl : i = n := by simp at h13; omega
 refine W_exit (endAt_ret (by simp [Try.f160]; exact .mk) ?_ ?_)
 · simp
 simp [← hinv, swrF]

open Go.Awp
theorem in156 (g : Gl) (o : Awp.Obj) (l : List Blk) (a m b : Nat) (hl : l.length ≤ 2^40) (ha : a < m) (hm : m < b) (hb : b ≤ l.length) : ∀ B S, CallsA Try.prog g B S ⟨[o, Awp.Obj.row 3 (l.map eBlk)].length, true⟩ 156 [.hdr 1 0 l.length, .d (vI a), .d (vI m), .d (vI b), .fn (.func 103) [] []] [o, Awp.Obj.row 3 (l.map eBlk)] (fun x r => x = .tup [] ∧ r = [o, Awp.Obj.row 3 ((rotS a m b l).map eBlk)]) := by
 refine callsA_at Try.func156 rfl (Nat.le_of_ble_eq_true rfl) fun B S => ?_
 refine W_seq ?_
 have e1 : IntKind.i64.wrap ((m : Int) - (a : Int)) = ((m - a : Nat) : Int) := by rw [wrap64 (by omega) (by omega)]; omega
 have e2 : IntKind.i64.wrap ((b : Int) - (m : Int)) = ((b - m : Nat) : Int) := by rw [wrap64 (by omega) (by omega)]; omega
 refine W_reg rfl ?_
 iterate 2 refine xO ?_
 refine xO ?_ (h := by simp [e1]; exact .mk)
 refine xO ?_
 refine xG [0,2,3,4,10] ?_
 iterate 2 refine xO ?_
 refine xO ?_ (h := by simp [e2]; exact .mk)
 refine xO ?_
 refine xF [0,2,4,10,11] ?_
 refine W_seq (W_block ?_)
 refine W_rounds (fun f σ o' => ∃ (i j : Nat) (l' : List Blk), 1 ≤ i ∧ i ≤ m ∧ 1 ≤ j ∧ m + j ≤ l'.length ∧ i + j ≤ f ∧ l'.length = l.length ∧ rotF m f i j l' = rotS a m b l ∧ σ = slots [(0, .hdr 1 0 l'.length), (2, .d (vI m)), (4, .fn (.func 103) [] []), (10, .d (vI i)), (11, .d (vI j))] ∧ o' = [o, Awp.Obj.row 3 (l'.map eBlk)]) (m - a + (b - m)) (Weak.kills [0,2,4,10,11] rfl) ⟨m - a, b - m, l, by omega, by omega, by omega, by omega, by omega, rfl, rfl, rfl, rfl⟩ ?_
 rintro f σ o' ⟨i, j, l', hi1, him, hj1, hmj, hf, hlen, hinv, rfl, rfl⟩ _
 obtain ⟨f, rfl⟩ : ∃ f', f = f' + 1 := ⟨f - 1, by omega⟩
 refine W_seq (xU ?_)
 iterate 3 refine xO ?_
 refine xF [0,2,4,10,11,20] ?_
 refine W_cond rfl ?_ ?_
 · intro h20
   have hne : i ≠ j := by simp at h20; omega
   refine W_skip ?_
   rintro -
   refine W_block (xU ?_)
   iterate 3 refine xO ?_
   refine xF [0,2,4,10,11,23] ?_
   refine W_cond rfl ?_ ?_
   · intro h23
     have hlt : j < i := by simpa using h23
     have e1 : IntKind.i64.wrap ((m : Int) - (i : Int)) = ((m - i : Nat) : Int) := by rw [wrap64 (by omega) (by omega)]; omega
     have e2 : IntKind.i64.wrap ((i : Int) - (j : Int)) = ((i - j : Nat) : Int) := by rw [wrap64 (by omega) (by omega)]; omega
     refine xU ?_
     iterate 3 refine xO ?_
     refine xO ?_ (h := by simp [e1]; exact .mk)
     iterate 3 refine xO ?_
     refine run_inl0 rfl rfl rfl rfl (by simp; exact .mk) ⟨_, Try.func160, rfl, rfl⟩ (in160 g o l' (m - i) (m) (j) (by omega) (by omega) (by omega)) (.inl (by simp)) ?_
     refine xF [0,2,4,10,11] ?_
     refine W_reg rfl ?_
     iterate 2 refine xO ?_
     refine xO ?_ (h := by simp [e2]; exact .mk)
     refine xO ?_
     refine xE [0,2,4,10,11] ?_
     refine rounds_kill [0,2,4,10,11] ?_
     first
     | exact rounds_next (m' := f) (by omega) ⟨i - j, j, swr (m - i) m j l', by omega, by omega, by omega, by rw [(swr_perm ..).length_eq]; omega, by omega, by rw [(swr_perm ..).length_eq, hlen], by rw [← hinv, rotF, if_neg hne, if_pos hlt], by rw [(swr_perm ..).length_eq]; rfl, rfl⟩
     | exact rounds_next (m' := f) (by omega) ⟨i, j - i, swr (m - i) (m + j - i) i l', by omega, by omega, by omega, by rw [(swr_perm ..).length_eq]; omega, by omega, by rw [(swr_perm ..).length_eq, hlen], by rw [← hinv, rotF, if_neg hne, if_neg (by omega)], by rw [(swr_perm ..).length_eq]; rfl, rfl⟩
   intro h23
   have hlt : i < j := by simp at h23; omega
   have e1 : IntKind.i64.wrap ((m : Int) - (i : Int)) = ((m - i : Nat) : Int) := by rw [wrap64 (by omega) (by omega)]; omega
   have e2 : IntKind.i64.wrap ((j : Int) - (i : Int)) = ((j - i : Nat) : Int) := by rw [wrap64 (by omega) (by omega)]; omega
   have e3 : IntKind.i64.wrap ((m : Int) + (j : Int)) = (m : Int) + (j : Int) := wrap64 (by omega) (by omega)
   have e4 : IntKind.i64.wrap ((m : Int) + (j : Int) - (i : Int)) = ((m + j - i : Nat) : Int) := by rw [wrap64 (by omega) (by omega)]; omega
   refine xU ?_
   iterate 3 refine xO ?_
   refine xO ?_ (h := by simp [e1]; exact .mk)
   iterate 2 refine xO ?_
   refine xO ?_ (h := by simp [e3]; exact .mk)
   refine xO ?_
   refine xO ?_ (h := by simp [e3, e4]; exact .mk)
   iterate 2 refine xO ?_
   refine run_inl0 rfl rfl rfl rfl (by simp; exact .mk) ⟨_, Try.func160, rfl, rfl⟩ (in160 g o l' (m - i) (m + j - i) (i) (by omega) (by omega) (by omega)) (.inl (by simp)) ?_
   refine xF [0,2,4,10,11] ?_
   refine W_reg rfl ?_
   iterate 2 refine xO ?_
   refine xO ?_ (h := by simp [e2]; exact .mk)
   refine xO ?_
   refine xE [0,2,4,10,11] ?_
   refine rounds_kill [0,2,4,10,11] ?_
   first
   | exact rounds_next (m' := f) (by omega) ⟨i - j, j, swr (m - i) m j l', by omega, by omega, by omega, by rw [(swr_perm ..).length_eq]; omega, by omega, by rw [(swr_perm ..).length_eq, hlen], by rw [← hinv, rotF, if_neg hne, if_pos hlt], by rw [(swr_perm ..).length_eq]; rfl, rfl⟩
   | exact rounds_next (m' := f) (by omega) ⟨i, j - i, swr (m - i) (m + j - i) i l', by omega, by omega, by omega, by rw [(swr_perm ..).length_eq]; omega, by omega, by rw [(swr_perm ..).length_eq, hlen], by rw [← hinv, rotF, if_neg hne, if_neg (by omega)], by rw [(swr_perm ..).length_eq]; rfl, rfl⟩
 intro h20
 obtain rfl : i = j := by simp at h20; omega
 have e1 : IntKind.i64.wrap ((m : Int) - (i : Int)) = ((m - i : Nat) : Int) := by rw [wrap64 (by omega) (by omega)]; omega
 have hr : rotS a m b l = swr (m - i) m i l' := by rw [← hinv, rotF, if_pos rfl]
 refine W_exit ?_
 rintro -
 refine W_reg rfl ?_
 iterate 3 refine xO ?_
 refine xO ?_ (h := by simp [e1]; exact .mk)
 iterate 3 refine xO ?_
 refine run_inl0 rfl rfl rfl rfl (by simp; exact .mk) ⟨_, Try.func160, rfl, rfl⟩ (in160 g o l' (m - i) (m) (i) (by omega) (by omega) (by omega)) (.inl (by simp)) ?_
 refine xE [] ?_
 refine endAt_ret (by simp [Try.f156]; exact .mk) ?_ ?_
 · simp
 simp [hr]

open Go.Awp
theorem in143 (g : Gl) (o : Awp.Obj) (l : List Blk) (a b : Nat) (hl : l.length ≤ 2^40) (ha : a ≤ b) (hb : b ≤ l.length) : ∀ B S, CallsA Try.prog g B S ⟨[o, Awp.Obj.row 3 (l.map eBlk)].length, true⟩ 143 [.hdr 1 0 l.length, .d (vI a), .d (vI b), .fn (.func 103) [] []] [o, Awp.Obj.row 3 (l.map eBlk)] (fun x r => x = .tup [] ∧ r = [o, Awp.Obj.row 3 ((insS ltB a b l).map eBlk)]) := by
 refine callsA_at Try.func143 rfl (Nat.le_of_ble_eq_true rfl) fun B S => ?_
 refine W_seq ?_
 have e1 : IntKind.i64.wrap ((a : Int) + 1) = ((a + 1 : Nat) : Int) := by rw [wrap64 (by omega) (by omega)]; simp
 refine W_reg rfl ?_
 refine xO ?_
 refine xO ?_ (h := by simp [e1]; exact .mk)
 refine xO ?_
 refine xF [0,1,2,3,8] ?_
 refine W_block (W_rounds (fun f σ o' => ∃ (i : Nat) (l' : List Blk), f = b - i ∧ a + 1 ≤ i ∧ (i ≤ b ∨ i = a + 1) ∧ l'.length = l.length ∧ insF ltB a (b - i) i l' = insS ltB a b l ∧ σ = slots [(0, .hdr 1 0 l'.length), (1, .d (vI a)), (2, .d (vI b)), (3, .fn (.func 103) [] []), (8, .d (vI i))] ∧ o' = [o, Awp.Obj.row 3 (l'.map eBlk)]) (b - (a + 1)) (Weak.kills [0,1,2,3,8] rfl) ⟨a + 1, l, rfl, by omega, by omega, rfl, rfl, rfl, rfl⟩ ?_)
 rintro f σ o' ⟨i, l', rfl, hai, hib, hlen, hinv, rfl, rfl⟩ _
 refine W_seq (xU ?_)
 iterate 3 refine xO ?_
 refine xF [0,1,2,3,8,14] ?_
 refine W_cond rfl ?_ ?_
 · intro h14
   have hlt : i < b := by simp at h14; omega
   refine W_skip ?_
   rintro -
   refine W_seq (W_block ?_)
   refine xU ?_
   iterate 2 refine xO ?_
   refine xF [0,1,2,3,8,9] ?_
   refine W_block (W_rounds (fun f σ o' => ∃ (j : Nat) (l2 : List Blk), f = j ∧ j ≤ i ∧ l2.length = l.length ∧ sink ltB a j l2 = sink ltB a i l' ∧ σ = slots [(0, .hdr 1 0 l2.length), (1, .d (vI a)), (2, .d (vI b)), (3, .fn (.func 103) [] []), (8, .d (vI i)), (9, .d (vI j))] ∧ o' = [o, Awp.Obj.row 3 (l2.map eBlk)]) i (Weak.kills [0,1,2,3,8,9] rfl) ⟨i, l', rfl, by omega, hlen, rfl, rfl, rfl⟩ ?_)
   rintro f σ o' ⟨j, l2, rfl, hji, hlen2, hinv2, rfl, rfl⟩ _
   refine W_seq (W_seq ?_)
   have q1 : f < l2.length := by omega
   have q0 : a < f → IntKind.i64.wrap ((f : Int) - 1) = ((f - 1 : Nat) : Int) := fun h => by rw [wrap64 (by omega) (by omega)]; omega
   have q2 : a < f → 0 ≤ IntKind.i64.wrap ((f : Int) - 1) ∧ IntKind.i64.wrap ((f : Int) - 1) < (l2.length : Int) := fun h => by rw [q0 h]; omega
   have q3 : a < f → (IntKind.i64.wrap ((f : Int) - 1)).toNat < l2.length := fun h => by rw [q0 h]; omega
   refine W_regD (by kernel_rfl) [] 4 [0,1,2,3,4,5,6,7,8,9,10,11,12,13,14,15,16] (by decide +kernel) ?_
   iterate 4 refine xO ?_
   iterate 3 refine xI ?_
   refine run_if rfl (by simp; exact .mk) rfl (by simp <;> first | omega | grind) (fun hb => by simp [eBlk, q1]; exact .mk) ?_
   refine run_if rfl (by simp; exact .mk) rfl (by simp <;> first | omega | grind) (fun hb => by simp [-List.getElem?_map, map_get q1, eBlk]; exact .mk) ?_
   iterate 3 refine xI ?_
   refine run_if rfl (by simp; exact .mk) rfl (by simp <;> first | omega | grind) (fun hb => by have q := q2 (by simpa using hb); simp [q]; exact .mk) ?_
   refine run_if rfl (by simp; exact .mk) rfl (by simp <;> first | omega | grind) (fun hb => by have q := q3 (by simpa using hb); simp [-List.getElem?_map, map_get q, eBlk]; exact .mk) ?_
   refine run_call rfl (by simp; exact .mk) rfl rfl (by simp) (by simp; exact .mk) (by simp; exact .mk) (fun hb => ct103 g (nth l2 f) (nth l2 (IntKind.i64.wrap ((f : Int) - 1)).toNat)) (by simp) (by simp; exact .mk) (by simp) ?_
   refine xI ?_
   refine xP ?_
   refine xF [0,1,2,3,8,9,34] ?_
   refine W_cond rfl ?_ ?_
   · intro h34
     have hlt2 : a < f := by simp at h34; omega
     have hc : ltB (nth l2 f) (nth l2 (f - 1)) = true := by
      have := q0 hlt2
      simp [this] at h34; simp [ltB]; omega
     obtain ⟨j, rfl⟩ : ∃ j, f = j + 1 := ⟨f - 1, by omega⟩
     have e1 : IntKind.i64.wrap (j : Int) = (j : Int) := wrap64 (by omega) (by omega)
     have r2 : j < l2.length := by omega
     have q5 : 0 ≤ (j : Int) + 1 ∧ (j : Int) + 1 < (l2.length : Int) := by omega
     refine W_skip ?_
     rintro -
     refine W_seq (W_block ?_)
     refine W_regD (by kernel_rfl) [] 4 [0,1,2,3,4,5,6,7,8,9,10,11,12,13,14,15,16,17] (by decide +kernel) ?_
     iterate 4 refine xO ?_
     refine xO ?_ (h := by simp [e1]; exact .mk)
     iterate 2 refine xO ?_
     refine xO ?_ (h := by simp [e1]; exact .mk)
     iterate 2 (refine xO ?_ (h := by simp [eBlk, r2]; exact .mk))
     iterate 2 refine xO ?_
     refine xO ?_ (h := by simp [eBlk, q5]; exact .mk)
     refine xO ?_ (h := by simp [eBlk, q1]; exact .mk)
     refine xO ?_ (h := by simp [eBlk, q5]; exact .mk)
     refine xO ?_ (h := by simp [splice, q1, putC, nrmL, nrm, set_eBlk, -List.map_set]; exact .mk)
     refine xO ?_ (h := by simp [eBlk, r2]; exact .mk)
     refine xO ?_ (h := by simp [splice, r2, putC, nrmL, nrm, set_eBlk, -List.map_set]; exact .mk)
     refine xF [0,1,2,3,8,9] ?_
     refine W_reg rfl ?_
     refine xO ?_
     refine xO ?_ (h := by simp [e1]; exact .mk)
     refine xO ?_
     refine xE [0,1,2,3,8,9] ?_
     refine rounds_kill [0,1,2,3,8,9] ?_
     refine rounds_next (m' := j) (by omega) ⟨j, swp l2 (j + 1) j, rfl, by omega, by rw [swp_len, hlen2], ?_, ?_, ?_⟩
     · rw [← hinv2, sink, if_pos ⟨hlt2, hc⟩]
     · rw [swp_len]; simp [e1]
     simp [swp, q1, r2, eBlk, nrmL, nrm, nth_eq]
   intro h34
   have hs : sink ltB a i l' = l2 := by
    rw [← hinv2]
    cases f with
    | zero => rfl
    | succ j =>
     rw [sink, if_neg]
     rintro ⟨h1, h2⟩
     have := q0 h1
     rw [this] at h34; simp [h1] at h34; simp [ltB] at h2; omega
   have e2 : IntKind.i64.wrap ((i : Int) + 1) = ((i + 1 : Nat) : Int) := by rw [wrap64 (by omega) (by omega)]; simp
   refine W_exit ?_
   rintro -
   refine W_reg rfl ?_
   refine xO ?_
   refine xO ?_ (h := by simp [e2]; exact .mk)
   refine xO ?_
   refine xE [0,1,2,3,8] ?_
   refine rounds_kill [0,1,2,3,8] ?_
   refine rounds_next (m' := b - (i + 1)) (by omega) ⟨i + 1, l2, rfl, by omega, by omega, hlen2, ?_, rfl, rfl⟩
   rw [← hinv, ← hs, show b - i = b - (i + 1) + 1 by omega]; rfl
 intro h14
 have hr : insS ltB a b l = l' := by rw [← hinv, show b - i = 0 by simp at h14; omega]; rfl
 refine W_exit (endAt_ret (by simp [Try.f143]; exact .mk) ?_ ?_)
 · simp
 simp [hr]

end Go.Proofs
