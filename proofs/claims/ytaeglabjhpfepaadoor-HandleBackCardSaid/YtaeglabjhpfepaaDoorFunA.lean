/- Contracts of the functions of the packages handle and joistref: each answers what its plain function answers, where the library's table of powers is as laid; texts of fewer than 2^63 bytes. -/
import Derived.Test.YtaeglabjhpfepaaDoorAwpC
import Derived.Test.YtaeglabjhpfepaaDoorBase
import Derived.Test.YtaeglabjhpfepaaDoorShelf
import Derived.Lib.ItoaMem
set_option linter.all false
set_option linter.unusedSimpArgs false
namespace Go.Proofs
open Go.Awp
abbrev vI (n : Int) : D := .v (.int .i64 n)
abbrev vS (s : ByteArray) : D := .v (.string s)
abbrev vT (b : Bool) : D := .v (.bool b)
theorem toList_loop (s : ByteArray) : ∀ (n i : Nat) (r : List UInt8), s.size - i = n → ByteArray.toList.loop s i r = r.reverse ++ s.data.toList.drop i := by
  have hlen : s.data.toList.length = s.size := rfl
  intro n
  induction n with
  | zero =>
    intro i r h
    rw [ByteArray.toList.loop, if_neg (by omega), List.drop_eq_nil_of_le (by omega)]; simp
  | succ n ih =>
    intro i r h
    have hi : i < s.size := by omega
    rw [ByteArray.toList.loop, if_pos hi, ih (i + 1) _ (by omega)]
    have hi2 : i < s.data.toList.length := by omega
    rw [List.drop_eq_getElem_cons hi2]
    have : s.get! i = s.data.toList[i] := by
      have hi3 : i < s.data.size := hi
      show s.data[i]! = _
      rw [getElem!_pos s.data i hi3]
      simp
    rw [this]; simp
theorem toList_eq (s : ByteArray) : s.toList = s.data.toList := by
  unfold ByteArray.toList
  rw [toList_loop s _ 0 [] rfl]; simp
def strB (l : List UInt8) : ByteArray := ⟨l.toArray⟩
@[simp] theorem strB_toList (l : List UInt8) : (strB l).toList = l := by rw [toList_eq]; rfl
@[simp] theorem strB_data (l : List UInt8) : (strB l).data.toList = l := rfl
@[simp] theorem strB_size (l : List UInt8) : (strB l).size = l.length := by show l.toArray.size = _; simp
theorem strB_append (a b : List UInt8) : strB a ++ strB b = strB (a ++ b) := by
  apply ByteArray.ext
  simp [strB, ByteArray.data_append]
theorem strB_self (s : ByteArray) : strB s.data.toList = s := by
  apply ByteArray.ext; simp [strB]
abbrev Hd := Int × Int
def eH (h : Hd) : D := .agg [vI h.1, vI h.2]
@[simp] theorem roed_eH (s) : (eH s).roed = eH s := by simp [eH]
@[simp] theorem snap_eH (s) : (eH s).snap = eH s := by simp [eH]
@[simp] theorem noRo_eH (s) : (eH s).noRo = true := by simp [eH]
@[simp] theorem noSn_eH (s) : (eH s).noSn = true := by simp [eH]
@[simp] theorem eqk23 : eqOk Tryd.prog 23 = true := by kernel_rfl
def okH (h : Hd) : Bool := decide (0 ≤ h.1 ∧ h.1 < 32 ∧ 0 ≤ h.2 ∧ h.2 < 65536)
def codeH (h : Hd) : Int × Int := if okH h then (h.1 * 65536 + h.2 + 1, 0) else (0, 1)
def ofH (n : Int) : Hd × Bool := if n < 1 ∨ 2097152 < n then ((0, 0), false) else (((n - 1).tdiv 65536, (n - 1).tmod 65536), true)
def cmpI (a b : Int) : Int := if a < b then -1 else if b < a then 1 else 0
def cmpH (a b : Hd) : Int := if a.1 = b.1 ∧ a.2 = b.2 then 0 else if cmpI a.1 b.1 ≠ 0 then cmpI a.1 b.1 else cmpI a.2 b.2
def textB (h : Hd) : List UInt8 := if okH h then Lib.decDigits h.1.toNat ++ 46 :: Lib.decDigits h.2.toNat else []
theorem decode_pos (s : ByteArray) (i : Nat) : 1 ≤ (Utf8.decode s i).2 := by
  unfold Utf8.decode
  dsimp only
  repeat' split
  all_goals simp
/-- The number of digits, rune by rune. -/
def numW (s : ByteArray) (pos : Nat) (n : Int) : Int :=
  if pos < s.size then (if (Utf8.decode s pos).1 < 48 ∨ 57 < (Utf8.decode s pos).1 ∨ 65536 ≤ n then -1 else numW s (pos + (Utf8.decode s pos).2) (10 * n + ((Utf8.decode s pos).1 - 48))) else n
termination_by s.size - pos
decreasing_by have := decode_pos s pos; omega
def numS (s : ByteArray) : Int := if s.toList = [] then (if numW s 0 0 = -1 then -1 else -1) else numW s 0 0
def cutH (s : ByteArray) : ByteArray × ByteArray := if 0 ≤ Lib.indexByte s.data.toList 46 then (s.extract 0 (Lib.indexByte s.data.toList 46).toNat, s.extract ((Lib.indexByte s.data.toList 46).toNat + 1) s.size) else (s, ⟨#[]⟩)
def candP (s : ByteArray) : Hd := (numS (cutH s).1, numS (cutH s).2)
def parseC (c : Hd) (s : ByteArray) : Hd × Int := if okH c && (textB c == s.toList) then (c, 0) else ((0, 0), 3)
def parseH (s : ByteArray) : Hd × Int := parseC (candP s) s
/-- The table of powers of ten lies where the program's text lays it. -/
def tabW (w : World) : Prop := Lib.TabIs Tryd.prog w "internal/strconv.uint64pow10" .u64 Lib.pow10Tab
theorem tabG : Tryd.prog.globalNamed "internal/strconv.uint64pow10" = some 1 := by kernel_rfl
def glD : Gl := ⟨tabW, 2, fun w w' h b => by
  unfold tabW Lib.TabIs World.var? at *
  rw [tabG] at h ⊢
  simp only [Option.bind_some] at h ⊢
  rw [b.block 1 (by omega)]; exact h⟩
theorem relL_prim {w : World} {S N : Nat → Prop} : ∀ {xs : List Value} {vs : List Value} {F}, RelL w S N (xs.map D.v) vs F → vs = xs ∧ F = []
  | [], _, _, h => by cases h; exact ⟨rfl, rfl⟩
  | x :: xs, _, _, h => by
    cases h with
    | cons h t =>
      cases h
      obtain ⟨rfl, rfl⟩ := relL_prim t
      exact ⟨rfl, rfl⟩
/-- A contract of the shelf's, as one of the walk's. -/
theorem ctAt_prim {P : Program} {g : Gl} {f : FuncId} {xs : List Value} {y : Value} (hE : Awp.Enters P f) (hy : y.oneCell' = true)
    (h : ∀ w, g.G w → Calls P f xs.toArray w fun e w' => e = .returned y ∧ RowKit.Below w.heap.size w w') : CtAt P g f (xs.map D.v) (.v y) :=
  ⟨hE, fun w vs S ds r hG hN hS hr hs => by
    unfold specAt at hs
    split at hs
    · rename_i e
      cases hs
      subst e
      obtain ⟨rfl, _⟩ := relL_prim hr
      refine (h w hG).mono ?_
      rintro e w' ⟨rfl, hb⟩
      exact ⟨y, [], rfl, .v hy, List.nodup_nil, by simp, hb⟩
    · cases hs⟩
theorem below_grow (w : World) (k : Nat) (os : Array Go.Obj) : RowKit.Below w.heap.size w (Sort.grow (w.drewN k) os) :=
  ⟨rfl, rfl, rfl, by simp, fun i hi => by simp [Sort.grow, Array.getElem?_append, hi]⟩
theorem ct23 (u : Nat) (hu : u ≤ 65536) : CtAt Tryd.prog glD 23 [vI u] (vS (strB (Lib.decDigits u))) := by
  refine ctAt_prim (xs := [.int .i64 u]) ⟨_, Tryd.func23, rfl, rfl⟩ rfl fun w hw => ?_
  refine (Tryd.strconv_Itoa u (by omega) (by omega) w hw).mono ?_
  rintro e w' ⟨rfl, k, os, rfl⟩
  rw [Lib.itoa_nonneg]
  exact ⟨rfl, below_grow ..⟩
theorem ct31 (s : ByteArray) : CtAt Tryd.prog glD 31 [vS s, vS ⟨#[46]⟩] (vI (Lib.indexByte s.data.toList 46)) := by
  refine ctAt_prim (xs := [.string s, .string ⟨#[46]⟩]) ⟨_, Tryd.func31, rfl, rfl⟩ rfl fun w hw => ?_
  refine (Tryd.stringslite_Index_one s 46 w).mono ?_
  rintro e w' ⟨rfl, rfl⟩
  exact ⟨rfl, .refl ..⟩
theorem ct30 (x : Int) : CtAt Tryd.prog glD 30 [vI x] (vT false) := by
  refine ctAt_prim (xs := [.int .i64 x]) ⟨_, Tryd.func30, rfl, rfl⟩ rfl fun w hw => ?_
  refine (Tryd.cmp_isNaN_int2 x w).mono ?_
  rintro e w' ⟨rfl, rfl⟩
  exact ⟨rfl, .refl ..⟩
theorem nDigits_le5 {u : Nat} (h : u ≤ 65536) : Lib.nDigits u ≤ 5 := by
  by_cases h1 : u < 10 ^ 1
  · rw [Lib.nDigits_small (by omega)]; omega
  · by_cases h2 : u < 10 ^ 2
    · rw [Lib.nDigits_unique 1 u (by omega) (by omega)]; omega
    · by_cases h3 : u < 10 ^ 3
      · rw [Lib.nDigits_unique 2 u (by omega) (by omega)]; omega
      · by_cases h4 : u < 10 ^ 4
        · rw [Lib.nDigits_unique 3 u (by omega) (by omega)]; omega
        · rw [Lib.nDigits_unique 4 u (by omega) (by omega)]; omega
theorem decLen {u : Nat} (h : u ≤ 65536) : (Lib.decDigits u).length ≤ 5 := by rw [Lib.decDigits_length]; exact nDigits_le5 h
end Go.Proofs

set_option linter.unusedSimpArgs false
namespace Go.Proofs
open Go.Awp
section
variable {P : Program} {g : Gl} {n : Nat} {s : Nat → AV} {objs : List Awp.Obj} {ops : Array Oper} {hard : List Nat}
theorem run_not {K : (Nat → AV) → (Nat → Bool) → List Awp.Obj → Prop} {c : Nat → Bool} {i l} {o : Oper} {av : AV} (ho : ops[i]? = some o) (hg : Got (guardB ops s c o.guard) (some false)) (hd : dstOk n o.dst = true)
    (k : Run P g n ops hard l (put s o.dst av) (updB c o.dst false) objs K) : Run P g n ops hard (i :: l) s c objs K := by
  refine Run.cons (s1 := put s o.dst av) (c1 := updB c o.dst false) ?_ k
  rw [told_put]
  exact .skip ho (gA_told hg) (putA_ok hd)
end
@[simp] theorem strB_nil : strB [] = ⟨#[]⟩ := rfl
theorem addS {a b : List UInt8} (h : a.length + b.length ≤ 2^62) : strOp .add (strB a) (strB b) = some (.string (strB (a ++ b))) := by
  unfold strOp
  simp only [strB_size, strB_append]
  rw [if_neg (by simp [IntKind.max, IntKind.signed, IntKind.bits]; omega)]
theorem addDot {a : List UInt8} (h : a.length ≤ 2^61) : strOp .add (strB a) ⟨#[46]⟩ = some (.string (strB (a ++ [46]))) := addS (b := [46]) (by simp; omega)
def dig10 : ByteArray := ⟨#[48, 49, 50, 51, 52, 53, 54, 55, 56, 57]⟩
theorem dig10_fin : ∀ k : Fin 10, dig10.extract k.1 (k.1 + 1) = strB [UInt8.ofNat (48 + k.1)] := by decide +kernel
theorem dig10_at {k : Nat} (h : k < 10) : (ByteArray.mk #[48, 49, 50, 51, 52, 53, 54, 55, 56, 57]).extract k (k + 1) = strB [UInt8.ofNat (48 + k)] := dig10_fin ⟨k, h⟩
theorem dec_small {n : Nat} (h : n < 10) : Lib.decDigits n = [UInt8.ofNat (48 + n)] := Lib.decDigits_one h
theorem dec_big {n : Nat} (h : ¬ n < 10) : Lib.decDigits n = Lib.decDigits (n / 10) ++ [UInt8.ofNat (48 + n % 10)] := by
  rw [Lib.decDigits, dif_neg h]
/-- The document's number of at most so many digits. -/
def digF (s : ByteArray) : Nat → Nat → Int → Int
  | 0, _, n => n
  | f + 1, i, n => if (s.data.toList.getD i 0).toNat < 48 ∨ 57 < (s.data.toList.getD i 0).toNat then -1 else digF s f (i + 1) (n * 10 + ((s.data.toList.getD i 0).toNat - 48 : Int))
theorem digF_s {s : ByteArray} {f i : Nat} {n : Int} : digF s (f + 1) i n = if (s.data.toList.getD i 0).toNat < 48 ∨ 57 < (s.data.toList.getD i 0).toNat then -1 else digF s f (i + 1) (n * 10 + ((s.data.toList.getD i 0).toNat - 48 : Int)) := rfl
theorem byteAt {s : ByteArray} {i : Nat} (h : i < s.data.size) : s.data.toList.getD i 0 = s.data[i] := by
  rw [List.getD_eq_getElem?_getD, Array.getElem?_toList, Array.getElem?_eq_getElem h]; rfl
def digR (s : ByteArray) (most : Int) : Int := if s.size = 0 ∨ most < s.size then -1 else digF s s.size 0 0
def dotF (s : ByteArray) : Nat → Nat → Nat
  | 0, k => k
  | f + 1, k => if s.data.toList.getD k 0 = 46 then k else dotF s f (k + 1)
theorem dotF_s {s : ByteArray} {f k : Nat} : dotF s (f + 1) k = if s.data.toList.getD k 0 = 46 then k else dotF s f (k + 1) := rfl
/-- Where the first point stands; the length, if there is none. -/
def dotR (s : ByteArray) : Nat := dotF s s.size 0
def candR (s : ByteArray) : Hd := (digR (s.extract 0 (dotR s)) 2, if dotR s < s.size then digR (s.extract (dotR s + 1) s.size) 5 else -1)
def parseR (s : ByteArray) : Hd × Int := parseC (candR s) s
theorem dotF_le {s : ByteArray} : ∀ {f k : Nat}, k ≤ dotF s f k ∧ dotF s f k ≤ k + f
  | 0, k => ⟨Nat.le_refl _, Nat.le_refl _⟩
  | f + 1, k => by
    unfold dotF
    split
    · omega
    · have := dotF_le (s := s) (f := f) (k := k + 1); omega
theorem dotR_le {s : ByteArray} : dotR s ≤ s.size := by have := dotF_le (s := s) (f := s.size) (k := 0); unfold dotR; omega
theorem idx_le : ∀ (l : List UInt8) (c : UInt8), -1 ≤ Lib.indexByte l c ∧ Lib.indexByte l c < l.length ∨ (l = [] ∧ Lib.indexByte l c = -1)
  | [], c => .inr ⟨rfl, rfl⟩
  | b :: l, c => by
    left
    unfold Lib.indexByte
    have := idx_le l c
    split
    · simp
    · split
      · simp; omega
      · rename_i h1 h2
        have h3 : Lib.indexByte l c ≠ -1 := by simpa using h2
        rcases this with h | ⟨rfl, h⟩
        · simp only [List.length_cons]; omega
        · exact absurd h h3
theorem idx_b (s : ByteArray) : -1 ≤ Lib.indexByte s.data.toList 46 ∧ Lib.indexByte s.data.toList 46 ≤ s.size := by
  have e : s.data.toList.length = s.size := by rfl
  rcases idx_le s.data.toList 46 with h | ⟨h1, h2⟩
  · omega
  · rw [h2]; omega
@[simp] theorem size46 : (ByteArray.mk #[46]).size = 1 := rfl
theorem idx_lt {s : ByteArray} (h : 0 ≤ Lib.indexByte s.data.toList 46) : Lib.indexByte s.data.toList 46 < s.size := by
  have e : s.data.toList.length = s.size := by rfl
  rcases idx_le s.data.toList 46 with h2 | ⟨h1, h2⟩
  · omega
  · omega
theorem numW_t {s : ByteArray} {pos : Nat} {n : Int} (hp : pos < s.size) (h : ¬ ((Utf8.decode s pos).1 < 48 ∨ 57 < (Utf8.decode s pos).1 ∨ 65536 ≤ n)) : numW s pos n = numW s (pos + (Utf8.decode s pos).2) (10 * n + ((Utf8.decode s pos).1 - 48)) := by
  conv => lhs; rw [numW]
  rw [if_pos hp, if_neg h]
theorem numW_f {s : ByteArray} {pos : Nat} {n : Int} (hp : pos < s.size) (h : (Utf8.decode s pos).1 < 48 ∨ 57 < (Utf8.decode s pos).1 ∨ 65536 ≤ n) : numW s pos n = -1 := by
  rw [numW, if_pos hp, if_pos h]
theorem numW_end {s : ByteArray} {pos : Nat} {n : Int} (hp : ¬ pos < s.size) : numW s pos n = n := by rw [numW, if_neg hp]
theorem size0 {s : ByteArray} : s.size = 0 ↔ s.toList = [] := by
  rw [toList_eq]
  constructor
  · intro h; exact List.eq_nil_of_length_eq_zero (by simpa using h)
  · intro h
    have : s.data.toList.length = 0 := by rw [h]; rfl
    simpa using this
theorem wrapI32 {n : Int} (h0 : -2^31 ≤ n) (h : n < 2^31) : IntKind.i32.wrap n = n := by
  simp only [IntKind.wrap, IntKind.signed, IntKind.bits]
  simp
  omega
theorem wrapU8 {n : Int} (h0 : 0 ≤ n) (h : n < 256) : IntKind.u8.wrap n = n := by
  simp only [IntKind.wrap, IntKind.signed, IntKind.bits]
  simp
  omega
theorem text_size (h : Hd) : (textB h).length ≤ 11 := by
  unfold textB
  split
  · rename_i h1
    simp [okH] at h1
    have a := decLen (u := h.1.toNat) (by omega)
    have b := decLen (u := h.2.toNat) (by omega)
    simp; omega
  · simp
end Go.Proofs

set_option linter.unusedSimpArgs false
set_option linter.unusedVariables false
set_option maxHeartbeats 4000000
set_option maxRecDepth 4000
namespace Go.Proofs
open Go.Awp
theorem ct13 (h : Hd) : CtAt Tryd.prog glD 13 [eH h] (vT (okH h)) := by
  refine ctAt_of_W Tryd.func13 rfl rfl (Nat.le_of_ble_eq_true rfl) fun B S => ?_
  simp only [eH, List.map, argD_agg, argD_v]
  refine W_seq ?_
  refine W_reg rfl ?_
  refine run_op rfl rfl rfl (by simp [boxA, AV.cells, AV.isCell, boxA, AV.cells, AV.isCell]; exact .mk) ?_
  refine run_op rfl rfl rfl (by simp [boxA, AV.cells, AV.isCell]; exact .mk) ?_
  refine run_end [1] (by simp) (by simp; exact .mk) ?_
  rintro -
  refine W_seq ?_
  refine W_reg rfl ?_
  iterate 2 (refine run_op rfl rfl rfl (by simp [boxA, AV.cells, AV.isCell]; exact .mk) ?_)
  refine run_op rfl rfl rfl (by simp [boxA, AV.cells, AV.isCell, eqA, eqFs, isStructTy, eqlNeq, strOp, isBoolTy, isPtrTy, isFnTy]; exact .mk) ?_
  refine run_op rfl rfl rfl (by simp [boxA, AV.cells, AV.isCell]; exact .mk) ?_
  refine run_if rfl (by simp [boxA, AV.cells, AV.isCell]; exact .mk) rfl (by simp <;> first | omega | grind) (fun hb => by simp [boxA, AV.cells, AV.isCell]; exact .mk) ?_
  refine run_if rfl (by simp [boxA, AV.cells, AV.isCell]; exact .mk) rfl (by simp <;> first | omega | grind) (fun hb => by simp [boxA, AV.cells, AV.isCell]; exact .mk) ?_
  refine run_if rfl (by simp [boxA, AV.cells, AV.isCell]; exact .mk) rfl (by simp <;> first | omega | grind) (fun hb => by simp [boxA, AV.cells, AV.isCell, eqA, eqFs, isStructTy, eqlNeq, strOp, isBoolTy, isPtrTy, isFnTy]; exact .mk) ?_
  refine run_pick rfl (by simp [boxA, AV.cells, AV.isCell]; exact .mk) rfl rfl (by simp) (by simp [boxA, AV.cells, AV.isCell]; exact .mk) (by simp [boxA, AV.cells, AV.isCell]; exact .mk) (by simp; exact .mk) ?_
  refine run_op1 rfl rfl rfl (by simp <;> first | omega | grind) (by simp [boxA, AV.cells, AV.isCell]; exact .mk) ?_
  refine run_if rfl (by simp [boxA, AV.cells, AV.isCell]; exact .mk) rfl (by simp <;> first | omega | grind) (fun hb => by simp [boxA, AV.cells, AV.isCell]; exact .mk) ?_
  refine run_if rfl (by simp [boxA, AV.cells, AV.isCell]; exact .mk) rfl (by simp <;> first | omega | grind) (fun hb => by simp [boxA, AV.cells, AV.isCell]; exact .mk) ?_
  refine run_if rfl (by simp [boxA, AV.cells, AV.isCell]; exact .mk) rfl (by simp <;> first | omega | grind) (fun hb => by simp [boxA, AV.cells, AV.isCell, eqA, eqFs, isStructTy, eqlNeq, strOp, isBoolTy, isPtrTy, isFnTy]; exact .mk) ?_
  refine run_pick rfl (by simp [boxA, AV.cells, AV.isCell]; exact .mk) rfl rfl (by simp) (by simp [boxA, AV.cells, AV.isCell]; exact .mk) (by simp [boxA, AV.cells, AV.isCell]; exact .mk) (by simp; exact .mk) ?_
  refine run_op1 rfl rfl rfl (by simp <;> first | omega | grind) (by simp [boxA, AV.cells, AV.isCell]; exact .mk) ?_
  refine run_if rfl (by simp [boxA, AV.cells, AV.isCell]; exact .mk) rfl (by simp <;> first | omega | grind) (fun hb => by simp [boxA, AV.cells, AV.isCell]; exact .mk) ?_
  refine run_if rfl (by simp [boxA, AV.cells, AV.isCell]; exact .mk) rfl (by simp <;> first | omega | grind) (fun hb => by simp [boxA, AV.cells, AV.isCell]; exact .mk) ?_
  refine run_if rfl (by simp [boxA, AV.cells, AV.isCell]; exact .mk) rfl (by simp <;> first | omega | grind) (fun hb => by simp [boxA, AV.cells, AV.isCell, eqA, eqFs, isStructTy, eqlNeq, strOp, isBoolTy, isPtrTy, isFnTy]; exact .mk) ?_
  refine run_pick rfl (by simp [boxA, AV.cells, AV.isCell]; exact .mk) rfl rfl (by simp) (by simp [boxA, AV.cells, AV.isCell]; exact .mk) (by simp [boxA, AV.cells, AV.isCell]; exact .mk) (by simp; exact .mk) ?_
  refine run_op1 rfl rfl rfl (by simp <;> first | omega | grind) (by simp [boxA, AV.cells, AV.isCell]; exact .mk) ?_
  refine run_end [2] (by simp <;> first | omega | grind) (by simp; exact .mk) ?_
  rintro -
  refine W_ret ?_
  refine end_ret (by simp [boxA, AV.cells, AV.isCell, Tryd.f13]; exact .mk) (by simp [boxA, AV.cells, AV.isCell, cl, cls]; exact .mk) ?_ (by simp [boxA, AV.cells, AV.isCell, D.noSn])
  simp [nrmR, nrmRs, nrmK, kindsOf, kinds, Tryd.f13, okH] <;> grind

theorem ct14 (h : Hd) : CtAt Tryd.prog glD 14 [eH h] (vT (okH h)) := by
  refine ctAt_of_W Tryd.func14 rfl rfl (Nat.le_of_ble_eq_true rfl) fun B S => ?_
  simp only [eH, List.map, argD_agg, argD_v]
  refine W_seq ?_
  refine W_reg rfl ?_
  refine run_op rfl rfl rfl (by simp [boxA, AV.cells, AV.isCell, boxA, AV.cells, AV.isCell]; exact .mk) ?_
  refine run_op rfl rfl rfl (by simp [boxA, AV.cells, AV.isCell]; exact .mk) ?_
  refine run_end [1] (by simp) (by simp; exact .mk) ?_
  rintro -
  refine W_seq ?_
  refine W_reg rfl ?_
  iterate 2 (refine run_op rfl rfl rfl (by simp [boxA, AV.cells, AV.isCell]; exact .mk) ?_)
  refine run_op rfl rfl rfl (by simp [boxA, AV.cells, AV.isCell, eqA, eqFs, isStructTy, eqlNeq, strOp, isBoolTy, isPtrTy, isFnTy]; exact .mk) ?_
  refine run_op rfl rfl rfl (by simp [boxA, AV.cells, AV.isCell]; exact .mk) ?_
  refine run_if rfl (by simp [boxA, AV.cells, AV.isCell]; exact .mk) rfl (by simp <;> first | omega | grind) (fun hb => by simp [boxA, AV.cells, AV.isCell]; exact .mk) ?_
  refine run_if rfl (by simp [boxA, AV.cells, AV.isCell]; exact .mk) rfl (by simp <;> first | omega | grind) (fun hb => by simp [boxA, AV.cells, AV.isCell]; exact .mk) ?_
  refine run_if rfl (by simp [boxA, AV.cells, AV.isCell]; exact .mk) rfl (by simp <;> first | omega | grind) (fun hb => by simp [boxA, AV.cells, AV.isCell, eqA, eqFs, isStructTy, eqlNeq, strOp, isBoolTy, isPtrTy, isFnTy]; exact .mk) ?_
  refine run_pick rfl (by simp [boxA, AV.cells, AV.isCell]; exact .mk) rfl rfl (by simp) (by simp [boxA, AV.cells, AV.isCell]; exact .mk) (by simp [boxA, AV.cells, AV.isCell]; exact .mk) (by simp; exact .mk) ?_
  refine run_op1 rfl rfl rfl (by simp <;> first | omega | grind) (by simp [boxA, AV.cells, AV.isCell]; exact .mk) ?_
  refine run_if rfl (by simp [boxA, AV.cells, AV.isCell]; exact .mk) rfl (by simp <;> first | omega | grind) (fun hb => by simp [boxA, AV.cells, AV.isCell]; exact .mk) ?_
  refine run_if rfl (by simp [boxA, AV.cells, AV.isCell]; exact .mk) rfl (by simp <;> first | omega | grind) (fun hb => by simp [boxA, AV.cells, AV.isCell]; exact .mk) ?_
  refine run_if rfl (by simp [boxA, AV.cells, AV.isCell]; exact .mk) rfl (by simp <;> first | omega | grind) (fun hb => by simp [boxA, AV.cells, AV.isCell, eqA, eqFs, isStructTy, eqlNeq, strOp, isBoolTy, isPtrTy, isFnTy]; exact .mk) ?_
  refine run_pick rfl (by simp [boxA, AV.cells, AV.isCell]; exact .mk) rfl rfl (by simp) (by simp [boxA, AV.cells, AV.isCell]; exact .mk) (by simp [boxA, AV.cells, AV.isCell]; exact .mk) (by simp; exact .mk) ?_
  refine run_op1 rfl rfl rfl (by simp <;> first | omega | grind) (by simp [boxA, AV.cells, AV.isCell]; exact .mk) ?_
  refine run_if rfl (by simp [boxA, AV.cells, AV.isCell]; exact .mk) rfl (by simp <;> first | omega | grind) (fun hb => by simp [boxA, AV.cells, AV.isCell]; exact .mk) ?_
  refine run_if rfl (by simp [boxA, AV.cells, AV.isCell]; exact .mk) rfl (by simp <;> first | omega | grind) (fun hb => by simp [boxA, AV.cells, AV.isCell]; exact .mk) ?_
  refine run_if rfl (by simp [boxA, AV.cells, AV.isCell]; exact .mk) rfl (by simp <;> first | omega | grind) (fun hb => by simp [boxA, AV.cells, AV.isCell, eqA, eqFs, isStructTy, eqlNeq, strOp, isBoolTy, isPtrTy, isFnTy]; exact .mk) ?_
  refine run_pick rfl (by simp [boxA, AV.cells, AV.isCell]; exact .mk) rfl rfl (by simp) (by simp [boxA, AV.cells, AV.isCell]; exact .mk) (by simp [boxA, AV.cells, AV.isCell]; exact .mk) (by simp; exact .mk) ?_
  refine run_op1 rfl rfl rfl (by simp <;> first | omega | grind) (by simp [boxA, AV.cells, AV.isCell]; exact .mk) ?_
  refine run_end [2] (by simp <;> first | omega | grind) (by simp; exact .mk) ?_
  rintro -
  refine W_ret ?_
  refine end_ret (by simp [boxA, AV.cells, AV.isCell, Tryd.f14]; exact .mk) (by simp [boxA, AV.cells, AV.isCell, cl, cls]; exact .mk) ?_ (by simp [boxA, AV.cells, AV.isCell, D.noSn])
  simp [nrmR, nrmRs, nrmK, kindsOf, kinds, Tryd.f14, okH] <;> grind

theorem ct9 (h : Hd) : CtAt Tryd.prog glD 9 [eH h] (.tup [vI (codeH h).1, vI (codeH h).2]) := by
  refine ctAt_of_W Tryd.func9 rfl rfl (Nat.le_of_ble_eq_true rfl) fun B S => ?_
  simp only [eH, List.map, argD_agg, argD_v]
  refine W_seq ?_
  refine W_reg rfl ?_
  refine run_op rfl rfl rfl (by simp [boxA, AV.cells, AV.isCell, boxA, AV.cells, AV.isCell]; exact .mk) ?_
  iterate 2 (refine run_op rfl rfl rfl (by simp [boxA, AV.cells, AV.isCell]; exact .mk) ?_)
  refine run_end [1] (by simp) (by simp; exact .mk) ?_
  rintro -
  refine W_seq ?_
  refine W_seq ?_
  refine W_reg rfl ?_
  refine run_op rfl rfl rfl (by simp [boxA, AV.cells, AV.isCell]; exact .mk) ?_
  refine run_call0 rfl rfl rfl rfl (by simp [boxA, AV.cells, AV.isCell, calleeA]; exact .mk) (by simp [boxA, AV.cells, AV.isCell, kindsOf, kinds, expAs, expA]; exact .mk) (ct13 h) (by simp [boxA, AV.cells, AV.isCell, D.noRo]) (by simp [boxA, AV.cells, AV.isCell, impA, impAs]; exact .mk) ?_
  refine run_op rfl rfl rfl (by simp [boxA, AV.cells, AV.isCell, unA]; exact .mk) ?_
  refine run_end [1, 6] (by simp) (by simp; exact .mk) ?_
  rintro -
  refine W_cond rfl ?_ ?_
  · intro h6
    have ho : okH h = false := by simpa using h6
    have hr : codeH h = (0, 1) := by simp [codeH, ho]
    refine W_seq ?_
    refine W_reg rfl ?_
    iterate 2 (refine run_op rfl rfl rfl (by simp [boxA, AV.cells, AV.isCell]; exact .mk) ?_)
    refine run_end [2, 3] (by simp) (by simp; exact .mk) ?_
    rintro -
    refine W_ret ?_
    refine end_ret (by simp [boxA, AV.cells, AV.isCell, Tryd.f9]; exact .mk) (by simp [boxA, AV.cells, AV.isCell, cl, cls]; exact .mk) ?_ (by simp [boxA, AV.cells, AV.isCell, D.noSn])
    simp [nrmR, nrmRs, nrmK, kindsOf, kinds, Tryd.f9, hr]
  · intro h6
    have ho : okH h = true := by simpa using h6
    have hr : codeH h = (h.1 * 65536 + h.2 + 1, 0) := by simp [codeH, ho]
    have hk : 0 ≤ h.1 ∧ h.1 < 32 ∧ 0 ≤ h.2 ∧ h.2 < 65536 := by simpa [okH] using ho
    have e1 : IntKind.i64.wrap (h.1 * 65536) = h.1 * 65536 := wrap64 (by omega) (by omega)
    have e2 : IntKind.i64.wrap (h.1 * 65536 + h.2) = h.1 * 65536 + h.2 := wrap64 (by omega) (by omega)
    have e3 : IntKind.i64.wrap (h.1 * 65536 + h.2 + 1) = h.1 * 65536 + h.2 + 1 := wrap64 (by omega) (by omega)
    refine W_skip ?_
    rintro -
    refine W_seq ?_
    refine W_reg rfl ?_
    iterate 2 (refine run_op rfl rfl rfl (by simp [boxA, AV.cells, AV.isCell]; exact .mk) ?_)
    refine run_op rfl rfl rfl (by simp [boxA, AV.cells, AV.isCell, eqA, eqFs, isStructTy, eqlNeq, strOp, isBoolTy, isPtrTy, isFnTy, e1]; exact .mk) ?_
    iterate 2 (refine run_op rfl rfl rfl (by simp [boxA, AV.cells, AV.isCell]; exact .mk) ?_)
    refine run_op rfl rfl rfl (by simp [boxA, AV.cells, AV.isCell, eqA, eqFs, isStructTy, eqlNeq, strOp, isBoolTy, isPtrTy, isFnTy, e2]; exact .mk) ?_
    refine run_op rfl rfl rfl (by simp [boxA, AV.cells, AV.isCell, eqA, eqFs, isStructTy, eqlNeq, strOp, isBoolTy, isPtrTy, isFnTy, e3]; exact .mk) ?_
    iterate 2 (refine run_op rfl rfl rfl (by simp [boxA, AV.cells, AV.isCell]; exact .mk) ?_)
    refine run_end [2, 3] (by simp) (by simp; exact .mk) ?_
    rintro -
    refine W_ret ?_
    refine end_ret (by simp [boxA, AV.cells, AV.isCell, Tryd.f9]; exact .mk) (by simp [boxA, AV.cells, AV.isCell, cl, cls]; exact .mk) ?_ (by simp [boxA, AV.cells, AV.isCell, D.noSn])
    simp [nrmR, nrmRs, nrmK, kindsOf, kinds, Tryd.f9, hr]

theorem ct10 (h : Hd) : CtAt Tryd.prog glD 10 [eH h] (.tup [vI (codeH h).1, vI (codeH h).2]) := by
  refine ctAt_of_W Tryd.func10 rfl rfl (Nat.le_of_ble_eq_true rfl) fun B S => ?_
  simp only [eH, List.map, argD_agg, argD_v]
  refine W_seq ?_
  refine W_reg rfl ?_
  refine run_op rfl rfl rfl (by simp [boxA, AV.cells, AV.isCell, boxA, AV.cells, AV.isCell]; exact .mk) ?_
  iterate 2 (refine run_op rfl rfl rfl (by simp [boxA, AV.cells, AV.isCell]; exact .mk) ?_)
  refine run_end [1] (by simp) (by simp; exact .mk) ?_
  rintro -
  refine W_seq ?_
  refine W_reg rfl ?_
  refine run_op rfl rfl rfl (by simp [boxA, AV.cells, AV.isCell]; exact .mk) ?_
  refine run_call0 rfl rfl rfl rfl (by simp [boxA, AV.cells, AV.isCell, calleeA]; exact .mk) (by simp [boxA, AV.cells, AV.isCell, kindsOf, kinds, expAs, expA]; exact .mk) (ct14 h) (by simp [boxA, AV.cells, AV.isCell, D.noRo]) (by simp [boxA, AV.cells, AV.isCell, impA, impAs]; exact .mk) ?_
  refine run_op rfl rfl rfl (by simp [boxA, AV.cells, AV.isCell]; exact .mk) ?_
  refine run_end [1, 4] (by simp) (by simp; exact .mk) ?_
  rintro -
  refine W_seq ?_
  refine W_seq ?_
  refine W_reg rfl ?_
  refine run_op rfl rfl rfl (by simp [boxA, AV.cells, AV.isCell]; exact .mk) ?_
  refine run_op rfl rfl rfl (by simp [boxA, AV.cells, AV.isCell, unA]; exact .mk) ?_
  refine run_end [1, 8] (by simp) (by simp; exact .mk) ?_
  rintro -
  refine W_cond rfl ?_ ?_
  · intro h8
    have ho : okH h = false := by simpa using h8
    have hr : codeH h = (0, 1) := by simp [codeH, ho]
    refine W_seq ?_
    refine W_reg rfl ?_
    iterate 2 (refine run_op rfl rfl rfl (by simp [boxA, AV.cells, AV.isCell]; exact .mk) ?_)
    refine run_end [2, 3] (by simp) (by simp; exact .mk) ?_
    rintro -
    refine W_ret ?_
    refine end_ret (by simp [boxA, AV.cells, AV.isCell, Tryd.f10]; exact .mk) (by simp [boxA, AV.cells, AV.isCell, cl, cls]; exact .mk) ?_ (by simp [boxA, AV.cells, AV.isCell, D.noSn])
    simp [nrmR, nrmRs, nrmK, kindsOf, kinds, Tryd.f10, hr]
  · intro h8
    have ho : okH h = true := by simpa using h8
    have hr : codeH h = (h.1 * 65536 + h.2 + 1, 0) := by simp [codeH, ho]
    have hk : 0 ≤ h.1 ∧ h.1 < 32 ∧ 0 ≤ h.2 ∧ h.2 < 65536 := by simpa [okH] using ho
    have e1 : IntKind.i64.wrap (h.1 * 65536) = h.1 * 65536 := wrap64 (by omega) (by omega)
    have e2 : IntKind.i64.wrap (h.1 * 65536 + h.2) = h.1 * 65536 + h.2 := wrap64 (by omega) (by omega)
    have e3 : IntKind.i64.wrap (h.1 * 65536 + h.2 + 1) = h.1 * 65536 + h.2 + 1 := wrap64 (by omega) (by omega)
    refine W_skip ?_
    rintro -
    refine W_seq ?_
    refine W_reg rfl ?_
    iterate 2 (refine run_op rfl rfl rfl (by simp [boxA, AV.cells, AV.isCell]; exact .mk) ?_)
    refine run_op rfl rfl rfl (by simp [boxA, AV.cells, AV.isCell, eqA, eqFs, isStructTy, eqlNeq, strOp, isBoolTy, isPtrTy, isFnTy, e1]; exact .mk) ?_
    iterate 2 (refine run_op rfl rfl rfl (by simp [boxA, AV.cells, AV.isCell]; exact .mk) ?_)
    refine run_op rfl rfl rfl (by simp [boxA, AV.cells, AV.isCell, eqA, eqFs, isStructTy, eqlNeq, strOp, isBoolTy, isPtrTy, isFnTy, e2]; exact .mk) ?_
    refine run_op rfl rfl rfl (by simp [boxA, AV.cells, AV.isCell, eqA, eqFs, isStructTy, eqlNeq, strOp, isBoolTy, isPtrTy, isFnTy, e3]; exact .mk) ?_
    iterate 2 (refine run_op rfl rfl rfl (by simp [boxA, AV.cells, AV.isCell]; exact .mk) ?_)
    refine run_end [2, 3] (by simp) (by simp; exact .mk) ?_
    rintro -
    refine W_ret ?_
    refine end_ret (by simp [boxA, AV.cells, AV.isCell, Tryd.f10]; exact .mk) (by simp [boxA, AV.cells, AV.isCell, cl, cls]; exact .mk) ?_ (by simp [boxA, AV.cells, AV.isCell, D.noSn])
    simp [nrmR, nrmRs, nrmK, kindsOf, kinds, Tryd.f10, hr]

theorem ct11 (n : Int) : CtAt Tryd.prog glD 11 [vI n] (.tup [eH (ofH n).1, vT (ofH n).2]) := by
  refine ctAt_of_W Tryd.func11 rfl rfl (Nat.le_of_ble_eq_true rfl) fun B S => ?_
  refine W_seq ?_
  refine W_reg rfl ?_
  refine run_op rfl rfl rfl (by simp [boxA, AV.cells, AV.isCell, allocA, Value.oneCell']; exact .mk) ?_
  refine run_op rfl rfl rfl (by simp [boxA, AV.cells, AV.isCell]; exact .mk) ?_
  refine run_end [0, 2] (by simp) (by simp; exact .mk) ?_
  rintro -
  refine W_seq ?_
  refine W_seq ?_
  refine W_reg rfl ?_
  refine run_op rfl rfl rfl (by simp [boxA, AV.cells, AV.isCell]; exact .mk) ?_
  refine run_op rfl rfl rfl (by simp [boxA, AV.cells, AV.isCell, eqA, eqFs, isStructTy, eqlNeq, strOp, isBoolTy, isPtrTy, isFnTy]; exact .mk) ?_
  refine run_op rfl rfl rfl (by simp [boxA, AV.cells, AV.isCell]; exact .mk) ?_
  refine run_if rfl (by simp [boxA, AV.cells, AV.isCell]; exact .mk) rfl (by simp <;> first | omega | grind) (fun hb => by simp [boxA, AV.cells, AV.isCell]; exact .mk) ?_
  refine run_if rfl (by simp [boxA, AV.cells, AV.isCell]; exact .mk) rfl (by simp <;> first | omega | grind) (fun hb => by simp [boxA, AV.cells, AV.isCell, eqA, eqFs, isStructTy, eqlNeq, strOp, isBoolTy, isPtrTy, isFnTy]; exact .mk) ?_
  refine run_pick rfl (by simp [boxA, AV.cells, AV.isCell]; exact .mk) rfl rfl (by simp) (by simp [boxA, AV.cells, AV.isCell]; exact .mk) (by simp [boxA, AV.cells, AV.isCell]; exact .mk) (by simp; exact .mk) ?_
  refine run_end [0, 2, 9] (by simp <;> first | omega | grind) (by simp; exact .mk) ?_
  rintro -
  refine W_cond rfl ?_ ?_
  · intro h9
    have hr : ofH n = ((0, 0), false) := by unfold ofH; rw [if_pos (by simp at h9; omega)]
    refine W_seq ?_
    refine W_reg rfl ?_
    refine run_op rfl rfl rfl (by simp [boxA, AV.cells, AV.isCell, buildA, fillA, placesOf, splice, Value.oneCell', AV.cells, AV.isCell]; exact .mk) ?_
    refine run_op rfl rfl rfl (by simp [boxA, AV.cells, AV.isCell, storeA, AV.cells, AV.isCell, splice]; exact .mk) ?_
    refine run_op rfl rfl rfl (by simp [boxA, AV.cells, AV.isCell]; exact .mk) ?_
    refine run_end [2, 3] (by simp) (by simp; exact .mk) ?_
    rintro -
    refine W_ret ?_
    refine end_ret (by simp [boxA, AV.cells, AV.isCell, Tryd.f11]; exact .mk) (by simp [boxA, AV.cells, AV.isCell, cl, cls]; exact .mk) ?_ (by simp [boxA, AV.cells, AV.isCell, D.noSn, hr, eH])
    simp [nrmR, nrmRs, nrmK, kindsOf, kinds, Tryd.f11, hr, eH]
  · intro h9
    have hn : 1 ≤ n ∧ n ≤ 2097152 := by simp at h9; omega
    have hr : ofH n = (((n - 1).tdiv 65536, (n - 1).tmod 65536), true) := by unfold ofH; rw [if_neg (by omega)]
    have e1 : IntKind.i64.wrap (n - 1) = n - 1 := wrap64 (by omega) (by omega)
    have hd : 0 ≤ (n - 1).tdiv 65536 ∧ (n - 1).tdiv 65536 ≤ n - 1 := ⟨Int.tdiv_nonneg (by omega) (by omega), by rw [Int.tdiv_eq_ediv_of_nonneg (by omega)]; omega⟩
    have e2 : IntKind.i64.wrap ((n - 1).tdiv 65536) = (n - 1).tdiv 65536 := wrap64 (by omega) (by omega)
    refine W_skip ?_
    rintro -
    refine W_seq ?_
    refine W_reg rfl ?_
    refine run_op rfl rfl rfl (by simp [boxA, AV.cells, AV.isCell]; exact .mk) ?_
    refine run_op rfl rfl rfl (by simp [boxA, AV.cells, AV.isCell, eqA, eqFs, isStructTy, eqlNeq, strOp, isBoolTy, isPtrTy, isFnTy, e1]; exact .mk) ?_
    refine run_op rfl rfl rfl (by simp [boxA, AV.cells, AV.isCell, eqA, eqFs, isStructTy, eqlNeq, strOp, isBoolTy, isPtrTy, isFnTy, e2]; exact .mk) ?_
    refine run_op rfl rfl rfl (by simp [boxA, AV.cells, AV.isCell]; exact .mk) ?_
    refine run_op rfl rfl rfl (by simp [boxA, AV.cells, AV.isCell, eqA, eqFs, isStructTy, eqlNeq, strOp, isBoolTy, isPtrTy, isFnTy, e1]; exact .mk) ?_
    refine run_op rfl rfl rfl (by simp [boxA, AV.cells, AV.isCell, eqA, eqFs, isStructTy, eqlNeq, strOp, isBoolTy, isPtrTy, isFnTy]; exact .mk) ?_
    refine run_op rfl rfl rfl (by simp [boxA, AV.cells, AV.isCell, buildA, fillA, placesOf, splice, Value.oneCell', AV.cells, AV.isCell]; exact .mk) ?_
    refine run_op rfl rfl rfl (by simp [boxA, AV.cells, AV.isCell, storeA, AV.cells, AV.isCell, splice]; exact .mk) ?_
    refine run_op rfl rfl rfl (by simp [boxA, AV.cells, AV.isCell]; exact .mk) ?_
    refine run_end [2, 3] (by simp) (by simp; exact .mk) ?_
    rintro -
    refine W_ret ?_
    refine end_ret (by simp [boxA, AV.cells, AV.isCell, Tryd.f11]; exact .mk) (by simp [boxA, AV.cells, AV.isCell, cl, cls]; exact .mk) ?_ (by simp [boxA, AV.cells, AV.isCell, D.noSn, hr, eH])
    simp [nrmR, nrmRs, nrmK, kindsOf, kinds, Tryd.f11, hr, eH]

theorem ct12 (n : Int) : CtAt Tryd.prog glD 12 [vI n] (.tup [eH (ofH n).1, vT (ofH n).2]) := by
  refine ctAt_of_W Tryd.func12 rfl rfl (Nat.le_of_ble_eq_true rfl) fun B S => ?_
  refine W_seq ?_
  refine W_reg rfl ?_
  refine run_op rfl rfl rfl (by simp [boxA, AV.cells, AV.isCell, allocA, Value.oneCell']; exact .mk) ?_
  refine run_op rfl rfl rfl (by simp [boxA, AV.cells, AV.isCell]; exact .mk) ?_
  refine run_end [0, 2] (by simp) (by simp; exact .mk) ?_
  rintro -
  refine W_seq ?_
  refine W_seq ?_
  refine W_reg rfl ?_
  refine run_op rfl rfl rfl (by simp [boxA, AV.cells, AV.isCell]; exact .mk) ?_
  refine run_op rfl rfl rfl (by simp [boxA, AV.cells, AV.isCell, eqA, eqFs, isStructTy, eqlNeq, strOp, isBoolTy, isPtrTy, isFnTy]; exact .mk) ?_
  refine run_op rfl rfl rfl (by simp [boxA, AV.cells, AV.isCell]; exact .mk) ?_
  refine run_if rfl (by simp [boxA, AV.cells, AV.isCell]; exact .mk) rfl (by simp <;> first | omega | grind) (fun hb => by simp [boxA, AV.cells, AV.isCell]; exact .mk) ?_
  refine run_if rfl (by simp [boxA, AV.cells, AV.isCell]; exact .mk) rfl (by simp <;> first | omega | grind) (fun hb => by simp [boxA, AV.cells, AV.isCell, eqA, eqFs, isStructTy, eqlNeq, strOp, isBoolTy, isPtrTy, isFnTy]; exact .mk) ?_
  refine run_pick rfl (by simp [boxA, AV.cells, AV.isCell]; exact .mk) rfl rfl (by simp) (by simp [boxA, AV.cells, AV.isCell]; exact .mk) (by simp [boxA, AV.cells, AV.isCell]; exact .mk) (by simp; exact .mk) ?_
  refine run_end [0, 2, 9] (by simp <;> first | omega | grind) (by simp; exact .mk) ?_
  rintro -
  refine W_cond rfl ?_ ?_
  · intro h9
    have hr : ofH n = ((0, 0), false) := by unfold ofH; rw [if_pos (by simp at h9; omega)]
    refine W_seq ?_
    refine W_reg rfl ?_
    refine run_op rfl rfl rfl (by simp [boxA, AV.cells, AV.isCell, buildA, fillA, placesOf, splice, Value.oneCell', AV.cells, AV.isCell]; exact .mk) ?_
    refine run_op rfl rfl rfl (by simp [boxA, AV.cells, AV.isCell, storeA, AV.cells, AV.isCell, splice]; exact .mk) ?_
    refine run_op rfl rfl rfl (by simp [boxA, AV.cells, AV.isCell]; exact .mk) ?_
    refine run_end [2, 3] (by simp) (by simp; exact .mk) ?_
    rintro -
    refine W_ret ?_
    refine end_ret (by simp [boxA, AV.cells, AV.isCell, Tryd.f12]; exact .mk) (by simp [boxA, AV.cells, AV.isCell, cl, cls]; exact .mk) ?_ (by simp [boxA, AV.cells, AV.isCell, D.noSn, hr, eH])
    simp [nrmR, nrmRs, nrmK, kindsOf, kinds, Tryd.f12, hr, eH]
  · intro h9
    have hn : 1 ≤ n ∧ n ≤ 2097152 := by simp at h9; omega
    have hr : ofH n = (((n - 1).tdiv 65536, (n - 1).tmod 65536), true) := by unfold ofH; rw [if_neg (by omega)]
    have e1 : IntKind.i64.wrap (n - 1) = n - 1 := wrap64 (by omega) (by omega)
    have hd : 0 ≤ (n - 1).tdiv 65536 ∧ (n - 1).tdiv 65536 ≤ n - 1 := ⟨Int.tdiv_nonneg (by omega) (by omega), by rw [Int.tdiv_eq_ediv_of_nonneg (by omega)]; omega⟩
    have e2 : IntKind.i64.wrap ((n - 1).tdiv 65536) = (n - 1).tdiv 65536 := wrap64 (by omega) (by omega)
    refine W_skip ?_
    rintro -
    refine W_seq ?_
    refine W_reg rfl ?_
    refine run_op rfl rfl rfl (by simp [boxA, AV.cells, AV.isCell]; exact .mk) ?_
    refine run_op rfl rfl rfl (by simp [boxA, AV.cells, AV.isCell, eqA, eqFs, isStructTy, eqlNeq, strOp, isBoolTy, isPtrTy, isFnTy, e1]; exact .mk) ?_
    refine run_op rfl rfl rfl (by simp [boxA, AV.cells, AV.isCell, eqA, eqFs, isStructTy, eqlNeq, strOp, isBoolTy, isPtrTy, isFnTy, e2]; exact .mk) ?_
    refine run_op rfl rfl rfl (by simp [boxA, AV.cells, AV.isCell]; exact .mk) ?_
    refine run_op rfl rfl rfl (by simp [boxA, AV.cells, AV.isCell, eqA, eqFs, isStructTy, eqlNeq, strOp, isBoolTy, isPtrTy, isFnTy, e1]; exact .mk) ?_
    refine run_op rfl rfl rfl (by simp [boxA, AV.cells, AV.isCell, eqA, eqFs, isStructTy, eqlNeq, strOp, isBoolTy, isPtrTy, isFnTy]; exact .mk) ?_
    refine run_op rfl rfl rfl (by simp [boxA, AV.cells, AV.isCell, buildA, fillA, placesOf, splice, Value.oneCell', AV.cells, AV.isCell]; exact .mk) ?_
    refine run_op rfl rfl rfl (by simp [boxA, AV.cells, AV.isCell, storeA, AV.cells, AV.isCell, splice]; exact .mk) ?_
    refine run_op rfl rfl rfl (by simp [boxA, AV.cells, AV.isCell]; exact .mk) ?_
    refine run_end [2, 3] (by simp) (by simp; exact .mk) ?_
    rintro -
    refine W_ret ?_
    refine end_ret (by simp [boxA, AV.cells, AV.isCell, Tryd.f12]; exact .mk) (by simp [boxA, AV.cells, AV.isCell, cl, cls]; exact .mk) ?_ (by simp [boxA, AV.cells, AV.isCell, D.noSn, hr, eH])
    simp [nrmR, nrmRs, nrmK, kindsOf, kinds, Tryd.f12, hr, eH]

theorem ct27 (a b : Int) : CtAt Tryd.prog glD 27 [vI a, vI b] (vI (cmpI a b)) := by
  refine ctAt_of_W Tryd.func27 rfl rfl (Nat.le_of_ble_eq_true rfl) fun B S => ?_
  refine W_seq ?_
  refine W_reg rfl ?_
  refine run_op rfl rfl rfl (by simp [boxA, AV.cells, AV.isCell]; exact .mk) ?_
  refine run_end [0, 1] (by simp) (by simp; exact .mk) ?_
  rintro -
  refine W_seq ?_
  refine W_reg rfl ?_
  refine run_op rfl rfl rfl (by simp [boxA, AV.cells, AV.isCell]; exact .mk) ?_
  refine run_call0 rfl rfl rfl rfl (by simp [boxA, AV.cells, AV.isCell, calleeA]; exact .mk) (by simp [boxA, AV.cells, AV.isCell, kindsOf, kinds, expAs, expA]; exact .mk) (ct30 a) (by simp [boxA, AV.cells, AV.isCell, D.noRo]) (by simp [boxA, AV.cells, AV.isCell, impA, impAs]; exact .mk) ?_
  refine run_op rfl rfl rfl (by simp [boxA, AV.cells, AV.isCell]; exact .mk) ?_
  refine run_end [0, 1, 5] (by simp) (by simp; exact .mk) ?_
  rintro -
  refine W_seq ?_
  refine W_reg rfl ?_
  refine run_op rfl rfl rfl (by simp [boxA, AV.cells, AV.isCell]; exact .mk) ?_
  refine run_call0 rfl rfl rfl rfl (by simp [boxA, AV.cells, AV.isCell, calleeA]; exact .mk) (by simp [boxA, AV.cells, AV.isCell, kindsOf, kinds, expAs, expA]; exact .mk) (ct30 b) (by simp [boxA, AV.cells, AV.isCell, D.noRo]) (by simp [boxA, AV.cells, AV.isCell, impA, impAs]; exact .mk) ?_
  refine run_op rfl rfl rfl (by simp [boxA, AV.cells, AV.isCell]; exact .mk) ?_
  refine run_end [0, 1, 5, 6] (by simp) (by simp; exact .mk) ?_
  rintro -
  refine W_seq ?_
  refine W_seq ?_
  refine W_reg rfl ?_
  refine run_op rfl rfl rfl (by simp [boxA, AV.cells, AV.isCell]; exact .mk) ?_
  refine run_end [0, 1, 6, 11] (by simp) (by simp; exact .mk) ?_
  rintro -
  refine W_cond rfl ?_ ?_
  · intro h11
    refine W_seq ?_
    refine W_seq ?_
    refine W_reg rfl ?_
    refine run_op rfl rfl rfl (by simp [boxA, AV.cells, AV.isCell]; exact .mk) ?_
    refine run_end [12] (by simp) (by simp; exact .mk) ?_
    rintro -
    refine W_cond rfl ?_ ?_
    · intro h12
      refine W_seq ?_
      refine W_reg rfl ?_
      refine run_op rfl rfl rfl (by simp [boxA, AV.cells, AV.isCell]; exact .mk) ?_
      refine run_end [4] (by simp) (by simp; exact .mk) ?_
      rintro -
      refine W_ret ?_
      refine end_ret (by simp [boxA, AV.cells, AV.isCell, Tryd.f27]; exact .mk) (by simp [boxA, AV.cells, AV.isCell, cl, cls]; exact .mk) ?_ (by simp [boxA, AV.cells, AV.isCell, D.noSn])
      simp [nrmR, nrmRs, nrmK, kindsOf, kinds, Tryd.f27, cmpI] at * <;> first | omega | grind
    · intro h12
      refine W_skip ?_
      rintro -
      refine W_seq ?_
      refine W_reg rfl ?_
      refine run_op rfl rfl rfl (by simp [boxA, AV.cells, AV.isCell]; exact .mk) ?_
      refine run_end [4] (by simp) (by simp; exact .mk) ?_
      rintro -
      refine W_ret ?_
      refine end_ret (by simp [boxA, AV.cells, AV.isCell, Tryd.f27]; exact .mk) (by simp [boxA, AV.cells, AV.isCell, cl, cls]; exact .mk) ?_ (by simp [boxA, AV.cells, AV.isCell, D.noSn])
      simp [nrmR, nrmRs, nrmK, kindsOf, kinds, Tryd.f27, cmpI] at * <;> first | omega | grind
  · intro h11
    refine W_skip ?_
    rintro -
    refine W_seq ?_
    refine W_seq ?_
    refine W_reg rfl ?_
    refine run_op rfl rfl rfl (by simp [boxA, AV.cells, AV.isCell]; exact .mk) ?_
    refine run_end [0, 1, 13] (by simp) (by simp; exact .mk) ?_
    rintro -
    refine W_cond rfl ?_ ?_
    · intro h13
      refine W_seq ?_
      refine W_reg rfl ?_
      refine run_op rfl rfl rfl (by simp [boxA, AV.cells, AV.isCell]; exact .mk) ?_
      refine run_end [4] (by simp) (by simp; exact .mk) ?_
      rintro -
      refine W_ret ?_
      refine end_ret (by simp [boxA, AV.cells, AV.isCell, Tryd.f27]; exact .mk) (by simp [boxA, AV.cells, AV.isCell, cl, cls]; exact .mk) ?_ (by simp [boxA, AV.cells, AV.isCell, D.noSn])
      simp [nrmR, nrmRs, nrmK, kindsOf, kinds, Tryd.f27, cmpI] at * <;> first | omega | grind
    · intro h13
      refine W_skip ?_
      rintro -
      refine W_seq ?_
      refine W_seq ?_
      refine W_reg rfl ?_
      iterate 2 (refine run_op rfl rfl rfl (by simp [boxA, AV.cells, AV.isCell]; exact .mk) ?_)
      refine run_op rfl rfl rfl (by simp [boxA, AV.cells, AV.isCell, eqA, eqFs, isStructTy, eqlNeq, strOp, isBoolTy, isPtrTy, isFnTy]; exact .mk) ?_
      refine run_end [0, 1, 16] (by simp) (by simp; exact .mk) ?_
      rintro -
      refine W_cond rfl ?_ ?_
      · intro h16
        refine W_seq ?_
        refine W_reg rfl ?_
        refine run_op rfl rfl rfl (by simp [boxA, AV.cells, AV.isCell]; exact .mk) ?_
        refine run_end [4] (by simp) (by simp; exact .mk) ?_
        rintro -
        refine W_ret ?_
        refine end_ret (by simp [boxA, AV.cells, AV.isCell, Tryd.f27]; exact .mk) (by simp [boxA, AV.cells, AV.isCell, cl, cls]; exact .mk) ?_ (by simp [boxA, AV.cells, AV.isCell, D.noSn])
        simp [nrmR, nrmRs, nrmK, kindsOf, kinds, Tryd.f27, cmpI] at * <;> first | omega | grind
      · intro h16
        refine W_skip ?_
        rintro -
        refine W_seq ?_
        refine W_seq ?_
        refine W_reg rfl ?_
        iterate 2 (refine run_op rfl rfl rfl (by simp [boxA, AV.cells, AV.isCell]; exact .mk) ?_)
        refine run_op rfl rfl rfl (by simp [boxA, AV.cells, AV.isCell, eqA, eqFs, isStructTy, eqlNeq, strOp, isBoolTy, isPtrTy, isFnTy]; exact .mk) ?_
        refine run_end [19] (by simp) (by simp; exact .mk) ?_
        rintro -
        refine W_cond rfl ?_ ?_
        · intro h19
          refine W_seq ?_
          refine W_reg rfl ?_
          refine run_op rfl rfl rfl (by simp [boxA, AV.cells, AV.isCell]; exact .mk) ?_
          refine run_end [4] (by simp) (by simp; exact .mk) ?_
          rintro -
          refine W_ret ?_
          refine end_ret (by simp [boxA, AV.cells, AV.isCell, Tryd.f27]; exact .mk) (by simp [boxA, AV.cells, AV.isCell, cl, cls]; exact .mk) ?_ (by simp [boxA, AV.cells, AV.isCell, D.noSn])
          simp [nrmR, nrmRs, nrmK, kindsOf, kinds, Tryd.f27, cmpI] at * <;> first | omega | grind
        · intro h19
          refine W_skip ?_
          rintro -
          refine W_seq ?_
          refine W_reg rfl ?_
          refine run_op rfl rfl rfl (by simp [boxA, AV.cells, AV.isCell]; exact .mk) ?_
          refine run_end [4] (by simp) (by simp; exact .mk) ?_
          rintro -
          refine W_ret ?_
          refine end_ret (by simp [boxA, AV.cells, AV.isCell, Tryd.f27]; exact .mk) (by simp [boxA, AV.cells, AV.isCell, cl, cls]; exact .mk) ?_ (by simp [boxA, AV.cells, AV.isCell, D.noSn])
          simp [nrmR, nrmRs, nrmK, kindsOf, kinds, Tryd.f27, cmpI] at * <;> first | omega | grind

theorem ct26 (a b : Int) : CtAt Tryd.prog glD 26 [.row .ro 1 [vI a, vI b]] (vI (if a ≠ 0 then a else b)) := by
  refine ctAt_of_W Tryd.func26 rfl rfl (Nat.le_of_ble_eq_true rfl) fun B S => ?_
  refine W_seq ?_
  refine W_reg rfl ?_
  refine run_op rfl rfl rfl (by simp [boxA, AV.cells, AV.isCell]; exact .mk) ?_
  refine run_end [0] (by simp) (by simp; exact .mk) ?_
  rintro -
  refine W_seq ?_
  refine W_reg rfl ?_
  refine run_op rfl rfl rfl (by simp [boxA, AV.cells, AV.isCell]; exact .mk) ?_
  refine run_end [0, 3] (by simp) (by simp; exact .mk) ?_
  rintro -
  refine W_seq ?_
  refine W_seq ?_
  refine W_reg rfl ?_
  iterate 3 (refine run_op rfl rfl rfl (by simp [boxA, AV.cells, AV.isCell]; exact .mk) ?_)
  refine run_end [3, 6, 7, 8] (by simp) (by simp; exact .mk) ?_
  rintro -
  refine W_block ?_
  refine W_rounds (fun m σ o => ((m = 2 ∧ σ = slots [(3, .d (vI 0)), (6, .d (.row .ro 1 [vI a, vI b])), (7, .d (vI 2)), (8, .d (vI 0))]) ∨ (m = 1 ∧ a = 0 ∧ σ = slots [(3, .d (vI 0)), (6, .d (.row .ro 1 [vI a, vI b])), (7, .d (vI 2)), (8, .d (vI 1))]) ∨ (m = 0 ∧ a = 0 ∧ b = 0 ∧ σ = slots [(3, .d (vI 0)), (6, .d (.row .ro 1 [vI a, vI b])), (7, .d (vI 2)), (8, .d (vI 2))])) ∧ o = []) 2 .refl ⟨.inl ⟨rfl, rfl⟩, rfl⟩ ?_
  rintro m σ o ⟨⟨rfl, rfl⟩ | ⟨rfl, ha, rfl⟩ | ⟨rfl, ha, hb, rfl⟩, rfl⟩ _
  · skip
    skip
    refine W_seq ?_
    refine W_reg rfl ?_
    refine run_op rfl rfl rfl (by simp [boxA, AV.cells, AV.isCell, eqA, eqFs, isStructTy, eqlNeq, strOp, isBoolTy, isPtrTy, isFnTy]; exact .mk) ?_
    refine run_end [3, 6, 7, 8, 9] (by simp) (by simp; exact .mk) ?_
    rintro -
    refine W_seq ?_
    refine W_cond rfl ?_ ?_
    · intro h9
      refine W_skip ?_
      rintro -
      refine W_seq ?_
      refine W_block ?_
      refine W_seq ?_
      refine W_reg rfl ?_
      refine run_op rfl rfl rfl (by simp [boxA, AV.cells, AV.isCell, *]; exact .mk) ?_
      iterate 2 (refine run_op rfl rfl rfl (by simp [boxA, AV.cells, AV.isCell]; exact .mk) ?_)
      refine run_end [3, 5, 6, 7, 8] (by simp) (by simp; exact .mk) ?_
      rintro -
      refine W_seq ?_
      refine W_reg rfl ?_
      iterate 2 (refine run_op rfl rfl rfl (by simp [boxA, AV.cells, AV.isCell]; exact .mk) ?_)
      refine run_op rfl rfl rfl (by simp [boxA, AV.cells, AV.isCell, eqA, eqFs, isStructTy, eqlNeq, strOp, isBoolTy, isPtrTy, isFnTy]; exact .mk) ?_
      refine run_end [3, 5, 6, 7, 8, 14] (by simp) (by simp; exact .mk) ?_
      rintro -
      refine W_cond rfl ?_ ?_
      · intro h14
        have ha : a ≠ 0 := by simpa using h14
        refine W_seq ?_
        refine W_reg rfl ?_
        iterate 2 (refine run_op rfl rfl rfl (by simp [boxA, AV.cells, AV.isCell]; exact .mk) ?_)
        refine run_end [2] (by simp) (by simp; exact .mk) ?_
        rintro -
        refine W_ret ?_
        refine end_ret (by simp [boxA, AV.cells, AV.isCell, Tryd.f26]; exact .mk) (by simp [boxA, AV.cells, AV.isCell, cl, cls]; exact .mk) ?_ (by simp [boxA, AV.cells, AV.isCell, D.noSn])
        simp [nrmR, nrmRs, nrmK, kindsOf, kinds, Tryd.f26] at *; simp [*]
      · intro h14
        have ha : a = 0 := by simpa using h14
        refine W_skip ?_
        rintro -
        refine W_reg rfl ?_
        refine run_op rfl rfl rfl (by simp [boxA, AV.cells, AV.isCell, eqA, eqFs, isStructTy, eqlNeq, strOp, isBoolTy, isPtrTy, isFnTy]; exact .mk) ?_
        refine run_op rfl rfl rfl (by simp [boxA, AV.cells, AV.isCell]; exact .mk) ?_
        refine run_end [3, 6, 7, 8] (by simp) (by simp; exact .mk) ?_
        refine rounds_kill [3, 6, 7, 8] ?_
        exact rounds_next (m' := 1) (by omega) ⟨.inr (.inl ⟨rfl, ha, rfl⟩), rfl⟩
    · intro h9
      simp at h9
  · skip
    skip
    refine W_seq ?_
    refine W_reg rfl ?_
    refine run_op rfl rfl rfl (by simp [boxA, AV.cells, AV.isCell, eqA, eqFs, isStructTy, eqlNeq, strOp, isBoolTy, isPtrTy, isFnTy]; exact .mk) ?_
    refine run_end [3, 6, 7, 8, 9] (by simp) (by simp; exact .mk) ?_
    rintro -
    refine W_seq ?_
    refine W_cond rfl ?_ ?_
    · intro h9
      refine W_skip ?_
      rintro -
      refine W_seq ?_
      refine W_block ?_
      refine W_seq ?_
      refine W_reg rfl ?_
      refine run_op rfl rfl rfl (by simp [boxA, AV.cells, AV.isCell, *]; exact .mk) ?_
      iterate 2 (refine run_op rfl rfl rfl (by simp [boxA, AV.cells, AV.isCell]; exact .mk) ?_)
      refine run_end [3, 5, 6, 7, 8] (by simp) (by simp; exact .mk) ?_
      rintro -
      refine W_seq ?_
      refine W_reg rfl ?_
      iterate 2 (refine run_op rfl rfl rfl (by simp [boxA, AV.cells, AV.isCell]; exact .mk) ?_)
      refine run_op rfl rfl rfl (by simp [boxA, AV.cells, AV.isCell, eqA, eqFs, isStructTy, eqlNeq, strOp, isBoolTy, isPtrTy, isFnTy]; exact .mk) ?_
      refine run_end [3, 5, 6, 7, 8, 14] (by simp) (by simp; exact .mk) ?_
      rintro -
      refine W_cond rfl ?_ ?_
      · intro h14
        refine W_seq ?_
        refine W_reg rfl ?_
        iterate 2 (refine run_op rfl rfl rfl (by simp [boxA, AV.cells, AV.isCell]; exact .mk) ?_)
        refine run_end [2] (by simp) (by simp; exact .mk) ?_
        rintro -
        refine W_ret ?_
        refine end_ret (by simp [boxA, AV.cells, AV.isCell, Tryd.f26]; exact .mk) (by simp [boxA, AV.cells, AV.isCell, cl, cls]; exact .mk) ?_ (by simp [boxA, AV.cells, AV.isCell, D.noSn])
        simp [nrmR, nrmRs, nrmK, kindsOf, kinds, Tryd.f26] at *; simp [*]
      · intro h14
        have hb : b = 0 := by simpa using h14
        refine W_skip ?_
        rintro -
        refine W_reg rfl ?_
        refine run_op rfl rfl rfl (by simp [boxA, AV.cells, AV.isCell, eqA, eqFs, isStructTy, eqlNeq, strOp, isBoolTy, isPtrTy, isFnTy]; exact .mk) ?_
        refine run_op rfl rfl rfl (by simp [boxA, AV.cells, AV.isCell]; exact .mk) ?_
        refine run_end [3, 6, 7, 8] (by simp) (by simp; exact .mk) ?_
        refine rounds_kill [3, 6, 7, 8] ?_
        exact rounds_next (m' := 0) (by omega) ⟨.inr (.inr ⟨rfl, ha, hb, rfl⟩), rfl⟩
    · intro h9
      simp at h9
  · skip
    skip
    refine W_seq ?_
    refine W_reg rfl ?_
    refine run_op rfl rfl rfl (by simp [boxA, AV.cells, AV.isCell, eqA, eqFs, isStructTy, eqlNeq, strOp, isBoolTy, isPtrTy, isFnTy]; exact .mk) ?_
    refine run_end [3, 6, 7, 8, 9] (by simp) (by simp; exact .mk) ?_
    rintro -
    refine W_seq ?_
    refine W_cond rfl ?_ ?_
    · intro h9
      simp at h9
    · intro h9
      refine W_exit ?_
      rintro -
      refine W_seq ?_
      refine W_reg rfl ?_
      iterate 2 (refine run_op rfl rfl rfl (by simp [boxA, AV.cells, AV.isCell]; exact .mk) ?_)
      refine run_end [2] (by simp) (by simp; exact .mk) ?_
      rintro -
      refine W_ret ?_
      refine end_ret (by simp [boxA, AV.cells, AV.isCell, Tryd.f26]; exact .mk) (by simp [boxA, AV.cells, AV.isCell, cl, cls]; exact .mk) ?_ (by simp [boxA, AV.cells, AV.isCell, D.noSn])
      simp [nrmR, nrmRs, nrmK, kindsOf, kinds, Tryd.f26] at *; simp [*]

theorem ct19 (a b : Hd) : CtAt Tryd.prog glD 19 [eH a, eH b] (vI (cmpH a b)) := by
  refine ctAt_of_W Tryd.func19 rfl rfl (Nat.le_of_ble_eq_true rfl) fun B S => ?_
  simp only [eH, List.map, argD_agg, argD_v]
  refine W_seq ?_
  refine W_reg rfl ?_
  iterate 2 (refine run_op rfl rfl rfl (by simp [boxA, AV.cells, AV.isCell, boxA, AV.cells, AV.isCell]; exact .mk) ?_)
  refine run_op rfl rfl rfl (by simp [boxA, AV.cells, AV.isCell]; exact .mk) ?_
  refine run_end [2, 3] (by simp) (by simp; exact .mk) ?_
  rintro -
  refine W_seq ?_
  refine W_seq ?_
  refine W_reg rfl ?_
  iterate 2 (refine run_op rfl rfl rfl (by simp [boxA, AV.cells, AV.isCell]; exact .mk) ?_)
  refine run_op rfl rfl rfl (by simp [boxA, AV.cells, AV.isCell, eqA, eqFs, isStructTy, eqlNeq, strOp, isBoolTy, isPtrTy, isFnTy]; exact .mk) ?_
  refine run_end [2, 3, 7] (by simp) (by simp; exact .mk) ?_
  rintro -
  refine W_cond rfl ?_ ?_
  · intro h7
    have hr : cmpH a b = 0 := by unfold cmpH; rw [if_pos (by simpa using h7)]
    refine W_seq ?_
    refine W_reg rfl ?_
    refine run_op rfl rfl rfl (by simp [boxA, AV.cells, AV.isCell]; exact .mk) ?_
    refine run_end [4] (by simp) (by simp; exact .mk) ?_
    rintro -
    refine W_ret ?_
    refine end_ret (by simp [boxA, AV.cells, AV.isCell, Tryd.f19]; exact .mk) (by simp [boxA, AV.cells, AV.isCell, cl, cls]; exact .mk) ?_ (by simp [boxA, AV.cells, AV.isCell, D.noSn])
    simp [nrmR, nrmRs, nrmK, kindsOf, kinds, Tryd.f19, hr]
  · intro h7
    have hr : cmpH a b = if cmpI a.1 b.1 ≠ 0 then cmpI a.1 b.1 else cmpI a.2 b.2 := by unfold cmpH; rw [if_neg (by simpa using h7)]
    refine W_skip ?_
    rintro -
    refine W_seq ?_
    refine W_regD (by kernel_rfl) [] 4 [0, 1, 2, 3, 5, 6, 7, 8, 4, 9, 10, 11, 12] (by decide +kernel) ?_
    iterate 8 (refine run_op rfl rfl rfl (by simp [boxA, AV.cells, AV.isCell]; exact .mk) ?_)
    refine run_call0 rfl rfl rfl rfl (by simp [boxA, AV.cells, AV.isCell, calleeA]; exact .mk) (by simp [boxA, AV.cells, AV.isCell, kindsOf, kinds, expAs, expA]; exact .mk) (ct27 a.1 b.1) (by simp [boxA, AV.cells, AV.isCell, D.noRo]) (by simp [boxA, AV.cells, AV.isCell, impA, impAs]; exact .mk) ?_
    refine run_call0 rfl rfl rfl rfl (by simp [boxA, AV.cells, AV.isCell, calleeA]; exact .mk) (by simp [boxA, AV.cells, AV.isCell, kindsOf, kinds, expAs, expA]; exact .mk) (ct27 a.2 b.2) (by simp [boxA, AV.cells, AV.isCell, D.noRo]) (by simp [boxA, AV.cells, AV.isCell, impA, impAs]; exact .mk) ?_
    refine run_op rfl rfl rfl (by simp [boxA, AV.cells, AV.isCell, buildSliceA, inOrder, cls, cl, elemsD, kinds, nrmKs, Value.oneCell']; exact .mk) ?_
    refine run_call0 rfl rfl rfl rfl (by simp [boxA, AV.cells, AV.isCell, calleeA]; exact .mk) (by simp [boxA, AV.cells, AV.isCell, kindsOf, kinds, expAs, expA]; exact .mk) (ct26 (cmpI a.1 b.1) (cmpI a.2 b.2)) (by simp [boxA, AV.cells, AV.isCell, D.noRo]) (by simp [boxA, AV.cells, AV.isCell, impA, impAs]; exact .mk) ?_
    refine run_op rfl rfl rfl (by simp [boxA, AV.cells, AV.isCell]; exact .mk) ?_
    refine run_end [4] (by simp) (by simp; exact .mk) ?_
    rintro -
    refine W_ret ?_
    refine end_ret (by simp [boxA, AV.cells, AV.isCell, Tryd.f19]; exact .mk) (by simp [boxA, AV.cells, AV.isCell, cl, cls]; exact .mk) ?_ (by simp [boxA, AV.cells, AV.isCell, D.noSn])
    simp [nrmR, nrmRs, nrmK, kindsOf, kinds, Tryd.f19, hr]

theorem ct20 (a b : Hd) : CtAt Tryd.prog glD 20 [eH a, eH b] (vI (cmpH a b)) := by
  refine ctAt_of_W Tryd.func20 rfl rfl (Nat.le_of_ble_eq_true rfl) fun B S => ?_
  simp only [eH, List.map, argD_agg, argD_v]
  refine W_seq ?_
  refine W_reg rfl ?_
  iterate 2 (refine run_op rfl rfl rfl (by simp [boxA, AV.cells, AV.isCell, boxA, AV.cells, AV.isCell]; exact .mk) ?_)
  refine run_op rfl rfl rfl (by simp [boxA, AV.cells, AV.isCell]; exact .mk) ?_
  refine run_end [2, 3] (by simp) (by simp; exact .mk) ?_
  rintro -
  refine W_seq ?_
  refine W_seq ?_
  refine W_reg rfl ?_
  iterate 4 (refine run_op rfl rfl rfl (by simp [boxA, AV.cells, AV.isCell]; exact .mk) ?_)
  refine run_op rfl rfl rfl (by simp [boxA, AV.cells, AV.isCell, eqA, eqFs, isStructTy, eqlNeq, strOp, isBoolTy, isPtrTy, isFnTy]; exact .mk) ?_
  refine run_op rfl rfl rfl (by simp [boxA, AV.cells, AV.isCell]; exact .mk) ?_
  refine run_if rfl (by simp [boxA, AV.cells, AV.isCell]; exact .mk) rfl (by simp <;> first | omega | grind) (fun hb => by simp [boxA, AV.cells, AV.isCell]; exact .mk) ?_
  refine run_if rfl (by simp [boxA, AV.cells, AV.isCell]; exact .mk) rfl (by simp <;> first | omega | grind) (fun hb => by simp [boxA, AV.cells, AV.isCell]; exact .mk) ?_
  refine run_if rfl (by simp [boxA, AV.cells, AV.isCell]; exact .mk) rfl (by simp <;> first | omega | grind) (fun hb => by simp [boxA, AV.cells, AV.isCell]; exact .mk) ?_
  refine run_if rfl (by simp [boxA, AV.cells, AV.isCell]; exact .mk) rfl (by simp <;> first | omega | grind) (fun hb => by simp [boxA, AV.cells, AV.isCell]; exact .mk) ?_
  refine run_if rfl (by simp [boxA, AV.cells, AV.isCell]; exact .mk) rfl (by simp <;> first | omega | grind) (fun hb => by simp [boxA, AV.cells, AV.isCell, eqA, eqFs, isStructTy, eqlNeq, strOp, isBoolTy, isPtrTy, isFnTy]; exact .mk) ?_
  refine run_if rfl (by simp [boxA, AV.cells, AV.isCell]; exact .mk) rfl (by simp <;> first | omega | grind) (fun hb => by simp [boxA, AV.cells, AV.isCell]; exact .mk) ?_
  refine run_if rfl (by simp [boxA, AV.cells, AV.isCell]; exact .mk) rfl (by simp <;> first | omega | grind) (fun hb => by simp [boxA, AV.cells, AV.isCell]; exact .mk) ?_
  refine run_if rfl (by simp [boxA, AV.cells, AV.isCell]; exact .mk) rfl (by simp <;> first | omega | grind) (fun hb => by simp [boxA, AV.cells, AV.isCell]; exact .mk) ?_
  refine run_if rfl (by simp [boxA, AV.cells, AV.isCell]; exact .mk) rfl (by simp <;> first | omega | grind) (fun hb => by simp [boxA, AV.cells, AV.isCell]; exact .mk) ?_
  refine run_if rfl (by simp [boxA, AV.cells, AV.isCell]; exact .mk) rfl (by simp <;> first | omega | grind) (fun hb => by simp [boxA, AV.cells, AV.isCell]; exact .mk) ?_
  refine run_if rfl (by simp [boxA, AV.cells, AV.isCell]; exact .mk) rfl (by simp <;> first | omega | grind) (fun hb => by simp [boxA, AV.cells, AV.isCell, eqA, eqFs, isStructTy, eqlNeq, strOp, isBoolTy, isPtrTy, isFnTy]; exact .mk) ?_
  refine run_pick rfl (by simp [boxA, AV.cells, AV.isCell]; exact .mk) rfl rfl (by simp) (by simp [boxA, AV.cells, AV.isCell]; exact .mk) (by simp [boxA, AV.cells, AV.isCell]; exact .mk) (by simp; exact .mk) ?_
  refine run_pick rfl (by simp [boxA, AV.cells, AV.isCell]; exact .mk) rfl rfl (by simp) (by simp [boxA, AV.cells, AV.isCell]; exact .mk) (by simp [boxA, AV.cells, AV.isCell]; exact .mk) (by simp; exact .mk) ?_
  refine run_end [2, 3, 23] (by simp <;> first | omega | grind) (by simp; exact .mk) ?_
  rintro -
  refine W_cond rfl ?_ ?_
  · intro h23
    refine W_seq ?_
    refine W_reg rfl ?_
    refine run_op rfl rfl rfl (by simp [boxA, AV.cells, AV.isCell]; exact .mk) ?_
    refine run_end [4] (by simp) (by simp; exact .mk) ?_
    rintro -
    refine W_ret ?_
    refine end_ret (by simp [boxA, AV.cells, AV.isCell, Tryd.f20]; exact .mk) (by simp [boxA, AV.cells, AV.isCell, cl, cls]; exact .mk) ?_ (by simp [boxA, AV.cells, AV.isCell, D.noSn])
    simp [nrmR, nrmRs, nrmK, kindsOf, kinds, Tryd.f20, cmpH, cmpI] at * <;> grind
  · intro h23
    refine W_skip ?_
    rintro -
    refine W_seq ?_
    refine W_seq ?_
    refine W_reg rfl ?_
    iterate 2 (refine run_op rfl rfl rfl (by simp [boxA, AV.cells, AV.isCell]; exact .mk) ?_)
    refine run_op rfl rfl rfl (by simp [boxA, AV.cells, AV.isCell, eqA, eqFs, isStructTy, eqlNeq, strOp, isBoolTy, isPtrTy, isFnTy]; exact .mk) ?_
    refine run_end [26] (by simp) (by simp; exact .mk) ?_
    rintro -
    refine W_cond rfl ?_ ?_
    · intro h26
      refine W_seq ?_
      refine W_reg rfl ?_
      refine run_op rfl rfl rfl (by simp [boxA, AV.cells, AV.isCell]; exact .mk) ?_
      refine run_end [4] (by simp) (by simp; exact .mk) ?_
      rintro -
      refine W_ret ?_
      refine end_ret (by simp [boxA, AV.cells, AV.isCell, Tryd.f20]; exact .mk) (by simp [boxA, AV.cells, AV.isCell, cl, cls]; exact .mk) ?_ (by simp [boxA, AV.cells, AV.isCell, D.noSn])
      simp [nrmR, nrmRs, nrmK, kindsOf, kinds, Tryd.f20, cmpH, cmpI] at * <;> grind
    · intro h26
      refine W_skip ?_
      rintro -
      refine W_seq ?_
      refine W_reg rfl ?_
      refine run_op rfl rfl rfl (by simp [boxA, AV.cells, AV.isCell]; exact .mk) ?_
      refine run_end [4] (by simp) (by simp; exact .mk) ?_
      rintro -
      refine W_ret ?_
      refine end_ret (by simp [boxA, AV.cells, AV.isCell, Tryd.f20]; exact .mk) (by simp [boxA, AV.cells, AV.isCell, cl, cls]; exact .mk) ?_ (by simp [boxA, AV.cells, AV.isCell, D.noSn])
      simp [nrmR, nrmRs, nrmK, kindsOf, kinds, Tryd.f20, cmpH, cmpI] at * <;> grind

theorem ct16 (h : Hd) : CtAt Tryd.prog glD 16 [eH h] (vS (strB (textB h))) := by
  refine ctAt_of_W Tryd.func16 rfl rfl (Nat.le_of_ble_eq_true rfl) fun B S => ?_
  simp only [eH, List.map, argD_agg, argD_v]
  refine W_seq ?_
  refine W_reg rfl ?_
  refine run_op rfl rfl rfl (by simp [boxA, AV.cells, AV.isCell, boxA, AV.cells, AV.isCell]; exact .mk) ?_
  refine run_op rfl rfl rfl (by simp [boxA, AV.cells, AV.isCell]; exact .mk) ?_
  refine run_end [1] (by simp) (by simp; exact .mk) ?_
  rintro -
  refine W_seq ?_
  refine W_seq ?_
  refine W_reg rfl ?_
  refine run_op rfl rfl rfl (by simp [boxA, AV.cells, AV.isCell]; exact .mk) ?_
  refine run_call0 rfl rfl rfl rfl (by simp [boxA, AV.cells, AV.isCell, calleeA]; exact .mk) (by simp [boxA, AV.cells, AV.isCell, kindsOf, kinds, expAs, expA]; exact .mk) (ct13 h) (by simp [boxA, AV.cells, AV.isCell, D.noRo]) (by simp [boxA, AV.cells, AV.isCell, impA, impAs]; exact .mk) ?_
  refine run_op rfl rfl rfl (by simp [boxA, AV.cells, AV.isCell, unA]; exact .mk) ?_
  refine run_end [1, 5] (by simp) (by simp; exact .mk) ?_
  rintro -
  refine W_cond rfl ?_ ?_
  · intro h5
    have ho : okH h = false := by simpa using h5
    have hr : textB h = [] := by simp [textB, ho]
    refine W_seq ?_
    refine W_reg rfl ?_
    refine run_op rfl rfl rfl (by simp [boxA, AV.cells, AV.isCell]; exact .mk) ?_
    refine run_end [2] (by simp) (by simp; exact .mk) ?_
    rintro -
    refine W_ret ?_
    refine end_ret (by simp [boxA, AV.cells, AV.isCell, Tryd.f16]; exact .mk) (by simp [boxA, AV.cells, AV.isCell, cl, cls]; exact .mk) ?_ (by simp [boxA, AV.cells, AV.isCell, D.noSn])
    simp [nrmR, nrmRs, nrmK, kindsOf, kinds, Tryd.f16, hr]
  · intro h5
    have ho : okH h = true := by simpa using h5
    have hk : 0 ≤ h.1 ∧ h.1 < 32 ∧ 0 ≤ h.2 ∧ h.2 < 65536 := by simpa [okH] using ho
    have hr : textB h = Lib.decDigits h.1.toNat ++ 46 :: Lib.decDigits h.2.toNat := by simp [textB, ho]
    obtain ⟨x, y⟩ := h
    obtain ⟨i, rfl⟩ : ∃ i : Nat, x = i := ⟨x.toNat, by simp at hk; omega⟩
    obtain ⟨j, rfl⟩ : ∃ j : Nat, y = j := ⟨y.toNat, by simp at hk; omega⟩
    simp only at hk
    have l1 := decLen (u := i) (by omega)
    have l2 := decLen (u := j) (by omega)
    have a1 := addDot (a := Lib.decDigits i) (by omega)
    have a2 := addS (a := Lib.decDigits i ++ [46]) (b := Lib.decDigits j) (by simp; omega)
    refine W_skip ?_
    rintro -
    refine W_seq ?_
    refine W_regD (by kernel_rfl) [] 4 [0, 1, 4, 5, 2, 3, 6, 7, 8] (by decide +kernel) ?_
    iterate 4 (refine run_op rfl rfl rfl (by simp [boxA, AV.cells, AV.isCell]; exact .mk) ?_)
    refine run_call0 rfl rfl rfl rfl (by simp [boxA, AV.cells, AV.isCell, calleeA]; exact .mk) (by simp [boxA, AV.cells, AV.isCell, kindsOf, kinds, expAs, expA]; exact .mk) (ct23 i (by omega)) (by simp [boxA, AV.cells, AV.isCell, D.noRo]) (by simp [boxA, AV.cells, AV.isCell, impA, impAs]; exact .mk) ?_
    refine run_op rfl rfl rfl (by simp [a1]; exact .mk) ?_
    refine run_call0 rfl rfl rfl rfl (by simp [boxA, AV.cells, AV.isCell, calleeA]; exact .mk) (by simp [boxA, AV.cells, AV.isCell, kindsOf, kinds, expAs, expA]; exact .mk) (ct23 j (by omega)) (by simp [boxA, AV.cells, AV.isCell, D.noRo]) (by simp [boxA, AV.cells, AV.isCell, impA, impAs]; exact .mk) ?_
    refine run_op rfl rfl rfl (by simp [a2]; exact .mk) ?_
    refine run_op rfl rfl rfl (by simp [boxA, AV.cells, AV.isCell]; exact .mk) ?_
    refine run_end [2] (by simp) (by simp; exact .mk) ?_
    rintro -
    refine W_ret ?_
    refine end_ret (by simp [boxA, AV.cells, AV.isCell, Tryd.f16]; exact .mk) (by simp [boxA, AV.cells, AV.isCell, cl, cls]; exact .mk) ?_ (by simp [boxA, AV.cells, AV.isCell, D.noSn])
    simp [nrmR, nrmRs, nrmK, kindsOf, kinds, Tryd.f16, hr]

end Go.Proofs

set_option linter.unusedSimpArgs false
set_option linter.unusedVariables false
set_option maxHeartbeats 4000000
set_option maxRecDepth 4000
namespace Go.Proofs
open Go.Awp
theorem ct28 (s : ByteArray) (hs : s.size < 2^63) : CtAt Tryd.prog glD 28 [vS s, vS ⟨#[46]⟩] (.tup [vS (cutH s).1, vS (cutH s).2, vT (decide (0 ≤ Lib.indexByte s.data.toList 46))]) := by
  refine ctAt_of_W Tryd.func28 rfl rfl (Nat.le_of_ble_eq_true rfl) fun B S => ?_
  refine W_seq ?_
  refine W_reg rfl ?_
  iterate 3 (refine run_op rfl rfl rfl (by simp [boxA, AV.cells, AV.isCell]; exact .mk) ?_)
  refine run_end [0, 1] (by simp) (by simp; exact .mk) ?_
  rintro -
  refine W_seq ?_
  refine W_seq ?_
  refine W_reg rfl ?_
  iterate 2 (refine run_op rfl rfl rfl (by simp [boxA, AV.cells, AV.isCell]; exact .mk) ?_)
  refine run_call0 rfl rfl rfl rfl (by simp [boxA, AV.cells, AV.isCell, calleeA]; exact .mk) (by simp [boxA, AV.cells, AV.isCell, kindsOf, kinds, expAs, expA]; exact .mk) (ct31 s) (by simp [boxA, AV.cells, AV.isCell, D.noRo]) (by simp [boxA, AV.cells, AV.isCell, impA, impAs]; exact .mk) ?_
  refine run_op rfl rfl rfl (by simp [boxA, AV.cells, AV.isCell]; exact .mk) ?_
  refine run_end [0, 1, 7] (by simp) (by simp; exact .mk) ?_
  rintro -
  refine W_seq ?_
  refine W_reg rfl ?_
  refine run_op rfl rfl rfl (by simp [boxA, AV.cells, AV.isCell]; exact .mk) ?_
  refine run_op rfl rfl rfl (by simp [boxA, AV.cells, AV.isCell, eqA, eqFs, isStructTy, eqlNeq, strOp, isBoolTy, isPtrTy, isFnTy]; exact .mk) ?_
  refine run_end [0, 1, 7, 12] (by simp) (by simp; exact .mk) ?_
  rintro -
  refine W_cond rfl ?_ ?_
  · intro h12
    have hi : 0 ≤ Lib.indexByte s.data.toList 46 := by simpa using h12
    have hl := idx_lt hi
    have hc : cutH s = (s.extract 0 (Lib.indexByte s.data.toList 46).toNat, s.extract ((Lib.indexByte s.data.toList 46).toNat + 1) s.size) := by unfold cutH; rw [if_pos hi]
    obtain ⟨k, hk⟩ : ∃ k : Nat, Lib.indexByte s.data.toList 46 = k := ⟨(Lib.indexByte s.data.toList 46).toNat, by omega⟩
    rw [hk] at hi hl hc
    simp only [hk]
    have e1 : IntKind.i64.wrap ((k : Int) + 1) = (k : Int) + 1 := wrap64 (by omega) (by omega)
    have q1 : (k : Int) ≤ s.size := by omega
    have q2 : 0 ≤ (k : Int) + 1 := by omega
    have q3 : (k : Int) + 1 ≤ s.size := by omega
    have t1 : ((k : Int) + 1).toNat = k + 1 := by omega
    have r1 : k ≤ s.size := by omega
    have r2 : k + 1 ≤ s.size := by omega
    refine W_seq ?_
    refine W_regD (by kernel_rfl) [] 4 [0, 1, 2, 3, 4, 5, 6, 7, 8, 9, 10, 11] (by decide +kernel) ?_
    iterate 2 (refine run_op rfl rfl rfl (by simp [boxA, AV.cells, AV.isCell]; exact .mk) ?_)
    refine run_op rfl rfl rfl (by simp [sliceA, optA, q1, r1]; exact .mk) ?_
    iterate 4 (refine run_op rfl rfl rfl (by simp [boxA, AV.cells, AV.isCell]; exact .mk) ?_)
    refine run_op rfl rfl rfl (by simp [boxA, AV.cells, AV.isCell, eqA, eqFs, isStructTy, eqlNeq, strOp, isBoolTy, isPtrTy, isFnTy, e1]; exact .mk) ?_
    refine run_op rfl rfl rfl (by simp [sliceA, optA, q2, q3, t1, r2]; exact .mk) ?_
    iterate 3 (refine run_op rfl rfl rfl (by simp [boxA, AV.cells, AV.isCell]; exact .mk) ?_)
    refine run_end [4, 5, 6] (by simp) (by simp; exact .mk) ?_
    rintro -
    refine W_ret ?_
    refine end_ret (by simp [boxA, AV.cells, AV.isCell, Tryd.f28]; exact .mk) (by simp [boxA, AV.cells, AV.isCell, cl, cls]; exact .mk) ?_ (by simp [boxA, AV.cells, AV.isCell, D.noSn])
    simp [nrmR, nrmRs, nrmK, kindsOf, kinds, Tryd.f28, hc] <;> omega
  · intro h12
    have hi : ¬ 0 ≤ Lib.indexByte s.data.toList 46 := by simpa using h12
    have hc : cutH s = (s, ⟨#[]⟩) := by unfold cutH; rw [if_neg hi]
    refine W_skip ?_
    rintro -
    refine W_seq ?_
    refine W_reg rfl ?_
    iterate 4 (refine run_op rfl rfl rfl (by simp [boxA, AV.cells, AV.isCell]; exact .mk) ?_)
    refine run_end [4, 5, 6] (by simp) (by simp; exact .mk) ?_
    rintro -
    refine W_ret ?_
    refine end_ret (by simp [boxA, AV.cells, AV.isCell, Tryd.f28]; exact .mk) (by simp [boxA, AV.cells, AV.isCell, cl, cls]; exact .mk) ?_ (by simp [boxA, AV.cells, AV.isCell, D.noSn])
    simp [nrmR, nrmRs, nrmK, kindsOf, kinds, Tryd.f28, hc] <;> omega

theorem ct21 (s : ByteArray) (hs : s.size < 2^63) : CtAt Tryd.prog glD 21 [vS s, vS ⟨#[46]⟩] (.tup [vS (cutH s).1, vS (cutH s).2, vT (decide (0 ≤ Lib.indexByte s.data.toList 46))]) := by
  refine ctAt_of_W Tryd.func21 rfl rfl (Nat.le_of_ble_eq_true rfl) fun B S => ?_
  refine W_seq ?_
  refine W_reg rfl ?_
  iterate 3 (refine run_op rfl rfl rfl (by simp [boxA, AV.cells, AV.isCell]; exact .mk) ?_)
  refine run_end [0, 1] (by simp) (by simp; exact .mk) ?_
  rintro -
  refine W_seq ?_
  refine W_reg rfl ?_
  iterate 2 (refine run_op rfl rfl rfl (by simp [boxA, AV.cells, AV.isCell]; exact .mk) ?_)
  refine run_call0 rfl rfl rfl rfl (by simp [boxA, AV.cells, AV.isCell, calleeA]; exact .mk) (by simp [boxA, AV.cells, AV.isCell, kindsOf, kinds, expAs, expA]; exact .mk) (ct28 s hs) (by simp [boxA, AV.cells, AV.isCell, D.noRo]) (by simp [boxA, AV.cells, AV.isCell, impA, impAs]; exact .mk) ?_
  iterate 6 (refine run_op rfl rfl rfl (by simp [boxA, AV.cells, AV.isCell]; exact .mk) ?_)
  refine run_end [4, 5, 6] (by simp) (by simp; exact .mk) ?_
  rintro -
  refine W_ret ?_
  refine end_ret (by simp [boxA, AV.cells, AV.isCell, Tryd.f21]; exact .mk) (by simp [boxA, AV.cells, AV.isCell, cl, cls]; exact .mk) ?_ (by simp [boxA, AV.cells, AV.isCell, D.noSn])
  simp [nrmR, nrmRs, nrmK, kindsOf, kinds, Tryd.f21]

theorem ct22 (s : ByteArray) : CtAt Tryd.prog glD 22 [vS s] (vI (numS s)) := by
  refine ctAt_of_W Tryd.func22 rfl rfl (Nat.le_of_ble_eq_true rfl) fun B S => ?_
  refine W_seq ?_
  refine W_reg rfl ?_
  refine run_op rfl rfl rfl (by simp [boxA, AV.cells, AV.isCell]; exact .mk) ?_
  refine run_end [0] (by simp) (by simp; exact .mk) ?_
  rintro -
  refine W_seq ?_
  refine W_reg rfl ?_
  refine run_op rfl rfl rfl (by simp [boxA, AV.cells, AV.isCell]; exact .mk) ?_
  refine run_end [0, 3] (by simp) (by simp; exact .mk) ?_
  rintro -
  refine W_seq ?_
  refine W_seq ?_
  refine W_reg rfl ?_
  iterate 2 (refine run_op rfl rfl rfl (by simp [boxA, AV.cells, AV.isCell]; exact .mk) ?_)
  refine run_end [0, 3, 7] (by simp) (by simp; exact .mk) ?_
  rintro -
  refine W_block ?_
  refine W_rounds (fun m σ o => ∃ (pos : Nat) (n : Int), m = s.size + 1 - pos ∧ numW s pos n = numW s 0 0 ∧ 0 ≤ n ∧ n ≤ 655369 ∧ σ = slots [(0, .d (vS s)), (3, .d (vI n)), (7, .ptr 0 0 0)] ∧ o = [.it s pos]) (s.size + 1) .refl ⟨0, 0, by simp, rfl, by omega, by omega, rfl, rfl⟩ ?_
  rintro m σ o ⟨pos, n, rfl, hinv, hn0, hn1, rfl, rfl⟩ _
  refine W_seq ?_
  by_cases hp : pos < s.size
  · skip
    refine W_reg rfl ?_
    refine run_op rfl rfl rfl (by simp [boxA, AV.cells, AV.isCell, hp]; exact .mk) ?_
    refine run_op rfl rfl rfl (by simp [boxA, AV.cells, AV.isCell]; exact .mk) ?_
    refine run_end [0, 3, 7, 8, 9] (by simp) (by simp; exact .mk) ?_
    rintro -
    refine W_seq ?_
    refine W_cond rfl ?_ ?_
    · intro h9
      refine W_skip ?_
      rintro -
      refine W_block ?_
      refine W_seq ?_
      refine W_reg rfl ?_
      iterate 2 (refine run_op rfl rfl rfl (by simp [boxA, AV.cells, AV.isCell]; exact .mk) ?_)
      refine run_end [0, 3, 5, 7] (by simp) (by simp; exact .mk) ?_
      rintro -
      refine W_seq ?_
      refine W_seq ?_
      refine W_reg rfl ?_
      refine run_op rfl rfl rfl (by simp [boxA, AV.cells, AV.isCell]; exact .mk) ?_
      refine run_op rfl rfl rfl (by simp [boxA, AV.cells, AV.isCell, eqA, eqFs, isStructTy, eqlNeq, strOp, isBoolTy, isPtrTy, isFnTy]; exact .mk) ?_
      refine run_op rfl rfl rfl (by simp [boxA, AV.cells, AV.isCell]; exact .mk) ?_
      refine run_if rfl (by simp [boxA, AV.cells, AV.isCell]; exact .mk) rfl (by simp <;> first | omega | grind) (fun hb => by simp [boxA, AV.cells, AV.isCell]; exact .mk) ?_
      refine run_if rfl (by simp [boxA, AV.cells, AV.isCell]; exact .mk) rfl (by simp <;> first | omega | grind) (fun hb => by simp [boxA, AV.cells, AV.isCell, eqA, eqFs, isStructTy, eqlNeq, strOp, isBoolTy, isPtrTy, isFnTy]; exact .mk) ?_
      refine run_pick rfl (by simp [boxA, AV.cells, AV.isCell]; exact .mk) rfl rfl (by simp) (by simp [boxA, AV.cells, AV.isCell]; exact .mk) (by simp [boxA, AV.cells, AV.isCell]; exact .mk) (by simp; exact .mk) ?_
      refine run_op1 rfl rfl rfl (by simp <;> first | omega | grind) (by simp [boxA, AV.cells, AV.isCell]; exact .mk) ?_
      refine run_if rfl (by simp [boxA, AV.cells, AV.isCell]; exact .mk) rfl (by simp <;> first | omega | grind) (fun hb => by simp [boxA, AV.cells, AV.isCell]; exact .mk) ?_
      refine run_if rfl (by simp [boxA, AV.cells, AV.isCell]; exact .mk) rfl (by simp <;> first | omega | grind) (fun hb => by simp [boxA, AV.cells, AV.isCell, eqA, eqFs, isStructTy, eqlNeq, strOp, isBoolTy, isPtrTy, isFnTy]; exact .mk) ?_
      refine run_pick rfl (by simp [boxA, AV.cells, AV.isCell]; exact .mk) rfl rfl (by simp) (by simp [boxA, AV.cells, AV.isCell]; exact .mk) (by simp [boxA, AV.cells, AV.isCell]; exact .mk) (by simp; exact .mk) ?_
      refine run_end [0, 3, 5, 7, 20] (by simp <;> first | omega | grind) (by simp; exact .mk) ?_
      rintro -
      refine W_cond rfl ?_ ?_
      · intro h20
        have hr : numS s = -1 := by
          have h1 : numW s 0 0 = -1 := by rw [← hinv]; exact numW_f hp (by simp at h20; omega)
          simp [numS, h1]
        refine W_seq ?_
        refine W_reg rfl ?_
        refine run_op rfl rfl rfl (by simp [boxA, AV.cells, AV.isCell]; exact .mk) ?_
        refine run_end [2] (by simp) (by simp; exact .mk) ?_
        rintro -
        refine W_ret ?_
        refine end_ret (by simp [boxA, AV.cells, AV.isCell, Tryd.f22]; exact .mk) (by simp [boxA, AV.cells, AV.isCell, cl, cls]; exact .mk) ?_ (by simp [boxA, AV.cells, AV.isCell, D.noSn])
        simp [nrmR, nrmRs, nrmK, kindsOf, kinds, Tryd.f22, hr]
      · intro h20
        have hc : ¬ ((Utf8.decode s pos).1 < 48 ∨ 57 < (Utf8.decode s pos).1 ∨ 65536 ≤ n) := by simp at h20; omega
        have hc2 : 48 ≤ (Utf8.decode s pos).1 ∧ (Utf8.decode s pos).1 ≤ 57 ∧ n < 65536 := by omega
        rw [numW_t hp hc] at hinv
        have e1 : IntKind.i64.wrap (10 * n) = 10 * n := wrap64 (by omega) (by omega)
        have e2 : IntKind.i32.wrap ((Utf8.decode s pos).1 - 48) = (Utf8.decode s pos).1 - 48 := wrapI32 (by omega) (by omega)
        have e3 : IntKind.i64.wrap ((Utf8.decode s pos).1 - 48) = (Utf8.decode s pos).1 - 48 := wrap64 (by omega) (by omega)
        have e4 : IntKind.i64.wrap (10 * n + ((Utf8.decode s pos).1 - 48)) = 10 * n + ((Utf8.decode s pos).1 - 48) := wrap64 (by omega) (by omega)
        refine W_skip ?_
        rintro -
        refine W_reg rfl ?_
        refine run_op rfl rfl rfl (by simp [boxA, AV.cells, AV.isCell]; exact .mk) ?_
        refine run_op rfl rfl rfl (by simp [boxA, AV.cells, AV.isCell, eqA, eqFs, isStructTy, eqlNeq, strOp, isBoolTy, isPtrTy, isFnTy, e1]; exact .mk) ?_
        refine run_op rfl rfl rfl (by simp [boxA, AV.cells, AV.isCell]; exact .mk) ?_
        refine run_op rfl rfl rfl (by simp [boxA, AV.cells, AV.isCell, eqA, eqFs, isStructTy, eqlNeq, strOp, isBoolTy, isPtrTy, isFnTy, e2]; exact .mk) ?_
        refine run_op rfl rfl rfl (by simp [boxA, AV.cells, AV.isCell, convA, e3]; exact .mk) ?_
        refine run_op rfl rfl rfl (by simp [boxA, AV.cells, AV.isCell, eqA, eqFs, isStructTy, eqlNeq, strOp, isBoolTy, isPtrTy, isFnTy, e3, e4]; exact .mk) ?_
        refine run_op rfl rfl rfl (by simp [boxA, AV.cells, AV.isCell]; exact .mk) ?_
        refine run_end [0, 3, 7] (by simp) (by simp; exact .mk) ?_
        refine rounds_kill [0, 3, 7] ?_
        exact rounds_next (m' := s.size + 1 - (pos + (Utf8.decode s pos).2)) (by have := decode_pos s pos; omega) ⟨pos + (Utf8.decode s pos).2, _, rfl, hinv, by omega, by omega, rfl, rfl⟩
    · intro h9
      simp at h9
  · skip
    refine W_reg rfl ?_
    refine run_op rfl rfl rfl (by simp [boxA, AV.cells, AV.isCell, hp]; exact .mk) ?_
    refine run_op rfl rfl rfl (by simp [boxA, AV.cells, AV.isCell]; exact .mk) ?_
    refine run_end [0, 3, 7, 8, 9] (by simp) (by simp; exact .mk) ?_
    rintro -
    refine W_seq ?_
    refine W_cond rfl ?_ ?_
    · intro h9
      simp at h9
    · intro h9
      refine W_exit ?_
      rintro -
      refine W_seq ?_
      refine W_seq ?_
      rw [numW_end hp] at hinv
      refine W_reg rfl ?_
      refine run_op rfl rfl rfl (by simp [boxA, AV.cells, AV.isCell]; exact .mk) ?_
      refine run_op rfl rfl rfl (by simp [strOp]; exact .mk) ?_
      refine run_end [3, 28] (by simp) (by simp; exact .mk) ?_
      rintro -
      refine W_cond rfl ?_ ?_
      · intro h28
        have hr : numS s = -1 := by
          have h1 : s.toList = [] := by simpa using h28
          simp [numS, h1]
        refine W_seq ?_
        refine W_reg rfl ?_
        refine run_op rfl rfl rfl (by simp [boxA, AV.cells, AV.isCell]; exact .mk) ?_
        refine run_end [2] (by simp) (by simp; exact .mk) ?_
        rintro -
        refine W_ret ?_
        refine end_ret (by simp [boxA, AV.cells, AV.isCell, Tryd.f22]; exact .mk) (by simp [boxA, AV.cells, AV.isCell, cl, cls]; exact .mk) ?_ (by simp [boxA, AV.cells, AV.isCell, D.noSn])
        simp [nrmR, nrmRs, nrmK, kindsOf, kinds, Tryd.f22, hr]
      · intro h28
        have hr : numS s = n := by
          have h1 : ¬ s.toList = [] := by simpa using h28
          simp [numS, h1, ← hinv]
        refine W_skip ?_
        rintro -
        refine W_seq ?_
        refine W_reg rfl ?_
        iterate 2 (refine run_op rfl rfl rfl (by simp [boxA, AV.cells, AV.isCell]; exact .mk) ?_)
        refine run_end [2] (by simp) (by simp; exact .mk) ?_
        rintro -
        refine W_ret ?_
        refine end_ret (by simp [boxA, AV.cells, AV.isCell, Tryd.f22]; exact .mk) (by simp [boxA, AV.cells, AV.isCell, cl, cls]; exact .mk) ?_ (by simp [boxA, AV.cells, AV.isCell, D.noSn])
        simp [nrmR, nrmRs, nrmK, kindsOf, kinds, Tryd.f22, hr]

theorem ct15 (s : ByteArray) (hs : s.size < 2^63) : CtAt Tryd.prog glD 15 [vS s] (.tup [eH (parseH s).1, vI (parseH s).2]) := by
  refine ctAt_of_W Tryd.func15 rfl rfl (Nat.le_of_ble_eq_true rfl) fun B S => ?_
  refine W_seq ?_
  refine W_reg rfl ?_
  refine run_op rfl rfl rfl (by simp [boxA, AV.cells, AV.isCell, allocA, Value.oneCell']; exact .mk) ?_
  refine run_op rfl rfl rfl (by simp [boxA, AV.cells, AV.isCell]; exact .mk) ?_
  refine run_end [0, 2] (by simp) (by simp; exact .mk) ?_
  rintro -
  refine W_seq ?_
  refine W_reg rfl ?_
  refine run_op rfl rfl rfl (by simp [boxA, AV.cells, AV.isCell]; exact .mk) ?_
  refine run_call0 rfl rfl rfl rfl (by simp [boxA, AV.cells, AV.isCell, calleeA]; exact .mk) (by simp [boxA, AV.cells, AV.isCell, kindsOf, kinds, expAs, expA]; exact .mk) (ct21 s hs) (by simp [boxA, AV.cells, AV.isCell, D.noRo]) (by simp [boxA, AV.cells, AV.isCell, impA, impAs]; exact .mk) ?_
  iterate 7 (refine run_op rfl rfl rfl (by simp [boxA, AV.cells, AV.isCell]; exact .mk) ?_)
  refine run_end [0, 2, 4, 5] (by simp) (by simp; exact .mk) ?_
  rintro -
  refine W_seq ?_
  refine W_reg rfl ?_
  refine run_op rfl rfl rfl (by simp [boxA, AV.cells, AV.isCell]; exact .mk) ?_
  refine run_call0 rfl rfl rfl rfl (by simp [boxA, AV.cells, AV.isCell, calleeA]; exact .mk) (by simp [boxA, AV.cells, AV.isCell, kindsOf, kinds, expAs, expA]; exact .mk) (ct22 (cutH s).1) (by simp [boxA, AV.cells, AV.isCell, D.noRo]) (by simp [boxA, AV.cells, AV.isCell, impA, impAs]; exact .mk) ?_
  refine run_op rfl rfl rfl (by simp [boxA, AV.cells, AV.isCell]; exact .mk) ?_
  refine run_call0 rfl rfl rfl rfl (by simp [boxA, AV.cells, AV.isCell, calleeA]; exact .mk) (by simp [boxA, AV.cells, AV.isCell, kindsOf, kinds, expAs, expA]; exact .mk) (ct22 (cutH s).2) (by simp [boxA, AV.cells, AV.isCell, D.noRo]) (by simp [boxA, AV.cells, AV.isCell, impA, impAs]; exact .mk) ?_
  refine run_op rfl rfl rfl (by simp [boxA, AV.cells, AV.isCell, buildA, fillA, placesOf, splice, Value.oneCell', AV.cells, AV.isCell]; exact .mk) ?_
  refine run_op rfl rfl rfl (by simp [boxA, AV.cells, AV.isCell, allocA, Value.oneCell']; exact .mk) ?_
  refine run_op rfl rfl rfl (by simp [boxA, AV.cells, AV.isCell, storeA, AV.cells, AV.isCell, splice]; exact .mk) ?_
  refine run_end [0, 2, 7] (by simp) (by simp; exact .mk) ?_
  rintro -
  refine W_seq ?_
  refine W_seq ?_
  refine W_reg rfl ?_
  refine run_op rfl rfl rfl (by simp [boxA, AV.cells, AV.isCell]; exact .mk) ?_
  refine run_call0 rfl rfl rfl rfl (by simp [boxA, AV.cells, AV.isCell, calleeA]; exact .mk) (by simp [boxA, AV.cells, AV.isCell, kindsOf, kinds, expAs, expA]; exact .mk) (ct13 (candP s)) (by simp [boxA, AV.cells, AV.isCell, D.noRo]) (by simp [boxA, AV.cells, AV.isCell, impA, impAs]; exact .mk) ?_
  refine run_op rfl rfl rfl (by simp [boxA, AV.cells, AV.isCell, unA]; exact .mk) ?_
  refine run_op rfl rfl rfl (by simp [boxA, AV.cells, AV.isCell]; exact .mk) ?_
  refine run_if rfl (by simp [boxA, AV.cells, AV.isCell]; exact .mk) rfl (by simp <;> first | omega | grind) (fun hb => by simp [boxA, AV.cells, AV.isCell]; exact .mk) ?_
  refine run_call rfl (by simp [boxA, AV.cells, AV.isCell]; exact .mk) rfl rfl (by simp) (by simp [boxA, AV.cells, AV.isCell, calleeA]; exact .mk) (by simp [boxA, AV.cells, AV.isCell, kindsOf, kinds, expAs, expA]; exact .mk) (fun hb => ct16 (candP s)) (by simp [boxA, AV.cells, AV.isCell, D.noRo]) (by simp [boxA, AV.cells, AV.isCell, impA, impAs]; exact .mk) (by simp) ?_
  refine run_if rfl (by simp [boxA, AV.cells, AV.isCell]; exact .mk) rfl (by simp <;> first | omega | grind) (fun hb => by simp [boxA, AV.cells, AV.isCell]; exact .mk) ?_
  refine run_if rfl (by simp [boxA, AV.cells, AV.isCell]; exact .mk) rfl (by simp <;> first | omega | grind) (fun hb => by simp [boxA, AV.cells, AV.isCell, eqA, eqFs, isStructTy, eqlNeq, strOp, isBoolTy, isPtrTy, isFnTy]; exact .mk) ?_
  refine run_pick rfl (by simp [boxA, AV.cells, AV.isCell]; exact .mk) rfl rfl (by simp) (by simp [boxA, AV.cells, AV.isCell]; exact .mk) (by simp [boxA, AV.cells, AV.isCell]; exact .mk) (by simp; exact .mk) ?_
  refine run_end [2, 7, 27] (by simp <;> first | omega | grind) (by simp; exact .mk) ?_
  rintro -
  refine W_cond rfl ?_ ?_
  · intro h27
    have hr : parseH s = ((0, 0), 3) := by unfold parseH parseC; rw [if_neg]; simp at h27 ⊢; grind
    refine W_seq ?_
    refine W_reg rfl ?_
    refine run_op rfl rfl rfl (by simp [boxA, AV.cells, AV.isCell, buildA, fillA, placesOf, splice, Value.oneCell', AV.cells, AV.isCell]; exact .mk) ?_
    refine run_op rfl rfl rfl (by simp [boxA, AV.cells, AV.isCell, storeA, AV.cells, AV.isCell, splice]; exact .mk) ?_
    refine run_op rfl rfl rfl (by simp [boxA, AV.cells, AV.isCell]; exact .mk) ?_
    refine run_end [2, 3] (by simp) (by simp; exact .mk) ?_
    rintro -
    refine W_ret ?_
    refine end_ret (by simp [boxA, AV.cells, AV.isCell, Tryd.f15]; exact .mk) (by simp [boxA, AV.cells, AV.isCell, cl, cls]; exact .mk) ?_ (by simp [boxA, AV.cells, AV.isCell, D.noSn, eH])
    simp [nrmR, nrmRs, nrmK, kindsOf, kinds, Tryd.f15, hr, eH, candP]
  · intro h27
    have hr : parseH s = (candP s, 0) := by unfold parseH parseC; rw [if_pos]; simp at h27 ⊢; grind
    refine W_skip ?_
    rintro -
    refine W_seq ?_
    refine W_reg rfl ?_
    refine run_op rfl rfl rfl (by simp [boxA, AV.cells, AV.isCell]; exact .mk) ?_
    refine run_op rfl rfl rfl (by simp [boxA, AV.cells, AV.isCell, storeA, AV.cells, AV.isCell, splice]; exact .mk) ?_
    refine run_op rfl rfl rfl (by simp [boxA, AV.cells, AV.isCell]; exact .mk) ?_
    refine run_end [2, 3] (by simp) (by simp; exact .mk) ?_
    rintro -
    refine W_ret ?_
    refine end_ret (by simp [boxA, AV.cells, AV.isCell, Tryd.f15]; exact .mk) (by simp [boxA, AV.cells, AV.isCell, cl, cls]; exact .mk) ?_ (by simp [boxA, AV.cells, AV.isCell, D.noSn, eH])
    simp [nrmR, nrmRs, nrmK, kindsOf, kinds, Tryd.f15, hr, eH, candP]

end Go.Proofs

set_option linter.unusedSimpArgs false
set_option linter.unusedVariables false
set_option maxHeartbeats 4000000
set_option maxRecDepth 4000
namespace Go.Proofs
open Go.Awp
theorem ct25s (n : Nat) (hn : n ≤ 65536) (ih : ∀ m : Nat, m < n → CtAt Tryd.prog glD 25 [vI m] (vS (strB (Lib.decDigits m)))) : CtAt Tryd.prog glD 25 [vI n] (vS (strB (Lib.decDigits n))) := by
  refine ctAt_of_W Tryd.func25 rfl rfl (Nat.le_of_ble_eq_true rfl) fun B S => ?_
  refine W_seq ?_
  refine W_reg rfl ?_
  refine run_op rfl rfl rfl (by simp [boxA, AV.cells, AV.isCell]; exact .mk) ?_
  refine run_end [0] (by simp) (by simp; exact .mk) ?_
  rintro -
  refine W_seq ?_
  refine W_reg rfl ?_
  refine run_op rfl rfl rfl (by simp [boxA, AV.cells, AV.isCell]; exact .mk) ?_
  refine run_end [0, 3] (by simp) (by simp; exact .mk) ?_
  rintro -
  refine W_seq ?_
  refine W_seq ?_
  refine W_reg rfl ?_
  refine run_op rfl rfl rfl (by simp [boxA, AV.cells, AV.isCell]; exact .mk) ?_
  refine run_op rfl rfl rfl (by simp [boxA, AV.cells, AV.isCell, eqA, eqFs, isStructTy, eqlNeq, strOp, isBoolTy, isPtrTy, isFnTy]; exact .mk) ?_
  refine run_end [0, 3, 5] (by simp) (by simp; exact .mk) ?_
  rintro -
  refine W_cond rfl ?_ ?_
  · intro h5
    have hk : n < 10 := by simp at h5; omega
    have e1 : IntKind.i64.wrap ((n : Int) + 1) = (n : Int) + 1 := wrap64 (by omega) (by omega)
    have d1 := dig10_at hk
    have hr := dec_small hk
    have q1 : (n : Int) + 1 ≤ 10 := by omega
    have t1 : ((n : Int) + 1).toNat = n + 1 := by omega
    have q2 : (n : Int) ≤ (n : Int) + 1 := by omega
    refine W_seq ?_
    refine W_reg rfl ?_
    iterate 3 (refine run_op rfl rfl rfl (by simp [boxA, AV.cells, AV.isCell]; exact .mk) ?_)
    refine run_op rfl rfl rfl (by simp [boxA, AV.cells, AV.isCell, eqA, eqFs, isStructTy, eqlNeq, strOp, isBoolTy, isPtrTy, isFnTy, e1]; exact .mk) ?_
    refine run_op rfl rfl rfl (by simp [sliceA, optA, q1, q2, t1, d1, show (ByteArray.mk #[48, 49, 50, 51, 52, 53, 54, 55, 56, 57]).size = 10 from rfl]; exact .mk) ?_
    refine run_op rfl rfl rfl (by simp [boxA, AV.cells, AV.isCell]; exact .mk) ?_
    refine run_end [2] (by simp) (by simp; exact .mk) ?_
    rintro -
    refine W_ret ?_
    refine end_ret (by simp [boxA, AV.cells, AV.isCell, Tryd.f25]; exact .mk) (by simp [boxA, AV.cells, AV.isCell, cl, cls]; exact .mk) ?_ (by simp [boxA, AV.cells, AV.isCell, D.noSn])
    simp [nrmR, nrmRs, nrmK, kindsOf, kinds, Tryd.f25, hr]
  · intro h5
    have hk : ¬ n < 10 := by simp at h5; omega
    have hr := dec_big hk
    have g1 : (n : Int).tdiv 10 = ((n / 10 : Nat) : Int) := by rw [Int.tdiv_eq_ediv_of_nonneg (by omega)]; omega
    have g2 : (n : Int).tmod 10 = ((n % 10 : Nat) : Int) := by rw [Int.tmod_eq_emod_of_nonneg (by omega)]; omega
    obtain ⟨q, hq⟩ : ∃ q, q = n / 10 := ⟨_, rfl⟩
    obtain ⟨r, hr2⟩ : ∃ r, r = n % 10 := ⟨_, rfl⟩
    rw [← hq] at g1 hr
    rw [← hr2] at g2 hr
    have hr10 : r < 10 := by omega
    have e1 : IntKind.i64.wrap (q : Int) = (q : Int) := wrap64 (by omega) (by omega)
    have e2 : IntKind.i64.wrap ((r : Int) + 1) = (r : Int) + 1 := wrap64 (by omega) (by omega)
    have d1 := dig10_at hr10
    obtain ⟨bt, hbt⟩ : ∃ bt : UInt8, bt = UInt8.ofNat (48 + r) := ⟨_, rfl⟩
    rw [← hbt] at d1 hr
    have q1 : (r : Int) + 1 ≤ 10 := by omega
    have q2 : (r : Int) ≤ (r : Int) + 1 := by omega
    have t1 : ((r : Int) + 1).toNat = r + 1 := by omega
    have a1 := addS (a := Lib.decDigits q) (b := [bt]) (by have := decLen (u := q) (by omega); simp; omega)
    refine W_skip ?_
    rintro -
    refine W_seq ?_
    refine W_regD (by kernel_rfl) [] 4 [0, 1, 3, 4, 5, 6, 7, 8, 9, 2, 10, 11] (by decide +kernel) ?_
    refine run_op rfl rfl rfl (by simp [boxA, AV.cells, AV.isCell]; exact .mk) ?_
    refine run_op rfl rfl rfl (by simp [boxA, AV.cells, AV.isCell, eqA, eqFs, isStructTy, eqlNeq, strOp, isBoolTy, isPtrTy, isFnTy, g1, e1]; exact .mk) ?_
    iterate 2 (refine run_op rfl rfl rfl (by simp [boxA, AV.cells, AV.isCell]; exact .mk) ?_)
    refine run_op rfl rfl rfl (by simp [boxA, AV.cells, AV.isCell, eqA, eqFs, isStructTy, eqlNeq, strOp, isBoolTy, isPtrTy, isFnTy, g2]; exact .mk) ?_
    refine run_op rfl rfl rfl (by simp [boxA, AV.cells, AV.isCell]; exact .mk) ?_
    refine run_op rfl rfl rfl (by simp [boxA, AV.cells, AV.isCell, eqA, eqFs, isStructTy, eqlNeq, strOp, isBoolTy, isPtrTy, isFnTy, g2]; exact .mk) ?_
    refine run_op rfl rfl rfl (by simp [boxA, AV.cells, AV.isCell, eqA, eqFs, isStructTy, eqlNeq, strOp, isBoolTy, isPtrTy, isFnTy, e2]; exact .mk) ?_
    refine run_op rfl rfl rfl (by simp [sliceA, optA, q1, q2, t1, d1, show (ByteArray.mk #[48, 49, 50, 51, 52, 53, 54, 55, 56, 57]).size = 10 from rfl]; exact .mk) ?_
    refine run_call0 rfl rfl rfl rfl (by simp [boxA, AV.cells, AV.isCell, calleeA]; exact .mk) (by simp [boxA, AV.cells, AV.isCell, kindsOf, kinds, expAs, expA]; exact .mk) (ih q (by omega)) (by simp [boxA, AV.cells, AV.isCell, D.noRo]) (by simp [boxA, AV.cells, AV.isCell, impA, impAs]; exact .mk) ?_
    refine run_op rfl rfl rfl (by simp [a1]; exact .mk) ?_
    refine run_op rfl rfl rfl (by simp [boxA, AV.cells, AV.isCell]; exact .mk) ?_
    refine run_end [2] (by simp) (by simp; exact .mk) ?_
    rintro -
    refine W_ret ?_
    refine end_ret (by simp [boxA, AV.cells, AV.isCell, Tryd.f25]; exact .mk) (by simp [boxA, AV.cells, AV.isCell, cl, cls]; exact .mk) ?_ (by simp [boxA, AV.cells, AV.isCell, D.noSn])
    simp [nrmR, nrmRs, nrmK, kindsOf, kinds, Tryd.f25, hr]

theorem ct24 (s : ByteArray) (most : Int) (hm : most ≤ 9) : CtAt Tryd.prog glD 24 [vS s, vI most] (vI (digR s most)) := by
  refine ctAt_of_W Tryd.func24 rfl rfl (Nat.le_of_ble_eq_true rfl) fun B S => ?_
  refine W_seq ?_
  refine W_reg rfl ?_
  refine run_op rfl rfl rfl (by simp [boxA, AV.cells, AV.isCell]; exact .mk) ?_
  refine run_end [0, 1] (by simp) (by simp; exact .mk) ?_
  rintro -
  refine W_seq ?_
  refine W_seq ?_
  refine W_reg rfl ?_
  iterate 2 (refine run_op rfl rfl rfl (by simp [boxA, AV.cells, AV.isCell]; exact .mk) ?_)
  refine run_op rfl rfl rfl (by simp [boxA, AV.cells, AV.isCell, eqA, eqFs, isStructTy, eqlNeq, strOp, isBoolTy, isPtrTy, isFnTy]; exact .mk) ?_
  refine run_op rfl rfl rfl (by simp [boxA, AV.cells, AV.isCell]; exact .mk) ?_
  refine run_if rfl (by simp [boxA, AV.cells, AV.isCell]; exact .mk) rfl (by simp <;> first | omega | grind) (fun hb => by simp [boxA, AV.cells, AV.isCell]; exact .mk) ?_
  refine run_if rfl (by simp [boxA, AV.cells, AV.isCell]; exact .mk) rfl (by simp <;> first | omega | grind) (fun hb => by simp [boxA, AV.cells, AV.isCell]; exact .mk) ?_
  refine run_if rfl (by simp [boxA, AV.cells, AV.isCell]; exact .mk) rfl (by simp <;> first | omega | grind) (fun hb => by simp [boxA, AV.cells, AV.isCell]; exact .mk) ?_
  refine run_if rfl (by simp [boxA, AV.cells, AV.isCell]; exact .mk) rfl (by simp <;> first | omega | grind) (fun hb => by simp [boxA, AV.cells, AV.isCell, eqA, eqFs, isStructTy, eqlNeq, strOp, isBoolTy, isPtrTy, isFnTy]; exact .mk) ?_
  refine run_pick rfl (by simp [boxA, AV.cells, AV.isCell]; exact .mk) rfl rfl (by simp) (by simp [boxA, AV.cells, AV.isCell]; exact .mk) (by simp [boxA, AV.cells, AV.isCell]; exact .mk) (by simp; exact .mk) ?_
  refine run_end [0, 15] (by simp <;> first | omega | grind) (by simp; exact .mk) ?_
  rintro -
  refine W_cond rfl ?_ ?_
  · intro h15
    have hr : digR s most = -1 := by unfold digR; rw [if_pos (by simp only [Bool.or_eq_true, beq_iff_eq, decide_eq_true_eq] at h15; omega)]
    refine W_seq ?_
    refine W_reg rfl ?_
    refine run_op rfl rfl rfl (by simp [boxA, AV.cells, AV.isCell]; exact .mk) ?_
    refine run_end [4] (by simp) (by simp; exact .mk) ?_
    rintro -
    refine W_ret ?_
    refine end_ret (by simp [boxA, AV.cells, AV.isCell, Tryd.f24]; exact .mk) (by simp [boxA, AV.cells, AV.isCell, cl, cls]; exact .mk) ?_ (by simp [boxA, AV.cells, AV.isCell, D.noSn])
    simp [nrmR, nrmRs, nrmK, kindsOf, kinds, Tryd.f24, hr]
  · intro h15
    have hsz : s.size ≠ 0 ∧ (s.size : Int) ≤ most := by simp only [Bool.or_eq_false_iff, beq_eq_false_iff_ne, decide_eq_false_iff_not] at h15; omega
    have hr0 : digR s most = digF s s.size 0 0 := by unfold digR; rw [if_neg (by omega)]
    have hp9 : ∀ i : Nat, i ≤ 9 → (10 : Int) ^ i ≤ 10 ^ 9 := fun i hi => by
      have := Nat.pow_le_pow_right (n := 10) (by omega) hi
      exact_mod_cast this
    refine W_skip ?_
    rintro -
    refine W_seq ?_
    refine W_reg rfl ?_
    refine run_op rfl rfl rfl (by simp [boxA, AV.cells, AV.isCell]; exact .mk) ?_
    refine run_end [0, 5] (by simp) (by simp; exact .mk) ?_
    rintro -
    refine W_seq ?_
    refine W_seq ?_
    refine W_reg rfl ?_
    refine run_op rfl rfl rfl (by simp [boxA, AV.cells, AV.isCell]; exact .mk) ?_
    refine run_end [0, 5, 6] (by simp) (by simp; exact .mk) ?_
    rintro -
    refine W_block ?_
    refine W_rounds (fun m σ o => ∃ (i : Nat) (n : Int), m = s.size - i ∧ i ≤ s.size ∧ 0 ≤ n ∧ n < 10 ^ i ∧ digF s (s.size - i) i n = digF s s.size 0 0 ∧ σ = slots [(0, .d (vS s)), (5, .d (vI n)), (6, .d (vI i))] ∧ o = []) s.size .refl ⟨0, 0, by simp, by simp, by omega, by simp, by simp, rfl, rfl⟩ ?_
    rintro m σ o ⟨i, n, rfl, hi, hn0, hn1, hinv, rfl, rfl⟩ _
    refine W_seq ?_
    refine W_seq ?_
    refine W_reg rfl ?_
    iterate 3 (refine run_op rfl rfl rfl (by simp [boxA, AV.cells, AV.isCell]; exact .mk) ?_)
    refine run_op rfl rfl rfl (by simp [boxA, AV.cells, AV.isCell, eqA, eqFs, isStructTy, eqlNeq, strOp, isBoolTy, isPtrTy, isFnTy]; exact .mk) ?_
    refine run_end [0, 5, 6, 19] (by simp) (by simp; exact .mk) ?_
    rintro -
    refine W_cond rfl ?_ ?_
    · intro h19
      have hi2 : i < s.size := by simpa using h19
      have hb := hp9 i (by omega)
      rw [show s.size - i = s.size - (i + 1) + 1 by omega] at hinv
      have hi3 : i < s.data.size := hi2
      obtain ⟨c, hc⟩ : ∃ c : Nat, (s.data.toList.getD i 0).toNat = c := ⟨_, rfl⟩
      have hc2 : s.data[i].toNat = c := by rw [← hc, byteAt hi3]
      refine W_skip ?_
      rintro -
      refine W_seq ?_
      refine W_block ?_
      refine W_seq ?_
      refine W_seq ?_
      refine W_reg rfl ?_
      iterate 2 (refine run_op rfl rfl rfl (by simp [boxA, AV.cells, AV.isCell]; exact .mk) ?_)
      refine run_op rfl rfl rfl (by simp [indexA, hi2, hc2]; exact .mk) ?_
      refine run_op rfl rfl rfl (by simp [boxA, AV.cells, AV.isCell, eqA, eqFs, isStructTy, eqlNeq, strOp, isBoolTy, isPtrTy, isFnTy]; exact .mk) ?_
      refine run_op rfl rfl rfl (by simp [boxA, AV.cells, AV.isCell]; exact .mk) ?_
      refine run_if rfl (by simp [boxA, AV.cells, AV.isCell]; exact .mk) rfl (by simp <;> first | omega | grind) (fun hb => by simp [boxA, AV.cells, AV.isCell]; exact .mk) ?_
      refine run_if rfl (by simp [boxA, AV.cells, AV.isCell]; exact .mk) rfl (by simp <;> first | omega | grind) (fun hb => by simp [boxA, AV.cells, AV.isCell]; exact .mk) ?_
      refine run_if rfl (by simp [boxA, AV.cells, AV.isCell]; exact .mk) rfl (by simp <;> first | omega | grind) (fun hb => by simp [indexA, hi2, hc2]; exact .mk) ?_
      refine run_if rfl (by simp [boxA, AV.cells, AV.isCell]; exact .mk) rfl (by simp <;> first | omega | grind) (fun hb => by simp [boxA, AV.cells, AV.isCell, eqA, eqFs, isStructTy, eqlNeq, strOp, isBoolTy, isPtrTy, isFnTy]; exact .mk) ?_
      refine run_pick rfl (by simp [boxA, AV.cells, AV.isCell]; exact .mk) rfl rfl (by simp) (by simp [boxA, AV.cells, AV.isCell]; exact .mk) (by simp [boxA, AV.cells, AV.isCell]; exact .mk) (by simp; exact .mk) ?_
      refine run_end [0, 5, 6, 31] (by simp <;> first | omega | grind) (by simp; exact .mk) ?_
      rintro -
      refine W_cond rfl ?_ ?_
      · intro h31
        have hbad : c < 48 ∨ 57 < c := by simp [hc2] at h31; omega
        have hr : digR s most = -1 := by rw [hr0, ← hinv, digF_s, hc, if_pos hbad]
        refine W_seq ?_
        refine W_reg rfl ?_
        refine run_op rfl rfl rfl (by simp [boxA, AV.cells, AV.isCell]; exact .mk) ?_
        refine run_end [4] (by simp) (by simp; exact .mk) ?_
        rintro -
        refine W_ret ?_
        refine end_ret (by simp [boxA, AV.cells, AV.isCell, Tryd.f24]; exact .mk) (by simp [boxA, AV.cells, AV.isCell, cl, cls]; exact .mk) ?_ (by simp [boxA, AV.cells, AV.isCell, D.noSn])
        simp [nrmR, nrmRs, nrmK, kindsOf, kinds, Tryd.f24, hr]
      · intro h31
        have hok : ¬ (c < 48 ∨ 57 < c) := by simp [hc2] at h31; omega
        rw [digF_s, hc, if_neg hok] at hinv
        have e1 : IntKind.i64.wrap (n * 10) = n * 10 := wrap64 (by omega) (by omega)
        have e2 : IntKind.u8.wrap ((c : Int) - 48) = (c : Int) - 48 := wrapU8 (by omega) (by omega)
        have e3 : IntKind.i64.wrap ((c : Int) - 48) = (c : Int) - 48 := wrap64 (by omega) (by omega)
        have e4 : IntKind.i64.wrap (n * 10 + ((c : Int) - 48)) = n * 10 + ((c : Int) - 48) := wrap64 (by omega) (by omega)
        refine W_skip ?_
        rintro -
        refine W_reg rfl ?_
        refine run_op rfl rfl rfl (by simp [boxA, AV.cells, AV.isCell]; exact .mk) ?_
        refine run_op rfl rfl rfl (by simp [boxA, AV.cells, AV.isCell, eqA, eqFs, isStructTy, eqlNeq, strOp, isBoolTy, isPtrTy, isFnTy, e1]; exact .mk) ?_
        iterate 2 (refine run_op rfl rfl rfl (by simp [boxA, AV.cells, AV.isCell]; exact .mk) ?_)
        refine run_op rfl rfl rfl (by simp [indexA, hi2, hc2]; exact .mk) ?_
        refine run_op rfl rfl rfl (by simp [boxA, AV.cells, AV.isCell, eqA, eqFs, isStructTy, eqlNeq, strOp, isBoolTy, isPtrTy, isFnTy, e2]; exact .mk) ?_
        refine run_op rfl rfl rfl (by simp [boxA, AV.cells, AV.isCell, convA, e3]; exact .mk) ?_
        refine run_op rfl rfl rfl (by simp [boxA, AV.cells, AV.isCell, eqA, eqFs, isStructTy, eqlNeq, strOp, isBoolTy, isPtrTy, isFnTy, e3, e4]; exact .mk) ?_
        refine run_op rfl rfl rfl (by simp [boxA, AV.cells, AV.isCell]; exact .mk) ?_
        refine run_end [0, 5, 6] (by simp) (by simp; exact .mk) ?_
        rintro -
        refine W_reg rfl ?_
        refine run_op rfl rfl rfl (by simp [boxA, AV.cells, AV.isCell]; exact .mk) ?_
        refine run_op rfl rfl rfl (by simp [boxA, AV.cells, AV.isCell, eqA, eqFs, isStructTy, eqlNeq, strOp, isBoolTy, isPtrTy, isFnTy]; exact .mk) ?_
        refine run_op rfl rfl rfl (by simp [boxA, AV.cells, AV.isCell]; exact .mk) ?_
        refine run_end [0, 5, 6] (by simp) (by simp; exact .mk) ?_
        refine rounds_kill [0, 5, 6] ?_
        exact rounds_next (m' := s.size - (i + 1)) (by omega) ⟨i + 1, n * 10 + ((c : Int) - 48), rfl, by omega, by omega, by rw [Int.pow_succ]; generalize (10 : Int) ^ i = P at *; omega, hinv, by rw [wrap64 (by omega) (by omega)]; rfl, rfl⟩
    · intro h19
      have hie : i = s.size := by simp at h19; omega
      have hr : digR s most = n := by rw [hr0, ← hinv, hie, Nat.sub_self]; rfl
      refine W_exit ?_
      rintro -
      refine W_seq ?_
      refine W_reg rfl ?_
      iterate 2 (refine run_op rfl rfl rfl (by simp [boxA, AV.cells, AV.isCell]; exact .mk) ?_)
      refine run_end [4] (by simp) (by simp; exact .mk) ?_
      rintro -
      refine W_ret ?_
      refine end_ret (by simp [boxA, AV.cells, AV.isCell, Tryd.f24]; exact .mk) (by simp [boxA, AV.cells, AV.isCell, cl, cls]; exact .mk) ?_ (by simp [boxA, AV.cells, AV.isCell, D.noSn])
      simp [nrmR, nrmRs, nrmK, kindsOf, kinds, Tryd.f24, hr]

end Go.Proofs

namespace Go.Proofs
open Go.Awp
theorem ct25 (n : Nat) (hn : n ≤ 65536) : CtAt Tryd.prog glD 25 [vI n] (vS (strB (Lib.decDigits n))) := by
  induction n using Nat.strongRecOn with
  | _ n ih => exact ct25s n hn fun m hm => ih m hm (by omega)
end Go.Proofs

set_option linter.unusedSimpArgs false
set_option linter.unusedVariables false
set_option maxHeartbeats 4000000
set_option maxRecDepth 4000
namespace Go.Proofs
open Go.Awp
theorem ct18 (h : Hd) : CtAt Tryd.prog glD 18 [eH h] (vS (strB (textB h))) := by
  refine ctAt_of_W Tryd.func18 rfl rfl (Nat.le_of_ble_eq_true rfl) fun B S => ?_
  simp only [eH, List.map, argD_agg, argD_v]
  refine W_seq ?_
  refine W_reg rfl ?_
  refine run_op rfl rfl rfl (by simp [boxA, AV.cells, AV.isCell, boxA, AV.cells, AV.isCell]; exact .mk) ?_
  refine run_op rfl rfl rfl (by simp [boxA, AV.cells, AV.isCell]; exact .mk) ?_
  refine run_end [1] (by simp) (by simp; exact .mk) ?_
  rintro -
  refine W_seq ?_
  refine W_reg rfl ?_
  refine run_op rfl rfl rfl (by simp [boxA, AV.cells, AV.isCell]; exact .mk) ?_
  refine run_call0 rfl rfl rfl rfl (by simp [boxA, AV.cells, AV.isCell, calleeA]; exact .mk) (by simp [boxA, AV.cells, AV.isCell, kindsOf, kinds, expAs, expA]; exact .mk) (ct14 h) (by simp [boxA, AV.cells, AV.isCell, D.noRo]) (by simp [boxA, AV.cells, AV.isCell, impA, impAs]; exact .mk) ?_
  refine run_op rfl rfl rfl (by simp [boxA, AV.cells, AV.isCell]; exact .mk) ?_
  refine run_end [1, 3] (by simp) (by simp; exact .mk) ?_
  rintro -
  refine W_seq ?_
  refine W_seq ?_
  refine W_reg rfl ?_
  refine run_op rfl rfl rfl (by simp [boxA, AV.cells, AV.isCell]; exact .mk) ?_
  refine run_op rfl rfl rfl (by simp [boxA, AV.cells, AV.isCell, unA]; exact .mk) ?_
  refine run_end [1, 7] (by simp) (by simp; exact .mk) ?_
  rintro -
  refine W_cond rfl ?_ ?_
  · intro h7
    have ho : okH h = false := by simpa using h7
    have hr : textB h = [] := by simp [textB, ho]
    refine W_seq ?_
    refine W_reg rfl ?_
    refine run_op rfl rfl rfl (by simp [boxA, AV.cells, AV.isCell]; exact .mk) ?_
    refine run_end [2] (by simp) (by simp; exact .mk) ?_
    rintro -
    refine W_ret ?_
    refine end_ret (by simp [boxA, AV.cells, AV.isCell, Tryd.f18]; exact .mk) (by simp [boxA, AV.cells, AV.isCell, cl, cls]; exact .mk) ?_ (by simp [boxA, AV.cells, AV.isCell, D.noSn])
    simp [nrmR, nrmRs, nrmK, kindsOf, kinds, Tryd.f18, hr]
  · intro h7
    have ho : okH h = true := by simpa using h7
    have hk : 0 ≤ h.1 ∧ h.1 < 32 ∧ 0 ≤ h.2 ∧ h.2 < 65536 := by simpa [okH] using ho
    have hr : textB h = Lib.decDigits h.1.toNat ++ 46 :: Lib.decDigits h.2.toNat := by simp [textB, ho]
    obtain ⟨x, y⟩ := h
    obtain ⟨i, rfl⟩ : ∃ i : Nat, x = i := ⟨x.toNat, by simp at hk; omega⟩
    obtain ⟨j, rfl⟩ : ∃ j : Nat, y = j := ⟨y.toNat, by simp at hk; omega⟩
    simp only at hk
    have l1 := decLen (u := i) (by omega)
    have l2 := decLen (u := j) (by omega)
    have a1 := addDot (a := Lib.decDigits i) (by omega)
    have a2 := addS (a := Lib.decDigits i ++ [46]) (b := Lib.decDigits j) (by simp; omega)
    refine W_skip ?_
    rintro -
    refine W_seq ?_
    refine W_regD (by kernel_rfl) [] 4 [0, 1, 4, 5, 2, 3, 6, 7, 8] (by decide +kernel) ?_
    iterate 4 (refine run_op rfl rfl rfl (by simp [boxA, AV.cells, AV.isCell]; exact .mk) ?_)
    refine run_call0 rfl rfl rfl rfl (by simp [boxA, AV.cells, AV.isCell, calleeA]; exact .mk) (by simp [boxA, AV.cells, AV.isCell, kindsOf, kinds, expAs, expA]; exact .mk) (ct25 i (by omega)) (by simp [boxA, AV.cells, AV.isCell, D.noRo]) (by simp [boxA, AV.cells, AV.isCell, impA, impAs]; exact .mk) ?_
    refine run_op rfl rfl rfl (by simp [a1]; exact .mk) ?_
    refine run_call0 rfl rfl rfl rfl (by simp [boxA, AV.cells, AV.isCell, calleeA]; exact .mk) (by simp [boxA, AV.cells, AV.isCell, kindsOf, kinds, expAs, expA]; exact .mk) (ct25 j (by omega)) (by simp [boxA, AV.cells, AV.isCell, D.noRo]) (by simp [boxA, AV.cells, AV.isCell, impA, impAs]; exact .mk) ?_
    refine run_op rfl rfl rfl (by simp [a2]; exact .mk) ?_
    refine run_op rfl rfl rfl (by simp [boxA, AV.cells, AV.isCell]; exact .mk) ?_
    refine run_end [2] (by simp) (by simp; exact .mk) ?_
    rintro -
    refine W_ret ?_
    refine end_ret (by simp [boxA, AV.cells, AV.isCell, Tryd.f18]; exact .mk) (by simp [boxA, AV.cells, AV.isCell, cl, cls]; exact .mk) ?_ (by simp [boxA, AV.cells, AV.isCell, D.noSn])
    simp [nrmR, nrmRs, nrmK, kindsOf, kinds, Tryd.f18, hr]

theorem ct17 (s : ByteArray) (hs : s.size < 2^63) : CtAt Tryd.prog glD 17 [vS s] (.tup [eH (parseR s).1, vI (parseR s).2]) := by
  refine ctAt_of_W Tryd.func17 rfl rfl (Nat.le_of_ble_eq_true rfl) fun B S => ?_
  refine W_seq ?_
  refine W_reg rfl ?_
  refine run_op rfl rfl rfl (by simp [boxA, AV.cells, AV.isCell, allocA, Value.oneCell']; exact .mk) ?_
  refine run_op rfl rfl rfl (by simp [boxA, AV.cells, AV.isCell]; exact .mk) ?_
  refine run_end [0, 2] (by simp) (by simp; exact .mk) ?_
  rintro -
  refine W_seq ?_
  refine W_reg rfl ?_
  refine run_op rfl rfl rfl (by simp [boxA, AV.cells, AV.isCell]; exact .mk) ?_
  refine run_end [0, 2, 4] (by simp) (by simp; exact .mk) ?_
  rintro -
  refine W_seq ?_
  refine W_block ?_
  refine W_rounds (fun m σ o => ∃ (k : Nat), m = s.size - k ∧ k ≤ s.size ∧ dotF s (s.size - k) k = dotR s ∧ σ = slots [(0, .d (vS s)), (2, .ptr 0 0 0), (4, .d (vI k))] ∧ o = [.var 23 [.d (vI 0), .d (vI 0)]]) s.size .refl ⟨0, by simp, by simp, rfl, rfl, rfl⟩ ?_
  rintro m σ o ⟨k, rfl, hk, hinv, rfl, rfl⟩ _
  refine W_seq ?_
  refine W_seq ?_
  by_cases hk2 : k < s.size
  · skip
    have hk3 : k < s.data.size := hk2
    rw [show s.size - k = s.size - (k + 1) + 1 by omega, dotF_s, byteAt hk3] at hinv
    obtain ⟨b, hbb⟩ : ∃ b, b = s.data[k] := ⟨_, rfl⟩
    rw [← hbb] at hinv
    refine W_reg rfl ?_
    iterate 3 (refine run_op rfl rfl rfl (by simp [boxA, AV.cells, AV.isCell]; exact .mk) ?_)
    refine run_op rfl rfl rfl (by simp [boxA, AV.cells, AV.isCell, eqA, eqFs, isStructTy, eqlNeq, strOp, isBoolTy, isPtrTy, isFnTy]; exact .mk) ?_
    refine run_op rfl rfl rfl (by simp [boxA, AV.cells, AV.isCell]; exact .mk) ?_
    refine run_if rfl (by simp [boxA, AV.cells, AV.isCell]; exact .mk) rfl (by simp <;> first | omega | grind) (fun hb => by simp [boxA, AV.cells, AV.isCell]; exact .mk) ?_
    refine run_if rfl (by simp [boxA, AV.cells, AV.isCell]; exact .mk) rfl (by simp <;> first | omega | grind) (fun hb => by simp [boxA, AV.cells, AV.isCell]; exact .mk) ?_
    refine run_if rfl (by simp [boxA, AV.cells, AV.isCell]; exact .mk) rfl (by simp <;> first | omega | grind) (fun hb => by simp [indexA, hk2, ← hbb]; exact .mk) ?_
    refine run_if rfl (by simp [boxA, AV.cells, AV.isCell]; exact .mk) rfl (by simp <;> first | omega | grind) (fun hb => by simp [boxA, AV.cells, AV.isCell, eqA, eqFs, isStructTy, eqlNeq, strOp, isBoolTy, isPtrTy, isFnTy]; exact .mk) ?_
    refine run_pick rfl (by simp [boxA, AV.cells, AV.isCell]; exact .mk) rfl rfl (by simp) (by simp [boxA, AV.cells, AV.isCell]; exact .mk) (by simp [boxA, AV.cells, AV.isCell]; exact .mk) (by simp; exact .mk) ?_
    refine run_end [0, 2, 4, 16] (by simp <;> first | omega | grind) (by simp; exact .mk) ?_
    rintro -
    refine W_cond rfl ?_ ?_
    · intro h16
      have hb2 : b ≠ 46 := by simp [hk2] at h16; intro e; subst e; simp at h16
      rw [if_neg hb2] at hinv
      refine W_skip ?_
      rintro -
      refine W_block ?_
      refine W_reg rfl ?_
      refine run_op rfl rfl rfl (by simp [boxA, AV.cells, AV.isCell]; exact .mk) ?_
      refine run_op rfl rfl rfl (by simp [boxA, AV.cells, AV.isCell, eqA, eqFs, isStructTy, eqlNeq, strOp, isBoolTy, isPtrTy, isFnTy]; exact .mk) ?_
      refine run_op rfl rfl rfl (by simp [boxA, AV.cells, AV.isCell]; exact .mk) ?_
      refine run_end [0, 2, 4] (by simp) (by simp; exact .mk) ?_
      refine rounds_kill [0, 2, 4] ?_
      exact rounds_next (m' := s.size - (k + 1)) (by omega) ⟨k + 1, rfl, by omega, hinv, by rw [wrap64 (by omega) (by omega)]; rfl, rfl⟩
    · intro h16
      have hb2 : b = 46 := by
        simp [hk2] at h16
        apply UInt8.toNat_inj.1
        have : (b.toNat : Int) = 46 := h16
        show b.toNat = 46
        omega
      rw [if_pos hb2] at hinv
      have hkd : dotR s = k := hinv.symm
      refine W_exit ?_
      rintro -
      refine W_seq ?_
      have q1 : (k : Int) ≤ s.size := by omega
      have r1 : k ≤ s.size := by omega
      refine W_reg rfl ?_
      iterate 2 (refine run_op rfl rfl rfl (by simp [boxA, AV.cells, AV.isCell]; exact .mk) ?_)
      refine run_op rfl rfl rfl (by simp [sliceA, optA, q1, r1]; exact .mk) ?_
      refine run_call0 rfl rfl rfl rfl (by simp [boxA, AV.cells, AV.isCell, calleeA]; exact .mk) (by simp [boxA, AV.cells, AV.isCell, kindsOf, kinds, expAs, expA]; exact .mk) (ct24 (s.extract 0 k) 2 (by omega)) (by simp [boxA, AV.cells, AV.isCell, D.noRo]) (by simp [boxA, AV.cells, AV.isCell, impA, impAs]; exact .mk) ?_
      refine run_op rfl rfl rfl (by simp [boxA, AV.cells, AV.isCell, buildA, fillA, placesOf, splice, Value.oneCell', AV.cells, AV.isCell]; exact .mk) ?_
      refine run_op rfl rfl rfl (by simp [boxA, AV.cells, AV.isCell, allocA, Value.oneCell']; exact .mk) ?_
      refine run_op rfl rfl rfl (by simp [boxA, AV.cells, AV.isCell, storeA, AV.cells, AV.isCell, splice]; exact .mk) ?_
      refine run_end [0, 2, 4, 5] (by simp) (by simp; exact .mk) ?_
      rintro -
      refine W_seq ?_
      refine W_seq ?_
      refine W_reg rfl ?_
      iterate 3 (refine run_op rfl rfl rfl (by simp [boxA, AV.cells, AV.isCell]; exact .mk) ?_)
      refine run_op rfl rfl rfl (by simp [boxA, AV.cells, AV.isCell, eqA, eqFs, isStructTy, eqlNeq, strOp, isBoolTy, isPtrTy, isFnTy]; exact .mk) ?_
      refine run_end [0, 2, 4, 5, 27] (by simp) (by simp; exact .mk) ?_
      rintro -
      refine W_cond rfl ?_ ?_
      · intro h27
        have hk5 : k < s.size := by simpa using h27
        have e1 : IntKind.i64.wrap ((k : Int) + 1) = (k : Int) + 1 := wrap64 (by omega) (by omega)
        have q2 : 0 ≤ (k : Int) + 1 := by omega
        have q3 : (k : Int) + 1 ≤ s.size := by omega
        have t1 : ((k : Int) + 1).toNat = k + 1 := by omega
        have r2 : k + 1 ≤ s.size := by omega
        have hcd : candR s = (digR (s.extract 0 k) 2, digR (s.extract (k + 1) s.size) 5) := by unfold candR; rw [hkd, if_pos hk5]
        refine W_reg rfl ?_
        iterate 2 (refine run_op rfl rfl rfl (by simp [boxA, AV.cells, AV.isCell]; exact .mk) ?_)
        refine run_op rfl rfl rfl (by simp [boxA, AV.cells, AV.isCell, eqA, eqFs, isStructTy, eqlNeq, strOp, isBoolTy, isPtrTy, isFnTy, e1]; exact .mk) ?_
        refine run_op rfl rfl rfl (by simp [sliceA, optA, q2, q3, t1, r2]; exact .mk) ?_
        refine run_call0 rfl rfl rfl rfl (by simp [boxA, AV.cells, AV.isCell, calleeA]; exact .mk) (by simp [boxA, AV.cells, AV.isCell, kindsOf, kinds, expAs, expA]; exact .mk) (ct24 (s.extract (k + 1) s.size) 5 (by omega)) (by simp [boxA, AV.cells, AV.isCell, D.noRo]) (by simp [boxA, AV.cells, AV.isCell, impA, impAs]; exact .mk) ?_
        refine run_op rfl rfl rfl (by simp [boxA, AV.cells, AV.isCell]; exact .mk) ?_
        refine run_op rfl rfl rfl (by simp [boxA, AV.cells, AV.isCell, storeA, AV.cells, AV.isCell, splice]; exact .mk) ?_
        refine run_end [0, 2, 5] (by simp) (by simp; exact .mk) ?_
        rintro -
        refine W_seq ?_
        have c1 := ct14 (candR s)
        have c2 := ct18 (candR s)
        rw [hcd] at c1 c2
        refine W_reg rfl ?_
        refine run_op rfl rfl rfl (by simp [boxA, AV.cells, AV.isCell]; exact .mk) ?_
        refine run_call0 rfl rfl rfl rfl (by simp [boxA, AV.cells, AV.isCell, calleeA]; exact .mk) (by simp [boxA, AV.cells, AV.isCell, kindsOf, kinds, expAs, expA]; exact .mk) (c1) (by simp [boxA, AV.cells, AV.isCell, D.noRo]) (by simp [boxA, AV.cells, AV.isCell, impA, impAs]; exact .mk) ?_
        refine run_op rfl rfl rfl (by simp [boxA, AV.cells, AV.isCell]; exact .mk) ?_
        refine run_end [0, 2, 5, 6] (by simp) (by simp; exact .mk) ?_
        rintro -
        refine W_seq ?_
        refine W_seq ?_
        refine W_reg rfl ?_
        refine run_op rfl rfl rfl (by simp [boxA, AV.cells, AV.isCell]; exact .mk) ?_
        refine run_op rfl rfl rfl (by simp [boxA, AV.cells, AV.isCell, unA]; exact .mk) ?_
        refine run_op rfl rfl rfl (by simp [boxA, AV.cells, AV.isCell]; exact .mk) ?_
        refine run_if rfl (by simp [boxA, AV.cells, AV.isCell]; exact .mk) rfl (by simp <;> first | omega | grind) (fun hb => by simp [boxA, AV.cells, AV.isCell]; exact .mk) ?_
        refine run_call rfl (by simp [boxA, AV.cells, AV.isCell]; exact .mk) rfl rfl (by simp) (by simp [boxA, AV.cells, AV.isCell, calleeA]; exact .mk) (by simp [boxA, AV.cells, AV.isCell, kindsOf, kinds, expAs, expA]; exact .mk) (fun hb => c2) (by simp [boxA, AV.cells, AV.isCell, D.noRo]) (by simp [boxA, AV.cells, AV.isCell, impA, impAs]; exact .mk) (by simp) ?_
        refine run_if rfl (by simp [boxA, AV.cells, AV.isCell]; exact .mk) rfl (by simp <;> first | omega | grind) (fun hb => by simp [boxA, AV.cells, AV.isCell]; exact .mk) ?_
        refine run_if rfl (by simp [boxA, AV.cells, AV.isCell]; exact .mk) rfl (by simp <;> first | omega | grind) (fun hb => by simp [boxA, AV.cells, AV.isCell, eqA, eqFs, isStructTy, eqlNeq, strOp, isBoolTy, isPtrTy, isFnTy]; exact .mk) ?_
        refine run_pick rfl (by simp [boxA, AV.cells, AV.isCell]; exact .mk) rfl rfl (by simp) (by simp [boxA, AV.cells, AV.isCell]; exact .mk) (by simp [boxA, AV.cells, AV.isCell]; exact .mk) (by simp; exact .mk) ?_
        refine run_end [2, 5, 43] (by simp <;> first | omega | grind) (by simp; exact .mk) ?_
        rintro -
        refine W_cond rfl ?_ ?_
        · intro h43
          have hr : parseR s = ((0, 0), 3) := by unfold parseR parseC; rw [hcd, if_neg]; simp at h43 ⊢; grind
          refine W_seq ?_
          refine W_reg rfl ?_
          refine run_op rfl rfl rfl (by simp [boxA, AV.cells, AV.isCell, buildA, fillA, placesOf, splice, Value.oneCell', AV.cells, AV.isCell]; exact .mk) ?_
          refine run_op rfl rfl rfl (by simp [boxA, AV.cells, AV.isCell, storeA, AV.cells, AV.isCell, splice]; exact .mk) ?_
          refine run_op rfl rfl rfl (by simp [boxA, AV.cells, AV.isCell]; exact .mk) ?_
          refine run_end [2, 3] (by simp) (by simp; exact .mk) ?_
          rintro -
          refine W_ret ?_
          refine end_ret (by simp [boxA, AV.cells, AV.isCell, Tryd.f17]; exact .mk) (by simp [boxA, AV.cells, AV.isCell, cl, cls]; exact .mk) ?_ (by simp [boxA, AV.cells, AV.isCell, D.noSn, eH])
          first | (simp [nrmR, nrmRs, nrmK, kindsOf, kinds, Tryd.f17, hr, eH]; done) | simp [nrmR, nrmRs, nrmK, kindsOf, kinds, Tryd.f17, hr, eH, hcd]
        · intro h43
          have hr : parseR s = (candR s, 0) := by unfold parseR parseC; rw [hcd, if_pos]; simp at h43 ⊢; grind
          refine W_skip ?_
          rintro -
          refine W_seq ?_
          refine W_reg rfl ?_
          refine run_op rfl rfl rfl (by simp [boxA, AV.cells, AV.isCell]; exact .mk) ?_
          refine run_op rfl rfl rfl (by simp [boxA, AV.cells, AV.isCell, storeA, AV.cells, AV.isCell, splice]; exact .mk) ?_
          refine run_op rfl rfl rfl (by simp [boxA, AV.cells, AV.isCell]; exact .mk) ?_
          refine run_end [2, 3] (by simp) (by simp; exact .mk) ?_
          rintro -
          refine W_ret ?_
          refine end_ret (by simp [boxA, AV.cells, AV.isCell, Tryd.f17]; exact .mk) (by simp [boxA, AV.cells, AV.isCell, cl, cls]; exact .mk) ?_ (by simp [boxA, AV.cells, AV.isCell, D.noSn, eH])
          first | (simp [nrmR, nrmRs, nrmK, kindsOf, kinds, Tryd.f17, hr, eH]; done) | simp [nrmR, nrmRs, nrmK, kindsOf, kinds, Tryd.f17, hr, eH, hcd]
      · intro h27
        have hk5 : ¬ k < s.size := by simpa using h27
        have hcd : candR s = (digR (s.extract 0 k) 2, -1) := by unfold candR; rw [hkd, if_neg hk5]
        refine W_skip ?_
        rintro -
        refine W_seq ?_
        have c1 := ct14 (candR s)
        have c2 := ct18 (candR s)
        rw [hcd] at c1 c2
        refine W_reg rfl ?_
        refine run_op rfl rfl rfl (by simp [boxA, AV.cells, AV.isCell]; exact .mk) ?_
        refine run_call0 rfl rfl rfl rfl (by simp [boxA, AV.cells, AV.isCell, calleeA]; exact .mk) (by simp [boxA, AV.cells, AV.isCell, kindsOf, kinds, expAs, expA]; exact .mk) (c1) (by simp [boxA, AV.cells, AV.isCell, D.noRo]) (by simp [boxA, AV.cells, AV.isCell, impA, impAs]; exact .mk) ?_
        refine run_op rfl rfl rfl (by simp [boxA, AV.cells, AV.isCell]; exact .mk) ?_
        refine run_end [0, 2, 5, 6] (by simp) (by simp; exact .mk) ?_
        rintro -
        refine W_seq ?_
        refine W_seq ?_
        refine W_reg rfl ?_
        refine run_op rfl rfl rfl (by simp [boxA, AV.cells, AV.isCell]; exact .mk) ?_
        refine run_op rfl rfl rfl (by simp [boxA, AV.cells, AV.isCell, unA]; exact .mk) ?_
        refine run_op rfl rfl rfl (by simp [boxA, AV.cells, AV.isCell]; exact .mk) ?_
        refine run_if rfl (by simp [boxA, AV.cells, AV.isCell]; exact .mk) rfl (by simp <;> first | omega | grind) (fun hb => by simp [boxA, AV.cells, AV.isCell]; exact .mk) ?_
        refine run_call rfl (by simp [boxA, AV.cells, AV.isCell]; exact .mk) rfl rfl (by simp) (by simp [boxA, AV.cells, AV.isCell, calleeA]; exact .mk) (by simp [boxA, AV.cells, AV.isCell, kindsOf, kinds, expAs, expA]; exact .mk) (fun hb => c2) (by simp [boxA, AV.cells, AV.isCell, D.noRo]) (by simp [boxA, AV.cells, AV.isCell, impA, impAs]; exact .mk) (by simp) ?_
        refine run_if rfl (by simp [boxA, AV.cells, AV.isCell]; exact .mk) rfl (by simp <;> first | omega | grind) (fun hb => by simp [boxA, AV.cells, AV.isCell]; exact .mk) ?_
        refine run_if rfl (by simp [boxA, AV.cells, AV.isCell]; exact .mk) rfl (by simp <;> first | omega | grind) (fun hb => by simp [boxA, AV.cells, AV.isCell, eqA, eqFs, isStructTy, eqlNeq, strOp, isBoolTy, isPtrTy, isFnTy]; exact .mk) ?_
        refine run_pick rfl (by simp [boxA, AV.cells, AV.isCell]; exact .mk) rfl rfl (by simp) (by simp [boxA, AV.cells, AV.isCell]; exact .mk) (by simp [boxA, AV.cells, AV.isCell]; exact .mk) (by simp; exact .mk) ?_
        refine run_end [2, 5, 43] (by simp <;> first | omega | grind) (by simp; exact .mk) ?_
        rintro -
        refine W_cond rfl ?_ ?_
        · intro h43
          have hr : parseR s = ((0, 0), 3) := by unfold parseR parseC; rw [hcd, if_neg]; simp at h43 ⊢; grind
          refine W_seq ?_
          refine W_reg rfl ?_
          refine run_op rfl rfl rfl (by simp [boxA, AV.cells, AV.isCell, buildA, fillA, placesOf, splice, Value.oneCell', AV.cells, AV.isCell]; exact .mk) ?_
          refine run_op rfl rfl rfl (by simp [boxA, AV.cells, AV.isCell, storeA, AV.cells, AV.isCell, splice]; exact .mk) ?_
          refine run_op rfl rfl rfl (by simp [boxA, AV.cells, AV.isCell]; exact .mk) ?_
          refine run_end [2, 3] (by simp) (by simp; exact .mk) ?_
          rintro -
          refine W_ret ?_
          refine end_ret (by simp [boxA, AV.cells, AV.isCell, Tryd.f17]; exact .mk) (by simp [boxA, AV.cells, AV.isCell, cl, cls]; exact .mk) ?_ (by simp [boxA, AV.cells, AV.isCell, D.noSn, eH])
          first | (simp [nrmR, nrmRs, nrmK, kindsOf, kinds, Tryd.f17, hr, eH]; done) | simp [nrmR, nrmRs, nrmK, kindsOf, kinds, Tryd.f17, hr, eH, hcd]
        · intro h43
          have hr : parseR s = (candR s, 0) := by unfold parseR parseC; rw [hcd, if_pos]; simp at h43 ⊢; grind
          refine W_skip ?_
          rintro -
          refine W_seq ?_
          refine W_reg rfl ?_
          refine run_op rfl rfl rfl (by simp [boxA, AV.cells, AV.isCell]; exact .mk) ?_
          refine run_op rfl rfl rfl (by simp [boxA, AV.cells, AV.isCell, storeA, AV.cells, AV.isCell, splice]; exact .mk) ?_
          refine run_op rfl rfl rfl (by simp [boxA, AV.cells, AV.isCell]; exact .mk) ?_
          refine run_end [2, 3] (by simp) (by simp; exact .mk) ?_
          rintro -
          refine W_ret ?_
          refine end_ret (by simp [boxA, AV.cells, AV.isCell, Tryd.f17]; exact .mk) (by simp [boxA, AV.cells, AV.isCell, cl, cls]; exact .mk) ?_ (by simp [boxA, AV.cells, AV.isCell, D.noSn, eH])
          first | (simp [nrmR, nrmRs, nrmK, kindsOf, kinds, Tryd.f17, hr, eH]; done) | simp [nrmR, nrmRs, nrmK, kindsOf, kinds, Tryd.f17, hr, eH, hcd]
  · skip
    refine W_reg rfl ?_
    iterate 3 (refine run_op rfl rfl rfl (by simp [boxA, AV.cells, AV.isCell]; exact .mk) ?_)
    refine run_op rfl rfl rfl (by simp [boxA, AV.cells, AV.isCell, eqA, eqFs, isStructTy, eqlNeq, strOp, isBoolTy, isPtrTy, isFnTy]; exact .mk) ?_
    refine run_op rfl rfl rfl (by simp [boxA, AV.cells, AV.isCell]; exact .mk) ?_
    refine run_if rfl (by simp [boxA, AV.cells, AV.isCell]; exact .mk) rfl (by simp <;> first | omega | grind) (fun hb => by simp [boxA, AV.cells, AV.isCell]; exact .mk) ?_
    refine run_if rfl (by simp [boxA, AV.cells, AV.isCell]; exact .mk) rfl (by simp <;> first | omega | grind) (fun hb => by simp [boxA, AV.cells, AV.isCell]; exact .mk) ?_
    refine run_not (av := .d (.v (.bool false))) rfl (by simp [boxA, AV.cells, AV.isCell, hk2]; exact .mk) rfl ?_
    refine run_not (av := .d (.v (.bool false))) rfl (by simp [boxA, AV.cells, AV.isCell, hk2]; exact .mk) rfl ?_
    refine run_pick rfl (by simp [boxA, AV.cells, AV.isCell]; exact .mk) rfl rfl (by simp) (by simp [boxA, AV.cells, AV.isCell]; exact .mk) (by simp [boxA, AV.cells, AV.isCell]; exact .mk) (by simp; exact .mk) ?_
    refine run_end [0, 2, 4, 16] (by simp <;> first | omega | grind) (by simp; exact .mk) ?_
    rintro -
    refine W_cond rfl ?_ ?_
    · intro h16
      first | (simp at h16; done) | (simp at h16; omega)
    · intro h16
      have hkd : dotR s = k := by rw [← hinv, show s.size - k = 0 by omega]; rfl
      refine W_exit ?_
      rintro -
      refine W_seq ?_
      have q1 : (k : Int) ≤ s.size := by omega
      have r1 : k ≤ s.size := by omega
      refine W_reg rfl ?_
      iterate 2 (refine run_op rfl rfl rfl (by simp [boxA, AV.cells, AV.isCell]; exact .mk) ?_)
      refine run_op rfl rfl rfl (by simp [sliceA, optA, q1, r1]; exact .mk) ?_
      refine run_call0 rfl rfl rfl rfl (by simp [boxA, AV.cells, AV.isCell, calleeA]; exact .mk) (by simp [boxA, AV.cells, AV.isCell, kindsOf, kinds, expAs, expA]; exact .mk) (ct24 (s.extract 0 k) 2 (by omega)) (by simp [boxA, AV.cells, AV.isCell, D.noRo]) (by simp [boxA, AV.cells, AV.isCell, impA, impAs]; exact .mk) ?_
      refine run_op rfl rfl rfl (by simp [boxA, AV.cells, AV.isCell, buildA, fillA, placesOf, splice, Value.oneCell', AV.cells, AV.isCell]; exact .mk) ?_
      refine run_op rfl rfl rfl (by simp [boxA, AV.cells, AV.isCell, allocA, Value.oneCell']; exact .mk) ?_
      refine run_op rfl rfl rfl (by simp [boxA, AV.cells, AV.isCell, storeA, AV.cells, AV.isCell, splice]; exact .mk) ?_
      refine run_end [0, 2, 4, 5] (by simp) (by simp; exact .mk) ?_
      rintro -
      refine W_seq ?_
      refine W_seq ?_
      refine W_reg rfl ?_
      iterate 3 (refine run_op rfl rfl rfl (by simp [boxA, AV.cells, AV.isCell]; exact .mk) ?_)
      refine run_op rfl rfl rfl (by simp [boxA, AV.cells, AV.isCell, eqA, eqFs, isStructTy, eqlNeq, strOp, isBoolTy, isPtrTy, isFnTy]; exact .mk) ?_
      refine run_end [0, 2, 4, 5, 27] (by simp) (by simp; exact .mk) ?_
      rintro -
      refine W_cond rfl ?_ ?_
      · intro h27
        have hk5 : k < s.size := by simpa using h27
        have e1 : IntKind.i64.wrap ((k : Int) + 1) = (k : Int) + 1 := wrap64 (by omega) (by omega)
        have q2 : 0 ≤ (k : Int) + 1 := by omega
        have q3 : (k : Int) + 1 ≤ s.size := by omega
        have t1 : ((k : Int) + 1).toNat = k + 1 := by omega
        have r2 : k + 1 ≤ s.size := by omega
        have hcd : candR s = (digR (s.extract 0 k) 2, digR (s.extract (k + 1) s.size) 5) := by unfold candR; rw [hkd, if_pos hk5]
        refine W_reg rfl ?_
        iterate 2 (refine run_op rfl rfl rfl (by simp [boxA, AV.cells, AV.isCell]; exact .mk) ?_)
        refine run_op rfl rfl rfl (by simp [boxA, AV.cells, AV.isCell, eqA, eqFs, isStructTy, eqlNeq, strOp, isBoolTy, isPtrTy, isFnTy, e1]; exact .mk) ?_
        refine run_op rfl rfl rfl (by simp [sliceA, optA, q2, q3, t1, r2]; exact .mk) ?_
        refine run_call0 rfl rfl rfl rfl (by simp [boxA, AV.cells, AV.isCell, calleeA]; exact .mk) (by simp [boxA, AV.cells, AV.isCell, kindsOf, kinds, expAs, expA]; exact .mk) (ct24 (s.extract (k + 1) s.size) 5 (by omega)) (by simp [boxA, AV.cells, AV.isCell, D.noRo]) (by simp [boxA, AV.cells, AV.isCell, impA, impAs]; exact .mk) ?_
        refine run_op rfl rfl rfl (by simp [boxA, AV.cells, AV.isCell]; exact .mk) ?_
        refine run_op rfl rfl rfl (by simp [boxA, AV.cells, AV.isCell, storeA, AV.cells, AV.isCell, splice]; exact .mk) ?_
        refine run_end [0, 2, 5] (by simp) (by simp; exact .mk) ?_
        rintro -
        refine W_seq ?_
        have c1 := ct14 (candR s)
        have c2 := ct18 (candR s)
        rw [hcd] at c1 c2
        refine W_reg rfl ?_
        refine run_op rfl rfl rfl (by simp [boxA, AV.cells, AV.isCell]; exact .mk) ?_
        refine run_call0 rfl rfl rfl rfl (by simp [boxA, AV.cells, AV.isCell, calleeA]; exact .mk) (by simp [boxA, AV.cells, AV.isCell, kindsOf, kinds, expAs, expA]; exact .mk) (c1) (by simp [boxA, AV.cells, AV.isCell, D.noRo]) (by simp [boxA, AV.cells, AV.isCell, impA, impAs]; exact .mk) ?_
        refine run_op rfl rfl rfl (by simp [boxA, AV.cells, AV.isCell]; exact .mk) ?_
        refine run_end [0, 2, 5, 6] (by simp) (by simp; exact .mk) ?_
        rintro -
        refine W_seq ?_
        refine W_seq ?_
        refine W_reg rfl ?_
        refine run_op rfl rfl rfl (by simp [boxA, AV.cells, AV.isCell]; exact .mk) ?_
        refine run_op rfl rfl rfl (by simp [boxA, AV.cells, AV.isCell, unA]; exact .mk) ?_
        refine run_op rfl rfl rfl (by simp [boxA, AV.cells, AV.isCell]; exact .mk) ?_
        refine run_if rfl (by simp [boxA, AV.cells, AV.isCell]; exact .mk) rfl (by simp <;> first | omega | grind) (fun hb => by simp [boxA, AV.cells, AV.isCell]; exact .mk) ?_
        refine run_call rfl (by simp [boxA, AV.cells, AV.isCell]; exact .mk) rfl rfl (by simp) (by simp [boxA, AV.cells, AV.isCell, calleeA]; exact .mk) (by simp [boxA, AV.cells, AV.isCell, kindsOf, kinds, expAs, expA]; exact .mk) (fun hb => c2) (by simp [boxA, AV.cells, AV.isCell, D.noRo]) (by simp [boxA, AV.cells, AV.isCell, impA, impAs]; exact .mk) (by simp) ?_
        refine run_if rfl (by simp [boxA, AV.cells, AV.isCell]; exact .mk) rfl (by simp <;> first | omega | grind) (fun hb => by simp [boxA, AV.cells, AV.isCell]; exact .mk) ?_
        refine run_if rfl (by simp [boxA, AV.cells, AV.isCell]; exact .mk) rfl (by simp <;> first | omega | grind) (fun hb => by simp [boxA, AV.cells, AV.isCell, eqA, eqFs, isStructTy, eqlNeq, strOp, isBoolTy, isPtrTy, isFnTy]; exact .mk) ?_
        refine run_pick rfl (by simp [boxA, AV.cells, AV.isCell]; exact .mk) rfl rfl (by simp) (by simp [boxA, AV.cells, AV.isCell]; exact .mk) (by simp [boxA, AV.cells, AV.isCell]; exact .mk) (by simp; exact .mk) ?_
        refine run_end [2, 5, 43] (by simp <;> first | omega | grind) (by simp; exact .mk) ?_
        rintro -
        refine W_cond rfl ?_ ?_
        · intro h43
          have hr : parseR s = ((0, 0), 3) := by unfold parseR parseC; rw [hcd, if_neg]; simp at h43 ⊢; grind
          refine W_seq ?_
          refine W_reg rfl ?_
          refine run_op rfl rfl rfl (by simp [boxA, AV.cells, AV.isCell, buildA, fillA, placesOf, splice, Value.oneCell', AV.cells, AV.isCell]; exact .mk) ?_
          refine run_op rfl rfl rfl (by simp [boxA, AV.cells, AV.isCell, storeA, AV.cells, AV.isCell, splice]; exact .mk) ?_
          refine run_op rfl rfl rfl (by simp [boxA, AV.cells, AV.isCell]; exact .mk) ?_
          refine run_end [2, 3] (by simp) (by simp; exact .mk) ?_
          rintro -
          refine W_ret ?_
          refine end_ret (by simp [boxA, AV.cells, AV.isCell, Tryd.f17]; exact .mk) (by simp [boxA, AV.cells, AV.isCell, cl, cls]; exact .mk) ?_ (by simp [boxA, AV.cells, AV.isCell, D.noSn, eH])
          first | (simp [nrmR, nrmRs, nrmK, kindsOf, kinds, Tryd.f17, hr, eH]; done) | simp [nrmR, nrmRs, nrmK, kindsOf, kinds, Tryd.f17, hr, eH, hcd]
        · intro h43
          have hr : parseR s = (candR s, 0) := by unfold parseR parseC; rw [hcd, if_pos]; simp at h43 ⊢; grind
          refine W_skip ?_
          rintro -
          refine W_seq ?_
          refine W_reg rfl ?_
          refine run_op rfl rfl rfl (by simp [boxA, AV.cells, AV.isCell]; exact .mk) ?_
          refine run_op rfl rfl rfl (by simp [boxA, AV.cells, AV.isCell, storeA, AV.cells, AV.isCell, splice]; exact .mk) ?_
          refine run_op rfl rfl rfl (by simp [boxA, AV.cells, AV.isCell]; exact .mk) ?_
          refine run_end [2, 3] (by simp) (by simp; exact .mk) ?_
          rintro -
          refine W_ret ?_
          refine end_ret (by simp [boxA, AV.cells, AV.isCell, Tryd.f17]; exact .mk) (by simp [boxA, AV.cells, AV.isCell, cl, cls]; exact .mk) ?_ (by simp [boxA, AV.cells, AV.isCell, D.noSn, eH])
          first | (simp [nrmR, nrmRs, nrmK, kindsOf, kinds, Tryd.f17, hr, eH]; done) | simp [nrmR, nrmRs, nrmK, kindsOf, kinds, Tryd.f17, hr, eH, hcd]
      · intro h27
        have hk5 : ¬ k < s.size := by simpa using h27
        have hcd : candR s = (digR (s.extract 0 k) 2, -1) := by unfold candR; rw [hkd, if_neg hk5]
        refine W_skip ?_
        rintro -
        refine W_seq ?_
        have c1 := ct14 (candR s)
        have c2 := ct18 (candR s)
        rw [hcd] at c1 c2
        refine W_reg rfl ?_
        refine run_op rfl rfl rfl (by simp [boxA, AV.cells, AV.isCell]; exact .mk) ?_
        refine run_call0 rfl rfl rfl rfl (by simp [boxA, AV.cells, AV.isCell, calleeA]; exact .mk) (by simp [boxA, AV.cells, AV.isCell, kindsOf, kinds, expAs, expA]; exact .mk) (c1) (by simp [boxA, AV.cells, AV.isCell, D.noRo]) (by simp [boxA, AV.cells, AV.isCell, impA, impAs]; exact .mk) ?_
        refine run_op rfl rfl rfl (by simp [boxA, AV.cells, AV.isCell]; exact .mk) ?_
        refine run_end [0, 2, 5, 6] (by simp) (by simp; exact .mk) ?_
        rintro -
        refine W_seq ?_
        refine W_seq ?_
        refine W_reg rfl ?_
        refine run_op rfl rfl rfl (by simp [boxA, AV.cells, AV.isCell]; exact .mk) ?_
        refine run_op rfl rfl rfl (by simp [boxA, AV.cells, AV.isCell, unA]; exact .mk) ?_
        refine run_op rfl rfl rfl (by simp [boxA, AV.cells, AV.isCell]; exact .mk) ?_
        refine run_if rfl (by simp [boxA, AV.cells, AV.isCell]; exact .mk) rfl (by simp <;> first | omega | grind) (fun hb => by simp [boxA, AV.cells, AV.isCell]; exact .mk) ?_
        refine run_call rfl (by simp [boxA, AV.cells, AV.isCell]; exact .mk) rfl rfl (by simp) (by simp [boxA, AV.cells, AV.isCell, calleeA]; exact .mk) (by simp [boxA, AV.cells, AV.isCell, kindsOf, kinds, expAs, expA]; exact .mk) (fun hb => c2) (by simp [boxA, AV.cells, AV.isCell, D.noRo]) (by simp [boxA, AV.cells, AV.isCell, impA, impAs]; exact .mk) (by simp) ?_
        refine run_if rfl (by simp [boxA, AV.cells, AV.isCell]; exact .mk) rfl (by simp <;> first | omega | grind) (fun hb => by simp [boxA, AV.cells, AV.isCell]; exact .mk) ?_
        refine run_if rfl (by simp [boxA, AV.cells, AV.isCell]; exact .mk) rfl (by simp <;> first | omega | grind) (fun hb => by simp [boxA, AV.cells, AV.isCell, eqA, eqFs, isStructTy, eqlNeq, strOp, isBoolTy, isPtrTy, isFnTy]; exact .mk) ?_
        refine run_pick rfl (by simp [boxA, AV.cells, AV.isCell]; exact .mk) rfl rfl (by simp) (by simp [boxA, AV.cells, AV.isCell]; exact .mk) (by simp [boxA, AV.cells, AV.isCell]; exact .mk) (by simp; exact .mk) ?_
        refine run_end [2, 5, 43] (by simp <;> first | omega | grind) (by simp; exact .mk) ?_
        rintro -
        refine W_cond rfl ?_ ?_
        · intro h43
          have hr : parseR s = ((0, 0), 3) := by unfold parseR parseC; rw [hcd, if_neg]; simp at h43 ⊢; grind
          refine W_seq ?_
          refine W_reg rfl ?_
          refine run_op rfl rfl rfl (by simp [boxA, AV.cells, AV.isCell, buildA, fillA, placesOf, splice, Value.oneCell', AV.cells, AV.isCell]; exact .mk) ?_
          refine run_op rfl rfl rfl (by simp [boxA, AV.cells, AV.isCell, storeA, AV.cells, AV.isCell, splice]; exact .mk) ?_
          refine run_op rfl rfl rfl (by simp [boxA, AV.cells, AV.isCell]; exact .mk) ?_
          refine run_end [2, 3] (by simp) (by simp; exact .mk) ?_
          rintro -
          refine W_ret ?_
          refine end_ret (by simp [boxA, AV.cells, AV.isCell, Tryd.f17]; exact .mk) (by simp [boxA, AV.cells, AV.isCell, cl, cls]; exact .mk) ?_ (by simp [boxA, AV.cells, AV.isCell, D.noSn, eH])
          first | (simp [nrmR, nrmRs, nrmK, kindsOf, kinds, Tryd.f17, hr, eH]; done) | simp [nrmR, nrmRs, nrmK, kindsOf, kinds, Tryd.f17, hr, eH, hcd]
        · intro h43
          have hr : parseR s = (candR s, 0) := by unfold parseR parseC; rw [hcd, if_pos]; simp at h43 ⊢; grind
          refine W_skip ?_
          rintro -
          refine W_seq ?_
          refine W_reg rfl ?_
          refine run_op rfl rfl rfl (by simp [boxA, AV.cells, AV.isCell]; exact .mk) ?_
          refine run_op rfl rfl rfl (by simp [boxA, AV.cells, AV.isCell, storeA, AV.cells, AV.isCell, splice]; exact .mk) ?_
          refine run_op rfl rfl rfl (by simp [boxA, AV.cells, AV.isCell]; exact .mk) ?_
          refine run_end [2, 3] (by simp) (by simp; exact .mk) ?_
          rintro -
          refine W_ret ?_
          refine end_ret (by simp [boxA, AV.cells, AV.isCell, Tryd.f17]; exact .mk) (by simp [boxA, AV.cells, AV.isCell, cl, cls]; exact .mk) ?_ (by simp [boxA, AV.cells, AV.isCell, D.noSn, eH])
          first | (simp [nrmR, nrmRs, nrmK, kindsOf, kinds, Tryd.f17, hr, eH]; done) | simp [nrmR, nrmRs, nrmK, kindsOf, kinds, Tryd.f17, hr, eH, hcd]

end Go.Proofs
