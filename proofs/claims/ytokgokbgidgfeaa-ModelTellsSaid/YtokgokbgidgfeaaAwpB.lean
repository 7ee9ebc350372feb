/- Lemmas of a walk over abstract states: data, objects, operations, regions, loops, contracts; no condition but those that each lemma names. -/
import Derived.Test.YtokgokbgidgfeaaAwpA
import Derived.Laws.BytesString
import Derived.Laws.RangeAny
import Derived.Laws.StructEq
import Derived.Calls
import Derived.Laws.RangeString
set_option linter.all false
/- Copy, conversions, numbers, strings one by one: what they do to an abstract state, and that it is so. Lemmas alone. -/
namespace Go.Awp
open Go.RowKit Go.Lib

def copySrc (objs : List Obj) : AV → Option (Nat × List D)
 | .d (.v (.string s)) => some (1, strD s)
 | y => match srcA objs y with
  | some (k, ys, o1) => if ys.all D.noOwn = true then some (k, ys) else none
  | none => none

def copyA (P : Program) (objs : List Obj) (t : TypeId) (x y : AV) : Res :=
 match ty P t with
 | some { k := .slice e, .. } => match ty P e with
  | some E => match copySrc objs y, x with
   | some (k, ys), .hdr r off len => match objs[r]? with
    | some (.row k' xs) =>
     if k = E.size ∧ k' = E.size ∧ off + len ≤ xs.length then some (.int .i64 ((min ys.length len : Nat) : Int), objs.set r (.row k' (splice xs off (ys.take (min ys.length len))))) else none
    | _ => none
   | _, _ => none
  | none => none
 | _ => none

def bytesD : List D → Option (List Int)
 | [] => some []
 | .v (.int .u8 n) :: ds => (bytesD ds).map (n :: ·)
 | _ => none

def bytesStr (ns : List Int) : ByteArray := ns.foldl (fun r n => r.push (UInt8.ofNat n.toNat)) ByteArray.empty

def isStrTy (P : Program) (t : TypeId) : Bool := match ty P t with
 | some T => match T.k with | .str => true | _ => false
 | none => false
def isIntTy (P : Program) (t : TypeId) : Option IntKind := match ty P t with
 | some T => match T.k with | .int k => some k | _ => none
 | none => none
def isBytesTy (P : Program) (t : TypeId) : Bool := match ty P t with
 | some T => match T.k with | .slice e => isIntTy P e == some .u8 | _ => false
 | none => false

def fullA : AV → Nat → Bool
 | .hdr _ _ len, n => len == n
 | _, _ => true

def convA (P : Program) (objs : List Obj) (src dst : TypeId) (x : AV) : Res :=
 match x with
 | .d (.v (.int k n)) => match isIntTy P dst with
  | some k' => if (isIntTy P src).isSome = true then some (.int k' (k'.wrap n), objs) else none
  | none => none
 | .d (.v (.string s)) =>
  if isStrTy P src = true ∧ isStrTy P dst = true then some (x, objs)
  else if isStrTy P src = true ∧ isBytesTy P dst = true then some (.d (.row .sn 1 (strD s)), objs)
  else none
 | .d (.v (.slice none 0 0)) => if isBytesTy P src = true ∧ isStrTy P dst = true then some (.str (bytesStr []), objs) else none
 | y => if isBytesTy P src = true ∧ isStrTy P dst = true then
     (match elemsOf objs y with
     | some (k, xs) => match bytesD xs with
       | some ns => if k = 1 ∧ fullA y xs.length = true then some (.str (bytesStr ns), objs) else none
       | none => none
     | none => none)
  else none

section
variable {P : Program} {B : Nat} {w : World} {S : Nat → Prop} {objs : List Obj} {gs : List G1} {om : Nat → Option (Nat × Bool)}

theorem strD_flat (s : ByteArray) : flat (strD s) = strD s := by
 simp [flat, strD, List.flatMap_map, D.cells]
 induction s.data.toList with
 | nil => rfl
 | cons a l ih => simp [List.flatMap_cons, ih]

theorem strD_rel {N : Nat → Prop} (s : ByteArray) : RelL w S N (strD s) (s.data.toList.map fun b => .int .u8 b.toNat) [] := by
 unfold strD
 induction s.data.toList with
 | nil => exact .nil
 | cons a l ih => exact RelL.cons (F := []) (G := []) (.v rfl) ih

theorem strD_fits (s : ByteArray) : ∀ x ∈ strD s, Fits 1 x := by
 intro x hx
 simp only [strD, List.mem_map] at hx
 obtain ⟨b, _, rfl⟩ := hx
 exact ⟨rfl, by simp [D.cells, D.isCell]⟩

theorem strD_length (s : ByteArray) : (strD s).length = s.size := by simp [strD]

theorem flat_splice {k : Nat} {xs ys : List D} (hx : ∀ x ∈ xs, Fits k x) (hy : ∀ x ∈ ys, Fits k x) (off : Nat) (h : off + ys.length ≤ xs.length) : flat (splice xs off ys) = splice (flat xs) (off * k) (flat ys) := by
 have h1 : flat xs = flat (xs.take off) ++ flat (xs.drop off) := by simp only [flat]; rw [← List.flatMap_append, List.take_append_drop]
 have l1 : (flat (xs.take off)).length = off * k := by
  rw [flat_length (fun x h => hx x (List.mem_of_mem_take h))]; simp [show min off xs.length = off by omega]
 have h2 : flat (xs.drop off) = flat ((xs.drop off).take ys.length) ++ flat (xs.drop (off + ys.length)) := by
  simp only [flat]; rw [← List.flatMap_append, ← List.drop_drop, List.take_append_drop]
 have l2 : (flat ((xs.drop off).take ys.length)).length = (flat ys).length := by
  rw [flat_length (fun x h => hx x (List.mem_of_mem_drop (List.mem_of_mem_take h))), flat_length hy]
  simp [show min ys.length (xs.length - off) = ys.length by omega]
 have e1 : (flat xs).take (off * k) = flat (xs.take off) := by
  rw [h1, List.take_append_of_le_length (by omega), List.take_of_length_le (by omega)]
 have e2 : (flat xs).drop (off * k + (flat ys).length) = flat (xs.drop (off + ys.length)) := by
  rw [h1, ← l1, List.drop_length_add_append, h2, ← l2, List.drop_append_of_le_length (Nat.le_refl _)]
  simp
 unfold Go.splice
 rw [e1, e2]
 simp [flat]

theorem copySrc_sound (hM : RelM B w S objs gs om) {y vy} (hy : RelV w S (Inner B w om) gs y vy) {k ys} (h : copySrc objs y = some (k, ys)) :
    (∀ x ∈ ys, Fits k x) ∧ ∃ news, RelL w S (Inner B w om) (flat ys) news [] ∧ (Builtin.lenOf vy).run P w = .ok ys.length w ∧ (∀ n, n ≤ ys.length → ∀ kk, kk = k → (Builtin.firstCells kk n vy).run P w = .ok (news.take (n * k)).toArray w) := by
 unfold copySrc at h
 split at h
 · rename_i s
   simp only [Option.some.injEq, Prod.mk.injEq] at h; obtain ⟨rfl, rfl⟩ := h
   refine ⟨strD_fits s, _, by rw [strD_flat]; exact strD_rel s, ?_, ?_⟩
   · cases hy with | d hy => cases hy; simp [Builtin.lenOf, strD_length]
   · rintro n hn kk rfl
     cases hy with
     | d hy =>
      cases hy
      simp only [Builtin.firstCells, Sem.run_pure, Nat.mul_one]
      congr 1
      apply Array.ext'
      simp [ByteArray.data_extract]
 · split at h
   · rename_i k' ys' o1 hsrc
     split at h
     · rename_i hno
       simp only [Option.some.injEq, Prod.mk.injEq] at h; obtain ⟨rfl, rfl⟩ := h
       obtain ⟨hf, news, G, g1, g2, g3⟩ := src_sound hM hy hsrc
       obtain rfl := noOwn_nilL g1 (noOwn_flat hno)
       have hl : news.length = ys'.length * k' := by rw [← g1.length, flat_length hf]
       refine ⟨hf, news, g1, ?_, ?_⟩
       · rcases g3 with ⟨rfl, a, c, rfl⟩ | ⟨ad, c, rfl, _⟩
         · simp [Builtin.lenOf]
         · simp [Builtin.lenOf]
       · rintro n hn kk rfl
         rcases g3 with ⟨rfl, a, c, rfl⟩ | ⟨ad, c, rfl, hc⟩
         · have : n = 0 := by simpa using hn
           subst this
           cases a with
           | none => simp [Builtin.firstCells]
           | some a => simpa [Builtin.firstCells] using run_loadCells_list (P := P) w a [] (by simp)
         · have := run_loadCells_list (P := P) w ad (news.take (n * kk)) (fun j u hu => hc j u (by rw [List.getElem?_take] at hu; split at hu; exact hu; cases hu))
           have hle : n * kk ≤ ys'.length * kk := Nat.mul_le_mul_right _ hn
           rw [List.length_take, show min (n * kk) news.length = n * kk by omega] at this
           simp [Builtin.firstCells, this]
     · cases h
   · cases h

theorem copy_sound (hM : RelM B w S objs gs om) {x vx y vy} (hx : RelV w S (Inner B w om) gs x vx) (hy : RelV w S (Inner B w om) gs y vy) {t t' ty' av objs'} (h : copyA P objs t x y = some (av, objs')) :
    ∃ v w' gs' om', (Builtin.copy_ #[t, t'] ty' #[vx, vy]).run P w = .ok v w' ∧ Ext B w gs om w' gs' om' ∧ RelM B w' S objs' gs' om' ∧ RelV w' S (Inner B w' om') gs' av v := by
 unfold copyA at h
 split at h
 · rename_i size bytes e zero hT
   have ht := ty_slice hT rfl
   split at h
   · rename_i E hE
     split at h
     · rename_i k ys r off len hsrc
       obtain ⟨hf, news, g1, g2, g3⟩ := copySrc_sound (P := P) hM hy hsrc
       split at h
       · rename_i k' xs hr
         split at h
         · rename_i hc
           obtain ⟨rfl, hk', hfit⟩ := hc
           simp only [Option.some.injEq, Prod.mk.injEq] at h; obtain ⟨rfl, rfl⟩ := h
           have hn1 : min ys.length len ≤ ys.length := Nat.min_le_left _ _
           have hn2 : min ys.length len ≤ len := Nat.min_le_right _ _
           have hfc := g3 _ hn1 _ rfl
           generalize hn : min ys.length len = n at hfc hn1 hn2 ⊢
           have hmin : ys.length.min len = n := hn
           have hnl : news.length = ys.length * E.size := by rw [← g1.length, flat_length hf]
           have hle : n * E.size ≤ ys.length * E.size := Nat.mul_le_mul_right _ hn1
           have hpre : ∀ b o c, vx = .slice (some ⟨b, o, none⟩) len c → (Builtin.copy_ #[t, t'] ty' #[vx, vy]).run P w = ((storeCells ⟨b, o, none⟩ (news.take (n * E.size))).run P w).andThen fun _ w' => .ok (goInt n) w' := by
            rintro b o c rfl
            simp [Builtin.copy_, run_under ht, ty_size hE, g2, hmin, hfc]
           have ho := hM.obj r _ hr
           have hyt : ∀ x ∈ ys.take n, Fits E.size x := fun x hx => hf x (List.mem_of_mem_take hx)
           have hytl : (ys.take n).length = n := by simp; omega
           obtain ⟨G, q1, q2⟩ := sub_flatF g1 hf 0 n (by omega)
           obtain rfl : G = [] := List.eq_nil_iff_forall_not_mem.2 (fun b hb => by simpa using q2 b hb)
           simp only [List.drop_zero, Nat.zero_mul] at q1
           cases hx with
           | hdr0 hg hb =>
            obtain rfl : n = 0 := by omega
            cases ho with
            | row0 hg' hk' hb' =>
             refine ⟨goInt 0, w, gs, om, ?_, .refl .., ?_, .d (.v rfl)⟩
             · simp [Builtin.copy_, run_under ht, ty_size hE, g2, hmin, hfc]
             · have : objs.set r (.row k' (splice [] 0 (ys.take 0))) = objs := by
                have hlt : r < objs.length := (List.getElem?_eq_some_iff.1 hr).1
                apply List.ext_getElem?
                intro j
                rw [List.getElem?_set]
                split
                · rename_i h; subst h; rw [hr]; try simp [hlt, splice]
                · rfl
               rw [this]; exact hM
            | row hg' hgk hb' => rw [hg] at hg'; simp at hg'; subst hg'; rw [hb] at hb'; cases hb'
           | @hdr _ _ _ g b o c hg hb hcap hoff hlc hm =>
            rw [hpre _ _ _ rfl]
            cases ho with
            | row0 hg' hk' hb' => rw [hg] at hg'; simp at hg'; subst hg'; rw [hb] at hb'; cases hb'
            | @row _ _ _ g' b' cur vs F hg' hgk hb' hB ho hw hcs hn' hk hvs hl hF hFo =>
             obtain rfl : g = g' := by simpa using hg.symm.trans hg'
             obtain rfl : b = b' := by simpa using hb.symm.trans hb'
             have hyt' : ∀ x ∈ ys.take n, Fits k' x := by rw [hk']; exact hyt
             have hflat := flat_splice hk hyt' off (by rw [hytl]; omega)
             have hspl : (splice xs off (ys.take n)).length = xs.length := length_splice _ _ _ (by rw [hytl]; omega)
             have hfits : ∀ x ∈ splice xs off (ys.take n), Fits k' x := by
              intro x hx
              simp only [Go.splice, List.mem_append] at hx
              rcases hx with hx | hx | hx
              · exact hk x (List.mem_of_mem_take hx)
              · exact hyt' x hx
              · exact hk x (List.mem_of_mem_drop hx)
             by_cases hn0 : n = 0
             · subst hn0
               have hsame : splice xs off (ys.take 0) = xs := by simp [Go.splice]
               refine ⟨goInt 0, w, gs, om, by simp [storeCells], .refl .., ?_, .d (.v rfl)⟩
               rw [hsame]
               have : objs.set r (.row k' xs) = objs := by
                have hlt : r < objs.length := (List.getElem?_eq_some_iff.1 hr).1
                apply List.ext_getElem?
                intro j
                rw [List.getElem?_set]
                split
                · rename_i h; subst h; rw [hr]; try simp [hlt]
                · rfl
               rw [this]; exact hM
             · have hoo : o = off * g.k := hoff.resolve_right (by omega)
               subst hoo
               have hlt : (news.take (n * E.size)).length = n * E.size := by simp; omega
               have hfit2 : off * k' + n * E.size ≤ xs.length * k' := by
                have : (off + n) * k' ≤ xs.length * k' := Nat.mul_le_mul_right _ (by omega)
                rw [Nat.add_mul] at this; rw [← hk']; exact this
               have hrun := run_storeCells_at P b (off * g.k) _ (news.take (n * E.size)) 0 cur w hw (by rw [hlt, hgk, hcs]; omega) (fun v hv => ones_of_isCell g1 (flat_isCell hf) v (List.mem_of_mem_take hv))
               rw [hrun]
               obtain ⟨ee, m⟩ := RelM.write_row (.refl hM) hr hg hb hw (ys := flat (ys.take n)) (us := news.take (n * E.size)) q1 (p := off * k') (xs' := splice xs off (ys.take n))
                (by rw [flat_length hyt', flat_length hk, hytl, hk']; rw [hk'] at hfit2; exact hfit2) hflat hspl hfits
               rw [splice_get, hgk, Nat.add_zero]
               exact ⟨_, _, _, _, rfl, ee, m, .d (.v rfl)⟩
         · cases h
       · cases h
     · cases h
   · cases h
 · cases h

theorem bytesD_rel {N : Nat → Prop} : ∀ {ds : List D} {ns : List Int} {vs : List Value} {F}, bytesD ds = some ns → RelL w S N (flat ds) vs F → vs = ns.map (Value.int .u8)
 | [], ns, vs, F, h, hr => by
  simp only [bytesD, Option.some.injEq] at h; subst h
  simp only [flat, List.flatMap_nil] at hr
  cases hr; rfl
 | d :: ds, ns, vs, F, h, hr => by
  unfold bytesD at h
  split at h
  · rename_i heq; cases heq
  · rename_i n ds' heq
    simp only [List.cons.injEq] at heq; obtain ⟨rfl, rfl⟩ := heq
    obtain ⟨ms, hms, rfl⟩ := Option.map_eq_some_iff.1 h
    simp only [flat, List.flatMap_cons, D.cells, List.singleton_append] at hr
    cases hr with
    | cons h1 t => cases h1; simp [bytesD_rel hms t]
  · cases h

theorem isStr {t : TypeId} (h : isStrTy P t = true) : P.underlying t = some .string := by
 unfold isStrTy at h
 split at h
 · rename_i T hT
   split at h
   · rename_i hk
     obtain ⟨d, h1, h2⟩ := ty_under hT
     rw [hk] at h2; rw [h1, tk_str h2]
   · cases h
 · cases h
theorem isInt {t : TypeId} {k : IntKind} (h : isIntTy P t = some k) : P.underlying t = some (.int k) := by
 unfold isIntTy at h
 split at h
 · rename_i T hT
   split at h
   · rename_i k' hk
     simp only [Option.some.injEq] at h; subst h
     obtain ⟨d, h1, h2⟩ := ty_under hT
     rw [hk] at h2; rw [h1, tk_int h2]
   · cases h
 · cases h
theorem isBytes {t : TypeId} (h : isBytesTy P t = true) : ∃ e, P.underlying t = some (.slice e) ∧ P.underlying e = some (.int .u8) := by
 unfold isBytesTy at h
 split at h
 · rename_i T hT
   split at h
   · rename_i e hk
     obtain ⟨d, h1, h2⟩ := ty_under hT
     rw [hk] at h2
     exact ⟨e, by rw [h1, tk_slice h2], isInt (by simpa using h)⟩
   · cases h
 · cases h

theorem bytesStr_run {v : Value} {xs : List D} {ns : List Int} {src dst : TypeId} (hs : isBytesTy P src = true) (hd : isStrTy P dst = true) (hb : bytesD xs = some ns)
    (h : ∃ news F, RelL w S (Inner B w om) (flat xs) news F ∧ ((xs = [] ∧ ∃ a c, v = .slice a 0 c) ∨ ∃ ad c, v = .slice (some ad) xs.length c ∧ ∀ (j : Nat) u, news[j]? = some u → w.cell? (ad.add j) = some u)) :
    (convert src dst v).run P w = .ok (.string (bytesStr ns)) w := by
 obtain ⟨e, h1, h2⟩ := isBytes hs
 have h3 := isStr hd
 obtain ⟨news, F, g1, g2⟩ := h
 have hn := bytesD_rel hb g1
 have hx : xs.length = ns.length := by
  have : ∀ {ds : List D} {ns}, bytesD ds = some ns → ds.length = ns.length := by
   intro ds
   induction ds with
   | nil => intro ns h; simp [bytesD] at h; simp [h]
   | cons d ds ih =>
    intro ns h
    unfold bytesD at h
    split at h
    · rename_i heq; cases heq
    · rename_i n ds' heq
      simp only [List.cons.injEq] at heq; obtain ⟨rfl, rfl⟩ := heq
      obtain ⟨ms, hms, rfl⟩ := Option.map_eq_some_iff.1 h
      simp [ih hms]
    · cases h
  exact this hb
 rcases g2 with ⟨rfl, a, c, rfl⟩ | ⟨ad, c, rfl, hc⟩
 · simp [bytesD] at hb; subst hb
   rw [run_convert_bytes_string w src dst e _ _ _ h1 h2 h3]
   cases a with
   | none => simp [Conv.bytesToString, bytesStr]
   | some a => exact run_bytesToString w a 0 c [] (by simpa using run_loadCells_list (P := P) w a [] (by simp))
 · rw [run_convert_bytes_string w src dst e _ _ _ h1 h2 h3]
   refine run_bytesToString w ad _ c ns ?_
   have := run_loadCells_list (P := P) w ad news hc
   rw [hn] at this
   rw [hx]; simpa using this

theorem conv_sound (hM : RelM B w S objs gs om) {x vx} (hx : RelV w S (Inner B w om) gs x vx) {src dst av objs'} (h : convA P objs src dst x = some (av, objs')) :
    ∃ v w' gs' om', (convert src dst vx).run P w = .ok v w' ∧ Ext B w gs om w' gs' om' ∧ RelM B w' S objs' gs' om' ∧ RelV w' S (Inner B w' om') gs' av v := by
 unfold convA at h
 split at h
 · split at h
   · rename_i k n _ k' hk
     split at h
     · rename_i hsrc
       simp only [Option.some.injEq, Prod.mk.injEq] at h; obtain ⟨rfl, rfl⟩ := h
       obtain ⟨ks, hks⟩ := Option.isSome_iff_exists.1 hsrc
       cases hx with
       | d hx => cases hx; exact ⟨_, w, gs, om, by simp [convert, run_under (isInt hks), run_under (isInt hk), Conv.intToInt], .refl .., hM, .d (.v rfl)⟩
     · cases h
   · cases h
 · rename_i s
   split at h
   · rename_i hc
     simp only [Option.some.injEq, Prod.mk.injEq] at h; obtain ⟨rfl, rfl⟩ := h
     have hx0 := hx
     cases hx with
     | d hx => cases hx; exact ⟨_, w, gs, om, by simp [convert, run_under (isStr hc.1), run_under (isStr hc.2)], .refl .., hM, hx0⟩
   · split at h
     · rename_i hc
       simp only [Option.some.injEq, Prod.mk.injEq] at h; obtain ⟨rfl, rfl⟩ := h
       obtain ⟨e, h1, h2⟩ := isBytes hc.2
       cases hx with
       | d hx =>
        cases hx
        have hrun := run_convert_string_bytes (P := P) w src dst e s (isStr hc.1) h1 h2
        have hbel : Below w.heap.size w (bytesWorld w e s) := ⟨by simp only [bytesWorld, World.freeze]; split <;> rfl, by simp only [bytesWorld, World.freeze]; split <;> rfl, by simp only [bytesWorld, World.freeze]; split <;> rfl, by rw [bytesWorld_size]; omega, fun b hb => bytesWorld_at_old w e s b hb⟩
        obtain ⟨om', hom⟩ : ∃ om', om' = mark om [w.heap.size] (0, false) := ⟨_, rfl⟩
        have ee : Ext B w gs om (bytesWorld w e s) gs om' := .grow List.prefix_rfl hbel hM.hB (hom ▸ mark_old)
        refine ⟨_, _, gs, om', hrun, ee, hM.step ee hM.len (fun r o' ho => .inl ⟨ho, fun b c hbc hlt => ⟨by rw [hom, mark_old b hlt]; exact hbc, hbel.block b hlt⟩⟩), .d ?_⟩
        have hl := strD_length s
        have hcap : s.size ≤ grownCap w s.size 0 e := grownCap_ge w s.size 0 e
        have := RelD.old (w := bytesWorld w e s) (S := S) (N := Inner B (bytesWorld w e s) om') (m := .sn) (k := 1) (xs := strD s) (off := 0) (c := grownCap w s.size 0 e) (by simp) (bytesWorld_at_new w e s) (by simp) (fun _ => ⟨hM.hB, by rw [bytesWorld_size]; omega, fun r => by rw [hom, mark_in (by simp)]; simp⟩)
         (by rw [hl]; exact hcap) (strD_fits s) (vs := s.data.toList.map fun b => .int .u8 b.toNat) (by rw [hl]; simp [bytesCells]) (by simp [hl]) (by rw [strD_flat]; exact strD_rel s)
        rw [hl] at this
        exact this
     · cases h
 · split at h
   · rename_i hc
     simp only [Option.some.injEq, Prod.mk.injEq] at h; obtain ⟨rfl, rfl⟩ := h
     cases hx with
     | d hx =>
      cases hx
      exact ⟨_, w, gs, om, bytesStr_run (B := B) (S := S) (om := om) hc.1 hc.2 (xs := []) rfl ⟨[], [], .nil, .inl ⟨rfl, _, _, rfl⟩⟩, .refl .., hM, .d (.v rfl)⟩
   · cases h
 · split at h
   · rename_i hc
     split at h
     · rename_i k xs he
       split at h
       · rename_i ns hns
         split at h
         · rename_i hk
           obtain ⟨rfl, hfull⟩ := hk
           simp only [Option.some.injEq, Prod.mk.injEq] at h; obtain ⟨rfl, rfl⟩ := h
           refine ⟨_, w, gs, om, bytesStr_run (B := B) (S := S) (om := om) hc.1 hc.2 hns ?_, .refl .., hM, .d (.v rfl)⟩
           unfold elemsOf at he
           split at he
           · simp only [Option.some.injEq, Prod.mk.injEq] at he; obtain ⟨rfl, rfl⟩ := he
             cases hx with
             | d hx => cases hx with
              | nil => exact ⟨[], [], .nil, .inl ⟨rfl, _, _, rfl⟩⟩
              | empty hm => exact absurd rfl hm
              | old hm => exact absurd rfl hm
           · cases he
           · simp only [Option.some.injEq, Prod.mk.injEq] at he; obtain ⟨rfl, rfl⟩ := he
             cases hx with
             | d hx =>
              obtain ⟨_, news, a, b⟩ := src_old hx (by assumption)
              exact ⟨news, [], a, b⟩
           · simp only [Option.some.injEq, Prod.mk.injEq] at he; obtain ⟨rfl, rfl⟩ := he
             obtain ⟨_, news, a, b⟩ := src_cut hx
             exact ⟨news, [], a, b⟩
           · rename_i r off len _ _ _
             split at he
             · rename_i k' ys hr
               simp only [Option.some.injEq, Prod.mk.injEq] at he; obtain ⟨rfl, rfl⟩ := he
               simp only [fullA, beq_iff_eq] at hfull
               have hfit : off + len ≤ ys.length ∨ len = 0 := by simp at hfull; omega
               cases hx with
               | hdr0 hg hb => exact ⟨[], [], by simpa [flat] using (RelL.nil : RelL w S (Inner B w om) [] [] []), .inl ⟨by simp, _, _, rfl⟩⟩
               | @hdr _ _ _ g b o c hg hb hcap hoff hlc hm =>
                by_cases hl0 : len = 0
                · subst hl0; exact ⟨[], [], by simpa [flat] using (RelL.nil : RelL w S (Inner B w om) [] [] []), .inl ⟨by simp, _, _, rfl⟩⟩
                · cases hM.obj r _ hr with
                  | row0 hg' hk' hb' => rw [hg] at hg'; simp at hg'; subst hg'; rw [hb] at hb'; cases hb'
                  | @row _ _ _ g' b' cur vs F hg' hgk hb' hB ho hw hcs hn' hk hvs hl hF hFo =>
                   obtain rfl : g = g' := by simpa using hg.symm.trans hg'
                   obtain rfl : b = b' := by simpa using hb.symm.trans hb'
                   obtain ⟨G, g1, g2⟩ := sub_flatF hl hk off len (by omega)
                   refine ⟨_, G, g1, .inr ⟨_, _, by rw [← hfull], fun j u hu => ?_⟩⟩
                   have ho : o = off * g.k := hoff.resolve_right (by omega)
                   rw [cell_at hw, ho, hgk]
                   subst hvs
                   simp only [List.getElem?_take, List.getElem?_drop] at hu
                   split at hu
                   · split at hu
                     · simpa using hu
                     · cases hu
                   · cases hu
             · cases he
           · cases he
         · cases h
       · cases h
     · cases h
   · cases h

end
end Go.Awp

/- One operation: what it does to an abstract state, and that it is so. Lemmas alone. -/
namespace Go.Awp
open Go.RowKit Go.Lib

def constA : Value → AV
 | .agg vs => .agg (vs.toList.map fun v => if v.oneCell' = true then .d (.v v) else .dead)
 | .tuple vs => .tup (vs.toList.map fun v => if v.oneCell' = true then .d (.v v) else .dead)
 | v => .d (.v v)

def evalA (s : Nat → AV) : Operand → AV
 | .tmp t => s t
 | .const v => constA v
 | .global _ => .dead
 | .func f => .fn (.func f) [] []

def eqOk (P : Program) (t : TypeId) : Bool := !P.stoodInHeld t && (P.fieldsOf t).toList.all (fun f => f.name != "_")

mutual
def eqA (P : Program) : Nat → TypeId → List AV → List AV → Option Bool
 | 0, _, _, _ => none
 | n + 1, t, xs, ys => match ty P t with
  | some T => match T.k with
   | .struct fs => if eqOk P t = true then eqFs P n fs xs ys else none
   | .int _ => match xs, ys with
    | [.d (.v (.int k a))], [.d (.v (.int k' b))] => if k = k' then some (a == b) else none
    | _, _ => none
   | .bool => match xs, ys with
    | [.d (.v (.bool a))], [.d (.v (.bool b))] => some (a == b)
    | _, _ => none
   | .str => match xs, ys with
    | [.d (.v (.string a))], [.d (.v (.string b))] => some (a.toList == b.toList)
    | _, _ => none
   | _ => none
  | none => none
def eqFs (P : Program) : Nat → List (TypeId × Nat) → List AV → List AV → Option Bool
 | _, [], _, _ => some true
 | 0, _ :: _, _, _ => none
 | n + 1, (t, off) :: fs, xs, ys => match ty P t with
  | some T => if off + T.size ≤ xs.length ∧ off + T.size ≤ ys.length ∧ 0 < T.size then
      match eqA P n t ((xs.drop off).take T.size) ((ys.drop off).take T.size), eqFs P n fs xs ys with
      | some a, some r => some (a && r)
      | _, _ => none
   else none
  | none => none
end

def isBoolTy (P : Program) (t : TypeId) : Bool := match ty P t with
 | some T => match T.k with | .bool => true | _ => false
 | none => false
def isPtrTy (P : Program) (t : TypeId) : Bool := match ty P t with
 | some T => match T.k with | .ptr _ => true | _ => false
 | none => false
def isFnTy (P : Program) (t : TypeId) : Bool := match ty P t with
 | some T => match T.k with | .fn => true | _ => false
 | none => false

def isStructTy (P : Program) (t : TypeId) : Bool := match ty P t with
 | some T => match T.k with | .struct _ => true | _ => false
 | none => false

def eqlNeq (op : BinOp) (b : Bool) : Option AV := match op with
 | .eql => some (.bool b)
 | .neq => some (.bool !b)
 | _ => none

def binopA (P : Program) (op : BinOp) (t : TypeId) (x y : AV) : Option AV :=
 match x, y with
 | .d (.v (.bool a)), .d (.v (.bool b)) => if isBoolTy P t = true then eqlNeq op (a == b) else none
 | .d (.v (.pointer none)), .d (.v (.pointer none)) => if isPtrTy P t = true then eqlNeq op true else none
 | .d (.v (.nilFunc)), .d (.v (.nilFunc)) => if isFnTy P t = true then eqlNeq op true else none
 | .ptr .., .d (.v (.pointer none)) => if isPtrTy P t = true then eqlNeq op false else none
 | .fn .., .d (.v (.nilFunc)) => if isFnTy P t = true then eqlNeq op false else none
 | .d (.v a), .d (.v b) => (binA op a b).map fun v => .d (.v v)
 | .agg xs, .agg ys => if P.eqGuardType P.depth t = false ∧ isStructTy P t = true then match eqA P 12 t xs ys with
  | some b => eqlNeq op b
  | none => none
  else none
 | _, _ => none

def extractA (x : AV) (i : Nat) : Option AV := match x with
 | .tup vs => vs[i]?
 | _ => none

def intOfA : AV → Option Int
 | .d (.v (.int _ n)) => some n
 | _ => none

def optA (ρ : Operand → AV) : Option Operand → Option (Option Int)
 | none => some none
 | some x => (intOfA (ρ x)).map some

def minA : AV → AV → Option AV
 | .d (.v (.int k a)), .d (.v (.int _ b)) => some (.int k (if b < a then b else a))
 | _, _ => none
def maxA : AV → AV → Option AV
 | .d (.v (.int k a)), .d (.v (.int _ b)) => some (.int k (if b > a then b else a))
 | _, _ => none

def builtinA (P : Program) (objs : List Obj) (b : Builtin) (ts : List TypeId) (xs : List AV) : Res :=
 match b, ts, xs with
 | .len, [t], [x] => match ty P t, lenA objs x with
  | some T, some n => match T.k with
   | .str => match x with
    | .d (.v (.string _)) => some (.int .i64 n, objs)
    | _ => none
   | .slice _ => match x with
    | .d (.v (.string _)) => none
    | _ => some (.int .i64 n, objs)
   | .array m _ => none
   | _ => none
  | _, _ => none
 | .cap, [t], [x] => match ty P t, x with
  | some T, .hdr r 0 _ => match T.k, objs[r]? with
   | .slice _, some (.grow c _) => some (.int .i64 c, objs)
   | _, _ => none
  | _, _ => none
 | .append, [t, t'], [x, y] => if t = t' then appendA P objs t x y else none
 | .copy, [t, _], [x, y] => copyA P objs t x y
 | .min, _, [x, y] => (minA x y).map (·, objs)
 | .max, _, [x, y] => (maxA x y).map (·, objs)
 | _, _, _ => none

def rangeA (objs : List Obj) : AV → Res
 | .d (.v (.string s)) => some (.ptr objs.length 0 0, objs ++ [.it s 0])
 | _ => none

def nextA (objs : List Obj) : AV → Res
 | .ptr r 0 0 => match objs[r]? with
  | some (.it s pos) => if pos < s.size then some (.tup [.bool true, .int .i64 pos, .int .i32 (Utf8.decode s pos).1], objs.set r (.it s (pos + (Utf8.decode s pos).2)))
   else some (.tup [.bool false], objs)
  | _ => none
 | _ => none

def isIface (P : Program) (t : TypeId) : Bool := match ty P t with
 | some T => match T.k with | .iface => true | _ => false
 | none => true

def opA (P : Program) (ρ : Operand → AV) (objs : List Obj) (o : Op) : Res :=
 match o with
 | .move x | .assign x => some (ρ x, objs)
 | .pick c a b => match ρ c with
  | .d (.v (.bool t)) => some (bif t then ρ a else ρ b, objs)
  | _ => none
 | .alloc t => allocA P objs t
 | .box t x => boxA objs t (ρ x)
 | .build t ps => (buildA P t (ps.toList.map fun p => (p.1, ρ p.2))).map (·, objs)
 | .buildSlice t n ps => buildSliceA P objs t n (ps.toList.map fun p => (p.1, ρ p.2))
 | .load t a => loadA P objs t (ρ a)
 | .store t a x => (storeA P objs t (ρ a) (ρ x)).map (AV.tup [], ·)
 | .nilCheck x => match ρ x with
  | .ptr r i j => some (.ptr r i j, objs)
  | .rp cs j => some (.rp cs j, objs)
  | .fn (.func f) a b => some (.fn (.func f) a b, objs)
  | _ => none
 | .binOp op t x y _ => (binopA P op t (ρ x) (ρ y)).map (·, objs)
 | .unOp op _ x => match ρ x with
  | .d (.v a) => (unA op a).map fun v => (.d (.v v), objs)
  | _ => none
 | .convert s d x => convA P objs s d (ρ x)
 | .makeInterface t x => if isIface P t = true then none else some (.ifc t (ρ x), objs)
 | .makeFunc fn first caps => some (.fn fn (first.toList.map ρ) (caps.toList.map ρ), objs)
 | .makeSlice t l c => match intOfA (ρ l), intOfA (ρ c) with
  | some l, some c => makeSliceA P objs t l c
  | _, _ => none
 | .slice t x lo hi mx => match optA ρ lo, optA ρ hi, optA ρ mx with
  | some lo, some hi, some mx => (sliceA P objs t (ρ x) lo hi mx).map (·, objs)
  | _, _, _ => none
 | .fieldAddr s x f => (fieldAddrA P s (ρ x) f).map (·, objs)
 | .field s x f => (fieldA P s (ρ x) f).map (·, objs)
 | .indexAddr t x i => match intOfA (ρ i) with
  | some i => (indexAddrA P objs t (ρ x) i).map (·, objs)
  | none => none
 | .index t x i => match intOfA (ρ i) with
  | some i => (indexA P t (ρ x) i).map (·, objs)
  | none => none
 | .extract x i => (extractA (ρ x) i).map (·, objs)
 | .range t x => if isStrTy P t = true then rangeA objs (ρ x) else none
 | .next it str => if str = true then nextA objs (ρ it) else none
 | .call { callee := .builtin b, args, argTypes } => builtinA P objs b argTypes.toList (args.toList.map ρ)
 | _ => none

section
variable {P : Program} {B : Nat} {w : World} {S : Nat → Prop} {objs : List Obj} {gs : List G1} {om : Nat → Option (Nat × Bool)}

theorem constA_rel (v : Value) {N : Nat → Prop} : RelV w S N gs (constA v) v := by
 have key : ∀ vs : List Value, RelVs w S N gs (vs.map fun v => if v.oneCell' = true then AV.d (.v v) else AV.dead) vs := by
  intro vs
  induction vs with
  | nil => exact .nil
  | cons v vs ih =>
   refine .cons ?_ ih
   dsimp only
   split
   · rename_i h; exact .d (.v h)
   · exact .dead
 cases v with
 | agg vs => exact .agg (key vs.toList)
 | tuple vs => exact .tup (key vs.toList)
 | _ => exact .d (.v rfl)

mutual
theorem eqA_sound {N : Nat → Prop} : ∀ (n : Nat) {t : TypeId} {xs ys : List AV} {vs us : List Value} {b : Bool} {d : Nat}, RelVs w S N gs xs vs → RelVs w S N gs ys us → eqA P n t xs ys = some b → n ≤ d →
    ∀ vx vy, ((∃ fs T, ty P t = some T ∧ T.k = .struct fs ∧ vx = .agg vs.toArray ∧ vy = .agg us.toArray) ∨ (vs = [vx] ∧ us = [vy] ∧ ∀ T fs, ty P t = some T → T.k ≠ .struct fs)) → (Op.equalIn d t vx vy).run P w = .ok b w
 | 0, t, xs, ys, vs, us, b, d, hx, hy, h, hd, vx, vy, hv => by simp [eqA] at h
 | n + 1, t, xs, ys, vs, us, b, d, hx, hy, h, hd, vx, vy, hv => by
  obtain ⟨d, rfl⟩ : ∃ e, d = e + 1 := ⟨d - 1, by omega⟩
  simp only [eqA] at h
  split at h
  · rename_i T hT
    obtain ⟨D, hD, hk⟩ := ty_under hT
    split at h
    · rename_i fs hfs
      rw [hfs] at hk
      obtain ⟨A, rfl, rfl⟩ := tk_struct hk
      split at h
      · rename_i hok
        simp only [eqOk, Bool.and_eq_true, Bool.not_eq_true'] at hok
        have hf : P.fieldsOf t = A := by simp [Program.fieldsOf, hD]
        rcases hv with ⟨_, _, _, _, rfl, rfl⟩ | ⟨_, _, hne⟩
        · rw [run_equalIn_struct w d t _ _ (by rw [hf]; exact hD) hok.1, hf]
          rw [hf] at hok
          exact eqFs_sound n A.toList hx hy h (by omega) (by intro f hf; have := List.all_eq_true.1 hok.2 f hf; simpa using this)
        · exact absurd hfs (hne T _ hT)
      · cases h
    · rename_i k0 hfs
      rw [hfs] at hk
      have := tk_int hk; subst this
      split at h
      · rename_i k a k' b'
        split at h
        · rename_i hkk; subst hkk
          simp only [Option.some.injEq] at h; subst h
          rcases hv with ⟨_, T', h1, h2, _⟩ | ⟨rfl, rfl, _⟩
          · rw [hT] at h1; simp at h1; subst h1; rw [hfs] at h2; cases h2
          · cases hx with | cons hx _ => cases hx with | d hx => cases hx with | v _ => cases hy with | cons hy _ => cases hy with | d hy => cases hy with | v _ => exact run_equalIn_int w d t k k0 a b' hD
        · cases h
      · cases h
    · rename_i hfs
      rw [hfs] at hk
      have := tk_bool hk; subst this
      split at h
      · rename_i a b'
        simp only [Option.some.injEq] at h; subst h
        rcases hv with ⟨_, T', h1, h2, _⟩ | ⟨rfl, rfl, _⟩
        · rw [hT] at h1; simp at h1; subst h1; rw [hfs] at h2; cases h2
        · cases hx with | cons hx _ => cases hx with | d hx => cases hx with | v _ => cases hy with | cons hy _ => cases hy with | d hy => cases hy with | v _ => exact run_equalIn_bool' w d t a b' hD
      · cases h
    · rename_i hfs
      rw [hfs] at hk
      have := tk_str hk; subst this
      split at h
      · rename_i a b'
        simp only [Option.some.injEq] at h; subst h
        rcases hv with ⟨_, T', h1, h2, _⟩ | ⟨rfl, rfl, _⟩
        · rw [hT] at h1; simp at h1; subst h1; rw [hfs] at h2; cases h2
        · cases hx with | cons hx _ => cases hx with | d hx => cases hx with | v _ => cases hy with | cons hy _ => cases hy with | d hy => cases hy with | v _ => exact run_equalIn_string w d t a b' hD
      · cases h
    · cases h
  · cases h
theorem eqFs_sound {N : Nat → Prop} : ∀ (n : Nat) (fs : List Field) {xs ys : List AV} {vs us : List Value} {b : Bool} {d : Nat}, RelVs w S N gs xs vs → RelVs w S N gs ys us → eqFs P n (fs.map fun f => (f.type, f.offset)) xs ys = some b → n ≤ d →
    (∀ f ∈ fs, f.name ≠ "_") → (Op.eqFields d vs.toArray us.toArray fs).run P w = .ok b w
 | n, [], xs, ys, vs, us, b, d, hx, hy, h, hd, hf => by
  cases n <;> (simp [eqFs] at h; subst h; simp [Op.eqFields])
 | 0, f :: fs, xs, ys, vs, us, b, d, hx, hy, h, hd, hf => by simp [eqFs] at h
 | n + 1, f :: fs, xs, ys, vs, us, b, d, hx, hy, h, hd, hf => by
  simp only [List.map_cons, eqFs] at h
  split at h
  · rename_i T hT
    split at h
    · rename_i hl
      split at h
      · rename_i a r ha hr
        simp only [Option.some.injEq] at h; subst h
        have lx := hx.length
        have ly := hy.length
        -- the parts
        have hpart : ∀ {zs : List AV} {qs : List Value}, RelVs w S N gs zs qs → f.offset + T.size ≤ zs.length → ∃ v, (part f.type qs.toArray f.offset).run P w = .ok v w ∧
            ((∃ gs' T, ty P f.type = some T ∧ T.k = .struct gs' ∧ v = .agg ((qs.drop f.offset).take T.size).toArray) ∨ (((qs.drop f.offset).take T.size) = [v] ∧ ∀ T gs', ty P f.type = some T → T.k ≠ .struct gs') ∨ ∃ n e, T.k = .array n e) := by
         intro zs qs hz hzl
         have lz := hz.length
         simp only [part, Sem.run_bind, ty_agg hT, Result.andThen_ok]
         by_cases hag : T.agg = true
         · simp only [hag, if_true, Sem.run_bind, ty_size hT, Result.andThen_ok, Sem.run_pure]
           refine ⟨_, rfl, ?_⟩
           have e : qs.toArray.extract f.offset (f.offset + T.size) = ((qs.drop f.offset).take T.size).toArray := by
            apply Array.ext'; simp [List.take_drop]
           rw [e]
           unfold Ty.agg at hag
           split at hag
           · rename_i gs' hk; exact .inl ⟨gs', T, hT, hk, rfl⟩
           · rename_i n e hk; exact .inr (.inr ⟨n, e, hk⟩)
           · cases hag
         · have hlt : f.offset < qs.length := by omega
           have hg : qs.toArray[f.offset]? = some qs[f.offset] := by simp [hlt]
           simp only [hag, Bool.false_eq_true, if_false, hg, Sem.run_pure]
           refine ⟨_, rfl, .inr (.inl ⟨?_, ?_⟩)⟩
           · -- a leaf has one cell: eqA was defined on it
             have h1 : ((qs.drop f.offset).take T.size).length = T.size := by simp; omega
             have hs1 : T.size = 1 := by
              have hal : ((xs.drop f.offset).take T.size).length = T.size := by simp; omega
              cases n with
              | zero => simp [eqA] at ha
              | succ n =>
               simp only [eqA, hT] at ha
               split at ha
               · rename_i gs' hk; exact absurd (show T.agg = true by simp [Ty.agg, hk]) hag
               · split at ha
                 · rename_i e1 _; rw [e1] at hal; simpa using hal.symm
                 · cases ha
               · split at ha
                 · rename_i e1 _; rw [e1] at hal; simpa using hal.symm
                 · cases ha
               · split at ha
                 · rename_i e1 _; rw [e1] at hal; simpa using hal.symm
                 · cases ha
               · cases ha
             rw [hs1, List.take_one, List.head?_drop]; simp [hlt]
           · intro T' gs' hT' hk
             rw [hT] at hT'; simp at hT'; subst hT'
             exact hag (by simp [Ty.agg, hk])
        obtain ⟨v1, p1, q1⟩ := hpart hx hl.1
        obtain ⟨v2, p2, q2⟩ := hpart hy hl.2.1
        have hnarr : ∀ n' e, T.k ≠ .array n' e := by
         intro n' e hk
         cases n with
         | zero => simp [eqA] at ha
         | succ n => simp [eqA, hT, hk] at ha
        obtain ⟨d', rfl⟩ : ∃ e, d = e + 1 := ⟨d - 1, by omega⟩
        have hrun := eqA_sound n (d := d' + 1) ((hx.drop f.offset).take T.size) ((hy.drop f.offset).take T.size) ha (by omega) v1 v2 (by
          rcases q1 with ⟨g1, T1, a1, a2, a3⟩ | ⟨a1, a2⟩ | ⟨n', e, hk⟩
          · rcases q2 with ⟨g2, T2, b1, b2, b3⟩ | ⟨b1, b2⟩ | ⟨n', e, hk⟩
            · rw [hT] at a1 b1; simp at a1 b1; subst a1; subst b1
              exact .inl ⟨g1, _, hT, a2, a3, b3⟩
            · exact absurd a2 (b2 T1 g1 a1)
            · exact absurd hk (hnarr n' e)
          · rcases q2 with ⟨g2, T2, b1, b2, b3⟩ | ⟨b1, b2⟩ | ⟨n', e, hk⟩
            · exact absurd b2 (a2 T2 g2 b1)
            · exact .inr ⟨a1, b1, a2⟩
            · exact absurd hk (hnarr n' e)
          · exact absurd hk (hnarr n' e))
        have hrest := eqFs_sound n fs (d := d' + 1) hx hy hr (by omega) (fun g hg => hf g (by simp [hg]))
        simp only [Op.eqFields, hf f (by simp), ne_eq, not_false_eq_true, if_true, Sem.run_bind, p1, p2, Result.andThen_ok, hrun, Sem.run_ite, Sem.run_pure, hrest]
        cases a <;> simp
      · cases h
    · cases h
  · cases h
end

end
end Go.Awp

/- One operation is sound. Lemmas alone. -/
namespace Go.Awp
open Go.RowKit Go.Lib

section
variable {P : Program} {B : Nat} {w : World} {S : Nat → Prop} {objs : List Obj} {gs : List G1} {om : Nat → Option (Nat × Bool)}

theorem isBool {t : TypeId} (h : isBoolTy P t = true) : P.underlying t = some .bool := by
 unfold isBoolTy at h
 split at h
 · rename_i T hT
   split at h
   · rename_i hk
     obtain ⟨d, h1, h2⟩ := ty_under hT
     rw [hk] at h2; rw [h1, tk_bool h2]
   · cases h
 · cases h
theorem isPtr {t : TypeId} (h : isPtrTy P t = true) : ∃ e, P.underlying t = some (.pointer e) := by
 unfold isPtrTy at h
 split at h
 · rename_i T hT
   split at h
   · rename_i e hk
     obtain ⟨d, h1, h2⟩ := ty_under hT
     rw [hk] at h2; exact ⟨e, by rw [h1, tk_ptr h2]⟩
   · cases h
 · cases h
theorem isFn {t : TypeId} (h : isFnTy P t = true) : ∃ a b c, P.underlying t = some (.func a b c) := by
 unfold isFnTy at h
 split at h
 · rename_i T hT
   split at h
   · rename_i hk
     obtain ⟨d, h1, h2⟩ := ty_under hT
     rw [hk] at h2
     cases d <;> simp [tkOf] at h2
     exact ⟨_, _, _, h1⟩
   · cases h
 · cases h

theorem binA_sound {op : BinOp} {t : TypeId} {a b v : Value} (h : binA op a b = some v) (hb : ∀ x y, a = .bool x → b = .bool y → False) : (binOp op t a b).run P w = .ok v w ∧ v.oneCell' = true := by
 unfold binA at h
 split at h
 · rename_i k a k' b
   split at h
   · rename_i hs
     unfold shOp at h
     split at h
     · cases h
     · rename_i hb0
       cases op <;> simp [isShift] at hs <;> simp only [Option.some.injEq] at h <;> subst h <;> simp [binOp, Op.shift, hb0, Value.oneCell']
   · rename_i hs
     split at h
     · rename_i hk; subst hk
       cases op <;> simp [isShift] at hs <;> simp only [intOp, Option.some.injEq] at h <;>
        first
        | (subst h; simp [binOp, Op.intArith, Op.intBits, Op.intCmp, Value.oneCell']; done)
        | (split at h
           · cases h
           · rename_i h0; simp only [Option.some.injEq] at h; subst h; simp [binOp, Op.intDiv, h0, Value.oneCell'])
     · cases h
 · rename_i a b
   cases op <;> simp only [strOp, Option.some.injEq] at h <;>
    first
    | (subst h; simp [binOp, Op.stringOp, Value.oneCell']; done)
    | (cases h; done)
    | (split at h
       · cases h
       · rename_i h0; simp only [Option.some.injEq] at h; subst h; refine ⟨?_, rfl⟩; simp only [binOp, Op.stringOp, if_neg h0, Sem.run_pure])
 · rename_i a b
   exact (hb a b rfl rfl).elim
 · cases h

theorem eqlNeq_rel {op : BinOp} {b : Bool} {av} (h : eqlNeq op b = some av) : (op = .eql ∧ av = .bool b) ∨ (op = .neq ∧ av = .bool !b) := by
 unfold eqlNeq at h
 split at h
 · simp at h; exact .inl ⟨rfl, h.symm⟩
 · simp at h; exact .inr ⟨rfl, h.symm⟩
 · cases h

theorem eq_ptr0 {t e : TypeId} (hu : P.underlying t = some (.pointer e)) (d : Nat) : (Op.equalIn (d + 1) t (.pointer none) (.pointer none)).run P w = .ok true w := by simp [Op.equalIn, run_under hu]
theorem eq_ptr1 {t e : TypeId} (hu : P.underlying t = some (.pointer e)) (d : Nat) (a : Addr) : (Op.equalIn (d + 1) t (.pointer (some a)) (.pointer none)).run P w = .ok false w := by simp [Op.equalIn, run_under hu]
theorem eq_fn0 {t : TypeId} {a b c} (hu : P.underlying t = some (.func a b c)) (d : Nat) : (Op.equalIn (d + 1) t .nilFunc .nilFunc).run P w = .ok true w := by simp [Op.equalIn, run_under hu]
theorem eq_fn1 {t : TypeId} {a b c} (hu : P.underlying t = some (.func a b c)) (d : Nat) (f x y) : (Op.equalIn (d + 1) t (.func f x y) .nilFunc).run P w = .ok false w := by simp [Op.equalIn, run_under hu]
theorem eqlneq_run {op : BinOp} {t : TypeId} {x y : Value} {X Y : Operand} {b : Bool} {av : AV} {N : Nat → Prop} (h : eqlNeq op b = some av) (hg : ∀ o, (eqGuard o t X Y x y).run P w = .ok () w)
    (h1 : binOp .eql t x y = (do pure (.bool (← Op.equal t x y)))) (h2 : binOp .neq t x y = (do pure (.bool (!(← Op.equal t x y))))) (he : (Op.equalIn (9999 + 1) t x y).run P w = .ok b w) :
    ∃ v, (do eqGuard op t X Y x y; binOp op t x y : Sem Value).run P w = .ok v w ∧ RelV w S N gs av v := by
 have he' : (Op.equal t x y).run P w = .ok b w := he
 rcases eqlNeq_rel h with ⟨rfl, rfl⟩ | ⟨rfl, rfl⟩
 · exact ⟨.bool b, by simp only [Sem.run_bind, hg, Result.andThen_ok, h1, he', Sem.run_pure], .d (.v rfl)⟩
 · exact ⟨.bool !b, by simp only [Sem.run_bind, hg, Result.andThen_ok, h2, he', Sem.run_pure], .d (.v rfl)⟩

theorem rel_prim {N : Nat → Prop} {x v} (h : RelV w S N gs (.d (.v x)) v) : v = x := by cases h with | d h => cases h; rfl

theorem binop_sound {op : BinOp} {t : TypeId} {x y : AV} {vx vy : Value} {X Y : Operand} (hx : RelV w S (Inner B w om) gs x vx) (hy : RelV w S (Inner B w om) gs y vy) {av} (h : binopA P op t x y = some av) :
    ∃ v, (do eqGuard op t X Y vx vy; binOp op t vx vy : Sem Value).run P w = .ok v w ∧ RelV w S (Inner B w om) gs av v := by
 have hbool : ∀ (b : Bool), RelV w S (Inner B w om) gs (.bool b) (.bool b) := fun b => .d (.v rfl)
 unfold binopA at h
 split at h
 · rename_i a b
   split at h
   · rename_i hb
     have hu := isBool hb
     obtain rfl := rel_prim hx
     obtain rfl := rel_prim hy
     rcases eqlNeq_rel h with ⟨rfl, rfl⟩ | ⟨rfl, rfl⟩
     · exact ⟨_, by simp [eqGuard, run_eql_bool w t a b hu], hbool _⟩
     · exact ⟨_, by simp [eqGuard, run_neq_bool w t a b hu], hbool _⟩
   · cases h
 · split at h
   · rename_i hb
     obtain ⟨e, hu⟩ := isPtr hb
     obtain rfl := rel_prim hx
     obtain rfl := rel_prim hy
     exact eqlneq_run h (fun o => by cases o <;> simp [eqGuard]) rfl rfl (eq_ptr0 hu 9999)
   · cases h
 · split at h
   · rename_i hb
     obtain ⟨e, f, g, hu⟩ := isFn hb
     obtain rfl := rel_prim hx
     obtain rfl := rel_prim hy
     exact eqlneq_run h (fun o => by cases o <;> simp [eqGuard]) rfl rfl (eq_fn0 hu 9999)
   · cases h
 · split at h
   · rename_i hb
     obtain ⟨e, hu⟩ := isPtr hb
     obtain rfl := rel_prim hy
     cases hx with
     | ptr hg hb => exact eqlneq_run h (fun o => by cases o <;> simp [eqGuard]) rfl rfl (eq_ptr1 hu 9999 _)
   · cases h
 · split at h
   · rename_i hb
     obtain ⟨e, f, g, hu⟩ := isFn hb
     obtain rfl := rel_prim hy
     cases hx with
     | fn h1 h2 => exact eqlneq_run h (fun o => by cases o <;> simp [eqGuard]) rfl rfl (eq_fn1 hu 9999 _ _ _)
   · cases h
 · rename_i a b hnb _ _
   obtain ⟨v, hv, rfl⟩ := Option.map_eq_some_iff.1 h
   obtain rfl := rel_prim hx
   obtain rfl := rel_prim hy
   obtain ⟨h1, h2⟩ := binA_sound (P := P) (w := w) (t := t) hv (fun x y e1 e2 => hnb x y (by rw [e1]) (by rw [e2]))
   have hg : (eqGuard op t X Y vx vy).run P w = .ok () w := by
    unfold binA at hv
    split at hv <;> first | (cases hv; done) | (cases op <;> simp [eqGuard])
   exact ⟨v, by simp [hg, h1], .d (.v h2)⟩
 · rename_i xs ys
   split at h
   · rename_i hgd
     split at h
     · rename_i b hb
       cases hx with
       | @agg _ vs hxs =>
        cases hy with
        | @agg _ us hys =>
         have hst : ∃ fs T, ty P t = some T ∧ T.k = .struct fs := by
          have h2 := hgd.2
          unfold isStructTy at h2
          split at h2
          · rename_i T hT
            split at h2
            · rename_i fs hfs; exact ⟨fs, T, hT, hfs⟩
            · cases h2
          · cases h2
         obtain ⟨fs, T, hT, hfs⟩ := hst
         have hrun := eqA_sound (w := w) 12 (d := 10000) hxs hys hb (by omega) (.agg vs.toArray) (.agg us.toArray) (.inl ⟨fs, T, hT, hfs, rfl, rfl⟩)
         rcases eqlNeq_rel h with ⟨rfl, rfl⟩ | ⟨rfl, rfl⟩
         · exact ⟨_, by simp [run_eqGuard_agg w _ t X Y _ _ hgd.1, run_eql_struct, hrun], hbool _⟩
         · exact ⟨_, by simp [run_eqGuard_agg w _ t X Y _ _ hgd.1, run_neq_struct, hrun], hbool _⟩
     · cases h
   · cases h
 · cases h

theorem un_sound {op : UnOp} {a v : Value} (h : unA op a = some v) : (Op.unary op a).run P w = .ok v w ∧ v.oneCell' = true := by
 unfold unA at h
 split at h
 · simp at h; subst h; simp [Op.unary, Value.oneCell']
 · simp at h; subst h; simp [Op.unary, Op.intArith, Value.oneCell']
 · simp only [Option.some.injEq] at h; subst h; simp [Op.unary, Op.intBits, Value.oneCell']
 · cases h

theorem RelP.of {ps : List (Nat × Operand)} {ρ : Operand → AV} {ε : Operand → Value} {N : Nat → Prop} (h : ∀ x, RelV w S N gs (ρ x) (ε x)) : RelP w S N gs (ps.map fun p => (p.1, ρ p.2)) (ps.map fun p => (p.1, ε p.2)) := by
 induction ps with
 | nil => exact .nil
 | cons p ps ih => exact .cons (h _) ih

theorem RelVs.of {xs : List Operand} {ρ : Operand → AV} {ε : Operand → Value} {N : Nat → Prop} (h : ∀ x, RelV w S N gs (ρ x) (ε x)) : RelVs w S N gs (xs.map ρ) (xs.map ε) := by
 induction xs with
 | nil => exact .nil
 | cons p ps ih => exact .cons (h _) ih

theorem intOfA_rel {N : Nat → Prop} {x v i} (hx : RelV w S N gs x v) (h : intOfA x = some i) : ∃ k, v = .int k i := by
 unfold intOfA at h
 split at h
 · simp only [Option.some.injEq] at h; subst h
   exact ⟨_, rel_prim hx⟩
 · cases h

theorem optA_rel {N : Nat → Prop} {ρ : Operand → AV} {ε : Operand → Value} (hr : ∀ x, RelV w S N gs (ρ x) (ε x)) {x : Option Operand} {i} (h : optA ρ x = some i) :
    (i = none ∧ x.map ε = none) ∨ ∃ k j, i = some j ∧ x.map ε = some (.int k j) := by
 unfold optA at h
 split at h
 · simp at h; subst h; exact .inl ⟨rfl, rfl⟩
 · rename_i x
   obtain ⟨j, hj, rfl⟩ := Option.map_eq_some_iff.1 h
   obtain ⟨k, hk⟩ := intOfA_rel (hr x) hj
   exact .inr ⟨k, j, rfl, by simp [hk]⟩

theorem lenA_rel (hM : RelM B w S objs gs om) {x v n} (hx : RelV w S (Inner B w om) gs x v) (h : lenA objs x = some n) : (∃ s, x = .d (.v (.string s)) ∧ v = .string s ∧ n = s.size) ∨ ∃ a c, v = .slice a n c := by
 unfold lenA at h
 split at h
 · simp at h; subst h; exact .inl ⟨_, rfl, rel_prim hx, rfl⟩
 · simp at h; subst h; exact .inr ⟨_, _, rel_prim hx⟩
 · simp at h; subst h
   cases hx with | d hx => cases hx with
    | nil => exact .inr ⟨_, _, rfl⟩
    | empty => exact .inr ⟨_, _, rfl⟩
    | old hm => exact absurd rfl hm
 · cases h
 · simp at h; subst h
   cases hx with | d hx => cases hx with
    | nil => exact .inr ⟨_, _, rfl⟩
    | empty => exact .inr ⟨_, _, rfl⟩
    | old => exact .inr ⟨_, _, rfl⟩
 · simp at h; subst h
   cases hx <;> exact .inr ⟨_, _, rfl⟩
 · simp at h; subst h
   cases hx <;> exact .inr ⟨_, _, rfl⟩
 · cases h

def OpOk (P : Program) (B : Nat) (w : World) (S : Nat → Prop) (gs : List G1) (om : Nat → Option (Nat × Bool)) (run : World → Result Next) (av : AV) (objs' : List Obj) : Prop :=
 ∃ n w' gs' om', run w = .ok n w' ∧ Ext B w gs om w' gs' om' ∧ RelM B w' S objs' gs' om' ∧ ((∃ v, n = .value v ∧ RelV w' S (Inner B w' om') gs' av v) ∨ (n = .skip ∧ av = .tup []))

theorem builtin_sound (hM : RelM B w S objs gs om) {b : Builtin} {ts : List TypeId} {xs : List AV} {vs : List Value} {ty' : TypeId} {cs : Array Bool} (hx : RelVs w S (Inner B w om) gs xs vs) {av objs'} (h : builtinA P objs b ts xs = some (av, objs')) :
    OpOk P B w S gs om (fun w => (builtin b ts.toArray ty' cs vs.toArray).run P w) av objs' := by
 have lift : ∀ (s : Sem Value), (∃ v w' gs' om', s.run P w = .ok v w' ∧ Ext B w gs om w' gs' om' ∧ RelM B w' S objs' gs' om' ∧ RelV w' S (Inner B w' om') gs' av v) →
     (builtin b ts.toArray ty' cs vs.toArray).run P w = (do pure (Next.value (← s)) : Sem Next).run P w → OpOk P B w S gs om (fun w => (builtin b ts.toArray ty' cs vs.toArray).run P w) av objs' := by
  rintro s ⟨v, w', gs', om', h1, h2, h3, h4⟩ e
  refine ⟨.value v, w', gs', om', ?_, h2, h3, .inl ⟨v, rfl, h4⟩⟩
  show (builtin b ts.toArray ty' cs vs.toArray).run P w = _
  rw [e]; simp [h1]
 unfold builtinA at h
 split at h
 · rename_i t x
   cases hx with
   | cons hx h0 =>
    cases h0
    rename_i v
    refine lift (Builtin.len_ #[t] ty' #[v]) ?_ rfl
    split at h
    · rename_i T n hT hn
      obtain ⟨d, hu, hk⟩ := ty_under hT
      rcases lenA_rel hM hx hn with ⟨s, rfl, rfl, rfl⟩ | ⟨a, c, rfl⟩
      · split at h
        · rename_i hs
          rw [hs] at hk
          have := tk_str hk; subst this
          simp only [Option.some.injEq, Prod.mk.injEq] at h; obtain ⟨rfl, rfl⟩ := h
          exact ⟨_, w, gs, om, by simp [Builtin.len_, run_under hu]; rfl, .refl .., hM, .d (.v rfl)⟩
        · cases h
        · cases h
        · cases h
      · split at h
        · split at h
          · exact absurd (rel_prim hx) (by simp)
          · cases h
        · rename_i e hs
          rw [hs] at hk
          have := tk_slice hk; subst this
          split at h
          · cases h
          · simp only [Option.some.injEq, Prod.mk.injEq] at h; obtain ⟨rfl, rfl⟩ := h
            exact ⟨_, w, gs, om, by simp [Builtin.len_, run_under hu]; rfl, .refl .., hM, .d (.v rfl)⟩
        · cases h
        · cases h
    · cases h
 · rename_i t x
   cases hx with
   | cons hx h0 =>
    cases h0
    rename_i v
    refine lift (Builtin.cap_ #[t] ty' #[v]) ?_ rfl
    split at h
    · rename_i T r len0 hT
      obtain ⟨d, hu, hk⟩ := ty_under hT
      split at h
      · rename_i e c zs hs hr
        rw [hs] at hk
        have := tk_slice hk; subst this
        simp only [Option.some.injEq, Prod.mk.injEq] at h; obtain ⟨rfl, rfl⟩ := h
        cases hx with
        | @hdr _ _ _ g b o c' hg hb hcap hoff hlc hm =>
         obtain ⟨hgk, hgc, _⟩ := (hM.obj r _ hr).growK hg
         have hgc := hgc (by rw [hb]; simp)
         have hcc : c' = c := by rw [hgk, Nat.mul_one, Nat.zero_add, hgc] at hcap; exact hcap
         subst hcc
         exact ⟨_, w, gs, om, by simp [Builtin.cap_, run_under hu]; rfl, .refl .., hM, .d (.v rfl)⟩
        | hdr0 hg hb =>
         have hcc := ((hM.obj r _ hr).growK hg).2.2 hb
         subst hcc
         exact ⟨_, w, gs, om, by simp [Builtin.cap_, run_under hu]; rfl, .refl .., hM, .d (.v rfl)⟩
      · cases h
    · cases h
 · rename_i t t' x y
   split at h
   · rename_i ht; subst ht
     cases hx with
     | cons hx h0 => cases h0 with
      | cons hy h1 =>
       cases h1
       exact lift _ (append_sound hM hx hy h) rfl
   · cases h
 · rename_i t t' x y
   cases hx with
   | cons hx h0 => cases h0 with
    | cons hy h1 =>
     cases h1
     exact lift _ (copy_sound hM hx hy h) rfl
 · rename_i x y
   cases hx with
   | cons hx h0 => cases h0 with
    | cons hy h1 =>
     cases h1
     obtain ⟨a, ha, he⟩ := Option.map_eq_some_iff.1 h
     simp only [Prod.mk.injEq] at he; obtain ⟨rfl, rfl⟩ := he
     unfold minA at ha
     split at ha
     · simp only [Option.some.injEq] at ha; subst ha
       obtain rfl := rel_prim hx
       obtain rfl := rel_prim hy
       exact lift (Builtin.min_ ts.toArray ty' #[_, _]) ⟨_, w, gs, om, by simp [Builtin.min_, Builtin.min2], .refl .., hM, .d (.v rfl)⟩ rfl
     · cases ha
 · rename_i x y
   cases hx with
   | cons hx h0 => cases h0 with
    | cons hy h1 =>
     cases h1
     obtain ⟨a, ha, he⟩ := Option.map_eq_some_iff.1 h
     simp only [Prod.mk.injEq] at he; obtain ⟨rfl, rfl⟩ := he
     unfold maxA at ha
     split at ha
     · simp only [Option.some.injEq] at ha; subst ha
       obtain rfl := rel_prim hx
       obtain rfl := rel_prim hy
       exact lift (Builtin.max_ ts.toArray ty' #[_, _]) ⟨_, w, gs, om, by simp [Builtin.max_, Builtin.max2], .refl .., hM, .d (.v rfl)⟩ rfl
     · cases ha
 · cases h

theorem isIface_rel {t : TypeId} (h : isIface P t = false) : ∃ d, P.underlying t = some d ∧ ∀ ms, d ≠ .interface ms := by
 unfold isIface at h
 split at h
 · rename_i T hT
   obtain ⟨d, h1, h2⟩ := ty_under hT
   refine ⟨d, h1, fun ms e => ?_⟩
   subst e
   split at h
   · cases h
   · rename_i hne; exact hne h2.symm
 · cases h

theorem range_sound (hM : RelM B w S objs gs om) {t : TypeId} {x : AV} {vx : Value} {av objs'} (hx : RelV w S (Inner B w om) gs x vx) (ht : isStrTy P t = true) (h : rangeA objs x = some (av, objs')) :
    ∃ v w' gs' om', (Instr.range t vx).run P w = .ok v w' ∧ Ext B w gs om w' gs' om' ∧ RelM B w' S objs' gs' om' ∧ RelV w' S (Inner B w' om') gs' av v := by
 unfold rangeA at h
 split at h
 · rename_i s
   simp only [Option.some.injEq, Prod.mk.injEq] at h; obtain ⟨rfl, rfl⟩ := h
   have := rel_prim hx; subst this
   have hb := below_alloc w (Go.Obj.stringIter s 0)
   obtain ⟨e, m⟩ := hM.push (w' := w.alloc (.stringIter s 0)) (g := ⟨some w.heap.size, 0, 0⟩) (o := .it s 0) (om' := mark om [w.heap.size] (objs.length, true)) hb mark_old
    (.it (gs_new _ _ hM.len) rfl hM.hB (mark_in (by simp)) (heap_alloc_new _ _))
   refine ⟨_, _, _, _, ?_, e, m, .ptr (i := 0) (j := 0) (gs_new _ _ hM.len) rfl⟩
   have := run_range_string (P := P) w t s (isStr ht)
   simpa [World.iter] using this
 · cases h

theorem next_sound (hM : RelM B w S objs gs om) {t : TypeId} {x : AV} {vx : Value} {av objs'} (hx : RelV w S (Inner B w om) gs x vx) (h : nextA objs x = some (av, objs')) :
    ∃ v w' gs' om', (Instr.next vx true t).run P w = .ok v w' ∧ Ext B w gs om w' gs' om' ∧ RelM B w' S objs' gs' om' ∧ RelV w' S (Inner B w' om') gs' av v := by
 unfold nextA at h
 split at h
 · rename_i r
   split at h
   · rename_i s pos hr
     cases hx with
     | @ptr _ _ _ g b hg hb =>
      cases hM.obj r _ hr with
      | @it _ _ g' b' hg' hb' hB ho hw =>
       obtain rfl : g = g' := by simpa using hg.symm.trans hg'
       obtain rfl : b = b' := by simpa using hb.symm.trans hb'
       split at h
       · rename_i hlt
         simp only [Option.some.injEq, Prod.mk.injEq] at h; obtain ⟨rfl, rfl⟩ := h
         have hbs : b < w.heap.size := (Array.getElem?_eq_some_iff.1 hw).1
         obtain ⟨w', hw'⟩ : ∃ w' : World, w' = { w with heap := w.heap.setIfInBounds b (.stringIter s (pos + (Utf8.decode s pos).2)) } := ⟨_, rfl⟩
         have other : ∀ k, k ≠ b → w'.heap[k]? = w.heap[k]? := fun k hk => by rw [hw']; exact Array.getElem?_setIfInBounds_ne (fun e => hk e.symm)
         have e : Ext B w gs om w' gs om := ⟨List.prefix_rfl, ⟨by rw [hw'], by rw [hw'], by rw [hw'], by rw [hw']; simp, fun k hk => other k (by omega)⟩, fun k hk => ⟨⟨hk.1, by rw [hw']; simpa using hk.2.1, hk.2.2⟩, other k (fun e => hk.2.2 r (by rw [e]; exact ho))⟩⟩
         refine ⟨.tuple #[.bool true, .int .i64 pos, .int .i32 (Utf8.decode s pos).1], w', gs, om, ?_, e, ?_, ?_⟩
         · simp [Instr.next, getObj, setObj, Sem.run, hw, hlt, goInt, hw', Result.andThen]
         · refine hM.step e (by simp [hM.len]) fun r' o ho' => ?_
           rcases get_set ho' with ⟨rfl, rfl⟩ | ⟨hne, h'⟩
           · exact .inr (.it hg hb hB ho (by rw [hw']; simp [hbs]))
           · refine .inl ⟨h', fun k c hk _ => ⟨hk, other k (fun e => ?_)⟩⟩
             subst e; rw [ho] at hk; simp at hk; exact hne hk.1.symm
         · have : RelVs w' S (Inner B w' om) gs [.bool true, .int .i64 pos, .int .i32 (Utf8.decode s pos).1] [.bool true, .int .i64 pos, .int .i32 (Utf8.decode s pos).1] :=
            .cons (.d (.v rfl)) (.cons (.d (.v rfl)) (.cons (.d (.v rfl)) .nil))
           exact .tup this
       · rename_i hlt
         simp only [Option.some.injEq, Prod.mk.injEq] at h; obtain ⟨rfl, rfl⟩ := h
         refine ⟨.tuple #[.bool false], w, gs, om, ?_, .refl .., hM, ?_⟩
         · simp [Instr.next, getObj, Sem.run, hw, hlt]
         · have : RelVs w S (Inner B w om) gs [.bool false] [.bool false] := .cons (.d (.v rfl)) .nil
           exact .tup this
   · cases h
 · cases h

theorem op_sound (hM : RelM B w S objs gs om) {ρ : Operand → AV} {ε : Operand → Value} (hr : ∀ x, RelV w S (Inner B w om) gs (ρ x) (ε x)) {o : Oper} {av objs'} (h : opA P ρ objs o.op = some (av, objs')) :
    OpOk P B w S gs om (fun w => (execOp ε o).run P w) av objs' := by
 have lift : ∀ (s : Sem Value), (∃ v w' gs' om', s.run P w = .ok v w' ∧ Ext B w gs om w' gs' om' ∧ RelM B w' S objs' gs' om' ∧ RelV w' S (Inner B w' om') gs' av v) →
     (execOp ε o).run P w = (do pure (Next.value (← s)) : Sem Next).run P w → OpOk P B w S gs om (fun w => (execOp ε o).run P w) av objs' := by
  rintro s ⟨v, w', gs', om', h1, h2, h3, h4⟩ e
  refine ⟨.value v, w', gs', om', ?_, h2, h3, .inl ⟨v, rfl, h4⟩⟩
  show (execOp ε o).run P w = _
  rw [e]; simp [h1]
 have pure' : ∀ {s : Sem Value} {b : AV} {v : Value}, b = av → objs = objs' → s.run P w = .ok v w → RelV w S (Inner B w om) gs b v → (∃ v w' gs' om', s.run P w = .ok v w' ∧ Ext B w gs om w' gs' om' ∧ RelM B w' S objs' gs' om' ∧ RelV w' S (Inner B w' om') gs' av v) := by
  rintro s b v rfl rfl h1 h2
  exact ⟨v, w, gs, om, h1, .refl .., hM, h2⟩
 obtain ⟨dst, op, type, pos, after, guard⟩ := o
 simp only at h
 cases op with
 | move x =>
  simp only [opA, Option.some.injEq, Prod.mk.injEq] at h; obtain ⟨rfl, rfl⟩ := h
  exact lift (pure (ε x)) (pure' rfl rfl (by simp) (hr x)) rfl
 | assign x =>
  simp only [opA, Option.some.injEq, Prod.mk.injEq] at h; obtain ⟨rfl, rfl⟩ := h
  exact lift (pure (ε x)) (pure' rfl rfl (by simp) (hr x)) rfl
 | pick c a b =>
  simp only [opA] at h
  split at h
  · rename_i t ht
    simp only [Option.some.injEq, Prod.mk.injEq] at h; obtain ⟨rfl, rfl⟩ := h
    have hc := hr c; rw [ht] at hc
    have hcv := rel_prim hc
    refine lift (pure (bif t then ε a else ε b)) (pure' rfl rfl (v := bif t then ε a else ε b) (by simp) (by cases t; exact hr b; exact hr a)) ?_
    simp only [execOp, hcv, asBool]
    cases t <;> simp
  · cases h
 | alloc t => exact lift _ (alloc_sound hM h) rfl
 | box t x => exact lift _ (box_sound hM (hr x) h) rfl
 | build t ps =>
  obtain ⟨a, ha, he⟩ := Option.map_eq_some_iff.1 h
  simp only [Prod.mk.injEq] at he; obtain ⟨rfl, rfl⟩ := he
  obtain ⟨v, h1, h2⟩ := build_sound (RelP.of (ps := ps.toList) hr) ha
  have e : (ps.map fun (p : Nat × Operand) => (p.1, ε p.2)) = (ps.toList.map fun p => (p.1, ε p.2)).toArray := by apply Array.ext'; simp
  refine lift (Instr.build t (ps.map fun (p : Nat × Operand) => (p.1, ε p.2))) (pure' rfl rfl (by rw [e]; exact h1) h2) (by simp only [execOp])
 | buildSlice t n ps =>
  obtain ⟨v, w', gs', om', h1, h2⟩ := buildSlice_sound hM (RelP.of (ps := ps.toList) hr) h
  have e : (ps.map fun (p : Nat × Operand) => (p.1, ε p.2)) = (ps.toList.map fun p => (p.1, ε p.2)).toArray := by apply Array.ext'; simp
  exact lift (Instr.buildSlice t n (ps.map fun (p : Nat × Operand) => (p.1, ε p.2))) ⟨v, w', gs', om', by rw [e]; exact h1, h2⟩ (by simp only [execOp])
 | load t a =>
  obtain ⟨v, h1, h2, rfl⟩ := load_sound hM (hr a) h
  exact lift _ (pure' rfl rfl h1 h2) rfl
 | store t a x =>
  obtain ⟨a', ha, he⟩ := Option.map_eq_some_iff.1 h
  simp only [Prod.mk.injEq] at he; obtain ⟨rfl, rfl⟩ := he
  obtain ⟨w', om', h1, h2, h3⟩ := store_sound hM (hr a) (hr x) ha
  refine ⟨.skip, w', gs, om', ?_, h2, h3, .inr ⟨rfl, rfl⟩⟩
  simp [execOp, h1]
 | nilCheck x =>
  have hx := hr x
  simp only [opA] at h
  split at h
  · rename_i r i j hρ
    simp only [Option.some.injEq, Prod.mk.injEq] at h; obtain ⟨rfl, rfl⟩ := h
    rw [hρ] at hx
    have hx0 := hx
    generalize hv : ε x = v at hx
    cases hx with
    | ptr hg hb => exact lift (pure (ε x)) (pure' rfl rfl (by simp) hx0) (by simp [execOp, hv])
  · rename_i cs j hρ
    simp only [Option.some.injEq, Prod.mk.injEq] at h; obtain ⟨rfl, rfl⟩ := h
    rw [hρ] at hx
    have hx0 := hx
    generalize hv : ε x = v at hx
    cases hx with
    | rp => exact lift (pure (ε x)) (pure' rfl rfl (by simp) hx0) (by simp [execOp, hv])
  · rename_i f a b hρ
    simp only [Option.some.injEq, Prod.mk.injEq] at h; obtain ⟨rfl, rfl⟩ := h
    rw [hρ] at hx
    have hx0 := hx
    generalize hv : ε x = v at hx
    cases hx with
    | fn => exact lift (pure (ε x)) (pure' rfl rfl (by simp) hx0) (by simp [execOp, hv])
  · cases h
 | binOp op t x y yt =>
  obtain ⟨a, ha, he⟩ := Option.map_eq_some_iff.1 h
  simp only [Prod.mk.injEq] at he; obtain ⟨rfl, rfl⟩ := he
  obtain ⟨v, h1, h2⟩ := binop_sound (X := x) (Y := y) (hr x) (hr y) ha
  exact lift _ (pure' rfl rfl h1 h2) rfl
 | unOp op t x =>
  simp only [opA] at h
  split at h
  · rename_i a hρ
    obtain ⟨v, ha, he⟩ := Option.map_eq_some_iff.1 h
    simp only [Prod.mk.injEq] at he; obtain ⟨rfl, rfl⟩ := he
    have hx := hr x; rw [hρ] at hx
    have hv := rel_prim hx
    obtain ⟨h1, h2⟩ := un_sound (P := P) (w := w) ha
    exact lift (Op.unary op (ε x)) (pure' rfl rfl (by rw [hv]; exact h1) (.d (.v h2))) rfl
  · cases h
 | convert s d x => exact lift _ (conv_sound hM (hr x) h) rfl
 | makeInterface t x =>
  simp only [opA] at h
  split at h
  · cases h
  · rename_i hi
    simp only [Option.some.injEq, Prod.mk.injEq] at h; obtain ⟨rfl, rfl⟩ := h
    obtain ⟨d, h1, h2⟩ := isIface_rel (by simpa using hi)
    refine lift (Instr.makeInterface t (ε x)) (pure' rfl rfl (v := .iface t (ε x)) ?_ (.ifc (hr x))) rfl
    simp only [Instr.makeInterface, Sem.run_bind, run_under h1, Result.andThen_ok]
    cases d <;> first | rfl | exact absurd rfl (h2 _)
 | makeFunc fn first caps =>
  simp only [opA, Option.some.injEq, Prod.mk.injEq] at h; obtain ⟨rfl, rfl⟩ := h
  refine lift (Instr.makeFunc fn (first.map ε) (caps.map ε)) (pure' rfl rfl (v := .func fn (first.map ε) (caps.map ε)) (by simp [Instr.makeFunc]) ?_) rfl
  have := RelV.fn (f := fn) (RelVs.of (xs := first.toList) hr) (RelVs.of (xs := caps.toList) hr)
  have e : ∀ (a : Array Operand), (a.toList.map ε).toArray = a.map ε := fun a => by apply Array.ext'; simp
  rw [e, e] at this
  exact this
 | makeSlice t l c =>
  simp only [opA] at h
  split at h
  · rename_i li ci hl hc
    obtain ⟨k1, e1⟩ := intOfA_rel (hr l) hl
    obtain ⟨k2, e2⟩ := intOfA_rel (hr c) hc
    refine lift (Instr.makeSlice t (ε l) (ε c)) ?_ rfl
    rw [e1, e2]; exact makeSlice_sound hM h
  · cases h
 | slice t x lo hi mx =>
  simp only [opA] at h
  split at h
  · rename_i l' h' m' hl hh hm
    obtain ⟨a, ha, he⟩ := Option.map_eq_some_iff.1 h
    simp only [Prod.mk.injEq] at he; obtain ⟨rfl, rfl⟩ := he
    obtain ⟨v, h1, h2⟩ := slice_sound hM (hr x) (optA_rel hr hl) (optA_rel hr hh) (optA_rel hr hm) ha
    exact lift _ (pure' rfl rfl h1 h2) rfl
  · cases h
 | fieldAddr s x f =>
  obtain ⟨a, ha, he⟩ := Option.map_eq_some_iff.1 h
  simp only [Prod.mk.injEq] at he; obtain ⟨rfl, rfl⟩ := he
  obtain ⟨v, h1, h2⟩ := fieldAddr_sound (hr x) ha
  exact lift _ (pure' rfl rfl h1 h2) rfl
 | field s x f =>
  obtain ⟨a, ha, he⟩ := Option.map_eq_some_iff.1 h
  simp only [Prod.mk.injEq] at he; obtain ⟨rfl, rfl⟩ := he
  obtain ⟨v, h1, h2⟩ := field_sound (hr x) ha
  exact lift _ (pure' rfl rfl h1 h2) rfl
 | indexAddr t x i =>
  simp only [opA] at h
  split at h
  · rename_i n hi
    obtain ⟨a, ha, he⟩ := Option.map_eq_some_iff.1 h
    simp only [Prod.mk.injEq] at he; obtain ⟨rfl, rfl⟩ := he
    obtain ⟨k, hk⟩ := intOfA_rel (hr i) hi
    obtain ⟨v, h1, h2⟩ := indexAddr_sound (k := k) hM (hr x) ha
    exact lift (Instr.indexAt t (ε x) (ε i)) (pure' rfl rfl (by rw [hk]; exact h1) h2) rfl
  · cases h
 | index t x i =>
  simp only [opA] at h
  split at h
  · rename_i n hi
    obtain ⟨a, ha, he⟩ := Option.map_eq_some_iff.1 h
    simp only [Prod.mk.injEq] at he; obtain ⟨rfl, rfl⟩ := he
    obtain ⟨k, hk⟩ := intOfA_rel (hr i) hi
    obtain ⟨v, h1, h2⟩ := index_sound (k := k) (hr x) ha
    exact lift (Instr.index t (ε x) (ε i)) (pure' rfl rfl (by rw [hk]; exact h1) h2) rfl
  · cases h
 | extract x i =>
  obtain ⟨a, ha, he⟩ := Option.map_eq_some_iff.1 h
  simp only [Prod.mk.injEq] at he; obtain ⟨rfl, rfl⟩ := he
  have hx := hr x
  unfold extractA at ha
  split at ha
  · rename_i vs hρ
    rw [hρ] at hx
    generalize hv : ε x = v at hx
    cases hx with
    | tup hvs =>
     obtain ⟨u, h1, h2⟩ := hvs.get ha
     exact lift (Instr.extract (ε x) i) (pure' rfl rfl (v := u) (by rw [hv]; simp [Instr.extract, h1]) h2) rfl
  · cases ha
 | range t x =>
  simp only [opA] at h
  split at h
  · rename_i ht; exact lift _ (range_sound hM (hr x) ht h) rfl
  · cases h
 | next it str =>
  simp only [opA] at h
  split at h
  · rename_i hs; subst hs; exact lift _ (next_sound hM (hr it) h) rfl
  · cases h
 | call c =>
  obtain ⟨callee, args, argTypes⟩ := c
  cases callee with
  | builtin b =>
   simp only [opA] at h
   obtain ⟨n, w', gs', om', h1, h2⟩ := builtin_sound (ty' := type) (cs := args.map fun | .const _ => true | _ => false) hM (RelVs.of (xs := args.toList) hr) h
   refine ⟨n, w', gs', om', ?_, h2⟩
   simp only [execOp, resolve, Sem.run_bind, Sem.run_pure, Result.andThen_ok, invoke]
   rw [← h1]
   simp only [Array.toArray_toList]
   congr 2
   apply Array.ext'; simp
  | value f => simp [opA] at h
  | invoke r m => simp [opA] at h
 | _ => simp [opA] at h

end
end Go.Awp

/- What is handed to a function and what comes back: contracts. Lemmas alone. -/
namespace Go.Awp
open Go.RowKit Go.Lib

structure Gl where
 G : World → Prop
 N : Nat
 st : ∀ w w', G w → Below N w w' → G w'

def Sound (P : Program) (g : Gl) (f : FuncId) (spec : List D → Option D) : Prop :=
 ∀ (w : World) (vs : List Value) (S : Nat → Prop) (ds : List D) (r : D), g.G w → g.N ≤ w.heap.size → (∀ b, S b → b < w.heap.size) → RelL w S (fun _ => False) ds vs [] → spec ds = some r →
  Calls P f vs.toArray w fun e w' => ∃ v F, e = .returned v ∧ RelD w' S (fun _ => False) r v F ∧ F.Nodup ∧ (∀ b ∈ F, w.heap.size ≤ b ∧ b < w'.heap.size) ∧ Below w.heap.size w w'

def rowNil : Option Nat → D → D
 | some k, .v (.slice none 0 0) => .row .ro k []
 | _, d => d

mutual
def expA (objs : List Obj) : List (Option Nat) → AV → Option (D × List (Option Nat))
 | qs, .d x => some (rowNil (qs.headD none) x.roed, qs.drop 1)
 | qs, .cut k xs => some ((D.row .ro k xs).roed, qs.drop 1)
 | qs, .hdr r off len => match objs[r]? with
  | some (.row k xs) => if off + len ≤ xs.length then some (.row .ro k (((xs.drop off).take len).map D.roed), qs.drop 1) else none
  | _ => none
 | qs, .agg cs => match expAs objs qs cs with
  | some (ds, q) => some (.agg ds, q)
  | none => none
 | _, _ => none
def expAs (objs : List Obj) : List (Option Nat) → List AV → Option (List D × List (Option Nat))
 | qs, [] => some ([], qs)
 | qs, a :: as => match expA objs qs a with
  | some (d, q) => match expAs objs q as with
   | some (ds, q') => some (d :: ds, q')
   | none => none
  | none => none
end

def D.onlyRo : D → Bool
 | .v _ => true
 | .row m _ xs => decide (m = .ro) && xs.attach.all fun ⟨x, _⟩ => x.onlyRo
 | .agg cs => cs.attach.all fun ⟨x, _⟩ => x.onlyRo
 | .tup cs => cs.attach.all fun ⟨x, _⟩ => x.onlyRo

def D.noRo : D → Bool
 | .v _ => true
 | .row m _ xs => decide (m ≠ .ro) && xs.attach.all fun ⟨x, _⟩ => x.noRo
 | .agg cs => cs.attach.all fun ⟨x, _⟩ => x.noRo
 | .tup cs => cs.attach.all fun ⟨x, _⟩ => x.noRo

def D.noSn : D → Bool
 | .v _ => true
 | .row m _ xs => decide (m ≠ .sn) && xs.attach.all fun ⟨x, _⟩ => x.noSn
 | .agg cs => cs.attach.all fun ⟨x, _⟩ => x.noSn
 | .tup cs => cs.attach.all fun ⟨x, _⟩ => x.noSn

theorem noRo_v (x) : (D.v x).noRo = true := by simp [D.noRo]
theorem noRo_row (m k xs) : (D.row m k xs).noRo = (decide (m ≠ .ro) && xs.all D.noRo) := by simp [D.noRo]
theorem noRo_agg (xs) : (D.agg xs).noRo = xs.all D.noRo := by simp [D.noRo]
theorem noRo_tup (xs) : (D.tup xs).noRo = xs.all D.noRo := by simp [D.noRo]
theorem noSn_v (x) : (D.v x).noSn = true := by simp [D.noSn]
theorem noSn_row (m k xs) : (D.row m k xs).noSn = (decide (m ≠ .sn) && xs.all D.noSn) := by simp [D.noSn]
theorem noSn_agg (xs) : (D.agg xs).noSn = xs.all D.noSn := by simp [D.noSn]
theorem noSn_tup (xs) : (D.tup xs).noSn = xs.all D.noSn := by simp [D.noSn]

mutual
def impA (objs : List Obj) : D → Option (AV × List Obj)
 | .v x => some (.d (.v x), objs)
 | .row .own k xs => some (.hdr objs.length 0 xs.length, objs ++ [.row k xs])
 | .row .ro k xs => some (.d (.row .ro k xs), objs)
 | .row .sn _ _ => none
 | .agg cs => match impAs objs cs with
  | some (as, o) => some (.agg as, o)
  | none => none
 | .tup cs => match impAs objs cs with
  | some (as, o) => some (.tup as, o)
  | none => none
def impAs (objs : List Obj) : List D → Option (List AV × List Obj)
 | [] => some ([], objs)
 | d :: ds => match impA objs d with
  | some (a, o1) => match impAs o1 ds with
   | some (as, o2) => some (a :: as, o2)
   | none => none
  | none => none
end

section
variable {P : Program} {B : Nat} {w : World} {S : Nat → Prop} {objs : List Obj} {gs : List G1} {om : Nat → Option (Nat × Bool)}

mutual
theorem RelD.weakN {S N N' : Nat → Prop} : ∀ {d : D} {v F}, RelD w S N d v F → d.noSn = true → RelD w S N' d v F
 | _, _, _, .v h, _ => .v h
 | _, _, _, .nil, _ => .nil
 | _, _, _, .empty hm, _ => .empty hm
 | _, _, _, .old (m := m) hm hb h1 h2 hq hk hvs hl h, hs => by
  rw [noSn_row] at hs
  simp only [Bool.and_eq_true, decide_eq_true_eq] at hs
  refine .old hm hb h1 (fun e => absurd e hs.1) hq hk hvs hl (RelL.weakN h ?_)
  simp only [flat, List.all_flatMap, List.all_eq_true] at hs ⊢
  intro x hx c hc
  have := hs.2 x hx
  cases x with
  | agg cs => rw [noSn_agg] at this; exact List.all_eq_true.1 this c hc
  | _ => simp [D.cells] at hc; subst hc; exact this
 | _, _, _, .own hb hc hn hm hk hvs h, hs => by
  rw [noSn_row] at hs
  simp only [Bool.and_eq_true, decide_eq_true_eq] at hs
  refine .own hb hc hn hm hk hvs (RelL.weakN h ?_)
  simp only [flat, List.all_flatMap, List.all_eq_true] at hs ⊢
  intro x hx c hc
  have := hs.2 x hx
  cases x with
  | agg cs => rw [noSn_agg] at this; exact List.all_eq_true.1 this c hc
  | _ => simp [D.cells] at hc; subst hc; exact this
 | _, _, _, .agg h, hs => .agg (RelL.weakN h (by rw [noSn_agg] at hs; exact hs))
 | _, _, _, .tup h, hs => .tup (RelL.weakN h (by rw [noSn_tup] at hs; exact hs))
theorem RelL.weakN {S N N' : Nat → Prop} : ∀ {ds : List D} {vs F}, RelL w S N ds vs F → ds.all D.noSn = true → RelL w S N' ds vs F
 | _, _, _, .nil, _ => .nil
 | _, _, _, .cons h t, hs => by
  simp only [List.all_cons, Bool.and_eq_true] at hs
  exact .cons (RelD.weakN h hs.1) (RelL.weakN t hs.2)
end

mutual
theorem RelD.weakS {S S' N : Nat → Prop} : ∀ {d : D} {v F}, RelD w S N d v F → d.noRo = true → RelD w S' N d v F
 | _, _, _, .v h, _ => .v h
 | _, _, _, .nil, _ => .nil
 | _, _, _, .empty hm, _ => .empty hm
 | _, _, _, .old (m := m) hm hb h1 h2 hq hk hvs hl h, hs => by
  rw [noRo_row] at hs
  simp only [Bool.and_eq_true, decide_eq_true_eq] at hs
  refine .old hm hb (fun e => absurd e hs.1) h2 hq hk hvs hl (RelL.weakS h ?_)
  simp only [flat, List.all_flatMap, List.all_eq_true] at hs ⊢
  intro x hx c hc
  have := hs.2 x hx
  cases x with
  | agg cs => rw [noRo_agg] at this; exact List.all_eq_true.1 this c hc
  | _ => simp [D.cells] at hc; subst hc; exact this
 | _, _, _, .own hb hc hn hm hk hvs h, hs => by
  rw [noRo_row] at hs
  simp only [Bool.and_eq_true, decide_eq_true_eq] at hs
  refine .own hb hc hn hm hk hvs (RelL.weakS h ?_)
  simp only [flat, List.all_flatMap, List.all_eq_true] at hs ⊢
  intro x hx c hc
  have := hs.2 x hx
  cases x with
  | agg cs => rw [noRo_agg] at this; exact List.all_eq_true.1 this c hc
  | _ => simp [D.cells] at hc; subst hc; exact this
 | _, _, _, .agg h, hs => .agg (RelL.weakS h (by rw [noRo_agg] at hs; exact hs))
 | _, _, _, .tup h, hs => .tup (RelL.weakS h (by rw [noRo_tup] at hs; exact hs))
theorem RelL.weakS {S S' N : Nat → Prop} : ∀ {ds : List D} {vs F}, RelL w S N ds vs F → ds.all D.noRo = true → RelL w S' N ds vs F
 | _, _, _, .nil, _ => .nil
 | _, _, _, .cons h t, hs => by
  simp only [List.all_cons, Bool.and_eq_true] at hs
  exact .cons (RelD.weakS h hs.1) (RelL.weakS t hs.2)
end

def Seen (S : Nat → Prop) (B : Nat) (w : World) (om : Nat → Option (Nat × Bool)) (b : Nat) : Prop := S b ∨ (B ≤ b ∧ b < w.heap.size)

theorem rowNil_rel {S N : Nat → Prop} {q d v F} (h : RelD w S N d v F) : RelD w S N (rowNil q d) v F := by
 unfold rowNil; split
 · cases h; exact .nil
 · exact h

mutual
theorem exp_rel (hM : RelM B w S objs gs om) : ∀ {a : AV} {qs v d q}, RelV w S (Inner B w om) gs a v → expA objs qs a = some (d, q) → RelD w (Seen S B w om) (fun _ => False) d v []
 | .d x, qs, v, d, q, hv, h => by
  simp only [expA, Option.some.injEq, Prod.mk.injEq] at h; obtain ⟨rfl, rfl⟩ := h
  cases hv with | d hv => exact rowNil_rel (RelD.roed (fun b hb => .inl hb) (fun b hb => .inr ⟨hb.1, hb.2.1⟩) hv (by simp))
 | .cut k xs, qs, v, d, q, hv, h => by
  simp only [expA, Option.some.injEq, Prod.mk.injEq] at h; obtain ⟨rfl, rfl⟩ := h
  rw [roed_row]
  cases hv with
  | cutNil => exact .nil
  | cutEmpty => exact .empty (by simp)
  | @cut _ _ b off cur T fz vs hb hS hk hvs hl h =>
   have t := RelL.roed (S' := Seen S B w om) (N' := fun _ => False) (fun b hb => .inl hb) (fun b hb => .inr ⟨hb.1, hb.2.1⟩) h (by simp)
   have := RelD.old (m := .ro) (S := Seen S B w om) (N := fun _ => False) (c := xs.length) (by simp) hb (fun _ => hS.elim .inl (fun h => .inr ⟨h.1, h.2.1⟩)) (by simp) (by simp) (hk_map cells_roed isCell_roed hk) (by simpa using hvs) (by simpa using hl) (by rw [flat_roed]; exact t)
   rw [List.length_map] at this
   exact this
 | .hdr r off len, qs, v, d, q, hv, h => by
  simp only [expA] at h
  split at h
  · rename_i k xs hr
    split at h
    · rename_i hfit
      simp only [Option.some.injEq, Prod.mk.injEq] at h; obtain ⟨rfl, rfl⟩ := h
      cases hv with
      | hdr0 hg hb => simp; exact .nil
      | @hdr _ _ _ g b o c hg hb hcap hoff hlc hm =>
       by_cases hl0 : len = 0
       · subst hl0; simp only [List.take_zero, List.map_nil]; exact .empty (by simp)
       · cases hM.obj r _ hr with
         | row0 hg' hk' hb' => rw [hg] at hg'; simp at hg'; subst hg'; rw [hb] at hb'; cases hb'
         | @row _ _ _ g' b' cur vs F hg' hgk hb' hB ho hw hcs hn' hk hvs hl hF hFo =>
          obtain rfl : g = g' := by simpa using hg.symm.trans hg'
          obtain rfl : b = b' := by simpa using hb.symm.trans hb'
          obtain ⟨G, g1, g2⟩ := sub_flatF hl hk off len hfit
          have t := RelL.roed (S' := Seen S B w om) (N' := fun _ => False) (fun b hb => .inl hb) (fun b hb => .inr ⟨hb.1, hb.2.1⟩) g1 (fun b hb => .inr ⟨(hFo b (g2 b hb)).1, (hFo b (g2 b hb)).2.1⟩)
          have hlen : ((xs.drop off).take len).length = len := by simp; omega
          have ho : o = off * g.k := hoff.resolve_right (by omega)
          have hsub : ∀ x ∈ (xs.drop off).take len, Fits k x := fun x hx => hk x (List.mem_of_mem_drop (List.mem_of_mem_take hx))
          have hle : off * k + len * k ≤ xs.length * k := by rw [← Nat.add_mul]; exact Nat.mul_le_mul_right _ hfit
          have e : (vs.drop (off * k)).take (len * k) = (cur.toList.drop (off * k)).take (len * k) := by
           subst hvs
           apply List.ext_getElem?
           intro j
           simp only [List.getElem?_take, List.getElem?_drop]
           split
           · rw [if_pos (by omega)]
           · rfl
          have := RelD.old (m := .ro) (S := Seen S B w om) (N := fun _ => False) (c := c) (off := o) (by simp) hw (fun _ => .inr ⟨hB, (Array.getElem?_eq_some_iff.1 hw).1⟩) (by simp) (by simp; omega) (hk_map cells_roed isCell_roed hsub) rfl
           (by rw [List.length_map, hlen, ho, hgk, ← e, ← g1.length, flat_length hsub, hlen]) (by rw [flat_roed, List.length_map, hlen, ho, hgk, ← e]; exact t)
          rw [List.length_map, hlen] at this
          exact this
    · cases h
  · cases h
 | .agg cs, qs, v, d, q, hv, h => by
  simp only [expA] at h
  split at h
  · rename_i ds q' hds
    simp only [Option.some.injEq, Prod.mk.injEq] at h; obtain ⟨rfl, rfl⟩ := h
    cases hv with | agg hv => exact .agg (exps_rel hM hv hds)
  · cases h
 | .ptr .., _, _, _, _, _, h => by simp [expA] at h
 | .rp .., _, _, _, _, _, h => by simp [expA] at h
 | .tup .., _, _, _, _, _, h => by simp [expA] at h
 | .fn .., _, _, _, _, _, h => by simp [expA] at h
 | .ifc .., _, _, _, _, _, h => by simp [expA] at h
 | .dead, _, _, _, _, _, h => by simp [expA] at h
theorem exps_rel (hM : RelM B w S objs gs om) : ∀ {as : List AV} {qs vs ds q}, RelVs w S (Inner B w om) gs as vs → expAs objs qs as = some (ds, q) → RelL w (Seen S B w om) (fun _ => False) ds vs []
 | [], qs, vs, ds, q, hv, h => by
  simp only [expAs, Option.some.injEq, Prod.mk.injEq] at h; obtain ⟨rfl, rfl⟩ := h
  cases hv; exact .nil
 | a :: as, qs, vs, ds, q, hv, h => by
  simp only [expAs] at h
  split at h
  · rename_i d q1 h1
    split at h
    · rename_i ds' q2 h2
      simp only [Option.some.injEq, Prod.mk.injEq] at h; obtain ⟨rfl, rfl⟩ := h
      cases hv with | cons hv t => exact RelL.cons (F := []) (G := []) (exp_rel hM hv h1) (exps_rel hM t h2)
    · cases h
  · cases h
end

mutual
theorem impA_len : ∀ (d : D) {objs : List Obj} {a objs'}, impA objs d = some (a, objs') → objs.length ≤ objs'.length
 | .v x, _, _, _, h => by simp [impA] at h; simp [h.2]
 | .row .own k xs, _, _, _, h => by simp [impA] at h; simp [← h.2]
 | .row .ro k xs, _, _, _, h => by simp [impA] at h; simp [h.2]
 | .row .sn k xs, _, _, _, h => by simp [impA] at h
 | .agg cs, _, _, _, h => by
  simp only [impA] at h
  split at h
  · rename_i h1; simp at h; rw [← h.2]; exact impAs_len cs h1
  · cases h
 | .tup cs, _, _, _, h => by
  simp only [impA] at h
  split at h
  · rename_i h1; simp at h; rw [← h.2]; exact impAs_len cs h1
  · cases h
theorem impAs_len : ∀ (ds : List D) {objs : List Obj} {as objs'}, impAs objs ds = some (as, objs') → objs.length ≤ objs'.length
 | [], _, _, _, h => by simp [impAs] at h; simp [h.2]
 | d :: ds, _, _, _, h => by
  simp only [impAs] at h
  split at h
  · rename_i h1
    split at h
    · rename_i h2; simp at h; rw [← h.2]; exact Nat.le_trans (impA_len d h1) (impAs_len ds h2)
    · cases h
  · cases h
end

theorem RelM.push_fresh {R : Nat} (hM : RelM B w S objs gs om) {k : Nat} {xs : List D} {v F} (hd : RelD w S (Inner B w om) (.row .own k xs) v F) (hnd : F.Nodup) (hF : ∀ b ∈ F, B ≤ b ∧ b < w.heap.size ∧ om b = some (R, true)) (hR : objs.length < R) :
    ∃ gs' om', RelM B w S (objs ++ [.row k xs]) gs' om' ∧ Ext B w gs om w gs' om' ∧ RelV w S (Inner B w om') gs' (.hdr objs.length 0 xs.length) v ∧ ∀ b, b ∉ F → om' b = om b := by
 cases hd with
 | nil =>
  obtain ⟨e, m⟩ := hM.push_nil 0 k
  exact ⟨_, om, m, e, .hdr0 (g := ⟨none, k, 0⟩) (gs_new _ _ hM.len) rfl, fun _ _ => rfl⟩
 | empty hm => exact absurd rfl hm
 | old hm => exact absurd rfl hm
 | @own _ _ b c cur T vs F hb hc hn hm hk hvs hl =>
  have hbF : b ∉ F := (List.nodup_cons.1 hnd).1
  obtain ⟨om', hom⟩ : ∃ om', om' = mark (mark om F (objs.length, false)) [b] (objs.length, true) := ⟨_, rfl⟩
  have out : ∀ x, x ∉ b :: F → om' x = om x := fun x hx => by
   rw [hom, mark_out (fun h => hx (by simp at h; simp [h])), mark_out (fun h => hx (by simp [h]))]
  have e : Ext B w gs om w (gs ++ [⟨some b, k, c * k⟩]) om' := ⟨List.prefix_append _ _, .refl _ _, fun x ⟨h1, h2, h3⟩ => ⟨⟨h1, h2, fun r => by
    rw [out x (fun hx => h3 R (hF x hx).2.2)]; exact h3 r⟩, rfl⟩⟩
  refine ⟨_, om', hM.step e (by simp [hM.len]) fun r o hr => ?_, e, .hdr (g := ⟨some b, k, c * k⟩) (b := b) (o := 0) (c := c) (gs_new _ _ hM.len) rfl (by simp) (.inl (by simp)) hn hm, out⟩
  rcases get_append_one _ _ _ _ hr with h' | ⟨rfl, rfl⟩
  · refine .inl ⟨h', fun x c' hxc _ => ⟨?_, rfl⟩⟩
    rw [out x (fun hx => ?_)]; exact hxc
    have := (hF x hx).2.2
    rw [hxc] at this; simp at this
    have hlt : r < objs.length := (List.getElem?_eq_some_iff.1 h').1
    omega
  · right
    refine .row (F := F) (gs_new _ _ hM.len) rfl rfl (hF b (by simp)).1 (by rw [hom, mark_in (by simp)]) hb hc (Nat.mul_le_mul_right _ hn) hk hvs (hM.relL e hl (fun _ _ => rfl)) (List.nodup_cons.1 hnd).2 (fun x hx => ⟨(hF x (by simp [hx])).1, (hF x (by simp [hx])).2.1, ?_⟩)
    rw [hom, mark_out (by simp; rintro rfl; exact hbF hx), mark_in hx]

mutual
theorem imp_rel {R : Nat} {S' : Nat → Prop} : ∀ (d : D) {objs : List Obj} {gs : List G1} {om : Nat → Option (Nat × Bool)} {v F a objs'}, RelM B w S objs gs om → RelD w S' (fun _ => False) d v F → d.noRo = true → F.Nodup →
    (∀ b ∈ F, B ≤ b ∧ b < w.heap.size ∧ om b = some (R, true)) → impA objs d = some (a, objs') → objs'.length ≤ R →
    ∃ gs' om', RelM B w S objs' gs' om' ∧ Ext B w gs om w gs' om' ∧ RelV w S (Inner B w om') gs' a v ∧ ∀ b, b ∉ F → om' b = om b
 | .v x, objs, gs, om, v, F, a, objs', hM, hd, hr, hnd, hF, h, hR => by
  simp only [impA, Option.some.injEq, Prod.mk.injEq] at h; obtain ⟨rfl, rfl⟩ := h
  cases hd with | v hd => exact ⟨gs, om, hM, .refl .., .d (.v hd), fun _ _ => rfl⟩
 | .row .own k xs, objs, gs, om, v, F, a, objs', hM, hd, hr, hnd, hF, h, hR => by
  simp only [impA, Option.some.injEq, Prod.mk.injEq] at h; obtain ⟨rfl, rfl⟩ := h
  have hd' : RelD w S (Inner B w om) (.row .own k xs) v F := RelD.weakS (RelD.mono (S' := S') (N' := Inner B w om) (fun b hb => ⟨hb, rfl⟩) (fun b hb => hb.elim) hd (fun _ _ => rfl)) hr
  exact hM.push_fresh (R := R) hd' hnd hF (by simp at hR; omega)
 | .row .ro k xs, objs, gs, om, v, F, a, objs', hM, hd, hr, hnd, hF, h, hR => by rw [noRo_row] at hr; simp at hr
 | .row .sn k xs, objs, gs, om, v, F, a, objs', hM, hd, hr, hnd, hF, h, hR => by simp [impA] at h
 | .agg cs, objs, gs, om, v, F, a, objs', hM, hd, hr, hnd, hF, h, hR => by
  simp only [impA] at h
  split at h
  · rename_i as o h1
    simp only [Option.some.injEq, Prod.mk.injEq] at h; obtain ⟨rfl, rfl⟩ := h
    rw [noRo_agg] at hr
    cases hd with
    | agg hd =>
     obtain ⟨gs', om', a1, a2, a3, a4⟩ := imps_rel cs hM hd hr hnd hF h1 hR
     exact ⟨gs', om', a1, a2, .agg a3, a4⟩
  · cases h
 | .tup cs, objs, gs, om, v, F, a, objs', hM, hd, hr, hnd, hF, h, hR => by
  simp only [impA] at h
  split at h
  · rename_i as o h1
    simp only [Option.some.injEq, Prod.mk.injEq] at h; obtain ⟨rfl, rfl⟩ := h
    rw [noRo_tup] at hr
    cases hd with
    | tup hd =>
     obtain ⟨gs', om', a1, a2, a3, a4⟩ := imps_rel cs hM hd hr hnd hF h1 hR
     exact ⟨gs', om', a1, a2, .tup a3, a4⟩
  · cases h
theorem imps_rel {R : Nat} {S' : Nat → Prop} : ∀ (ds : List D) {objs : List Obj} {gs : List G1} {om : Nat → Option (Nat × Bool)} {vs F as objs'}, RelM B w S objs gs om → RelL w S' (fun _ => False) ds vs F → ds.all D.noRo = true → F.Nodup →
    (∀ b ∈ F, B ≤ b ∧ b < w.heap.size ∧ om b = some (R, true)) → impAs objs ds = some (as, objs') → objs'.length ≤ R →
    ∃ gs' om', RelM B w S objs' gs' om' ∧ Ext B w gs om w gs' om' ∧ RelVs w S (Inner B w om') gs' as vs ∧ ∀ b, b ∉ F → om' b = om b
 | [], objs, gs, om, vs, F, as, objs', hM, hd, hr, hnd, hF, h, hR => by
  simp only [impAs, Option.some.injEq, Prod.mk.injEq] at h; obtain ⟨rfl, rfl⟩ := h
  cases hd
  exact ⟨gs, om, hM, .refl .., .nil, fun _ _ => rfl⟩
 | d :: ds, objs, gs, om, vs, F, as, objs', hM, hd, hr, hnd, hF, h, hR => by
  simp only [impAs] at h
  split at h
  · rename_i a1 o1 h1
    split at h
    · rename_i as2 o2 h2
      simp only [Option.some.injEq, Prod.mk.injEq] at h; obtain ⟨rfl, rfl⟩ := h
      simp only [List.all_cons, Bool.and_eq_true] at hr
      cases hd with
      | @cons _ v F1 _ vs F2 hd ht =>
       obtain ⟨n1, n2, n3⟩ := List.nodup_append.1 hnd
       obtain ⟨gs1, om1, b1, b2, b3, b4⟩ := imp_rel d hM hd hr.1 n1 (fun b hb => hF b (by simp [hb])) h1 (Nat.le_trans (impAs_len ds h2) hR)
       obtain ⟨gs2, om2, c1, c2, c3, c4⟩ := imps_rel ds b1 ht hr.2 n2 (fun b hb => by
         rw [b4 b (fun h => n3 b h b hb rfl)]; exact hF b (by simp [hb])) h2 hR
       exact ⟨gs2, om2, c1, b2.trans c2, .cons (b1.relV c2 b3) c3, fun b hb => by
         simp only [List.mem_append, not_or] at hb
         rw [c4 b hb.2, b4 b hb.1]⟩
    · cases h
  · cases h
end

theorem call_rel (hM : RelM B w S objs gs om) {S' : Nat → Prop} {w' : World} {r : D} {v F} (hd : RelD w' S' (fun _ => False) r v F) (hnd : F.Nodup) (hF : ∀ b ∈ F, w.heap.size ≤ b ∧ b < w'.heap.size) (hb : Below w.heap.size w w')
    (hr : r.noRo = true) {a objs'} (h : impA objs r = some (a, objs')) : ∃ gs' om', RelM B w' S objs' gs' om' ∧ Ext B w gs om w' gs' om' ∧ RelV w' S (Inner B w' om') gs' a v := by
 obtain ⟨om0, hom⟩ : ∃ om0 : Nat → Option (Nat × Bool), om0 = fun b => if b < w.heap.size then om b else some (objs'.length, true) := ⟨_, rfl⟩
 have e0 : Ext B w gs om w' gs om0 := .grow List.prefix_rfl hb hM.hB (fun b hlt => by rw [hom]; simp [hlt])
 have m0 : RelM B w' S objs gs om0 := hM.step e0 hM.len fun r' o ho => .inl ⟨ho, fun b c hbc hlt => ⟨by rw [hom]; simp [hlt, hbc], hb.block b hlt⟩⟩
 obtain ⟨gs', om', a1, a2, a3, _⟩ := imp_rel (R := objs'.length) r m0 hd hr hnd (fun b hb' => ⟨Nat.le_trans hM.hB (hF b hb').1, (hF b hb').2, by rw [hom]; simp; intro h; have := (hF b hb').1; omega⟩) h (Nat.le_refl _)
 exact ⟨gs', om', a1, e0.trans a2, a3⟩

end
end Go.Awp

/- The walk over abstract states: its rules. Lemmas alone. -/
namespace Go.Awp
open Go.RowKit Go.Lib

structure RelF (n : Nat) (s : Nat → AV) (a : Act) (w : World) (S N : Nat → Prop) (gs : List G1) : Prop where
 size : a.tmps.size = n
 defers : a.defers = []
 rel : ∀ i, RelV w S N gs (s i) (a.tmps.getD i undef)

def upd (s : Nat → AV) (d : Nat) (v : AV) : Nat → AV := fun i => if i = d then v else s i

def putA (n : Nat) (s : Nat → AV) : Option Tmp → AV → Option (Nat → AV)
 | none, _ => some s
 | some d, v => if d < n then some (upd s d v) else none

structure Fl where
 n : Nat
 keep : Bool

structure ExtW (fl : Fl) (B : Nat) (w : World) (gs : List G1) (om : Nat → Option (Nat × Bool)) (w' : World) (gs' : List G1) (om' : Nat → Option (Nat × Bool)) : Prop where
 gs : gs.take fl.n <+: gs'
 below : Below B w w'
 inner : fl.keep = true → ∀ b, Inner B w om b → Inner B w' om' b ∧ w'.heap[b]? = w.heap[b]?

abbrev Qt := Exit → (Nat → AV) → List Obj → Prop

def Post (B : Nat) (S : Nat → Prop) (n : Nat) (fl : Fl) (w : World) (gs : List G1) (om : Nat → Option (Nat × Bool)) (Q : Qt) (e : Exit) (a' : Act) (w' : World) : Prop :=
 ∃ s' objs' gs' om', Q e s' objs' ∧ RelM B w' S objs' gs' om' ∧ RelF n s' a' w' S (Inner B w' om') gs' ∧ ExtW fl B w gs om w' gs' om'

def W (P : Program) (g : Gl) (B : Nat) (S : Nat → Prop) (n : Nat) (fl : Fl) (c : Code) (s : Nat → AV) (objs : List Obj) (Q : Qt) : Prop :=
 ∀ a w gs om, g.G w → g.N ≤ B → RelM B w S objs gs om → RelF n s a w S (Inner B w om) gs → fl.n ≤ objs.length → c.wp P (Post B S n fl w gs om Q) a w

def WR (P : Program) (g : Gl) (B : Nat) (S : Nat → Prop) (n : Nat) (fl : Fl) (ops : Array Oper) (l : List Nat) (s : Nat → AV) (objs : List Obj) (Q : Qt) : Prop :=
 ∀ a w gs om, g.G w → g.N ≤ B → RelM B w S objs gs om → RelF n s a w S (Inner B w om) gs → fl.n ≤ objs.length → wpOps P ops (Post B S n fl w gs om Q) l a w

def Then (P : Program) (g : Gl) (B : Nat) (S : Nat → Prop) (n : Nat) (fl : Fl) (c : Code) (Q : Qt) : Qt := fun e s objs => match e with
 | .normal => fl.n ≤ objs.length → W P g B S n fl c s objs Q
 | e => Q e s objs

def InBlk (id : Nat) (Q : Qt) : Qt := fun e s objs => match e with
 | .exit j => if j = id then Q .normal s objs else Q (.exit j) s objs
 | e => Q e s objs

section
variable {P : Program} {g : Gl} {B : Nat} {S : Nat → Prop} {n : Nat} {fl : Fl} {w : World} {gs : List G1} {om : Nat → Option (Nat × Bool)} {s : Nat → AV} {objs : List Obj} {Q : Qt}

theorem Ext.take (h : Ext B w gs om w gs om) : ExtW fl B w gs om w gs om := ⟨List.take_prefix _ _, h.below, fun _ => h.inner⟩

theorem ExtW.cutTrans {w1 gs1 om1 w2 gs2 om2} (h : ExtW fl B w gs om w1 gs1 om1) (k : ExtW fl B w1 gs1 om1 w2 gs2 om2) (hl : fl.n ≤ gs.length) : ExtW fl B w gs om w2 gs2 om2 := by
 refine ⟨?_, h.below.trans k.below, fun hk b hb => ⟨(k.inner hk b (h.inner hk b hb).1).1, (k.inner hk b (h.inner hk b hb).1).2.trans (h.inner hk b hb).2⟩⟩
 have e : gs1.take fl.n = gs.take fl.n := by
  obtain ⟨t, ht⟩ := h.gs
  rw [← ht, List.take_append_of_le_length (by simp; omega), List.take_take]; simp
 rw [← e]; exact k.gs

theorem Ext.ofFull {w1 gs1 om1} (h : Ext B w gs om w1 gs1 om1) : ExtW fl B w gs om w1 gs1 om1 := ⟨(List.take_prefix _ _).trans h.gs, h.below, fun _ => h.inner⟩

theorem Post.trans {w1 gs1 om1 e a w2} (h : ExtW fl B w gs om w1 gs1 om1) (hl : fl.n ≤ gs.length) (k : Post B S n fl w1 gs1 om1 Q e a w2) : Post B S n fl w gs om Q e a w2 := by
 obtain ⟨s', o', g', m', q, r1, r2, x⟩ := k
 exact ⟨s', o', g', m', q, r1, r2, h.cutTrans x hl⟩

theorem Post.mono {Q' : Qt} {e a w2} (h : Post B S n fl w gs om Q e a w2) (hq : ∀ s o, Q e s o → Q' e s o) : Post B S n fl w gs om Q' e a w2 := by
 obtain ⟨s', o', g', m', q, r⟩ := h
 exact ⟨s', o', g', m', hq _ _ q, r⟩

theorem keepG (hG : g.G w) (hN : g.N ≤ B) {w'} (h : Below B w w') : g.G w' := g.st w w' hG (h.mono hN)

theorem ExtW.len {w1 gs1 om1} (h : ExtW fl B w gs om w1 gs1 om1) (hl : fl.n ≤ gs.length) : fl.n ≤ gs1.length := by
 obtain ⟨t, ht⟩ := h.gs
 rw [← ht]; simp; omega

theorem W.mono {c Q'} (h : W P g B S n fl c s objs Q) (hq : ∀ e s o, Q e s o → Q' e s o) : W P g B S n fl c s objs Q' := fun a w gs om h1 h2 h3 h4 h5 =>
 wp_mono (h a w gs om h1 h2 h3 h4 h5) fun e a w h => h.mono (hq e)

theorem W_skip (h : Q .normal s objs) : W P g B S n fl .skip s objs Q := fun a w gs om h1 h2 h3 h4 h5 => wp_skip ⟨s, objs, gs, om, h, h3, h4, (Ext.refl ..).take⟩
theorem W_exit {id} (h : Q (.exit id) s objs) : W P g B S n fl (.exit id) s objs Q := fun a w gs om h1 h2 h3 h4 h5 => wp_exit ⟨s, objs, gs, om, h, h3, h4, (Ext.refl ..).take⟩
theorem W_ret (h : Q .ret s objs) : W P g B S n fl .ret s objs Q := fun a w gs om h1 h2 h3 h4 h5 => wp_ret ⟨s, objs, gs, om, h, h3, h4, (Ext.refl ..).take⟩

theorem Post.then {w1 : World} {c : Code} {e a} (hG : g.G w) (hN : g.N ≤ B) (hl : fl.n ≤ gs.length) (h : Post B S n fl w gs om (Then P g B S n fl c Q) e a w1) :
    Exit.then (c.wp P (Post B S n fl w gs om Q)) (Post B S n fl w gs om Q) e a w1 := by
 obtain ⟨s', o', g', m', q, r1, r2, x⟩ := h
 cases e with
 | normal => exact wp_mono (q (by rw [← r1.len]; exact x.len hl) a w1 g' m' (keepG hG hN x.below) hN r1 r2 (by rw [← r1.len]; exact x.len hl)) fun e a w2 h => h.trans x hl
 | _ => exact ⟨s', o', g', m', q, r1, r2, x⟩

theorem W_seq {c d} (h : W P g B S n fl c s objs (Then P g B S n fl d Q)) : W P g B S n fl (.seq c d) s objs Q := fun a w gs om h1 h2 h3 h4 h5 =>
 wp_seq (wp_mono (h a w gs om h1 h2 h3 h4 h5) fun e a w h => h.then h1 h2 (by rw [h3.len]; exact h5))

theorem W_block {id c} (h : W P g B S n fl c s objs (InBlk id Q)) : W P g B S n fl (.block id c) s objs Q := fun a w gs om h1 h2 h3 h4 h5 =>
 wp_block (wp_mono (h a w gs om h1 h2 h3 h4 h5) fun e a w h => by
   obtain ⟨s', o', g', m', q, r1, r2, x⟩ := h
   cases e with
   | exit j =>
     simp only [InBlk] at q
     simp only [Exit.inBlock]
     split
     · rename_i hj; rw [if_pos hj] at q; exact ⟨s', o', g', m', q, r1, r2, x⟩
     · rename_i hj; rw [if_neg hj] at q; exact ⟨s', o', g', m', q, r1, r2, x⟩
   | _ => exact ⟨s', o', g', m', q, r1, r2, x⟩)

theorem wp_loop_idx {c : Code} {Q : Exit → Act → World → Prop} {a : Act} {w : World} (I : Nat → Act → World → Prop) (n0 : Nat) (h₀ : I n0 a w)
    (round : ∀ n a w, I n a w → c.wp P (Exit.then (fun a' w' => ∃ m, m < n ∧ I m a' w') Q) a w) : (Code.loop c).wp P Q a w := by
 intro b k cs
 have key : ∀ n a w, I n a w → ∃ e a' w', Q e a' w' ∧ Arrives P (lone (b.at a (.code c :: .inLoop c :: k)) cs w) b k cs e a' w' := by
  intro n
  induction n using Nat.strongRecOn with
  | _ n ih =>
   intro a w hI
   obtain ⟨e, a₁, w₁, hq, harr⟩ := round n a w hI b (.inLoop c :: k) cs
   cases e with
   | normal =>
    obtain ⟨m, hlt, hI₁⟩ := hq
    obtain ⟨e₂, a₂, w₂, hq₂, harr₂⟩ := ih m hlt a₁ w₁ hI₁
    exact ⟨e₂, a₂, w₂, hq₂, .of_steps (Steps.trans harr (.one step_inLoop)) harr₂⟩
   | exit id => exact ⟨_, a₁, w₁, hq, .pass (x := .inLoop c) rfl (fun _ _ => .inl (by simp)) harr⟩
   | goto l => exact ⟨_, a₁, w₁, hq, .pass (x := .inLoop c) rfl (fun _ _ => .inl (by simp)) harr⟩
   | ret => exact ⟨_, a₁, w₁, hq, .pass (x := .inLoop c) rfl (fun _ _ => .inl (by simp)) harr⟩
   | panic ch => exact ⟨_, a₁, w₁, hq, .pass (x := .inLoop c) rfl (fun _ _ => .inl (by simp)) harr⟩
   | outgrown => exact ⟨_, a₁, w₁, hq, .pass (x := .inLoop c) rfl (fun _ _ => .inl (by simp)) harr⟩
 obtain ⟨e, a', w', hq, harr⟩ := key _ a w h₀
 exact ⟨e, a', w', hq, .of_steps (.one step_loop) harr⟩

def Weak (B : Nat) (S : Nat → Prop) (n : Nat) (fl : Fl) (s : Nat → AV) (objs : List Obj) (s2 : Nat → AV) (objs2 : List Obj) : Prop :=
 ∀ w a gs om, RelM B w S objs gs om → RelF n s a w S (Inner B w om) gs → fl.n ≤ objs.length → ∃ gs2 om2, RelM B w S objs2 gs2 om2 ∧ RelF n s2 a w S (Inner B w om2) gs2 ∧ ExtW fl B w gs om w gs2 om2

theorem Weak.refl : Weak B S n fl s objs s objs := fun w a gs om h1 h2 _ => ⟨gs, om, h1, h2, (Ext.refl ..).take⟩

theorem W_weak {c s2 objs2} (hw : Weak B S n fl s objs s2 objs2) (h : W P g B S n fl c s2 objs2 Q) : W P g B S n fl c s objs Q := fun a w gs om h1 h2 h3 h4 h5 => by
 obtain ⟨gs2, om2, m, f, x⟩ := hw w a gs om h3 h4 h5
 have hl : fl.n ≤ gs.length := by rw [h3.len]; exact h5
 exact wp_mono (h a w gs2 om2 h1 h2 m f (by rw [← m.len]; exact x.len hl)) fun e a w' h => h.trans x hl

theorem W_loop {c} (I : Nat → (Nat → AV) → List Obj → Prop) (m0 : Nat) {s0 objs0} (hw : Weak B S n fl s objs s0 objs0) (h0 : I m0 s0 objs0)
    (round : ∀ m s objs, I m s objs → fl.n ≤ objs.length → W P g B S n fl c s objs (fun e s' o' => match e with
      | .normal => ∃ m', m' < m ∧ ∃ s2 o2, Weak B S n fl s' o' s2 o2 ∧ I m' s2 o2
      | e => Q e s' o')) : W P g B S n fl (.loop c) s objs Q := by
 refine W_weak hw fun a w gs om h1 h2 h3 h4 h5 => ?_
 have hl : fl.n ≤ gs.length := by rw [h3.len]; exact h5
 refine wp_loop_idx (fun m a' w' => ∃ s' o' gs' om', I m s' o' ∧ RelM B w' S o' gs' om' ∧ RelF n s' a' w' S (Inner B w' om') gs' ∧ ExtW fl B w gs om w' gs' om') m0 ⟨s0, objs0, gs, om, h0, h3, h4, (Ext.refl ..).take⟩ ?_
 rintro m a' w' ⟨s', o', gs', om', hI, m1, f1, x1⟩
 have hl1 : fl.n ≤ o'.length := by rw [← m1.len]; exact x1.len hl
 refine wp_mono (round m s' o' hI hl1 a' w' gs' om' (keepG h1 h2 x1.below) h2 m1 f1 hl1) fun e a2 w2 h => ?_
 have h := h.trans x1 hl
 obtain ⟨s2, o2, gs2, om2, q, m2, f2, x2⟩ := h
 cases e with
 | normal =>
  obtain ⟨m', hlt, s3, o3, hw3, hI3⟩ := q
  obtain ⟨gs3, om3, m3, f3, x3⟩ := hw3 w2 a2 gs2 om2 m2 f2 (by rw [← m2.len]; exact x2.len hl)
  exact ⟨m', hlt, s3, o3, gs3, om3, hI3, m3, f3, x2.cutTrans x3 hl⟩
 | _ => exact ⟨s2, o2, gs2, om2, q, m2, f2, x2⟩

theorem W_cond {c : Operand} {x y : Code} {t : Bool} (hc : evalA s c = .d (.v (.bool t))) (h1 : t = true → W P g B S n fl x s objs Q) (h2 : t = false → W P g B S n fl y s objs Q) : W P g B S n fl (.cond c x y) s objs Q := by
 intro a w gs om g1 g2 g3 g4 g5
 have hr : RelV w S (Inner B w om) gs (evalA s c) (a.eval c) := by
  cases c with
  | tmp t => exact g4.rel t
  | const v => exact constA_rel v
  | global _ => exact .dead
  | func f => exact .fn .nil .nil
 rw [hc] at hr
 exact wp_cond_split (rel_prim hr) (fun ht => h1 ht a w gs om g1 g2 g3 g4 g5) (fun ht => h2 ht a w gs om g1 g2 g3 g4 g5)

theorem evalA_rel {a : Act} {N : Nat → Prop} (h : RelF n s a w S N gs) (x : Operand) : RelV w S N gs (evalA s x) (a.eval x) := by
 cases x with
 | tmp t => exact h.rel t
 | const v => exact constA_rel v
 | global _ => exact .dead
 | func f => exact .fn .nil .nil

theorem RelF.put {a : Act} {N : Nat → Prop} (h : RelF n s a w S N gs) {d : Option Tmp} {av v s'} (hv : RelV w S N gs av v) (hp : putA n s d av = some s') : RelF n s' (a.put d v) w S N gs := by
 cases d with
 | none => simp only [putA, Option.some.injEq] at hp; subst hp; exact h
 | some d =>
  simp only [putA] at hp
  split at hp
  · rename_i hd
    simp only [Option.some.injEq] at hp; subst hp
    refine ⟨by simp [Act.put, h.size], h.defers, fun i => ?_⟩
    simp only [upd, Act.put]
    by_cases hi : i = d
    · subst hi
      rw [if_pos rfl]
      have : (a.tmps.setIfInBounds i v).getD i undef = v := by
       rw [Array.getD_eq_getD_getElem?]; simp [h.size, hd]
      rw [this]; exact hv
    · rw [if_neg hi]
      have : (a.tmps.setIfInBounds d v).getD i undef = a.tmps.getD i undef := by
       rw [Array.getD_eq_getD_getElem?, Array.getD_eq_getD_getElem?, Array.getElem?_setIfInBounds_ne (fun e => hi e.symm)]
      rw [this]; exact h.rel i
  · cases hp

def gA (ops : Array Oper) (s : Nat → AV) (o : Oper) : Option Bool := match o.guard with
 | none => some true
 | some (j, want) => match (ops[j]?).bind (·.dst) with
  | none => some false
  | some d => match s d with
   | .d (.v (.bool b)) => some (b == want)
   | .tup [] => some false
   | _ => none

theorem gA_sound {a : Act} {N : Nat → Prop} (h : RelF n s a w S N gs) {ops : Array Oper} {o : Oper} {b} (hg : gA ops s o = some b) : Region.wanted o (yielded ops a.tmps) = b := by
 unfold gA at hg
 unfold Region.wanted
 split at hg
 · rename_i hgd; simp at hg; subst hg; simp [hgd]
 · rename_i j want hgd
   rw [hgd]
   simp only
   unfold yielded
   split at hg
   · rename_i hd
     simp at hg; subst hg
     simp [hd]
   · rename_i d hd
     rw [hd]
     have hr := h.rel d
     simp only [Option.bind_some]
     cases ht : a.tmps[d]? with
     | none =>
      have hu : a.tmps.getD d undef = undef := by
       rw [Array.getD_eq_getD_getElem?, ht]; rfl
      rw [hu] at hr
      split at hg
      · rename_i hs; rw [hs] at hr; have := rel_prim hr; simp [undef] at this
      · simp at hg; subst hg; simp
      · cases hg
     | some v =>
      have hu : a.tmps.getD d undef = v := by rw [Array.getD_eq_getD_getElem?, ht]; rfl
      rw [hu] at hr
      split at hg
      · rename_i b' hs
        rw [hs] at hr
        have := rel_prim hr
        subst this
        simp at hg; subst hg; simp
      · rename_i hs
        rw [hs] at hr
        simp at hg; subst hg
        cases hr with | tup hr => cases hr; simp
      · cases hg

theorem WR_nil {ops} (h : Q .normal s objs) : WR P g B S n fl ops [] s objs Q := fun a w gs om h1 h2 h3 h4 h5 => ⟨s, objs, gs, om, h, h3, h4, (Ext.refl ..).take⟩

theorem upon_mono {o : Oper} {a : Act} {K K' : Act → World → Prop} {R R' : Exit → Act → World → Prop} (hK : ∀ a w, K a w → K' a w) (hR : ∀ e a w, R e a w → R' e a w) {r : Result Next} (h : o.upon P a K R r) : o.upon P a K' R' r := by
 cases r with
 | ok n w' =>
  cases n <;> simp only [Oper.upon] at h ⊢ <;> first
   | exact hK _ _ h
   | (exact h.elim)
   | (refine h.mono fun e w'' he => ?_
      cases e with
      | returned v => exact hK _ _ he
      | panicked ch => exact hR _ _ _ he
      | outgrown => obtain ⟨a, w, q⟩ := he; exact ⟨a, w, hR _ _ _ q⟩)
   | exact h.mono fun v w'' he => hK _ _ he
 | halt x w' =>
  cases x <;> simp only [Oper.upon] at h ⊢ <;> first | exact hR _ _ _ h | exact h.elim

theorem wpOps_mono {ops : Array Oper} {R R' : Exit → Act → World → Prop} : ∀ {l : List Nat} {a : Act} {w : World}, wpOps P ops R l a w → (∀ e a w, R e a w → R' e a w) → wpOps P ops R' l a w
 | [], a, w, h, hR => hR _ _ _ h
 | i :: l, a, w, h, hR => by
  simp only [wpOps] at h ⊢
  split
  · rename_i ho; simp only [ho] at h; exact wpOps_mono h hR
  · rename_i o ho
    simp only [ho] at h
    split
    · rename_i hw
      rw [if_pos hw] at h
      rcases h with h | ⟨h1, a', w', q⟩
      · exact .inl (upon_mono (fun _ _ h => wpOps_mono h hR) hR h)
      · exact .inr ⟨h1, a', w', hR _ _ _ q⟩
    · rename_i hw
      rw [if_neg hw] at h
      exact wpOps_mono h hR

theorem WR_op {ops : Array Oper} {i l} {o : Oper} {av objs' s'} (ho : ops[i]? = some o) (hg : gA ops s o = some true) (h : opA P (evalA s) objs o.op = some (av, objs')) (hp : putA n s o.dst av = some s')
    (hk : WR P g B S n fl ops l s' objs' Q) : WR P g B S n fl ops (i :: l) s objs Q := fun a w gs om h1 h2 h3 h4 h5 => by
 have hl : fl.n ≤ gs.length := by rw [h3.len]; exact h5
 simp only [wpOps, ho]
 rw [if_pos (gA_sound h4 hg)]
 left
 obtain ⟨nx, w', gs', om', r1, r2, r3, r4⟩ := op_sound (o := o) h3 (evalA_rel h4) h
 have h4' : ∀ d v, RelV w' S (Inner B w' om') gs' d v → putA n s o.dst d = some s' → RelF n s' (a.put o.dst v) w' S (Inner B w' om') gs' := fun d v hv hp =>
  RelF.put ⟨h4.size, h4.defers, fun i => h3.relV r2 (h4.rel i)⟩ hv hp
 have fin : ∀ v, RelV w' S (Inner B w' om') gs' av v → wpOps P ops (Post B S n fl w gs om Q) l (a.put o.dst v) w' := by
  intro v hv
  have := hk _ w' gs' om' (keepG h1 h2 r2.below) h2 r3 (h4' av v hv hp) (by rw [← r3.len]; exact r2.ofFull.len hl)
  exact wpOps_mono this fun e a w2 h => h.trans r2.ofFull hl
 unfold Oper.wp
 rw [show (execOp a.eval o).run P w = .ok nx w' from r1]
 rcases r4 with ⟨v, rfl, hv⟩ | ⟨rfl, rfl⟩
 · exact fin v hv
 · exact fin undef (.tup .nil)

theorem WR_skip {ops : Array Oper} {i l} {o : Oper} {s'} (ho : ops[i]? = some o) (hg : gA ops s o = some false) (hp : putA n s o.dst (.tup []) = some s')
    (hk : WR P g B S n fl ops l s' objs Q) : WR P g B S n fl ops (i :: l) s objs Q := fun a w gs om h1 h2 h3 h4 h5 => by
 simp only [wpOps, ho]
 rw [if_neg (by rw [gA_sound h4 hg]; simp)]
 exact hk _ w gs om h1 h2 h3 (h4.put (v := undef) (.tup .nil) hp) h5

theorem W_region {id ops l} (hl : List.range ops.size = l) (h : WR P g B S n fl ops l s objs Q) : W P g B S n fl (.region id ops false) s objs Q := fun a w gs om h1 h2 h3 h4 h5 =>
 wp_region (by rw [hl]; exact h a w gs om h1 h2 h3 h4 h5)

end
end Go.Awp

/- The walk over abstract states: calls; contracts out of walks. Lemmas alone. -/
namespace Go.Awp
open Go.RowKit Go.Lib

def Enters (P : Program) (f : FuncId) : Prop := ∃ fn, P.funcs[f]? = some fn ∧ (fn.name == "runtime.NumGoroutine") = false ∧ fn.body.isNone = false

structure Ct (P : Program) (g : Gl) (f : FuncId) (spec : List D → Option D) : Prop where
 enters : Enters P f
 sound : Sound P g f spec

def kindsOf (P : Program) (ts : List TypeId) : List (Option Nat) := ts.flatMap (kinds P 6)

def calleeA (ρ : Operand → AV) (c : Call) : Option (FuncId × List AV) := match c.callee with
 | .value f => match ρ f with
  | .fn (.func g) first caps => some (g, first ++ c.args.toList.map ρ ++ caps)
  | _ => none
 | _ => none

def CallsA (P : Program) (g : Gl) (B : Nat) (S : Nat → Prop) (fl : Fl) (f : FuncId) (as : List AV) (objs : List Obj) (K : AV → List Obj → Prop) : Prop :=
 ∀ vs w gs om, g.G w → g.N ≤ B → RelM B w S objs gs om → RelVs w S (Inner B w om) gs as vs → fl.n ≤ objs.length →
  Calls P f vs.toArray w fun e w' => ∃ v av objs' gs' om', e = .returned v ∧ K av objs' ∧ RelM B w' S objs' gs' om' ∧ RelV w' S (Inner B w' om') gs' av v ∧ ExtW fl B w gs om w' gs' om'

section
variable {P : Program} {g : Gl} {B : Nat} {S : Nat → Prop} {n : Nat} {fl : Fl} {w : World} {gs : List G1} {om : Nat → Option (Nat × Bool)} {s : Nat → AV} {objs : List Obj} {Q : Qt}

theorem callee_run {ρ : Operand → AV} {ε : Operand → Value} {N : Nat → Prop} (hr : ∀ x, RelV w S N gs (ρ x) (ε x)) {o : Oper} {c : Call} (ho : o.op = .call c) {f as} (h : calleeA ρ c = some (f, as)) (hE : Enters P f) :
    ∃ vs : List Value, RelVs w S N gs as vs ∧ (execOp ε o).run P w = .ok (.enter f vs.toArray) w := by
 unfold calleeA at h
 split at h
 · rename_i fo hc
   have hf := hr fo
   split at h
   · rename_i g' first caps hρ
     simp only [Option.some.injEq, Prod.mk.injEq] at h; obtain ⟨rfl, rfl⟩ := h
     rw [hρ] at hf
     generalize hv : ε fo = v at hf
     cases hf with
     | @fn _ _ _ vs us h1 h2 =>
      obtain ⟨fn, e1, e2, e3⟩ := hE
      refine ⟨vs ++ c.args.toList.map ε ++ us, (h1.append (RelVs.of hr)).append h2, ?_⟩
      obtain ⟨callee, args, argTypes⟩ := c
      simp only at hc; subst hc
      simp only [execOp, ho, resolve, hv, Deferred.ofValue, Sem.run_bind, Sem.run_pure, Result.andThen_ok, invoke, callFunc, run_program, e1, e2, e3, Bool.false_eq_true, if_false]
      congr 2
      apply Array.ext'; simp
   · cases h
 · cases h

theorem WR_inline {ops : Array Oper} {i l} {o : Oper} {c : Call} {f as} (ho : ops[i]? = some o) (hg : gA ops s o = some true) (hc : o.op = .call c) (h : calleeA (evalA s) c = some (f, as)) (hE : Enters P f)
    (hk : CallsA P g B S ⟨objs.length, true⟩ f as objs fun av objs' => ∃ s', putA n s o.dst av = some s' ∧ (fl.n ≤ objs'.length → WR P g B S n fl ops l s' objs' Q)) : WR P g B S n fl ops (i :: l) s objs Q := fun a w gs om h1 h2 h3 h4 h5 => by
 have hl : fl.n ≤ gs.length := by rw [h3.len]; exact h5
 simp only [wpOps, ho]
 rw [if_pos (gA_sound h4 hg)]
 left
 obtain ⟨vs, hvs, hrun⟩ := callee_run (P := P) (o := o) (evalA_rel h4) hc h hE
 unfold Oper.wp
 rw [hrun]
 simp only [Oper.upon]
 refine (hk vs w gs om h1 h2 h3 hvs (Nat.le_refl _)).mono ?_
 rintro e w' ⟨v, av, objs', gs', om', rfl, ⟨s', hp, hk⟩, m, hv, x⟩
 have x : Ext B w gs om w' gs' om' := ⟨by have := x.gs; rwa [← h3.len, List.take_length] at this, x.below, x.inner rfl⟩
 have := hk (by rw [← m.len]; exact x.ofFull.len hl) _ w' gs' om' (keepG h1 h2 x.below) h2 m (RelF.put ⟨h4.size, h4.defers, fun i => h3.relV x (h4.rel i)⟩ hv hp) (by rw [← m.len]; exact x.ofFull.len hl)
 exact wpOps_mono this fun e a w2 h => h.trans x.ofFull hl

theorem WR_call {ops : Array Oper} {i l} {o : Oper} {c : Call} {f as spec ds q r av objs' s'} (ho : ops[i]? = some o) (hg : gA ops s o = some true) (hc : o.op = .call c) (h : calleeA (evalA s) c = some (f, as)) (hct : Ct P g f spec)
    (he : expAs objs (kindsOf P c.argTypes.toList) as = some (ds, q)) (hr : spec ds = some r) (hno : r.noRo = true) (hi : impA objs r = some (av, objs')) (hp : putA n s o.dst av = some s')
    (hk : WR P g B S n fl ops l s' objs' Q) : WR P g B S n fl ops (i :: l) s objs Q := fun a w gs om h1 h2 h3 h4 h5 => by
 have hl : fl.n ≤ gs.length := by rw [h3.len]; exact h5
 simp only [wpOps, ho]
 rw [if_pos (gA_sound h4 hg)]
 left
 obtain ⟨vs, hvs, hrun⟩ := callee_run (P := P) (o := o) (evalA_rel h4) hc h hct.enters
 unfold Oper.wp
 rw [hrun]
 simp only [Oper.upon]
 refine (hct.sound w vs (Seen S B w om) ds r h1 (Nat.le_trans h2 h3.hB) (fun b hb => hb.elim (fun h => Nat.lt_of_lt_of_le (h3.hS b h) h3.hB) (·.2)) (exps_rel h3 hvs he) hr).mono ?_
 rintro e w' ⟨v, F, rfl, hd, hnd, hF, hb⟩
 obtain ⟨gs', om', m, x, hv⟩ := call_rel h3 hd hnd hF hb hno hi
 have := hk _ w' gs' om' (keepG h1 h2 x.below) h2 m (RelF.put ⟨h4.size, h4.defers, fun i => h3.relV x (h4.rel i)⟩ hv hp) (by rw [← m.len]; exact x.ofFull.len hl)
 exact wpOps_mono this fun e a w2 h => h.trans x.ofFull hl

def resA (P : Program) (s : Nat → AV) (objs : List Obj) : ResultVar → Option AV
 | .tmp t => some (s t)
 | .cell a t => match s a with
  | .ptr r i j => (loadA P objs t (.ptr r i j)).map (·.1)
  | .rp cs j => (loadA P objs t (.rp cs j)).map (·.1)
  | _ => none

def ressA (P : Program) (s : Nat → AV) (objs : List Obj) : List ResultVar → Option (List AV)
 | [] => some []
 | r :: rs => match resA P s objs r, ressA P s objs rs with
  | some a, some as => some (a :: as)
  | _, _ => none

def rv (tmps : Array Value) : ResultVar → Sem Value
 | .tmp t => pure (tmps.getD t undef)
 | .cell x t => do loadVar t (← asAddr (tmps.getD x undef))

theorem results_rv (fn : Func) (tmps : Array Value) : results fn tmps = (do
    let vs ← fn.results.mapM (rv tmps)
    pure (if h : vs.size = 1 then vs[0] else .tuple vs)) := by
 have : rv tmps = fun (r : ResultVar) => rv tmps r := rfl
 unfold results
 congr 2

def tupA : List AV → AV
 | [a] => a
 | as => .tup as

theorem res_sound {a : Act} (hM : RelM B w S objs gs om) (hF : RelF n s a w S (Inner B w om) gs) {r : ResultVar} {av} (h : resA P s objs r = some av) :
    ∃ v, (rv a.tmps r).run P w = .ok v w ∧ RelV w S (Inner B w om) gs av v := by
 cases r with
 | tmp t => simp only [resA, Option.some.injEq] at h; subst h; exact ⟨_, rfl, hF.rel t⟩
 | cell x t =>
  simp only [resA] at h
  have hx := hF.rel x
  show ∃ v, (do loadVar t (← asAddr (a.tmps.getD x undef)) : Sem Value).run P w = .ok v w ∧ RelV w S (Inner B w om) gs av v
  have key : ∀ {av'}, (loadA P objs t (s x)).map (·.1) = some av' → (∃ ad, a.tmps.getD x undef = .pointer (some ad)) → ∃ v, (do loadVar t (← asAddr (a.tmps.getD x undef)) : Sem Value).run P w = .ok v w ∧ RelV w S (Inner B w om) gs av' v := by
   rintro av' h ⟨ad, had⟩
   obtain ⟨⟨a1, o1⟩, h1, rfl⟩ := Option.map_eq_some_iff.1 h
   obtain ⟨v, h2, h3, _⟩ := load_sound hM hx h1
   refine ⟨v, ?_, h3⟩
   rw [had] at h2 ⊢
   simpa [Instr.loadAt, Instr.sureAddr, asAddr] using h2
  split at h
  · rename_i r i j hs
    rw [← hs] at h
    rw [hs] at hx
    generalize a.tmps.getD x undef = v at hx key
    cases hx with | ptr hg hb => exact key h ⟨_, rfl⟩
  · rename_i cs j hs
    rw [← hs] at h
    rw [hs] at hx
    generalize a.tmps.getD x undef = v at hx key
    cases hx with | rp => exact key h ⟨_, rfl⟩
  · cases h

theorem ress_sound {a : Act} (hM : RelM B w S objs gs om) (hF : RelF n s a w S (Inner B w om) gs) : ∀ {rs : List ResultVar} {as}, ressA P s objs rs = some as →
    ∃ vs : List Value, (rs.mapM (rv a.tmps)).run P w = .ok vs w ∧ RelVs w S (Inner B w om) gs as vs
 | [], as, h => by simp only [ressA, Option.some.injEq] at h; subst h; exact ⟨[], by simp, .nil⟩
 | r :: rs, as, h => by
  simp only [ressA] at h
  split at h
  · rename_i a1 as1 h1 h2
    simp only [Option.some.injEq] at h; subst h
    obtain ⟨v, g1, g2⟩ := res_sound hM hF h1
    obtain ⟨vs, g3, g4⟩ := ress_sound hM hF h2
    refine ⟨v :: vs, ?_, .cons g2 g4⟩
    rw [List.mapM_cons]
    simp only [Sem.run_bind]
    rw [g1]
    simp only [Result.andThen_ok, g3, Sem.run_pure]
  · cases h

theorem results_sound {a : Act} (hM : RelM B w S objs gs om) (hF : RelF n s a w S (Inner B w om) gs) {fn : Func} {as} (h : ressA P s objs fn.results.toList = some as) :
    ∃ v, (results fn a.tmps).run P w = .ok v w ∧ RelV w S (Inner B w om) gs (tupA as) v := by
 obtain ⟨vs, h1, h2⟩ := ress_sound hM hF h
 have hm : (fn.results.mapM (rv a.tmps)).run P w = .ok vs.toArray w := by
  rw [Array.mapM_eq_mapM_toList]
  simp only [Sem.run_map]
  rw [h1]; rfl
 rw [results_rv]
 simp only [Sem.run_bind]
 rw [hm]
 simp only [Result.andThen_ok, Sem.run_pure]
 cases h2 with
 | nil => exact ⟨_, rfl, by simpa [tupA] using RelV.tup RelVs.nil⟩
 | cons k1 k2 =>
  cases k2 with
  | nil => exact ⟨_, rfl, by simpa [tupA] using k1⟩
  | cons k2 k3 => exact ⟨_, rfl, by simpa [tupA] using RelV.tup (.cons k1 (.cons k2 k3))⟩

def EndIn (P : Program) (fn : Func) (K : AV → List Obj → Prop) : Qt := fun e s objs => match e with
 | .normal | .ret => ∃ as, ressA P s objs fn.results.toList = some as ∧ K (tupA as) objs
 | _ => False

def argsA (as : List AV) : Nat → AV := fun i => as.getD i .dead

theorem RelF.init {as : List AV} {vs : List Value} {N : Nat → Prop} (h : RelVs w S N gs as vs) {n : Nat} (hn : as.length ≤ n) : RelF n (argsA as) { tmps := vs.toArray ++ Array.replicate (n - vs.toArray.size) undef, defers := [] } w S N gs := by
 have hl := h.length
 refine ⟨by simp; omega, rfl, fun i => ?_⟩
 unfold argsA
 by_cases hi : i < as.length
 · obtain ⟨v, h1, h2⟩ := h.get (i := i) (a := as[i]) (by simp [hi])
   rw [List.getD_eq_getElem?_getD, List.getElem?_eq_getElem hi]
   have : (vs.toArray ++ Array.replicate (n - vs.toArray.size) undef).getD i undef = v := by
    rw [Array.getD_eq_getD_getElem?, Array.getElem?_append_left (by simp; omega)]
    simp [h1]
   rw [this]; exact h2
 · rw [List.getD_eq_getElem?_getD, List.getElem?_eq_none (by omega)]; exact .dead

def argD : D → AV
 | .agg cs => .agg (cs.map .d)
 | d => .d d

theorem argD_rel {N : Nat → Prop} {d v} (h : RelD w S N d v []) : RelV w S N gs (argD d) v := by
 cases d with
 | agg cs => cases h with | agg h => exact .agg (RelVs.of_L h)
 | _ => exact .d h

theorem argDs_rel {N : Nat → Prop} : ∀ {ds : List D} {vs}, RelL w S N ds vs [] → RelVs w S N gs (ds.map argD) vs
 | [], _, h => by cases h; exact .nil
 | d :: ds, vs, h => by
  generalize hF : ([] : List Nat) = F at h
  cases h with
  | @cons _ v F1 _ vs F2 h t =>
   obtain ⟨rfl, rfl⟩ := List.append_eq_nil_iff.1 hF.symm
   exact .cons (argD_rel h) (argDs_rel t)

mutual
def nrmR : List (Option Nat) → D → D × List (Option Nat)
 | qs, .agg cs => let p := nrmRs qs cs; (.agg p.1, p.2)
 | qs, .tup cs => let p := nrmRs qs cs; (.tup p.1, p.2)
 | qs, d => (nrmK (qs.headD none) d, qs.drop 1)
def nrmRs : List (Option Nat) → List D → List D × List (Option Nat)
 | qs, [] => ([], qs)
 | qs, d :: ds => let p := nrmR qs d; let q := nrmRs p.2 ds; (p.1 :: q.1, q.2)
end

mutual
theorem nrmR_rel {S N : Nat → Prop} : ∀ {d : D} {qs v F}, RelD w S N d v F → RelD w S N (nrmR qs d).1 v F
 | .agg cs, qs, v, F, h => by cases h with | agg h => simp only [nrmR]; exact .agg (nrmRs_rel h)
 | .tup cs, qs, v, F, h => by cases h with | tup h => simp only [nrmR]; exact .tup (nrmRs_rel h)
 | .v x, qs, v, F, h => nrmK_rel h
 | .row m k xs, qs, v, F, h => nrmK_rel h
theorem nrmRs_rel {S N : Nat → Prop} : ∀ {ds : List D} {qs vs F}, RelL w S N ds vs F → RelL w S N (nrmRs qs ds).1 vs F
 | [], qs, vs, F, h => by simp only [nrmRs]; exact h
 | d :: ds, qs, vs, F, h => by cases h with | cons h t => simp only [nrmRs]; exact .cons (nrmR_rel h) (nrmRs_rel t)
end

def EndOut (P : Program) (fn : Func) (r : D) : Qt := fun e s objs => match e with
 | .normal | .ret => ∃ as d objs', ressA P s objs fn.results.toList = some as ∧ cl objs (tupA as) = some (d, objs') ∧ (nrmR (kindsOf P fn.resultTypes.toList) d).1 = r ∧ r.noSn = true
 | _ => False

theorem ct_of_W {f fn c spec} (hf : P.funcs[f]? = some fn) (hb : fn.body = some c) (hnm : (fn.name == "runtime.NumGoroutine") = false)
    (h : ∀ ds r B S, spec ds = some r → ds.length ≤ fn.ntmps ∧ W P g B S fn.ntmps ⟨0, false⟩ c (argsA (ds.map argD)) [] (EndOut P fn r)) : Ct P g f spec := by
 refine ⟨⟨fn, hf, hnm, by simp [hb]⟩, fun w vs S ds r hG hN hS hds hr => ?_⟩
 obtain ⟨hlen, hW⟩ := h ds r w.heap.size S hr
 let om : Nat → Option (Nat × Bool) := fun _ => none
 have hM : RelM w.heap.size w S [] [] om := ⟨rfl, by simp, hS, Nat.le_refl _⟩
 have hds' : RelL w S (Inner w.heap.size w om) ds vs [] := RelL.mono (fun b hb => ⟨hb, rfl⟩) (fun b hb => hb.elim) hds (by simp)
 refine calls_of_wp hf hb (wp_mono (hW _ w [] om hG hN hM (.init (argDs_rel hds') (by simpa using hlen)) (by simp)) ?_)
 have fin : ∀ (s' : Nat → AV) (objs' : List Obj) gs' om' a w', (∃ as d objs2, ressA P s' objs' fn.results.toList = some as ∧ cl objs' (tupA as) = some (d, objs2) ∧ (nrmR (kindsOf P fn.resultTypes.toList) d).1 = r ∧ r.noSn = true) →
     RelM w.heap.size w' S objs' gs' om' → RelF fn.ntmps s' a w' S (Inner w.heap.size w' om') gs' → ExtW ⟨0, false⟩ w.heap.size w [] om w' gs' om' →
     a.defers = [] ∧ ∃ v, (results fn a.tmps).run P w' = .ok v w' ∧ ∃ v' F, Ending.returned v = .returned v' ∧ RelD w' S (fun _ => False) r v' F ∧ F.Nodup ∧ (∀ b ∈ F, w.heap.size ≤ b ∧ b < w'.heap.size) ∧ Below w.heap.size w w' := by
  rintro s' objs' gs' om' a w' ⟨as, d, objs2, h1, h2, h3, h4⟩ m fr x
  obtain ⟨v, r1, r2⟩ := results_sound m fr h1
  obtain ⟨F, c1, c2⟩ := cl_rel _ m r2 h2
  have := nrmR_rel (qs := kindsOf P fn.resultTypes.toList) c1
  rw [h3] at this
  exact ⟨fr.defers, v, r1, v, F, rfl, RelD.weakN this h4, c2.nodup, fun b hb => ⟨(c2.src b hb).1, (c2.src b hb).2.1⟩, x.below⟩
 rintro e a w' ⟨s', objs', gs', om', q, m, fr, x⟩
 cases e with
 | normal => exact fin s' objs' gs' om' a w' q m fr x
 | ret => exact fin s' objs' gs' om' a w' q m fr x
 | _ => exact q.elim

end
end Go.Awp

/- Calls in place that may write into inner rows. Lemmas alone. -/
namespace Go.Awp
open Go.RowKit Go.Lib

mutual
def AV.fix : AV → Bool
 | .d x => x.noSn
 | .cut .. => false
 | .rp .. => false
 | .agg cs => AV.fixs cs
 | .tup cs => AV.fixs cs
 | .fn _ a b => AV.fixs a && AV.fixs b
 | .ifc _ x => x.fix
 | _ => true
def AV.fixs : List AV → Bool
 | [] => true
 | a :: as => a.fix && AV.fixs as
end

section
variable {P : Program} {g : Gl} {B : Nat} {S : Nat → Prop} {n : Nat} {fl : Fl} {w : World} {gs : List G1} {om : Nat → Option (Nat × Bool)} {s : Nat → AV} {objs : List Obj} {Q : Qt}
section
variable {w' : World} {N N' : Nat → Prop} {gs' : List G1} (hS : ∀ b, S b → w'.heap[b]? = w.heap[b]?) (hg : gs <+: gs')
include hS hg
mutual
theorem RelV.refix : ∀ {a v}, RelV w S N gs a v → a.fix = true → RelV w' S N' gs' a v
 | _, _, .d h, e => .d (RelD.mono (fun b hb => ⟨hb, hS b hb⟩) (N := fun _ => False) (fun b hb => hb.elim) (RelD.weakN h (by simpa [AV.fix] using e)) (by simp))
 | _, _, .hdr h1 h2 h3 h4 h5 h6, _ => .hdr (gs_get hg h1) h2 h3 h4 h5 h6
 | _, _, .hdr0 h1 h2, _ => .hdr0 (gs_get hg h1) h2
 | _, _, .cutNil, e => by simp [AV.fix] at e
 | _, _, .cutEmpty, e => by simp [AV.fix] at e
 | _, _, .cut _ _ _ _ _ _, e => by simp [AV.fix] at e
 | _, _, .ptr h1 h2, _ => .ptr (gs_get hg h1) h2
 | _, _, .rp _ _ _ _ _, e => by simp [AV.fix] at e
 | _, _, .agg h, e => .agg (RelVs.refix h (by simpa [AV.fix] using e))
 | _, _, .tup h, e => .tup (RelVs.refix h (by simpa [AV.fix] using e))
 | _, _, .fn h1 h2, e => .fn (RelVs.refix h1 (by simp [AV.fix] at e; exact e.1)) (RelVs.refix h2 (by simp [AV.fix] at e; exact e.2))
 | _, _, .ifc h, e => .ifc (RelV.refix h (by simpa [AV.fix] using e))
 | _, _, .dead, _ => .dead
theorem RelVs.refix : ∀ {as vs}, RelVs w S N gs as vs → AV.fixs as = true → RelVs w' S N' gs' as vs
 | _, _, .nil, _ => .nil
 | _, _, .cons h t, e => .cons (RelV.refix h (by simp [AV.fixs] at e; exact e.1)) (RelVs.refix t (by simp [AV.fixs] at e; exact e.2))
end
end

def FixS (s : Nat → AV) : Prop := ∀ j, (s j).fix = true

theorem WR_inlK {ops : Array Oper} {i l} {o : Oper} {cl : Call} {f as av objs' s'} (hkeep : fl.keep = false) (ho : ops[i]? = some o) (hg : gA ops s o = some true) (hc : o.op = .call cl)
    (h : calleeA (evalA s) cl = some (f, as)) (hE : Enters P f) (hs : FixS s) (hcl : ∀ B S, CallsA P g B S ⟨objs.length, false⟩ f as objs (fun a o => a = av ∧ o = objs')) (hp : putA n s o.dst av = some s')
    (hk : WR P g B S n fl ops l s' objs' Q) : WR P g B S n fl ops (i :: l) s objs Q := fun a w gs om h1 h2 h3 h4 h5 => by
 have hl : fl.n ≤ gs.length := by rw [h3.len]; exact h5
 simp only [wpOps, ho]
 rw [if_pos (gA_sound h4 hg)]
 left
 obtain ⟨vs, hvs, hrun⟩ := callee_run (P := P) (o := o) (evalA_rel h4) hc h hE
 unfold Oper.wp
 rw [hrun]
 simp only [Oper.upon]
 refine (hcl B S vs w gs om h1 h2 h3 hvs (Nat.le_refl _)).mono ?_
 rintro e w' ⟨v, av', objs2, gs', om', rfl, ⟨rfl, rfl⟩, m, hv, x⟩
 have hpre : gs <+: gs' := by have := x.gs; rwa [← h3.len, List.take_length] at this
 have x' : ExtW fl B w gs om w' gs' om' := ⟨(List.take_prefix _ _).trans hpre, x.below, fun hk => by rw [hkeep] at hk; cases hk⟩
 have := hk _ w' gs' om' (keepG h1 h2 x.below) h2 m (RelF.put ⟨h4.size, h4.defers, fun i => RelV.refix (h3.keepS x.below) hpre (h4.rel i) (hs i)⟩ hv hp) (by rw [← m.len]; exact x'.len hl)
 exact wpOps_mono this fun e a w2 h => h.trans x' hl

end
attribute [simp] AV.fix AV.fixs
end Go.Awp
