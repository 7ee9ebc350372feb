/- Contracts of the program's functions, each against a plain function over lists and numbers (it answers what that one answers, for arguments of at most 2^40 elements where a lemma says so), and plain facts about these. -/
import Derived.Test.YtokgokbgidgfeaaGreatCE
import Derived.Test.YtokgokbgidgfeaaGreatAwpD
import Derived.Test.YtokgokbgidgfeaaGreatCD
set_option linter.all false
set_option maxHeartbeats 4000000
set_option maxRecDepth 4000
namespace Go.Proofs
open Go.Awp
theorem ct152 (g : Gl) (pages : Int) (l : List (Int × Int)) (hl : l.length ≤ 2^40) (ho : ∀ i, i < l.length → (nth l i).1 ≤ 2^40) (n : Int) : CtAt Tryz.prog g 152 [vI pages, rO l, vI n] (.tup [vI ((placeS pages l n).getD 0), .v (.bool (placeS pages l n).isSome)]) := by
 refine ctAt_of_W Tryz.func152 rfl rfl (Nat.le_of_ble_eq_true rfl) fun B S => ?_
 have hc := in141 g pages l hl ho
 refine xU ?_
 iterate 2 refine xO ?_
 refine xE [0,1,2] fun _ => ?_
 refine W_seq ?_
 cases hr0 : laidS pages l
 · skip
   simp only [hr0] at hc
   have hr : placeS pages l n = none := by unfold placeS; rw [hr0]
   refine W_reg rfl ?_
   iterate 2 refine xO ?_
   refine run_inl0 rfl rfl rfl rfl (by simp; exact .mk) ⟨_, Tryz.func141, rfl, rfl⟩ hc (.inl (by simp)) ?_
   iterate 5 refine xO ?_
   refine xE [2,8,9] fun _ => ?_
   refine W_seq ?_
   refine xU ?_
   iterate 2 refine xO ?_
   refine xE [2,8,23] fun _ => ?_
   refine W_cond rfl ?_ ?_
   · intro h23
     refine xU ?_
     iterate 2 refine xO ?_
     refine xE [6,7] fun _ => ?_
     refine W_ret ?_
     refine xR (by simp [Tryz.f152]; exact .mk) ?_
     first | (simp [Tryz.f152, hr]; done) | (simp [Tryz.f152, hr]; cases b <;> simp)
   intro h23
   simp at h23
 skip
 rename_i y
 simp only [hr0] at hc
 have L := laidP hr0
 obtain ⟨hp0, hokk, hy⟩ := laidS_some hr0
 have hlt := stI_lt (pages := pages) (l := l) (i := l.length)
 rw [← hy] at hlt
 obtain ⟨ks, ms⟩ := y
 simp only at hc L hlt
 have hks := L.len
 rw [← hks] at hc
 refine W_reg rfl ?_
 iterate 2 refine xO ?_
 refine run_inl0 rfl rfl rfl rfl (by simp; exact .mk) ⟨_, Tryz.func141, rfl, rfl⟩ hc (.inl (by simp)) ?_
 iterate 5 refine xO ?_
 refine xE [2,8,9] fun _ => ?_
 refine W_seq ?_
 refine xU ?_
 iterate 2 refine xO ?_
 refine xE [2,8,23] fun _ => ?_
 refine W_cond rfl ?_ ?_
 · intro h23
   simp at h23
 intro h23
 refine W_skip ?_
 rintro -
 refine W_seq ?_
 refine xU ?_
 refine xO ?_
 refine xC (ct207 g n) ?_ (he := by simp [show (D.roed ∘ vI) = vI from funext fun _ => roed_v _]; exact .mk)
 iterate 5 refine xO ?_
 refine xE [2,8,10,11] ?_
 refine xT ?_
 refine xO ?_
 refine xE [2,8,10,29] fun _ => ?_
 refine W_cond rfl ?_ ?_
 · intro h29
   have hcl : (classS n).2 = true := h29
   obtain ⟨c, hc6, hcn⟩ := classS_c hcl
   have hr : placeS pages l n = cellR ks ms c := by unfold placeS; rw [hr0]; simp only; rw [if_pos hcl, hcn]
   rw [hcn]
   refine xU ?_
   iterate 2 refine xO ?_
   refine run_inl0 rfl rfl rfl rfl (by simp; exact .mk) ⟨_, Tryz.func208, rfl, rfl⟩ (in208 g ks ms L.len2 (by have := L.len; omega) hlt c hc6) (.inl (by simp)) ?_
   iterate 4 refine xO ?_
   refine xE [6,7] fun _ => ?_
   refine W_ret ?_
   refine xR (by simp [Tryz.f152]; exact .mk) ?_
   first | (simp [Tryz.f152, hr]; done) | (simp [Tryz.f152, hr]; cases b <;> simp)
 intro h29
 have hcl : ¬ (classS n).2 = true := by simpa using h29
 refine W_skip ?_
 refine xT ?_
 refine xO ?_
 refine xC (ct209 g n) ?_ (he := by simp [show (D.roed ∘ vI) = vI from funext fun _ => roed_v _]; exact .mk)
 iterate 5 refine xO ?_
 refine xE [8,12,13] fun _ => ?_
 refine W_seq ?_
 refine xU ?_
 iterate 2 refine xO ?_
 refine xE [8,12,41] fun _ => ?_
 refine W_cond rfl ?_ ?_
 · intro h41
   have hr : placeS pages l n = none := by unfold placeS; rw [hr0]; simp only; rw [if_neg hcl, if_pos (by simpa using h41)]
   refine xU ?_
   iterate 2 refine xO ?_
   refine xE [6,7] fun _ => ?_
   refine W_ret ?_
   refine xR (by simp [Tryz.f152]; exact .mk) ?_
   first | (simp [Tryz.f152, hr]; done) | (simp [Tryz.f152, hr]; cases b <;> simp)
 intro h41
 have hr : placeS pages l n = (bestR ks (pagesS n).1).map fun g => g.1 * 32 := by unfold placeS; rw [hr0]; simp only; rw [if_neg hcl, if_neg (by simpa using h41)]
 have hbb := bestR_b (ks := ks) (n := (pagesS n).1)
 have c137 := ct210 g ks (by have := L.len; omega) (pagesS n).1
 obtain ⟨b, hb⟩ : ∃ b, b = bestR ks (pagesS n).1 := ⟨_, rfl⟩
 rw [← hb] at hr hbb c137
 have w1 : IntKind.i64.wrap ((b.getD (0, 0)).1 * 32) = (b.getD (0, 0)).1 * 32 := wrap64 (by omega) (by omega)
 refine W_skip ?_
 refine xT ?_
 iterate 5 refine xO ?_
 refine xC (c137) ?_ (he := by simp [show (D.roed ∘ vI) = vI from funext fun _ => roed_v _]; exact .mk)
 iterate 5 refine xO ?_
 refine xE [14,15] ?_
 refine xT ?_
 refine xO ?_
 refine xO ?_ (h := by simp [w1]; exact .mk)
 iterate 3 refine xO ?_
 refine xE [6,7] fun _ => ?_
 refine W_ret ?_
 refine xR (by simp [Tryz.f152]; exact .mk) ?_
 first | (simp [Tryz.f152, hr]; done) | (simp [Tryz.f152, hr]; cases b <;> simp)

open Go.Awp
def roomS (s : Stt) (two : Bool) (n : Int) : Option Int := if (sttS s && sizedN n) = true then roomW s two n else none
theorem sizedN_iff {n : Int} : sizedN n = true ↔ 1 ≤ n ∧ n ≤ 2048 := by simp [sizedN]
theorem twos_nth {R : Int × Int → Prop} {l : List Slot} : (∀ j, j < (twosO l).length → R (nth (twosO l) j)) ↔ ∀ i, i < l.length → isTwo (nth l i) = true → R ((nth l i).at_, (nth l i).len) := by
 rw [nth_all (R := R), twos_all]
theorem room_fits {s : Stt} {two : Bool} {n a gen : Int} (h : roomS s two n = some a) : fitsS s ⟨gen, true, two, a, n⟩ ∧ ∀ i, i < s.slots.length → (nth s.slots i).live = true → clearS s.base (nth s.slots i) ⟨gen, true, two, a, n⟩ := by
 unfold roomS roomW at h
 split at h
 · rename_i hr
   simp only [Bool.and_eq_true] at hr
   obtain ⟨h1, h2⟩ := hr
   rw [sizedN_iff] at h2
   cases two with
   | true =>
    rw [if_pos rfl] at h
    obtain ⟨p1, p2⟩ := place_some h
    have p3 := (twos_nth (R := fun o => apartS (spotS s.base o).1 (spotS s.base (a, n)).1)).1 p2
    refine ⟨by unfold fitsS; rw [if_pos rfl]; exact p1, fun i hi hl => ⟨fun t _ => p3 i hi (by simp [isTwo, hl, t]), fun _ t => by cases t⟩⟩
   | false =>
    rw [if_neg (by simp)] at h
    obtain ⟨p1, p2, p3, p4⟩ := one_some h1 h2 h
    refine ⟨by unfold fitsS; rw [if_neg (by simp)]; exact ⟨p1, p2, p3⟩, fun i hi hl => ⟨fun _ t => by (cases t), fun t _ => (p4 i hi (by simp [isOne, hl, t])).symm⟩⟩
 · cases h
def tryR (s : Stt) (n : Int) (two : Bool) : Option (Bool × Int) := (roomS s two n).map fun a => (two, a)
def firstP (s : Stt) (n : Int) : Option (Bool × Int) := if s.mode = 1 then tryR s n false else if s.mode = 2 then tryR s n true else if s.mode = 3 then (tryR s n true).or (tryR s n false) else if s.mode = 4 then (tryR s n false).or (tryR s n true) else none
def modeB (mode : Int) (two : Bool) : Prop := (mode = 1 → two = false) ∧ (mode = 2 → two = true)
theorem tryR_some {s : Stt} {n : Int} {b two : Bool} {a : Int} (h : tryR s n b = some (two, a)) : b = two ∧ roomS s two n = some a := by
 unfold tryR at h
 obtain ⟨x, h1, h2⟩ := Option.map_eq_some_iff.1 h
 cases h2; exact ⟨rfl, h1⟩
theorem first_some {s : Stt} {n a : Int} {two : Bool} (h : firstP s n = some (two, a)) : roomS s two n = some a ∧ modeB s.mode two := by
 unfold firstP at h
 unfold modeB
 split at h
 · obtain ⟨rfl, q⟩ := tryR_some h; exact ⟨q, fun _ => rfl, fun e => by omega⟩
 · split at h
   · obtain ⟨rfl, q⟩ := tryR_some h; exact ⟨q, fun e => by omega, fun _ => rfl⟩
   · split at h
     · refine ⟨?_, fun e => by omega, fun e => by omega⟩
       rcases Option.or_eq_some_iff.1 h with h | h
       · exact (tryR_some h).2
       · exact (tryR_some h.2).2
     · split at h
       · refine ⟨?_, fun e => by omega, fun e => by omega⟩
         rcases Option.or_eq_some_iff.1 h with h | h
         · exact (tryR_some h).2
         · exact (tryR_some h.2).2
       · cases h
def putAt (s : Stt) (k : Nat) (y : Slot) (d : List UInt8) : Stt := { s with slots := s.slots.set k y, data := s.data.set k d }
theorem rowsS_iff {s : Stt} : rowsS s = true ↔ ((s.slots.length : Int) = s.sh.slots ∧ (s.roots.length : Int) = s.sh.roots ∧ s.data.length = s.slots.length) ∧ (∀ i, i < s.slots.length → slotS1 (nth s.slots i) = true) ∧ tnewOk s.slots.length = true ∧ rootsS s.roots = true ∧ ∀ i, i < s.slots.length → ((nth s.data i).length : Int) = (nth s.slots i).len := by
 simp only [rowsS, tableS, lenOk, Bool.and_eq_true, decide_eq_true_eq, List.all_eq_true, List.mem_range]
 constructor
 · rintro ⟨h1, ⟨h2, h3⟩, h4, h5⟩; exact ⟨h1, h2, h3, h4, h5⟩
 · rintro ⟨h1, h2, h3, h4, h5⟩; exact ⟨h1, ⟨h2, h3⟩, h4, h5⟩
theorem fits_at {s : Stt} (h : sttS s = true) {x : Slot} (hf : fitsS s x) (hx : 1 ≤ x.len ∧ x.len ≤ 2048) : 0 ≤ x.at_ ∧ x.at_ ≤ 2048 := by
 have hb := superS_b (sttS_super h)
 unfold fitsS at hf
 split at hf
 · have W := spot_range (spot_words hf)
   simp only at W
   have : 0 ≤ (x.len + 7).tdiv 8 := Int.tdiv_nonneg (by omega) (by omega)
   omega
 · have := needS_pos hx
   omega
def newSlot (gen n : Int) (two : Bool) (a : Int) : Slot := ⟨gen, true, two, a, n⟩
def zerosB (n : Int) : List UInt8 := List.replicate n.toNat 0
def putS (s : Stt) (n : Int) : Stt × (Int × Int) × Int := if (sttS s && sizedN n) = true then (match nextS s.slots with
  | none => (zStt, (0, 0), 9)
  | some k => match firstP s n with
    | none => (zStt, (0, 0), 10)
    | some p => (putAt s k (newSlot (nth s.slots k).gen n p.1 p.2) (zerosB n), ((k : Int), (nth s.slots k).gen), 0)) else (zStt, (0, 0), 1)
theorem slot_gen {s : Stt} (h : sttS s = true) {i : Nat} (hi : i < s.slots.length) : 0 ≤ (nth s.slots i).gen ∧ (nth s.slots i).gen ≤ 65535 := by
 have := tableS_slot (rowsS_t (sttS_rowsS h)) i hi
 unfold slotS1 at this
 split at this
 · cases this
 · omega
theorem new_slot {s : Stt} {n a : Int} {two : Bool} {k : Nat} (h : sttS s = true) (hn : sizedN n = true) (hk : k < s.slots.length) (hf : fitsS s (newSlot (nth s.slots k).gen n two a)) : slotS1 (newSlot (nth s.slots k).gen n two a) = true := by
 have hg := slot_gen h hk
 have hn := sizedN_iff.1 hn
 have ha := fits_at h hf hn
 simp only [newSlot] at ha
 show (if (nth s.slots k).gen < 0 ∨ 65535 < (nth s.slots k).gen then false else if true = false then (two == false && a == 0 && n == 0) else decide (0 ≤ a ∧ a ≤ 2048 ∧ 1 ≤ n ∧ n ≤ 2048)) = true
 rw [if_neg (by omega), if_neg (by simp)]
 simp; omega
def rszB (d : List UInt8) (n : Int) : List UInt8 := d.take n.toNat ++ List.replicate (n.toNat - d.length) 0
theorem rszB_len {d : List UInt8} {n : Int} (h : 0 ≤ n) : ((rszB d n).length : Int) = n := by simp [rszB]; omega
def lenS (x : Slot) (n : Int) : Slot := { x with len := n }
def sizeAt (s : Stt) (k : Nat) (n : Int) : Stt := putAt s k (lenS (nth s.slots k) n) (rszB (nth s.data k) n)
def rszS (s : Stt) (k n : Int) : Stt × Int := if (liveS s k && sizedN n) = true then (if sttS (sizeAt s k.toNat n) = true then (sizeAt s k.toNat n, 0) else match firstP s n with
  | none => (zStt, 10)
  | some p => (layAt (sizeAt s k.toNat n) k.toNat p.1 p.2, 0)) else (zStt, 1)
theorem sizeAt_ok {s : Stt} {m : Nat} {n : Int} (h : s.Ok) (hn : 1 ≤ n ∧ n ≤ 2048) : (sizeAt s m n).Ok := by
 refine ⟨by simpa [sizeAt, putAt] using h.h1, h.h2, by simpa [sizeAt, putAt] using h.h3, fun i hi => ?_, h.h5⟩
 simp only [sizeAt, putAt, List.length_set] at hi ⊢
 by_cases hm : m < s.data.length
 · rw [nth_set2 hm]
   split
   · have := rszB_len (d := nth s.data m) (n := n) (by omega); omega
   · exact h.h4 i hi
 · rw [List.set_eq_of_length_le (by omega)]
   exact h.h4 i hi
theorem foldSlot {l : List Slot} {m : Nat} {n : Int} : (l.map eSlot).set m (D.agg [vI (nth l m).gen, vT (nth l m).live, vT (nth l m).two, vI (nth l m).at_, vI n]) = (l.set m (lenS (nth l m) n)).map eSlot := (List.map_set (f := eSlot) (a := lenS (nth l m) n)).symm
def pickB (ok : Bool → Bool) (two : Bool) : Option Bool := if ok two = true then none else some two
def firstB (mode : Int) (ok : Bool → Bool) : Option Bool := if mode = 1 then pickB ok false else if mode = 2 then pickB ok true else if mode = 3 then (pickB ok true).or (pickB ok false) else if mode = 4 then (pickB ok false).or (pickB ok true) else none
theorem firstP_B {s : Stt} {n : Int} : firstP s n = (firstB s.mode (fun two => (roomS s two n).isNone)).map (fun two => (two, (roomS s two n).getD 0)) := by
 have key : ∀ b, tryR s n b = (pickB (fun two => (roomS s two n).isNone) b).map (fun two => (two, (roomS s two n).getD 0)) := fun b => by
  unfold tryR pickB
  cases h : roomS s b n <;> simp [h]
 unfold firstP firstB
 split
 · exact key _
 · split
   · exact key _
   · split
     · rw [Option.map_or, key, key]
     · split
       · rw [Option.map_or, key, key]
       · rfl
theorem put_take {s : Stt} {n a : Int} {two : Bool} {k : Nat} (hR : sttS s = true) (hn : sizedN n = true) (hk : nextS s.slots = some k) (hp : firstP s n = some (two, a)) :
    takeT s.slots ⟨0, false, two, a, n⟩ = (s.slots.set k (newSlot (nth s.slots k).gen n two a), ((k : Int), (nth s.slots k).gen), 0) := by
 obtain ⟨h1, _⟩ := first_some hp
 obtain ⟨hkl, _, _⟩ := nextS_spec hk
 have hf := (room_fits (gen := (nth s.slots k).gen) h1).1
 unfold takeT
 rw [if_pos (rowsS_t (sttS_rowsS hR)), hk]
 simp only
 rw [show tookS ⟨0, false, two, a, n⟩ (nth s.slots k).gen = newSlot (nth s.slots k).gen n two a from rfl, if_pos (new_slot hR hn hkl hf)]
open Go.Awp
theorem ct103 (g : Gl) (s : Stt) (hs : s.Ok) (hR : sttS s = true) (two : Bool) (n : Int) : CtAt Tryz.prog g 103 [eStt s, vT two, vI n] (.tup [vI ((roomW s two n).getD 0), .v (.bool (roomW s two n).isSome)]) := by
 refine ctAt_of_W Tryz.func103 rfl rfl (Nat.le_of_ble_eq_true rfl) fun B S => ?_
 simp only [eStt, List.map, argD_agg, argD_v]
 have hb := superS_b (sttS_super hR)
 have hT := sttS_rows hR
 have hl32 := tableS_len hT
 have htl := twosO_len (l := s.slots)
 refine xU ?_
 iterate 3 refine xO ?_
 refine xE [1,2,3] fun _ => ?_
 refine W_seq ?_
 refine xU ?_
 iterate 2 refine xO ?_
 refine xE [2,3,11] fun _ => ?_
 refine W_cond rfl ?_ ?_
 · intro h11
   have hr : roomW s two n = oneS s n := by unfold roomW; rw [if_neg (by simpa using h11)]
   refine xU ?_
   iterate 2 refine xO ?_
   refine xC (ct151 g s hs hR n) ?_
   iterate 4 refine xO ?_
   refine xE [6,7] fun _ => ?_
   refine W_ret ?_
   refine xR (by simp [Tryz.f103]; exact .mk) ?_
   simp [Tryz.f103, hr]
 intro h11
 have hr : roomW s two n = placeS s.base (twosO s.slots) n := by unfold roomW; rw [if_pos (by simpa using h11)]
 refine W_skip ?_
 refine xT ?_
 refine xO ?_
 refine xC (ct22 g s hs) ?_
 iterate 5 refine xO ?_
 refine xE [2,3,8] ?_
 refine xT ?_
 iterate 4 refine xO ?_
 refine xC (ct152 g s.base (twosO s.slots) (by omega) (twosO_le hT) n) ?_
 iterate 4 refine xO ?_
 refine xE [6,7] fun _ => ?_
 refine W_ret ?_
 refine xR (by simp [Tryz.f103]; exact .mk) ?_
 simp [Tryz.f103, hr]

theorem ct38 (g : Gl) (s : Stt) (hs : s.Ok) (two : Bool) (n : Int) : CtAt Tryz.prog g 38 [eStt s, vT two, vI n] (.tup [vI ((roomS s two n).getD 0), .v (.bool (roomS s two n).isSome)]) := by
 refine ctAt_of_W Tryz.func38 rfl rfl (Nat.le_of_ble_eq_true rfl) fun B S => ?_
 simp only [eStt, List.map, argD_agg, argD_v]
 refine xU ?_
 iterate 3 refine xO ?_
 refine xE [1,2,3] fun _ => ?_
 refine W_seq ?_
 refine xU ?_
 refine xO ?_
 refine xC (ct32 g s hs) ?_
 iterate 2 refine xO ?_
 refine xI ?_
 refine run_call rfl (by simp; exact .mk) rfl rfl (by simp) (by simp; exact .mk) (by simp; exact .mk) (fun hb => ct102 g n) (by simp) (by simp; exact .mk) (by simp) ?_
 refine xI ?_
 refine xP ?_
 refine xE [1,2,3,15] fun _ => ?_
 refine W_cond rfl ?_ ?_
 · intro h15
   have hr : roomS s two n = none := by unfold roomS; rw [if_neg]; simp at h15 ⊢; grind
   refine xU ?_
   iterate 2 refine xO ?_
   refine xE [6,7] fun _ => ?_
   refine W_ret ?_
   refine xR (by simp [Tryz.f38]; exact .mk) ?_
   simp [Tryz.f38, hr]
 intro h15
 have hR : sttS s = true ∧ sizedN n = true := by simp at h15; grind
 have hr : roomS s two n = roomW s two n := by unfold roomS; rw [if_pos (by simp [hR])]
 refine W_skip ?_
 refine xT ?_
 iterate 3 refine xO ?_
 refine xC (ct103 g s hs hR.1 two n) ?_
 iterate 4 refine xO ?_
 refine xE [6,7] fun _ => ?_
 refine W_ret ?_
 refine xR (by simp [Tryz.f38]; exact .mk) ?_
 simp [Tryz.f38, hr]

open Go.Awp
theorem in107 (g : Gl) (o0 o1 o2 o3 o4 : Awp.Obj) (mode : Int) : ∀ B S, CallsA Tryz.prog g B S ⟨5, true⟩ 107 [.d (vI mode)] [o0, o1, o2, o3, o4]
    (fun x r => x = .fn (.func 159) [] [.ptr 5 0 0] ∧ r = [o0, o1, o2, o3, o4, .var 3 [.d (vI mode)]]) := by
 refine callsA_at Tryz.func107 rfl (Nat.le_of_ble_eq_true rfl) fun B S => ?_
 refine xU ?_
 iterate 2 refine xO ?_
 refine xE [1] ?_
 refine xT ?_
 iterate 2 refine xO ?_
 refine xE [2] fun _ => ?_
 refine W_ret ?_
 refine endAt_ret (by simp [Tryz.f107]; exact .mk) ?_ ?_
 · simp
 simp

theorem in159 (g : Gl) (mode : Int) (b lb : Nat) (c : LoopC) (L : List (Nat × AV)) (hc1 : c.params.size = 1) (hc2 : ∀ p ∈ c.params.toList, p < c.n) (a0 a1 a2 a3 a4 : Awp.Obj) (d2 d3 d4 : Bool → Awp.Obj) (ok : Bool → Bool)
    (z0 : a0.lt 8 = true) (z1 : a1.lt 8 = true) (z2 : a2.lt 8 = true) (z3 : a3.lt 8 = true) (z4 : a4.lt 8 = true) (y2 : ∀ t, (d2 t).lt 8 = true) (y3 : ∀ t, (d3 t).lt 8 = true) (y4 : ∀ t, (d4 t).lt 8 = true) (zL : (L.all fun p => p.2.lt 8) = true)
    (hround : ∀ two, ∀ B S, RoundI Tryz.prog g B S lb 7 c L [.d (vT two)] [a0, a1, a2, a3, a4, .var 3 [.d (vI mode)], .blk b, .lp lb c L .ready none] (fun bb o => bb = ok two ∧ o = if ok two = true then [a0, a1, a2, a3, a4, .var 3 [.d (vI mode)], .blk b, .lp lb c L .ready none] else [a0, a1, d2 two, d3 two, d4 two, .var 3 [.d (vI mode)], .blk b, .lp lb c L .done (some .ret)])) :
    ∀ B S, CallsA Tryz.prog g B S ⟨8, true⟩ 159 [.fn (.yield lb) [] [], .ptr 5 0 0] [a0, a1, a2, a3, a4, .var 3 [.d (vI mode)], .blk b, .lp lb c L .ready none] (fun x r => x = .tup [] ∧ r = (match firstB mode ok with | none => [a0, a1, a2, a3, a4, .var 3 [.d (vI mode)], .blk b, .lp lb c L .ready none] | some two => [a0, a1, d2 two, d3 two, d4 two, .var 3 [.d (vI mode)], .blk b, .lp lb c L .done (some .ret)])) := by
 refine callsA_WI Tryz.func159 rfl (Nat.le_of_ble_eq_true rfl) fun B S => ?_
 refine WI_seq ?_
 refine WI_reg rfl ?_ (by decide +kernel)
 refine xO ?_
 refine xE [0,3] fun _ => ?_
 refine WI_block ?_
 refine WI_seq ?_
 refine WI_reg rfl ?_ (by decide +kernel)
 iterate 2 refine xO ?_
 refine xE [0,3,4] fun _ => ?_
 refine WI_cond rfl ?_ ?_
 · intro h4
   have hm : mode = 1 := by simpa using h4
   refine WI_regN rfl ?_
   refine WRI_run [0] [1] rfl (by decide +kernel) ?_
   refine xB ?_
   refine run_nil ?_
   refine WRI_yield (fun bb o => bb = ok false ∧ o = if ok false = true then [a0, a1, a2, a3, a4, .var 3 [.d (vI mode)], .blk b, .lp lb c L .ready none] else [a0, a1, d2 false, d3 false, d4 false, .var 3 [.d (vI mode)], .blk b, .lp lb c L .done (some .ret)]) rfl (by simp; exact .mk) rfl rfl rfl (by simp) (by simp; exact .mk) (by simp; exact .mk) rfl hc1 hc2 (hround false) ?_
   rintro bb o2 ⟨rfl, rfl⟩
   cases hokf : ok false
   · skip
     have hr : firstB mode ok = some false := by simp [firstB, pickB, *]
     simp only [Bool.false_eq_true, if_false]
     refine WRI_ends [] (by decide +kernel) ?_
     refine xE [] ?_
     try simp only [thenI_ret, roundsI_ret, inBlkI_ret, thenI_exit, roundsI_exit, inBlkI_exit, inBlkI_normal, if_true]
     refine endInM_normal (fn := Tryz.f159) (rs := []) 8 .nil ?_ (Nat.le_refl _) ?_ ?_ ?_
     · simp [Tryz.f159]; exact .mk
     · rfl
     · simp [z0, z1, z2, z3, z4, y2, y3, y4, zL]
     exact ⟨rfl, by rw [hr]; rfl⟩
   skip
   have hr : firstB mode ok = none := by simp [firstB, pickB, *]
   simp only [if_true]
   refine WRI_ends [] (by decide +kernel) ?_
   refine xE [] ?_
   try simp only [thenI_ret, roundsI_ret, inBlkI_ret, thenI_exit, roundsI_exit, inBlkI_exit, inBlkI_normal, if_true]
   refine endInM_normal (fn := Tryz.f159) (rs := []) 8 .nil ?_ (Nat.le_refl _) ?_ ?_ ?_
   · simp [Tryz.f159]; exact .mk
   · rfl
   · simp [z0, z1, z2, z3, z4, y2, y3, y4, zL]
   exact ⟨rfl, by rw [hr]; rfl⟩
 intro h4
 have n1 : ¬ mode = 1 := by simpa using h4
 refine WI_seq ?_
 refine WI_reg rfl ?_ (by decide +kernel)
 iterate 2 refine xO ?_
 refine xE [0,3,8] fun _ => ?_
 refine WI_cond rfl ?_ ?_
 · intro h8
   have hm : mode = 2 := by simpa using h8
   refine WI_regN rfl ?_
   refine WRI_run [0] [1] rfl (by decide +kernel) ?_
   refine xB ?_
   refine run_nil ?_
   refine WRI_yield (fun bb o => bb = ok true ∧ o = if ok true = true then [a0, a1, a2, a3, a4, .var 3 [.d (vI mode)], .blk b, .lp lb c L .ready none] else [a0, a1, d2 true, d3 true, d4 true, .var 3 [.d (vI mode)], .blk b, .lp lb c L .done (some .ret)]) rfl (by simp; exact .mk) rfl rfl rfl (by simp) (by simp; exact .mk) (by simp; exact .mk) rfl hc1 hc2 (hround true) ?_
   rintro bb o2 ⟨rfl, rfl⟩
   cases hokt : ok true
   · skip
     have hr : firstB mode ok = some true := by simp [firstB, pickB, *]
     simp only [Bool.false_eq_true, if_false]
     refine WRI_ends [] (by decide +kernel) ?_
     refine xE [] ?_
     try simp only [thenI_ret, roundsI_ret, inBlkI_ret, thenI_exit, roundsI_exit, inBlkI_exit, inBlkI_normal, if_true]
     refine endInM_normal (fn := Tryz.f159) (rs := []) 8 .nil ?_ (Nat.le_refl _) ?_ ?_ ?_
     · simp [Tryz.f159]; exact .mk
     · rfl
     · simp [z0, z1, z2, z3, z4, y2, y3, y4, zL]
     exact ⟨rfl, by rw [hr]; rfl⟩
   skip
   have hr : firstB mode ok = none := by simp [firstB, pickB, *]
   simp only [if_true]
   refine WRI_ends [] (by decide +kernel) ?_
   refine xE [] ?_
   try simp only [thenI_ret, roundsI_ret, inBlkI_ret, thenI_exit, roundsI_exit, inBlkI_exit, inBlkI_normal, if_true]
   refine endInM_normal (fn := Tryz.f159) (rs := []) 8 .nil ?_ (Nat.le_refl _) ?_ ?_ ?_
   · simp [Tryz.f159]; exact .mk
   · rfl
   · simp [z0, z1, z2, z3, z4, y2, y3, y4, zL]
   exact ⟨rfl, by rw [hr]; rfl⟩
 intro h8
 have n2 : ¬ mode = 2 := by simpa using h8
 refine WI_seq ?_
 refine WI_reg rfl ?_ (by decide +kernel)
 iterate 2 refine xO ?_
 refine xE [0,3,12] fun _ => ?_
 refine WI_cond rfl ?_ ?_
 · intro h12
   have hm : mode = 3 := by simpa using h12
   refine WI_regN rfl ?_
   refine WRI_run [0] [1,2,3,4,5] rfl (by decide +kernel) ?_
   refine xB ?_
   refine run_nil ?_
   refine WRI_yield (fun bb o => bb = ok true ∧ o = if ok true = true then [a0, a1, a2, a3, a4, .var 3 [.d (vI mode)], .blk b, .lp lb c L .ready none] else [a0, a1, d2 true, d3 true, d4 true, .var 3 [.d (vI mode)], .blk b, .lp lb c L .done (some .ret)]) rfl (by simp; exact .mk) rfl rfl rfl (by simp) (by simp; exact .mk) (by simp; exact .mk) rfl hc1 hc2 (hround true) ?_
   rintro bb o2 ⟨rfl, rfl⟩
   cases hokt : ok true
   · skip
     have hr : firstB mode ok = some true := by simp [firstB, pickB, *]
     simp only [Bool.false_eq_true, if_false]
     refine WRI_ends [2,3,4,5] (by decide +kernel) ?_
     refine xB ?_
     iterate 2 (refine run_not (av := .d (.v (.bool false))) rfl (by simp; exact .mk) rfl ?_)
     refine xP ?_
     refine xE [] ?_
     try simp only [thenI_ret, roundsI_ret, inBlkI_ret, thenI_exit, roundsI_exit, inBlkI_exit, inBlkI_normal, if_true]
     refine endInM_normal (fn := Tryz.f159) (rs := []) 8 .nil ?_ (Nat.le_refl _) ?_ ?_ ?_
     · simp [Tryz.f159]; exact .mk
     · rfl
     · simp [z0, z1, z2, z3, z4, y2, y3, y4, zL]
     exact ⟨rfl, by rw [hr]; rfl⟩
   skip
   simp only [if_true]
   refine WRI_run [2,3] [4,5] rfl (by decide +kernel) ?_
   refine xB ?_
   refine xI ?_
   refine run_nil ?_
   refine WRI_yield (fun bb o => bb = ok false ∧ o = if ok false = true then [a0, a1, a2, a3, a4, .var 3 [.d (vI mode)], .blk b, .lp lb c L .ready none] else [a0, a1, d2 false, d3 false, d4 false, .var 3 [.d (vI mode)], .blk b, .lp lb c L .done (some .ret)]) rfl (by simp; exact .mk) rfl rfl rfl (by simp) (by simp; exact .mk) (by simp; exact .mk) rfl hc1 hc2 (hround false) ?_
   rintro bb o2 ⟨rfl, rfl⟩
   cases hokf : ok false
   · skip
     have hr : firstB mode ok = some false := by simp [firstB, pickB, *]
     simp only [Bool.false_eq_true, if_false]
     refine WRI_ends [5] (by decide +kernel) ?_
     refine xP ?_
     refine xE [] ?_
     try simp only [thenI_ret, roundsI_ret, inBlkI_ret, thenI_exit, roundsI_exit, inBlkI_exit, inBlkI_normal, if_true]
     refine endInM_normal (fn := Tryz.f159) (rs := []) 8 .nil ?_ (Nat.le_refl _) ?_ ?_ ?_
     · simp [Tryz.f159]; exact .mk
     · rfl
     · simp [z0, z1, z2, z3, z4, y2, y3, y4, zL]
     exact ⟨rfl, by rw [hr]; rfl⟩
   skip
   have hr : firstB mode ok = none := by simp [firstB, pickB, *]
   simp only [if_true]
   refine WRI_ends [5] (by decide +kernel) ?_
   refine xP ?_
   refine xE [] ?_
   try simp only [thenI_ret, roundsI_ret, inBlkI_ret, thenI_exit, roundsI_exit, inBlkI_exit, inBlkI_normal, if_true]
   refine endInM_normal (fn := Tryz.f159) (rs := []) 8 .nil ?_ (Nat.le_refl _) ?_ ?_ ?_
   · simp [Tryz.f159]; exact .mk
   · rfl
   · simp [z0, z1, z2, z3, z4, y2, y3, y4, zL]
   exact ⟨rfl, by rw [hr]; rfl⟩
 intro h12
 have n3 : ¬ mode = 3 := by simpa using h12
 refine WI_seq ?_
 refine WI_reg rfl ?_ (by decide +kernel)
 iterate 2 refine xO ?_
 refine xE [0,20] fun _ => ?_
 refine WI_cond rfl ?_ ?_
 · intro h20
   have hm : mode = 4 := by simpa using h20
   refine WI_regN rfl ?_
   refine WRI_run [0] [1,2,3,4,5] rfl (by decide +kernel) ?_
   refine xB ?_
   refine run_nil ?_
   refine WRI_yield (fun bb o => bb = ok false ∧ o = if ok false = true then [a0, a1, a2, a3, a4, .var 3 [.d (vI mode)], .blk b, .lp lb c L .ready none] else [a0, a1, d2 false, d3 false, d4 false, .var 3 [.d (vI mode)], .blk b, .lp lb c L .done (some .ret)]) rfl (by simp; exact .mk) rfl rfl rfl (by simp) (by simp; exact .mk) (by simp; exact .mk) rfl hc1 hc2 (hround false) ?_
   rintro bb o2 ⟨rfl, rfl⟩
   cases hokf : ok false
   · skip
     have hr : firstB mode ok = some false := by simp [firstB, pickB, *]
     simp only [Bool.false_eq_true, if_false]
     refine WRI_ends [2,3,4,5] (by decide +kernel) ?_
     refine xB ?_
     iterate 2 (refine run_not (av := .d (.v (.bool false))) rfl (by simp; exact .mk) rfl ?_)
     refine xP ?_
     refine xE [] ?_
     try simp only [thenI_ret, roundsI_ret, inBlkI_ret, thenI_exit, roundsI_exit, inBlkI_exit, inBlkI_normal, if_true]
     refine endInM_normal (fn := Tryz.f159) (rs := []) 8 .nil ?_ (Nat.le_refl _) ?_ ?_ ?_
     · simp [Tryz.f159]; exact .mk
     · rfl
     · simp [z0, z1, z2, z3, z4, y2, y3, y4, zL]
     exact ⟨rfl, by rw [hr]; rfl⟩
   skip
   simp only [if_true]
   refine WRI_run [2,3] [4,5] rfl (by decide +kernel) ?_
   refine xB ?_
   refine xI ?_
   refine run_nil ?_
   refine WRI_yield (fun bb o => bb = ok true ∧ o = if ok true = true then [a0, a1, a2, a3, a4, .var 3 [.d (vI mode)], .blk b, .lp lb c L .ready none] else [a0, a1, d2 true, d3 true, d4 true, .var 3 [.d (vI mode)], .blk b, .lp lb c L .done (some .ret)]) rfl (by simp; exact .mk) rfl rfl rfl (by simp) (by simp; exact .mk) (by simp; exact .mk) rfl hc1 hc2 (hround true) ?_
   rintro bb o2 ⟨rfl, rfl⟩
   cases hokt : ok true
   · skip
     have hr : firstB mode ok = some true := by simp [firstB, pickB, *]
     simp only [Bool.false_eq_true, if_false]
     refine WRI_ends [5] (by decide +kernel) ?_
     refine xP ?_
     refine xE [] ?_
     try simp only [thenI_ret, roundsI_ret, inBlkI_ret, thenI_exit, roundsI_exit, inBlkI_exit, inBlkI_normal, if_true]
     refine endInM_normal (fn := Tryz.f159) (rs := []) 8 .nil ?_ (Nat.le_refl _) ?_ ?_ ?_
     · simp [Tryz.f159]; exact .mk
     · rfl
     · simp [z0, z1, z2, z3, z4, y2, y3, y4, zL]
     exact ⟨rfl, by rw [hr]; rfl⟩
   skip
   have hr : firstB mode ok = none := by simp [firstB, pickB, *]
   simp only [if_true]
   refine WRI_ends [5] (by decide +kernel) ?_
   refine xP ?_
   refine xE [] ?_
   try simp only [thenI_ret, roundsI_ret, inBlkI_ret, thenI_exit, roundsI_exit, inBlkI_exit, inBlkI_normal, if_true]
   refine endInM_normal (fn := Tryz.f159) (rs := []) 8 .nil ?_ (Nat.le_refl _) ?_ ?_ ?_
   · simp [Tryz.f159]; exact .mk
   · rfl
   · simp [z0, z1, z2, z3, z4, y2, y3, y4, zL]
   exact ⟨rfl, by rw [hr]; rfl⟩
 intro h20
 have n4 : ¬ mode = 4 := by simpa using h20
 have hr : firstB mode ok = none := by simp [firstB, pickB, *]
 refine WI_skip ?_
 try simp only [thenI_ret, roundsI_ret, inBlkI_ret, thenI_exit, roundsI_exit, inBlkI_exit, inBlkI_normal, if_true]
 refine endInM_normal (fn := Tryz.f159) (rs := []) 8 .nil ?_ (Nat.le_refl _) ?_ ?_ ?_
 · simp [Tryz.f159]; exact .mk
 · rfl
 · simp [z0, z1, z2, z3, z4, y2, y3, y4, zL]
 exact ⟨rfl, by rw [hr]; rfl⟩

open Go.Awp
theorem in40 (g : Gl) (s : Stt) (hs : s.Ok) (n : Int) : ∀ B S, CallsA Tryz.prog g B S ⟨0, true⟩ 40 ([eStt s, vI n].map argD) [] (fun x r => x = .tup [.d (vT ((firstP s n).getD (false, 0)).1), .d (vI ((firstP s n).getD (false, 0)).2), .d (vT (firstP s n).isSome)] ∧ r = []) := by
 refine callsA_WI Tryz.func40 rfl (Nat.le_of_ble_eq_true rfl) fun B S => ?_
 simp only [eStt, List.map, argD_agg, argD_v]
 refine WI_seq ?_
 refine WI_reg rfl ?_ (by decide +kernel)
 iterate 5 refine xO ?_
 refine xE [2,3,4,5,6] fun _ => ?_
 refine WI_seq ?_
 refine WI_seq ?_
 refine WI_reg rfl ?_ (by decide +kernel)
 iterate 2 refine xO ?_
 refine run_inl0 rfl rfl rfl rfl (by simp; exact .mk) ⟨_, Tryz.func107, rfl, rfl⟩ (in107 g _ _ _ _ _ s.mode) (.inl (by simp)) ?_
 refine xE [2,3,4,5,6,12] fun _ => ?_
 refine WI_block ?_
 refine WI_rangeFunc [2,3,4,5,6] (by simp; exact .mk) ⟨_, Tryz.func159, rfl, rfl⟩ (by simp; exact .mk) _ (fun fn b lb B S => in159 g s.mode b lb _ _ rfl ?_ _ _ _ _ _ (fun two => .var 4 [.d (vT two)]) (fun two => .var 3 [.d (vI ((roomS s two n).getD 0))]) (fun _ => .var 4 [.d (vT true)]) (fun two => (roomS s two n).isNone) rfl rfl rfl rfl rfl (fun _ => rfl) (fun _ => rfl) (fun _ => rfl) rfl (fun two B S => ?_) B S) ?_
 · intro p hp2
   have hp3 : p = 13 := by simpa using hp2
   show p < 24
   rw [hp3]; decide
 · skip
   unfold RoundI
   refine WI_weak (Weak.kills [2,3,4,5,6,13] (L := [(2, .ptr 0 0 0), (3, .ptr 1 0 0), (4, .ptr 2 0 0), (5, .ptr 3 0 0), (6, .ptr 4 0 0), (13, .d (vT two))]) rfl) ?_
   refine WI_reg rfl ?_ (by decide +kernel)
   refine xO ?_
   refine xE [2,3,4,5,6,7] ?_
   refine ⟨rfl, rfl, rfl, fun _ => ?_⟩
   refine WI_block ?_
   refine WI_seq ?_
   refine WI_reg rfl ?_ (by decide +kernel)
   iterate 3 refine xO ?_
   refine xC (ct38 g s hs two n) ?_
   iterate 5 refine xO ?_
   refine xE [4,5,6,7,8,9] fun _ => ?_
   refine WI_seq ?_
   refine WI_reg rfl ?_ (by decide +kernel)
   refine xO ?_
   refine xE [4,5,6,7,8,21] fun _ => ?_
   refine WI_cond rfl ?_ ?_
   · intro h21
     have hf : (roomS s two n).isNone = false := by cases hq : roomS s two n <;> simp [hq] at h21 ⊢
     refine WI_seq ?_
     refine WI_reg rfl ?_ (by decide +kernel)
     iterate 2 refine xO ?_
     iterate 3 (refine xO ?_ (h := by simp [splice]; exact .mk))
     refine xE [4,5,6] fun _ => ?_
     refine WI_ret ?_
     simp only [thenI_ret, inBlkI_ret]
     refine ⟨rfl, hf.symm, ?_⟩
     rw [if_neg (by simp [hf])]; rfl
   intro h21
   have hf : (roomS s two n).isNone = true := by cases hq : roomS s two n <;> simp [hq] at h21 ⊢
   refine WI_skip ?_
   simp only [inBlkI_normal]
   refine ⟨rfl, hf.symm, ?_⟩
   rw [if_pos hf]; rfl
 rintro fn b lb av o ⟨rfl, rfl⟩
 cases hf : firstB s.mode (fun two => (roomS s two n).isNone) with
 | none =>
  refine ⟨_, _, rfl, by simp, ?_⟩
  have hr : firstP s n = none := by rw [firstP_B, hf]; rfl
  simp only [pending_none, inBlkI_normal]
  rintro -
  refine WI_seq ?_
  refine WI_reg rfl ?_ (by decide +kernel)
  iterate 3 (refine xO ?_ (h := by simp [splice]; exact .mk))
  refine xE [4,5,6] fun _ => ?_
  refine WI_ret ?_
  try simp only [thenI_ret, roundsI_ret, inBlkI_ret, thenI_exit, roundsI_exit, inBlkI_exit, inBlkI_normal, if_true]
  refine endInM_ret (fn := Tryz.f40) (rs := [.d (vT false), .d (vI 0), .d (vT false)]) 0 (.cons (r := 6) rfl .nil) ?_ (Nat.zero_le _) ?_ ?_ ?_
  · simp [Tryz.f40]; exact .mk
  · rfl
  · rfl
  rw [hr]; exact ⟨rfl, rfl⟩
 | some two =>
  refine ⟨_, _, rfl, by simp, ?_⟩
  have hr : firstP s n = some (two, (roomS s two n).getD 0) := by rw [firstP_B, hf]; rfl
  simp only [pending_ret, thenI_ret, inBlkI_ret]
  refine endInM_ret (fn := Tryz.f40) (rs := [.d (vT two), .d (vI ((roomS s two n).getD 0)), .d (vT true)]) 0 (.cons (r := 6) rfl .nil) ?_ (Nat.zero_le _) ?_ ?_ ?_
  · simp [Tryz.f40]; exact .mk
  · rfl
  · rfl
  rw [hr]; exact ⟨rfl, rfl⟩
theorem ct40 (g : Gl) (s : Stt) (hs : s.Ok) (n : Int) : CtAt Tryz.prog g 40 [eStt s, vI n] (.tup [vT ((firstP s n).getD (false, 0)).1, vI ((firstP s n).getD (false, 0)).2, vT (firstP s n).isSome]) :=
 ctAt_of_calls Tryz.func40 rfl rfl (in40 g s hs n) (by simp) (by simp)


open Go.Awp
theorem ct42 (g : Gl) (s : Stt) (hs : s.Ok) (n : Int) : CtAt Tryz.prog g 42 [eStt s, vI n] (.tup [oStt (putS s n).1, .agg [vI (putS s n).2.1.1, vI (putS s n).2.1.2], vI (putS s n).2.2]) := by
 refine ctAt_of_W Tryz.func42 rfl rfl (Nat.le_of_ble_eq_true rfl) fun B S => ?_
 simp only [eStt, List.map, argD_agg, argD_v]
 refine xU ?_
 iterate 4 refine xO ?_
 refine xE [1,2,4,5] ?_
 refine xT ?_
 refine xO ?_
 refine xE [1,2,4,5,7] fun _ => ?_
 refine W_seq ?_
 refine xU ?_
 refine xO ?_ (h := by simp [eSlot]; exact .mk)
 refine xC (ct32 g s hs) ?_ (hi := by simp [oStt]; exact .mk)
 iterate 2 refine xO ?_
 refine xI ?_
 refine run_call rfl (by simp; exact .mk) rfl rfl (by simp) (by simp; exact .mk) (by simp; exact .mk) (fun hb => ct102 g n) (by simp) (by simp [oStt]; exact .mk) (by simp) ?_
 refine xI ?_
 refine xP ?_
 refine xE [1,2,4,5,7,24] fun _ => ?_
 refine W_cond rfl ?_ ?_
 · intro h24
   have hr : putS s n = (zStt, (0, 0), 1) := by unfold putS; rw [if_neg]; simp at h24 ⊢; grind
   refine xU ?_
   refine xO ?_
   refine xC (ct108 g 1) ?_ (hi := by simp [oStt]; exact .mk)
   iterate 3 refine xO ?_
   iterate 2 (refine xO ?_ (h := by simp [splice]; exact .mk))
   refine xO ?_
   refine xE [4,5,6] fun _ => ?_
   refine W_ret ?_
   refine end_ret (by simp [Tryz.f42]; exact .mk) (by simp; exact .mk) ?_ (by simp [oStt])
   first | (simp [Tryz.f42, hr, oStt, zStt, ownR]; done) | (simp [Tryz.f42, hr, oStt, zStt, ownR, putAt, zerosB, List.map_set]; try exact ⟨rfl, rfl⟩)
 intro h24
 have hR : sttS s = true ∧ sizedN n = true := by simp at h24; grind
 have hR2 : (sttS s && sizedN n) = true := by simp [hR]
 have hn := sizedN_iff.1 hR.2
 refine W_skip ?_
 rintro -
 refine W_seq ?_
 refine xU ?_
 refine xO ?_
 refine xO ?_ (h := by simp [eSlot]; exact .mk)
 refine xC (ct109 g s.slots hs.h1) ?_ (hi := by simp [oStt]; exact .mk)
 iterate 5 refine xO ?_
 refine xE [1,2,4,5,7,9] ?_
 refine xT ?_
 iterate 2 refine xO ?_
 refine xE [1,2,4,5,7,37] fun _ => ?_
 refine W_cond rfl ?_ ?_
 · intro h37
   have hx : nextS s.slots = none := by simpa using h37
   have hr : putS s n = (zStt, (0, 0), 9) := by unfold putS; rw [if_pos hR2, hx]
   refine xU ?_
   refine xO ?_
   refine xC (ct108 g 9) ?_ (hi := by simp [oStt]; exact .mk)
   iterate 3 refine xO ?_
   iterate 2 (refine xO ?_ (h := by simp [splice]; exact .mk))
   refine xO ?_
   refine xE [4,5,6] fun _ => ?_
   refine W_ret ?_
   refine end_ret (by simp [Tryz.f42]; exact .mk) (by simp; exact .mk) ?_ (by simp [oStt])
   first | (simp [Tryz.f42, hr, oStt, zStt, ownR]; done) | (simp [Tryz.f42, hr, oStt, zStt, ownR, putAt, zerosB, List.map_set]; try exact ⟨rfl, rfl⟩)
 intro h37
 obtain ⟨k, hk⟩ : ∃ k, nextS s.slots = some k := Option.isSome_iff_exists.1 (by simpa using h37)
 obtain ⟨hkl, hko, _⟩ := nextS_spec hk
 refine W_skip ?_
 refine xT ?_
 refine xO ?_ (h := by simp [eSlot]; exact .mk)
 refine xO ?_
 refine xC (ct40 g s hs n) ?_ (hi := by simp [oStt]; exact .mk)
 iterate 7 refine xO ?_
 refine xE [1,2,4,5,7,10,11,12] fun _ => ?_
 refine W_seq ?_
 refine xU ?_
 iterate 2 refine xO ?_
 refine xE [1,2,4,5,7,10,11,51] fun _ => ?_
 refine W_cond rfl ?_ ?_
 · intro h51
   have hx : firstP s n = none := by simpa using h51
   have hr : putS s n = (zStt, (0, 0), 10) := by unfold putS; rw [if_pos hR2, hk]; simp only; rw [hx]
   refine xU ?_
   refine xO ?_
   refine xC (ct108 g 10) ?_ (hi := by simp [oStt]; exact .mk)
   iterate 3 refine xO ?_
   iterate 2 (refine xO ?_ (h := by simp [splice]; exact .mk))
   refine xO ?_
   refine xE [4,5,6] fun _ => ?_
   refine W_ret ?_
   refine end_ret (by simp [Tryz.f42]; exact .mk) (by simp; exact .mk) ?_ (by simp [oStt])
   first | (simp [Tryz.f42, hr, oStt, zStt, ownR]; done) | (simp [Tryz.f42, hr, oStt, zStt, ownR, putAt, zerosB, List.map_set]; try exact ⟨rfl, rfl⟩)
 intro h51
 obtain ⟨p, hp⟩ : ∃ p, firstP s n = some p := Option.isSome_iff_exists.1 (by simpa using h51)
 have hr : putS s n = (putAt s k (newSlot (nth s.slots k).gen n p.1 p.2) (zerosB n), ((k : Int), (nth s.slots k).gen), 0) := by unfold putS; rw [if_pos hR2, hk]; simp only; rw [hp]
 obtain ⟨two, a⟩ := p
 have ht : takeT s.slots ⟨0, false, two, a, n⟩ = (s.slots.set k (newSlot (nth s.slots k).gen n two a), ((k : Int), (nth s.slots k).gen), 0) := put_take hR.1 hR.2 hk hp
 have c70 := ct110 g s.slots hs.h1 ⟨0, false, two, a, n⟩
 rw [ht] at c70
 rw [hp]
 have hkd : k < s.data.length := by have := rowsS_len (sttS_rowsS hR.1); omega
 have e1 : 0 ≤ n := by omega
 have e2 : n ≤ 140737488355328 := by omega
 refine W_skip ?_
 refine xT ?_
 refine xO ?_ (h := by simp [eSlot]; exact .mk)
 refine xC (ct24 g s hs) ?_ (hi := by simp [oStt]; exact .mk)
 refine xO ?_
 refine xO ?_ (h := by simp [splice]; exact .mk)
 refine xE [1,2,4,5,7,10,11,13] ?_
 refine xT ?_
 refine xO ?_
 refine xO ?_ (h := by simp [eSlot]; exact .mk)
 iterate 3 refine xO ?_
 refine xO ?_ (h := by simp [splice]; exact .mk)
 refine xC (c70) ?_ (hi := by simp [oStt]; exact .mk)
 iterate 6 refine xO ?_
 refine xO ?_ (h := by simp [splice]; exact .mk)
 refine xO ?_
 refine xE [1,4,5,7,13,14,15,16] fun _ => ?_
 refine W_seq ?_
 refine xU ?_
 iterate 2 refine xO ?_
 refine xE [1,4,5,7,13,14,15,16,71] fun _ => ?_
 refine W_cond rfl ?_ ?_
 · intro h71
   simp at h71
 intro h71
 refine W_skip ?_
 rintro -
 refine W_seq ?_
 refine W_regDSK (hard := []) [3,6,8] (keepOk_lt (by decide)) (by kernel_rfl) 4 [0,1,2,3,4,5,7,6,8,9,10] [[0,1,2,3,4,5,7,8,6,9,10], [0,1,2,4,5,7,6,3,8,9,10], [0,1,2,4,5,7,6,8,3,9,10], [0,1,2,4,5,7,8,3,6,9,10], [0,1,2,4,5,7,8,6,3,9,10]] (by decide +kernel) ?_
 refine xO ?_
 refine xO ?_ (h := by simp [eSlot]; exact .mk)
 refine xO ?_
 refine xO ?_ (h := by simp [eSlot]; exact .mk)
 iterate 3 refine xO ?_
 refine xO ?_ (h := by simp [e1, e2]; exact .mk)
 refine xO ?_ (h := by simp [splice]; exact .mk)
 refine xO ?_ (h := by simp [eSlot, hkd]; exact .mk)
 refine xO ?_ (h := by simp [splice, hkd, nrmL, nrm, putC]; exact .mk)
 refine xE [4,5,13,15] ?_
 refine ⟨_, rfl, ⟨?_, ?_, ?_, ?_, ?_, trivial⟩, ?_⟩
 · skip
   refine xO ?_
   refine xO ?_ (h := by simp [eSlot]; exact .mk)
   refine xO ?_
   refine xO ?_ (h := by simp [eSlot]; exact .mk)
   iterate 3 refine xO ?_
   refine xO ?_ (h := by simp [splice]; exact .mk)
   refine xO ?_ (h := by simp [e1, e2]; exact .mk)
   refine xO ?_ (h := by simp [eSlot, hkd]; exact .mk)
   refine xO ?_ (h := by simp [splice, hkd, nrmL, nrm, putC]; exact .mk)
   refine xE [4,5,13,15] ?_
   exact Weak.perm [0,1,2,3,4,5,6,7,8,9] [0,1,2,3,4,5,6,7,8,9] rfl rfl rfl
 · skip
   refine xO ?_
   refine xO ?_ (h := by simp [eSlot]; exact .mk)
   iterate 4 refine xO ?_
   refine xO ?_ (h := by simp [e1, e2]; exact .mk)
   refine xO ?_ (h := by simp [eSlot]; exact .mk)
   refine xO ?_ (h := by simp [splice]; exact .mk)
   refine xO ?_ (h := by simp [eSlot, hkd]; exact .mk)
   refine xO ?_ (h := by simp [splice, hkd, nrmL, nrm, putC]; exact .mk)
   refine xE [4,5,13,15] ?_
   exact Weak.perm [0,1,2,3,4,5,6,7,8,9] [0,1,2,3,4,5,6,7,8,9] rfl rfl rfl
 · skip
   refine xO ?_
   refine xO ?_ (h := by simp [eSlot]; exact .mk)
   iterate 4 refine xO ?_
   refine xO ?_ (h := by simp [e1, e2]; exact .mk)
   refine xO ?_ (h := by simp [splice]; exact .mk)
   refine xO ?_ (h := by simp [eSlot]; exact .mk)
   refine xO ?_ (h := by simp [eSlot, hkd]; exact .mk)
   refine xO ?_ (h := by simp [splice, hkd, nrmL, nrm, putC]; exact .mk)
   refine xE [4,5,13,15] ?_
   exact Weak.perm [0,1,2,3,4,5,6,7,8,9] [0,1,2,3,4,5,6,7,8,9] rfl rfl rfl
 · skip
   refine xO ?_
   refine xO ?_ (h := by simp [eSlot]; exact .mk)
   iterate 4 refine xO ?_
   refine xO ?_ (h := by simp [splice]; exact .mk)
   refine xO ?_ (h := by simp [eSlot]; exact .mk)
   refine xO ?_ (h := by simp [e1, e2]; exact .mk)
   refine xO ?_ (h := by simp [eSlot, hkd]; exact .mk)
   refine xO ?_ (h := by simp [splice, hkd, nrmL, nrm, putC]; exact .mk)
   refine xE [4,5,13,15] ?_
   exact Weak.perm [0,1,2,3,4,5,6,7,8,9] [0,1,2,3,4,5,6,7,8,9] rfl rfl rfl
 · skip
   refine xO ?_
   refine xO ?_ (h := by simp [eSlot]; exact .mk)
   iterate 4 refine xO ?_
   refine xO ?_ (h := by simp [splice]; exact .mk)
   refine xO ?_ (h := by simp [e1, e2]; exact .mk)
   refine xO ?_ (h := by simp [eSlot]; exact .mk)
   refine xO ?_ (h := by simp [eSlot, hkd]; exact .mk)
   refine xO ?_ (h := by simp [splice, hkd, nrmL, nrm, putC]; exact .mk)
   refine xE [4,5,13,15] ?_
   exact Weak.perm [0,1,2,3,4,5,6,7,8,9] [0,1,2,3,4,5,6,7,8,9] rfl rfl rfl
 rintro -
 refine W_seq ?_
 refine W_regDSK (hard := []) [1,2] (keepOk_lt (by decide)) (by kernel_rfl) 4 [0,1,2,3,4] [[0,2,1,3,4]] (by decide +kernel) ?_
 iterate 2 (refine xO ?_ (h := by simp [eSlot]; exact .mk))
 iterate 2 (refine xO ?_ (h := by simp [splice]; exact .mk))
 refine xO ?_
 refine xE [4,5,6] ?_
 refine ⟨_, rfl, ⟨?_, trivial⟩, ?_⟩
 · skip
   refine xO ?_ (h := by simp [eSlot]; exact .mk)
   refine xO ?_ (h := by simp [splice]; exact .mk)
   refine xO ?_ (h := by simp [eSlot]; exact .mk)
   refine xO ?_ (h := by simp [splice]; exact .mk)
   refine xO ?_
   refine xE [4,5,6] ?_
   exact Weak.perm [0,1,2,3,4,5,6,7,8,9] [0,1,2,3,4,5,6,7,8,9] rfl rfl rfl
 rintro -
 refine W_ret ?_
 refine end_ret (by simp [Tryz.f42]; exact .mk) (by simp; exact .mk) ?_ (by simp [oStt])
 first | (simp [Tryz.f42, hr, oStt, zStt, ownR]; done) | (simp [Tryz.f42, hr, oStt, zStt, ownR, putAt, zerosB, List.map_set]; try exact ⟨rfl, rfl⟩)

open Go.Awp
theorem ct44 (g : Gl) (s : Stt) (hs : s.Ok) (k n : Int) : CtAt Tryz.prog g 44 [eStt s, vI k, vI n] (.tup [oStt (rszS s k n).1, vI (rszS s k n).2]) := by
 refine ctAt_of_W Tryz.func44 rfl rfl (Nat.le_of_ble_eq_true rfl) fun B S => ?_
 simp only [eStt, List.map, argD_agg, argD_v]
 refine xU ?_
 iterate 3 refine xO ?_
 refine xE [1,2,3,6] fun _ => ?_
 refine W_seq ?_
 refine xU ?_
 refine xO ?_ (h := by simp [eSlot]; exact .mk)
 refine xO ?_
 refine xC (ct111 g s hs k) ?_ (he := by simp [row_rows, Function.comp_def]; exact .mk) (hi := by simp [oStt]; exact .mk)
 iterate 2 refine xO ?_
 refine xI ?_
 refine run_call rfl (by simp; exact .mk) rfl rfl (by simp) (by simp; exact .mk) (by simp [row_rows, Function.comp_def]; exact .mk) (fun hb => ct102 g n) (by simp) (by simp [oStt]; exact .mk) (by simp) ?_
 refine xI ?_
 refine xP ?_
 refine xE [1,2,3,6,21] fun _ => ?_
 refine W_cond rfl ?_ ?_
 · intro h21
   have hr : rszS s k n = (zStt, 1) := by unfold rszS; rw [if_neg]; simp at h21 ⊢; grind
   refine xU ?_
   iterate 2 (refine xO ?_ (h := by simp [splice]; exact .mk))
   refine xO ?_
   refine xE [6,7] fun _ => ?_
   refine W_ret ?_
   refine end_ret (by simp [Tryz.f44]; exact .mk) (by simp; exact .mk) ?_ (by simp [oStt])
   first | (simp [Tryz.f44, hr, oStt, zStt, ownR]; done) | (simp [Tryz.f44, hr, oStt, zStt, ownR, putAt, zerosB, List.map_set]; try exact ⟨rfl, rfl⟩)
 intro h21
 have hR : liveS s k = true ∧ sizedN n = true := by simp at h21; grind
 have hR2 : (liveS s k && sizedN n) = true := by simp [hR]
 have hn := sizedN_iff.1 hR.2
 obtain ⟨m, rfl, hm, hml, hmd, hg⟩ := liveS_nat hR.1
 have e1 : 0 ≤ n := by omega
 have e2 : n ≤ 140737488355328 := by omega
 have hz : (rszB (nth s.data m) n).length = n.toNat := by have := rszB_len (d := nth s.data m) e1; omega
 have hr0 : rszS s m n = (if sttS (sizeAt s m n) = true then (sizeAt s m n, (0 : Int)) else match firstP s n with
   | none => (zStt, 10)
   | some p => (layAt (sizeAt s m n) m p.1 p.2, 0)) := by unfold rszS; rw [if_pos hR2]; rfl
 refine W_skip ?_
 refine xT ?_
 refine xO ?_ (h := by simp [eSlot]; exact .mk)
 refine xC (ct24 g s hs) ?_ (he := by simp [row_rows, Function.comp_def]; exact .mk) (hi := by simp [oStt]; exact .mk)
 refine xO ?_
 refine xO ?_ (h := by simp [splice]; exact .mk)
 refine xE [1,2,3,6,8] ?_
 refine xT ?_
 refine xO ?_
 refine xO ?_ (h := by simp [e1, e2]; exact .mk)
 refine xO ?_
 refine xE [1,2,3,6,8,9] ?_
 refine xT ?_
 iterate 2 refine xO ?_
 refine xO ?_ (h := by simp [eSlot]; exact .mk)
 refine xO ?_
 refine xO ?_ (h := by simp [eSlot, hmd]; exact .mk)
 refine xO ?_ (h := by simp [eSlot, -List.getElem?_map, map_get hmd]; exact .mk)
 refine xO ?_ (h := by simp [copyA]; exact .mk)
 refine xE [1,2,3,6,8,9] fun _ => ?_
 refine W_seq ?_
 rw [resize_row, show (nth s.data m).take n.toNat ++ List.replicate (n.toNat - (nth s.data m).length) 0 = rszB (nth s.data m) n from rfl]
 refine W_regDSK (hard := []) [4,10] (keepOk_lt (by decide)) (by kernel_rfl) 4 [0,1,2,3,4,5,6,7,8,9,10,11,12] [[0,1,2,3,5,6,7,8,9,10,4,11,12]] (by decide +kernel) ?_
 refine xO ?_
 refine xO ?_ (h := by simp [eSlot]; exact .mk)
 iterate 2 refine xO ?_
 refine xO ?_ (h := by simp [eSlot]; exact .mk)
 iterate 3 refine xO ?_
 refine xO ?_ (h := by simp [eSlot, hm]; exact .mk)
 refine xO ?_
 refine xO ?_ (h := by simp [-List.getElem?_map, map_get hm, eSlot, nrmL, nrm, putC, splice]; exact .mk)
 refine xO ?_ (h := by simp [eSlot, hmd]; exact .mk)
 refine xO ?_ (h := by simp [splice, hz, -List.getElem?_map, map_get hmd]; exact .mk)
 refine xE [1,2,3,6,8] ?_
 refine ⟨_, rfl, ⟨?_, trivial⟩, ?_⟩
 · skip
   refine xO ?_
   refine xO ?_ (h := by simp [eSlot]; exact .mk)
   iterate 5 refine xO ?_
   refine xO ?_ (h := by simp [eSlot, hm]; exact .mk)
   refine xO ?_
   refine xO ?_ (h := by simp [-List.getElem?_map, map_get hm, eSlot, nrmL, nrm, putC, splice]; exact .mk)
   refine xO ?_ (h := by simp [eSlot]; exact .mk)
   refine xO ?_ (h := by simp [eSlot, hmd]; exact .mk)
   refine xO ?_ (h := by simp [splice, hz, -List.getElem?_map, map_get hmd]; exact .mk)
   refine xE [1,2,3,6,8] ?_
   exact Weak.perm [0,1,2,3,4,5,6] [0,1,2,3,4,5,6] rfl rfl rfl
 erw [putC_own1]
 simp only [foldSlot, foldData]
 obtain ⟨SL, hSL⟩ : ∃ x, x = s.slots.set m (lenS (nth s.slots m) n) := ⟨_, rfl⟩
 obtain ⟨DL, hDL⟩ : ∃ x, x = s.data.set m (rszB (nth s.data m) n) := ⟨_, rfl⟩
 have hX : sizeAt s m n = ⟨s.sh, s.mode, s.base, SL, s.roots, DL⟩ := by rw [hSL, hDL]; rfl
 rw [show s.slots.length = (s.slots.set m (lenS (nth s.slots m) n)).length by simp, show s.data.length = (s.data.set m (rszB (nth s.data m) n)).length by simp, ← hSL, ← hDL]
 rintro -
 refine W_seq ?_
 refine xU ?_
 refine xO ?_ (h := by simp [eSlot]; exact .mk)
 refine run_call0 rfl rfl rfl rfl (by simp; exact .mk) (by simp [row_rows, Function.comp_def]; exact .mk) (by have := ct32 g (sizeAt s m n) (sizeAt_ok hs hn); rw [hX] at this; exact this) (by simp) (by simp [oStt]; exact .mk) ?_
 refine xE [1,2,3,6,8,46] fun _ => ?_
 refine W_cond rfl ?_ ?_
 · intro h46
   have hr : rszS s m n = (⟨s.sh, s.mode, s.base, SL, s.roots, DL⟩, 0) := by rw [hr0, hX, if_pos (by simpa using h46)]
   refine xU ?_
   refine xO ?_ (h := by simp [eSlot]; exact .mk)
   refine xO ?_ (h := by simp [splice]; exact .mk)
   refine xO ?_
   refine xE [6,7] fun _ => ?_
   refine W_ret ?_
   refine end_ret (by simp [Tryz.f44]; exact .mk) (by simp; exact .mk) ?_ (by simp [oStt])
   first | (simp [Tryz.f44, hr, oStt, zStt, ownR]; done) | (simp [Tryz.f44, hr, oStt, zStt, ownR, putAt, zerosB, List.map_set]; try exact ⟨rfl, rfl⟩)
 intro h46
 rw [hX, if_neg (by simpa using h46)] at hr0
 refine W_skip ?_
 refine xT ?_
 refine xO ?_ (h := by simp [eSlot]; exact .mk)
 refine xO ?_
 refine xC (ct40 g s hs n) ?_ (he := by simp [row_rows, Function.comp_def]; exact .mk) (hi := by simp [oStt]; exact .mk)
 iterate 7 refine xO ?_
 refine xE [1,6,8,10,11,12] fun _ => ?_
 refine W_seq ?_
 refine xU ?_
 iterate 2 refine xO ?_
 refine xE [1,6,8,10,11,56] fun _ => ?_
 refine W_cond rfl ?_ ?_
 · intro h56
   have hx : firstP s n = none := by simpa using h56
   rw [hx] at hr0
   have hr := hr0
   refine xU ?_
   iterate 2 (refine xO ?_ (h := by simp [splice]; exact .mk))
   refine xO ?_
   refine xE [6,7] fun _ => ?_
   refine W_ret ?_
   refine end_ret (by simp [Tryz.f44]; exact .mk) (by simp; exact .mk) ?_ (by simp [oStt])
   first | (simp [Tryz.f44, hr, oStt, zStt, ownR]; done) | (simp [Tryz.f44, hr, oStt, zStt, ownR, putAt, zerosB, List.map_set]; try exact ⟨rfl, rfl⟩)
 intro h56
 obtain ⟨p, hp⟩ : ∃ p, firstP s n = some p := Option.isSome_iff_exists.1 (by simpa using h56)
 rw [hp] at hr0 ⊢
 have hr := hr0
 refine W_skip ?_
 refine xT ?_
 refine xO ?_ (h := by simp [eSlot]; exact .mk)
 iterate 3 refine xO ?_
 refine run_call0 rfl rfl rfl rfl (by simp; exact .mk) (by simp [row_rows, Function.comp_def]; exact .mk) (by have := ct113 g (sizeAt s m n) (sizeAt_ok hs hn) m p.1 p.2 (by simpa [sizeAt, putAt] using hm); rw [hX] at this; exact this) (by simp) (by simp [oStt]; exact .mk) ?_
 refine xO ?_ (h := by simp [splice]; exact .mk)
 refine xO ?_
 refine xE [6,7] fun _ => ?_
 refine W_ret ?_
 refine end_ret (by simp [Tryz.f44]; exact .mk) (by simp; exact .mk) ?_ (by simp [oStt])
 first | (simp [Tryz.f44, hr, oStt, zStt, ownR]; done) | (simp [Tryz.f44, hr, oStt, zStt, ownR, putAt, zerosB, List.map_set]; try exact ⟨rfl, rfl⟩)

open Go.Awp
theorem zStt_ok : zStt.Ok := ⟨by decide, by decide, by decide, fun i hi => absurd hi (Nat.not_lt_zero _), fun i hi => absurd hi (Nat.not_lt_zero _)⟩
theorem putAt_ok {s : Stt} {k : Nat} {y : Slot} {d : List UInt8} (h : s.Ok) (hd : d.length ≤ 2^40) : (putAt s k y d).Ok := by
 refine ⟨by simpa [putAt] using h.h1, h.h2, by simpa [putAt] using h.h3, fun i hi => ?_, h.h5⟩
 simp only [putAt, List.length_set] at hi ⊢
 by_cases hm : k < s.data.length
 · rw [nth_set2 hm]
   split
   · exact hd
   · exact h.h4 i hi
 · rw [List.set_eq_of_length_le (by omega)]
   exact h.h4 i hi
theorem putS_ok {s : Stt} {n : Int} (h : s.Ok) : (putS s n).1.Ok := by
 unfold putS
 split
 · rename_i hr
   simp only [Bool.and_eq_true] at hr
   have hn := sizedN_iff.1 hr.2
   cases nextS s.slots with
   | none => exact zStt_ok
   | some k => cases firstP s n with
    | none => exact zStt_ok
    | some p => exact putAt_ok h (by simp [zerosB]; omega)
 · exact zStt_ok
def sh1 : Shape := ⟨1, 2, 2, 30⟩
def stO : Stt := firstStt sh1 1
def stA : Stt := (putS stO 16).1
def stB : Stt := (putS stA 16).1
def stC : Stt := (rszS stB 0 17).1
def stT : Stt := firstStt sh1 2
def stU : Stt := (putS stT 121).1
theorem new_O : newS sh1 1 = (stO, 0) := by kernel_rfl
theorem new_T : newS sh1 2 = (stT, 0) := by kernel_rfl
theorem put_A : putS stO 16 = (stA, (0, 0), 0) := by kernel_rfl
theorem put_B : putS stA 16 = (stB, (1, 0), 0) := by kernel_rfl
theorem rsz_C : rszS stB 0 17 = (stC, 0) := by kernel_rfl
theorem put_U : putS stT 121 = (stU, (0, 0), 0) := by kernel_rfl
theorem put_V : putS stU 121 = (zStt, (0, 0), 10) := by kernel_rfl
theorem stC_len : stC.slots.length = 2 := by kernel_rfl
theorem stC_0 : (nth stC.slots 0).at_ = 8 := by kernel_rfl
theorem stC_1 : (nth stC.slots 1).at_ = 4 := by kernel_rfl
theorem stO_ok : stO.Ok := firstOk (sh := sh1) (mode := 1) (base := 0) (by kernel_rfl)
theorem stT_ok : stT.Ok := firstOk (sh := sh1) (mode := 2) (base := 1) (by kernel_rfl)
theorem stA_ok : stA.Ok := putS_ok stO_ok
theorem stB_ok : stB.Ok := putS_ok stA_ok
theorem stU_ok : stU.Ok := putS_ok stT_ok
def otherOk (a b : Stt) (k : Int) (i : Nat) : Bool := decide ((i : Int) = k) || (sameSlot (nth a.slots i) (nth b.slots i) && (str (nth a.data i)).toList == (str (nth b.data i)).toList)
def othersS (a b : Stt) (k : Int) : Bool := decide (a.slots.length = b.slots.length) && (decide (a.data.length = b.data.length) && (a.mode == b.mode && (a.base == b.base && (sameShape a.sh b.sh && (List.range (min a.slots.length a.data.length)).all (otherOk a b k)))))
open Go.Awp
theorem ct37 (g : Gl) : CtAt Tryz.prog g 37 [] (.v (.bool true)) := by
 refine ctAt_of_W Tryz.func37 rfl rfl (Nat.le_of_ble_eq_true rfl) fun B S => ?_
 refine xU ?_
 refine xO ?_
 refine xE [] ?_
 refine xT ?_
 refine xO ?_ (h := by simp [splice]; exact .mk)
 refine run_call0 rfl rfl rfl rfl (by simp; exact .mk) (by simp; exact .mk) (by have := ct53 g sh1 1; rw [new_O] at this; exact this) (by simp) (by simp [oStt]; exact .mk) ?_
 iterate 4 refine xO ?_
 refine xO ?_ (h := by simp [splice]; exact .mk)
 refine xO ?_
 refine xE [1,2] ?_
 refine xT ?_
 refine xO ?_
 refine run_call0 rfl rfl rfl rfl (by simp; exact .mk) (by simp; exact .mk) (by have := ct42 g stO stO_ok 16; rw [put_A] at this; exact this) (by simp) (by simp [oStt]; exact .mk) ?_
 iterate 6 refine xO ?_
 iterate 2 (refine xO ?_ (h := by simp [splice]; exact .mk))
 refine xO ?_
 refine xE [2,3,4,5] ?_
 refine xT ?_
 refine xO ?_
 refine run_call0 rfl rfl rfl rfl (by simp; exact .mk) (by simp; exact .mk) (by have := ct42 g stA stA_ok 16; rw [put_B] at this; exact this) (by simp) (by simp [oStt]; exact .mk) ?_
 iterate 6 refine xO ?_
 iterate 2 (refine xO ?_ (h := by simp [splice]; exact .mk))
 refine xO ?_
 refine xE [2,4,5,6,7,8] ?_
 refine xT ?_
 refine xO ?_
 refine run_call0 rfl rfl rfl rfl (by simp; exact .mk) (by simp; exact .mk) (by have := ct44 g stB stB_ok 0 17; rw [rsz_C] at this; exact this) (by simp) (by simp [oStt]; exact .mk) ?_
 iterate 4 refine xO ?_
 refine xO ?_ (h := by simp [splice]; exact .mk)
 refine xO ?_
 refine xE [2,4,5,7,8,9,10] fun _ => ?_
 refine W_seq ?_
 refine xU ?_
 iterate 3 refine xO ?_
 iterate 2 refine xI ?_
 refine xP ?_
 refine xB ?_
 iterate 2 refine xI ?_
 refine xP ?_
 refine xB ?_
 iterate 2 refine xI ?_
 refine xP ?_
 refine xB ?_
 iterate 3 refine xI ?_
 refine run_if rfl (by simp; exact .mk) rfl (by simp <;> first | omega | grind) (fun hb => by simp [stC_len]; exact .mk) ?_
 refine xP ?_
 refine xE [4,7,9,60] fun _ => ?_
 refine W_cond rfl ?_ ?_
 · intro h60
   simp at h60
 intro h60
 refine W_skip ?_
 refine xT ?_
 refine xO ?_ (h := by simp [splice]; exact .mk)
 refine run_call0 rfl rfl rfl rfl (by simp; exact .mk) (by simp; exact .mk) (by have := ct53 g sh1 2; rw [new_T] at this; exact this) (by simp) (by simp [oStt]; exact .mk) ?_
 iterate 4 refine xO ?_
 refine xO ?_ (h := by simp [splice]; exact .mk)
 refine xO ?_
 refine xE [4,7,9,11] ?_
 refine xT ?_
 refine xO ?_
 refine run_call0 rfl rfl rfl rfl (by simp; exact .mk) (by simp; exact .mk) (by have := ct42 g stT stT_ok 121; rw [put_U] at this; exact this) (by simp) (by simp [oStt]; exact .mk) ?_
 iterate 6 refine xO ?_
 iterate 2 (refine xO ?_ (h := by simp [splice]; exact .mk))
 refine xO ?_
 refine xE [4,7,9,13,15] ?_
 refine xT ?_
 refine xO ?_
 refine run_call0 rfl rfl rfl rfl (by simp; exact .mk) (by simp; exact .mk) (by have := ct42 g stU stU_ok 121; rw [put_V] at this; exact this) (by simp) (by simp [oStt]; exact .mk) ?_
 iterate 6 refine xO ?_
 iterate 2 (refine xO ?_ (h := by simp [splice]; exact .mk))
 refine xO ?_
 refine xE [4,7,9,15,18] ?_
 refine xT ?_
 refine xO ?_
 refine xO ?_ (h := by simp [splice]; exact .mk)
 iterate 2 refine xO ?_
 refine xI ?_
 refine run_if rfl (by simp; exact .mk) rfl (by simp <;> first | omega | grind) (fun hb => by simp [splice]; exact .mk) ?_
 refine xI ?_
 refine xP ?_
 refine xB ?_
 iterate 2 refine xI ?_
 refine run_if rfl (by simp; exact .mk) rfl (by simp <;> first | omega | grind) (fun hb => by simp [stC_len]; exact .mk) ?_
 refine xI ?_
 refine run_if rfl (by simp; exact .mk) rfl (by simp <;> first | omega | grind) (fun hb => by simp [-List.getElem?_map, map_get (show 0 < stC.slots.length by rw [stC_len]; decide), eSlot]; exact .mk) ?_
 refine run_if rfl (by simp; exact .mk) rfl (by simp <;> first | omega | grind) (fun hb => by simp [stC_0]; exact .mk) ?_
 refine xP ?_
 refine xB ?_
 iterate 2 refine xI ?_
 refine run_if rfl (by simp; exact .mk) rfl (by simp <;> first | omega | grind) (fun hb => by simp [stC_len]; exact .mk) ?_
 refine xI ?_
 refine run_if rfl (by simp; exact .mk) rfl (by simp <;> first | omega | grind) (fun hb => by simp [-List.getElem?_map, map_get (show 1 < stC.slots.length by rw [stC_len]; decide), eSlot]; exact .mk) ?_
 refine run_if rfl (by simp; exact .mk) rfl (by simp <;> first | omega | grind) (fun hb => by simp [stC_1]; exact .mk) ?_
 refine xP ?_
 refine xB ?_
 iterate 2 refine xI ?_
 refine xP ?_
 refine xB ?_
 iterate 2 refine xI ?_
 refine xP ?_
 refine xB ?_
 refine xE [0] fun _ => ?_
 refine W_ret ?_
 refine xR (by simp [Tryz.f37]; exact .mk) ?_
 simp [Tryz.f37]

open Go.Awp
/- The document's answers, in plain Lean: layouts. -/
theorem stI_take {pages : Int} {l : List (Int × Int)} {n : Nat} : ∀ {i : Nat}, i ≤ n → stI pages (l.take n) i = stI pages l i
 | 0, _ => rfl
 | i + 1, h => by simp only [stI]; rw [stI_take (i := i) (by omega), nth_take (by omega)]
theorem okI_take {pages : Int} {l : List (Int × Int)} {n i : Nat} (h : i < n) : okI pages (l.take n) i = okI pages l i := by
 simp only [okI]; rw [stI_take (by omega), nth_take h]
theorem laid_take {pages : Int} {l : List (Int × Int)} {i : Nat} (h0 : 0 ≤ pages ∧ pages ≤ 64) (hi : i ≤ l.length) (h : ∀ j, j < i → okI pages l j = true) : laidS pages (l.take i) = some (stI pages l i) := by
 have hl : (l.take i).length = i := by simp; omega
 unfold laidS
 rw [hl, stI_take (Nat.le_refl _), if_pos]
 simp only [Bool.and_eq_true, decide_eq_true_eq, List.all_eq_true, List.mem_range]
 exact ⟨h0, fun j hj => by rw [okI_take hj]; exact h j hj⟩
theorem mul_words {c w : Int} : (c + 1) * w = c * w + w := by rw [Int.add_mul, Int.one_mul]
theorem cell_bit {pages : Int} {l : List (Int × Int)} {ks ms} (L : LaidP pages l ks ms) (hs : ∀ j, j < l.length → (spotS pages (nth l j)).2 = true) {a : Int} {p c k : Nat} (hk : nth ks p = c) (hc : c < 6) (hp : p < 64) (ha : a = 32 * (p : Int) + 4 + k * nth wordsL c) (hq : 4 + ((k : Int) + 1) * nth wordsL c ≤ 32) :
    (nth ms p).testBit k = true ↔ ∃ j, j < l.length ∧ (nth l j).1 = a := by
 have hw := wordsL_k hc
 obtain ⟨w, hwe⟩ : ∃ w, w = nth wordsL c := ⟨_, rfl⟩
 rw [← hwe] at hw ha hq
 have x0 : 0 ≤ (k : Int) * w := Int.mul_nonneg (by omega) (by omega)
 have x1 := mul_words (c := (k : Int)) (w := w)
 constructor
 · intro h
   obtain ⟨j, hj, j1, j2, j3⟩ := L.bit p k hp h
   obtain ⟨c', hc', e1, e2, _, _⟩ := (spot_words (hs j hj)).sm j1
   have q := (L.sm j hj j1).1
   have e3 : (spotI pages l j).page.toNat = p := by omega
   rw [e3, hk] at q
   have e4 : c' = c := by have : (spotI pages l j).cls = c' := e1; omega
   subst e4
   refine ⟨j, hj, ?_⟩
   rw [e2, ha, hwe]
   rw [show (spotS pages (nth l j)).1.page = (p : Int) from j2, show (spotS pages (nth l j)).1.cell = (k : Int) from j3]
 · rintro ⟨j, hj, he⟩
   have W := spot_words (hs j hj)
   have g := W.good
   cases hsm : (spotS pages (nth l j)).1.small with
   | true =>
    obtain ⟨c', hc', e1, e2, _, e3⟩ := W.sm hsm
    obtain ⟨q1, q2⟩ := L.sm j hj hsm
    obtain ⟨_, _, _, g4, _⟩ := g.s1 hsm
    have hw' := wordsL_k hc'
    have y0 : 0 ≤ (spotS pages (nth l j)).1.cell * nth wordsL c' := Int.mul_nonneg g4 (by omega)
    rw [mul_words] at e3
    have hpg : (spotS pages (nth l j)).1.page = p := by omega
    have hpt : (spotI pages l j).page.toNat = p := by show (spotS pages (nth l j)).1.page.toNat = p; omega
    rw [hpt] at q1 q2
    have e4 : c' = c := by have : (spotI pages l j).cls = c' := e1; omega
    subst e4
    have e5 : (spotS pages (nth l j)).1.cell * w = (k : Int) * w := by rw [← hwe] at e2; omega
    have e6 := Int.eq_of_mul_eq_mul_right (by omega) e5
    have e7 : (spotI pages l j).cell.toNat = k := by show (spotS pages (nth l j)).1.cell.toNat = k; omega
    rwa [e7] at q2
   | false =>
    have e2 := (W.lg hsm).1
    rw [he, ha] at e2
    omega
theorem spot_cell {pages : Int} {o : Int × Int} (h : (spotS pages o).2 = true) (hsm : (spotS pages o).1.small = true) : ∃ p c k : Nat, (spotS pages o).1.page = p ∧ (spotS pages o).1.cls = c ∧ (spotS pages o).1.cell = k ∧ c < 6 ∧ (p : Int) < pages ∧ k < 64 ∧ o.1 = 32 * (p : Int) + 4 + k * nth wordsL c ∧ 4 + ((k : Int) + 1) * nth wordsL c ≤ 32 := by
 have W := spot_words h
 have g := W.good
 obtain ⟨c, hc, e1, e2, _, e3⟩ := W.sm hsm
 obtain ⟨s1, _, _, s4, s5⟩ := g.s1 hsm
 have g0 := g.p0
 have g1 := g.p1
 have e4 : ((spotS pages o).1.page.toNat : Int) = (spotS pages o).1.page := by omega
 have e5 : ((spotS pages o).1.cell.toNat : Int) = (spotS pages o).1.cell := by omega
 refine ⟨(spotS pages o).1.page.toNat, c, (spotS pages o).1.cell.toNat, by omega, e1, by omega, hc, by omega, by omega, by rw [e4, e5]; exact e2, by rw [e5]; exact e3⟩
section
variable {pages : Int} {l : List (Int × Int)} {i : Nat}
theorem okI_eq (hs : (spotS pages (nth l i)).2 = true) : layO pages (stI pages l i) (nth l i) = layS (stI pages l i).1 (stI pages l i).2 (spotI pages l i).page.toNat (spotI pages l i).count.toNat (spotI pages l i).small (spotI pages l i).cls (spotI pages l i).cell.toNat := by
 unfold layO; rw [if_pos hs]
theorem okI_bad (hs : (spotS pages (nth l i)).2 = false) : okI pages l i = false := by
 unfold okI layO; rw [if_neg (by simp [hs])]
theorem ok_spots (h : ∀ j, j < i → okI pages l j = true) : ∀ j, j < i → (spotS pages (nth l j)).2 = true := fun j hj => okI_spot (h j hj)
theorem small_kind (hs : (spotS pages (nth l i)).2 = true) (hsm : (spotI pages l i).small = true) (h1 : nth (stI pages l i).1 (spotI pages l i).page.toNat ≠ -1) (h2 : nth (stI pages l i).1 (spotI pages l i).page.toNat ≠ (spotI pages l i).cls) : okI pages l i = false := by
 unfold okI; rw [okI_eq hs, layS, if_pos hsm, if_neg (by simp [h2]), if_neg h1]
theorem small_had (h0 : 0 ≤ pages ∧ pages ≤ 64) (hi : i < l.length) (h : ∀ j, j < i → okI pages l j = true) (hs : (spotS pages (nth l i)).2 = true) (hsm : (spotI pages l i).small = true) {j : Nat} (hj : j < i) (hat : (nth l j).1 = (nth l i).1) : okI pages l i = false := by
 have hl : (l.take i).length = i := by simp; omega
 have L := laidP (laid_take h0 (by omega) h)
 obtain ⟨p, c, k, e1, e2, e3, hc, hp, hk, ha, hq⟩ := spot_cell hs hsm
 have hsp : ∀ j, j < (l.take i).length → (spotS pages (nth (l.take i) j)).2 = true := fun j hj => by rw [nth_take (by omega)]; exact ok_spots h j (by omega)
 have hw := wordsL_k hc
 have x0 : 0 ≤ (k : Int) * nth wordsL c := Int.mul_nonneg (by omega) (by omega)
 rw [mul_words] at hq
 have hpt : (spotI pages l i).page.toNat = p := by show (spotS pages (nth l i)).1.page.toNat = p; omega
 have hkt : (spotI pages l i).cell.toNat = k := by show (spotS pages (nth l i)).1.cell.toNat = k; omega
 have W := spot_words (hsp j (by omega))
 have g := W.good
 rw [nth_take hj] at W g
 -- the other one is small, and stands on this page
 have hjs : (spotS pages (nth l j)).1.small = true := by
  cases hz : (spotS pages (nth l j)).1.small with
  | true => rfl
  | false => have := (W.lg hz).1; rw [hat, ha] at this; omega
 obtain ⟨c', hc', f1, f2, _, f3⟩ := W.sm hjs
 obtain ⟨_, _, _, g4, _⟩ := g.s1 hjs
 have hw' := wordsL_k hc'
 have y0 : 0 ≤ (spotS pages (nth l j)).1.cell * nth wordsL c' := Int.mul_nonneg g4 (by omega)
 rw [mul_words] at f3
 have hpg : (spotS pages (nth l j)).1.page = p := by omega
 obtain ⟨q1, q2⟩ := L.sm j (by omega) (by show (spotS pages (nth (l.take i) j)).1.small = true; rw [nth_take hj]; exact hjs)
 have t1 : (spotI pages (l.take i) j).page.toNat = p := by show (spotS pages (nth (l.take i) j)).1.page.toNat = p; rw [nth_take hj]; omega
 rw [t1] at q1
 have t2 : (spotI pages (l.take i) j).cls = c' := by show (spotS pages (nth (l.take i) j)).1.cls = c'; rw [nth_take hj]; exact f1
 rw [t2] at q1
 unfold okI; rw [okI_eq hs, layS, if_pos hsm, hpt, hkt]
 show (if _ ∧ _ then _ else _ : Bool × List Int × List Nat).1 = false
 rw [if_neg, if_neg (by omega)]
 rintro ⟨z1, z2⟩
 have z3 : (spotI pages l i).cls = c := e2
 have hb := (cell_bit L hsp (a := (nth l i).1) (p := p) (c := c) (k := k) (by rw [z1]; exact z3) hc (by omega) ha (by rw [mul_words]; exact hq)).2 ⟨j, by omega, by rw [nth_take hj]; exact hat⟩
 rw [and_pow z2] at hb; cases hb
theorem small_ok (h0 : 0 ≤ pages ∧ pages ≤ 64) (hi : i < l.length) (h : ∀ j, j < i → okI pages l j = true) (hs : (spotS pages (nth l i)).2 = true) (hsm : (spotI pages l i).small = true)
    (hk : nth (stI pages l i).1 (spotI pages l i).page.toNat = -1 ∨ nth (stI pages l i).1 (spotI pages l i).page.toNat = (spotI pages l i).cls) (hn : ∀ j, j < i → (nth l j).1 ≠ (nth l i).1) :
    okI pages l i = true ∧ (stI pages l (i + 1)).1 = (stI pages l i).1.set (spotI pages l i).page.toNat (spotI pages l i).cls := by
 have hl : (l.take i).length = i := by simp; omega
 have L := laidP (laid_take h0 (by omega) h)
 obtain ⟨p, c, k, e1, e2, e3, hc, hp, hkk, ha, hq⟩ := spot_cell hs hsm
 have hsp : ∀ j, j < (l.take i).length → (spotS pages (nth (l.take i) j)).2 = true := fun j hj => by rw [nth_take (by omega)]; exact ok_spots h j (by omega)
 have hpt : (spotI pages l i).page.toNat = p := by show (spotS pages (nth l i)).1.page.toNat = p; omega
 have hkt : (spotI pages l i).cell.toNat = k := by show (spotS pages (nth l i)).1.cell.toNat = k; omega
 have hct : (spotI pages l i).cls = c := e2
 rw [hpt, hct] at hk ⊢
 have hpl : p < (stI pages l i).1.length := by rw [stI_len.1]; omega
 have e : layO pages (stI pages l i) (nth l i) = layS (stI pages l i).1 (stI pages l i).2 p (spotI pages l i).count.toNat true c k := by rw [okI_eq hs, hpt, hkt, hct, hsm]
 unfold okI
 simp only [stI]
 rw [e, layS, if_pos rfl]
 rcases hk with hk | hk
 · rw [if_neg (by omega), if_pos hk]; exact ⟨rfl, rfl⟩
 · have hb : (nth (stI pages l i).2 p).testBit k = false := by
    cases hz : (nth (stI pages l i).2 p).testBit k with
    | false => rfl
    | true =>
     obtain ⟨j, hj, he⟩ := (cell_bit L hsp (a := (nth l i).1) hk hc (by omega) ha hq).1 hz
     rw [nth_take (by omega)] at he
     exact absurd he (hn j (by omega))
   rw [if_pos ⟨hk, bit_and hb⟩]
   refine ⟨rfl, ?_⟩
   show (stI pages l i).1 = _
   rw [← hk]
   apply List.ext_getElem?
   intro x
   rw [List.getElem?_set]
   split
   · rename_i hx; subst hx; rw [nth_eq hpl]; simp [hpl]
   · rfl
theorem large_eq (hs : (spotS pages (nth l i)).2 = true) (hsm : (spotI pages l i).small = false) :
    okI pages l i = (fillF (spotI pages l i).page.toNat (spotI pages l i).count.toNat 0 (stI pages l i).1).1 ∧ (okI pages l i = true → (stI pages l (i + 1)).1 = (fillF (spotI pages l i).page.toNat (spotI pages l i).count.toNat 0 (stI pages l i).1).2.set (spotI pages l i).page.toNat 6) := by
 unfold okI
 simp only [stI]
 rw [okI_eq hs, layS, hsm]
 simp only [Bool.false_eq_true, if_false]
 split
 · rename_i hf; exact ⟨by rw [hf], fun _ => rfl⟩
 · rename_i hf; exact ⟨by simp at hf; rw [hf], fun h => by cases h⟩
end
def kindsR (pages : Int) (l : List (Int × Int)) : List Int × Bool := match laidS pages l with
 | some st => (st.1, true)
 | none => ([], false)
theorem kindsR_bad {pages : Int} {l : List (Int × Int)} {i : Nat} (hi : i < l.length) (h : okI pages l i = false) : kindsR pages l = ([], false) := by
 unfold kindsR laidS; rw [if_neg]
 simp only [Bool.and_eq_true, not_and]; intro _; rw [all_bad hi h]; simp
theorem kindsR_good {pages : Int} {l : List (Int × Int)} (h0 : 0 ≤ pages ∧ pages ≤ 64) (h : ∀ i, i < l.length → okI pages l i = true) : kindsR pages l = ((stI pages l l.length).1, true) := by
 unfold kindsR laidS; rw [if_pos]
 simp only [Bool.and_eq_true, decide_eq_true_eq]; exact ⟨h0, all_good h⟩
theorem kindsR_out {pages : Int} {l : List (Int × Int)} (h0 : ¬ (0 ≤ pages ∧ pages ≤ 64)) : kindsR pages l = ([], false) := by
 unfold kindsR laidS; rw [if_neg (by simp [h0])]
def cellO (o : Int × Int) : (Int × Int × Int) × Bool := if (classS o.2).2 = false ∨ o.1 < 0 then ((0, 0, 0), false) else ((o.1.tdiv 32, (classS o.2).1, (whichS (classS o.2).1 (o.1.tmod 32)).1), (whichS (classS o.2).1 (o.1.tmod 32)).2)
def spanR (pages : Int) (o : Int × Int) : (Int × Int) × Bool := if (cellO o).2 = true then (((cellO o).1.1, 1), decide ((cellO o).1.1 < pages)) else if (pagesS o.2).2 ≠ 0 ∨ o.1 < 0 ∨ o.1.tmod 32 ≠ 0 then ((0, 0), false)
 else ((o.1.tdiv 32, (pagesS o.2).1), decide (o.1.tdiv 32 ≤ pages) && decide ((pagesS o.2).1 ≤ pages - o.1.tdiv 32))
theorem classS_pages {n : Int} (h : (classS n).2 = true) : (pagesS n).2 ≠ 0 := by
 obtain ⟨h1, k, hk, h2, h3⟩ := classS_spec h
 have := wordsL_k hk
 unfold pagesS; rw [if_pos (by omega)]; decide
theorem spanR_eq {pages : Int} {o : Int × Int} : (spanR pages o).2 = (spotS pages o).2 ∧ ((spotS pages o).2 = true → (spanR pages o).1 = ((spotS pages o).1.page, (spotS pages o).1.count) ∧ (cellO o).2 = (spotS pages o).1.small ∧ ((spotS pages o).1.small = true → (cellO o).1 = ((spotS pages o).1.page, (spotS pages o).1.cls, (spotS pages o).1.cell))) := by
 unfold spanR
 by_cases ha : o.1 < 0
 · have : (cellO o).2 = false := by unfold cellO; rw [if_pos (.inr ha)]
   rw [this]
   simp only [Bool.false_eq_true, if_false]
   rw [if_pos (.inr (.inl ha))]
   unfold spotS; rw [if_pos ha]; simp
 · cases hc : (classS o.2).2 with
   | true =>
    have hp := classS_pages hc
    have ec : cellO o = ((o.1.tdiv 32, (classS o.2).1, (whichS (classS o.2).1 (o.1.tmod 32)).1), (whichS (classS o.2).1 (o.1.tmod 32)).2) := by unfold cellO; rw [if_neg (by simp [hc, ha])]
    have es : spotS pages o = (⟨o.1.tdiv 32, 1, true, (classS o.2).1, (whichS (classS o.2).1 (o.1.tmod 32)).1⟩, (whichS (classS o.2).1 (o.1.tmod 32)).2 && decide (o.1.tdiv 32 < pages)) := by unfold spotS; rw [if_neg ha, if_pos hc]
    rw [ec, es]
    simp only
    cases hw : (whichS (classS o.2).1 (o.1.tmod 32)).2 with
    | true => simp
    | false => simp [hp]
   | false =>
    have ec : (cellO o).2 = false := by unfold cellO; rw [if_pos (.inl hc)]
    have es : spotS pages o = (⟨o.1.tdiv 32, (pagesS o.2).1, false, (classS o.2).1, 0⟩, decide ((pagesS o.2).2 = 0) && decide (o.1.tmod 32 = 0) && decide (o.1.tdiv 32 < pages) && decide ((pagesS o.2).1 ≤ pages - o.1.tdiv 32)) := by
     unfold spotS; rw [if_neg ha, if_neg (by simp [hc])]
    rw [ec, es]
    simp only [Bool.false_eq_true, if_false]
    by_cases hz : (pagesS o.2).2 ≠ 0 ∨ o.1 < 0 ∨ o.1.tmod 32 ≠ 0
    · rw [if_pos hz]
      rcases hz with hz | hz | hz
      · simp [hz]
      · exact absurd hz ha
      · simp [hz]
    · rw [if_neg hz]
      have h1 : (pagesS o.2).2 = 0 := Classical.byContradiction fun q => hz (.inl q)
      have h2 : o.1.tmod 32 = 0 := Classical.byContradiction fun q => hz (.inr (.inr q))
      have h3 := pagesS_b h1
      simp [h1, h2]
      rw [← Bool.decide_and, ← Bool.decide_and]; exact decide_eq_decide.2 (by omega)
theorem taken_bit {pages : Int} {l : List (Int × Int)} {st} (h : laidS pages l = some st) {c p k : Nat} (hc : c < 6) (hp : p < st.1.length) (hk : nth st.1 p = c) (hkc : (k : Int) < (cellsS c).1) :
    (∃ j, j < l.length ∧ (nth l j).1 = 32 * (p : Int) + (cellS c k).1) ↔ (nth st.2 p).testBit k = true := by
 have L := laidP h
 obtain ⟨h0, h1, _⟩ := laidS_some h
 have hw := wordsL_k hc
 have hcs : cellS c k = (4 + k * nth wordsL c, 0) := by unfold cellS; rw [if_neg (by omega)]; simp
 rw [hcs]
 have hcl : (cellsS c).1 = (28 : Int).tdiv (nth wordsL c) := by unfold cellsS; rw [if_neg (by omega)]; simp
 have hq : 4 + ((k : Int) + 1) * nth wordsL c ≤ 32 := by
  rw [hcl] at hkc
  have hk14 := (cells_max c hc).1
  rw [hcl] at hk14
  rcases hw with q | q | q | q | q | q <;> rw [q] at hkc ⊢ <;> simp at hkc <;> omega
 have hlen := L.len
 exact (cell_bit L (fun j hj => okI_spot (h1 j hj)) hk hc (by omega) (by show _ = 32 * (p : Int) + 4 + _; omega) hq).symm
set_option maxHeartbeats 4000000
open Go.Awp
/- Facts about classes, for the document's walks. -/
theorem wordsL_8 {j : Nat} (h : j < 6) : 8 * nth wordsL j ≤ 120 ∧ 2 ≤ nth wordsL j ∧ nth wordsL j ≤ 15 := by have := wordsL_k h; omega
theorem classS_at {n : Int} {i : Nat} (hi : i < 6) (h : 1 ≤ n ∧ n ≤ 8 * nth wordsL i) (hn : ∀ j, j < i → ¬ (1 ≤ n ∧ n ≤ 8 * nth wordsL j)) : classS n = ((i : Int), true) := by
 have := wordsL_8 hi
 unfold classS
 rw [if_neg (by omega)]
 have hf : wordsL.findIdx? (fun w => decide (n ≤ w * 8)) = some i := by
  rw [List.findIdx?_eq_some_iff_getElem]
  refine ⟨hi, by rw [← nth_eq (l := wordsL) hi]; simp; omega, fun j hj => ?_⟩
  have h6 : j < wordsL.length := Nat.lt_trans hj hi
  have := hn j hj
  rw [← nth_eq h6]; simp; omega
 rw [hf]
theorem classS_no {n : Int} (hn : ∀ j, j < 6 → ¬ (1 ≤ n ∧ n ≤ 8 * nth wordsL j)) : classS n = (0, false) := by
 have := hn 5 (by omega)
 have e : nth wordsL 5 = 15 := rfl
 unfold classS
 rw [if_pos (by omega)]
theorem which_tab0 : ∀ c : Nat, c < 6 → ∀ o : Nat, o < 32 → (∀ k : Nat, k < 14 → (k : Int) < (cellsS c).1 → (cellS c k).1 ≠ (o : Int)) → whichS c o = (0, false) := by decide +kernel
theorem which_at {c off : Int} {k : Nat} (hc : 0 ≤ c ∧ c < 6) (hk : (k : Int) < (cellsS c).1) (h : (cellS c k).1 = off) : whichS c off = ((k : Int), true) := by
 obtain ⟨d, rfl⟩ : ∃ d : Nat, c = d := ⟨c.toNat, by omega⟩
 have := (cells_max d (by omega)).1
 rw [← h]
 exact (cells_tab d (by omega) k (by omega) hk).1
theorem which_no {c off : Int} (hc : 0 ≤ c ∧ c < 6) (ho : 0 ≤ off ∧ off < 32) (h : ∀ k : Nat, (k : Int) < (cellsS c).1 → (cellS c k).1 ≠ off) : whichS c off = (0, false) := by
 obtain ⟨d, rfl⟩ : ∃ d : Nat, c = d := ⟨c.toNat, by omega⟩
 obtain ⟨o, rfl⟩ : ∃ o : Nat, off = o := ⟨off.toNat, by omega⟩
 exact which_tab0 d (by omega) o (by omega) fun k _ => h k
theorem cellS_b {c : Int} {k : Nat} (hc : 0 ≤ c ∧ c < 6) (hk : (k : Int) < (cellsS c).1) : cellS c k = (4 + k * nth wordsL c.toNat, 0) ∧ 4 + (k : Int) * nth wordsL c.toNat ≤ 400 ∧ 0 ≤ (k : Int) * nth wordsL c.toNat := by
 obtain ⟨d, rfl⟩ : ∃ d : Nat, c = d := ⟨c.toNat, by omega⟩
 have h14 := (cells_max d (by omega)).1
 have hw := wordsL_8 (j := d) (by omega)
 have h0 : 0 ≤ (k : Int) * nth wordsL d := Int.mul_nonneg (by omega) (by omega)
 refine ⟨by unfold cellS; rw [if_neg (by omega)], ?_, by simpa using h0⟩
 have : (k : Int) * nth wordsL d ≤ 14 * 15 := Int.mul_le_mul (by omega) (by omega) (by omega) (by omega)
 simp only [Int.toNat_natCast]; omega
theorem cellsS_b {c : Int} (hc : 0 ≤ c ∧ c < 6) : 1 ≤ (cellsS c).1 ∧ (cellsS c).1 ≤ 14 ∧ (cellsS c).2 = 0 ∧ (cellsS c).1 = (28 : Int).tdiv (nth wordsL c.toNat) := by
 obtain ⟨d, rfl⟩ : ∃ d : Nat, c = d := ⟨c.toNat, by omega⟩
 have := cells_max d (by omega)
 refine ⟨this.2, this.1, ?_, ?_⟩ <;> (unfold cellsS; rw [if_neg (by omega)])
def openIx (l : List Slot) (i : Nat) : List Nat := (List.range i).filter fun j => openT (nth l j)
def chainS (l : List Slot) : List Int := (openIx l l.length).map fun (j : Nat) => (j : Int)
open Go.Awp
open Go.Awp
set_option maxRecDepth 4000
open Go.Awp
theorem ct21 (g : Gl) (s : Stt) (hs : s.Ok) : CtAt Tryz.prog g 21 [eStt s] (oStt s) := by
 refine ctAt_of_W Tryz.func21 rfl rfl (Nat.le_of_ble_eq_true rfl) fun B S => ?_
 simp only [eStt, List.map, argD_agg, argD_v]
 have q0 := hs.h1
 have q1 := hs.h2
 have q3 := hs.h3
 have e1 : s.slots.length * 32 ≤ 140737488355328 := by omega
 have e2 : s.slots.length ≤ 140737488355328 := by omega
 have e3 : s.roots.length * 32 ≤ 140737488355328 := by omega
 have e4 : s.roots.length ≤ 140737488355328 := by omega
 refine xU ?_
 iterate 2 refine xO ?_
 refine xE [1,2] ?_
 refine xT ?_
 refine xO ?_ (h := by simp [eSlot]; exact .mk)
 refine xO ?_
 refine xO ?_ (h := by simp [splice]; exact .mk)
 refine xE [1,2,3] ?_
 refine xT ?_
 iterate 2 refine xO ?_
 refine xO ?_ (h := by simp [eSlot]; exact .mk)
 refine xO ?_ (h := by simp [rows, e1, e2]; exact .mk)
 refine xO ?_
 refine xO ?_ (h := by simp [splice]; exact .mk)
 refine xE [1,2,3] ?_
 refine xT ?_
 iterate 2 refine xO ?_
 refine xO ?_ (h := by simp [eSlot]; exact .mk)
 refine xO ?_ (h := by simp [rows, e3, e4]; exact .mk)
 refine xO ?_
 refine xO ?_ (h := by simp [splice]; exact .mk)
 refine xE [1,2,3] ?_
 refine xT ?_
 refine xO ?_
 refine xO ?_ (h := by simp [splice]; exact .mk)
 refine xE [1,2,3] fun _ => ?_
 refine W_seq ?_
 refine xU ?_
 refine xO ?_
 refine xE [1,2,3,4] fun _ => ?_
 refine W_block ?_
 refine W_rounds (fun m σ o => ∃ i : Nat, m = s.data.length - i ∧ i ≤ s.data.length ∧ σ = slots [(1, .ptr 0 0 0), (2, .ptr 1 0 0), (3, .ptr 2 0 0), (4, .d (vI i))] ∧ o = [.var 28 [.d (vI s.sh.pages), .d (vI s.sh.slots), .d (vI s.sh.roots), .d (vI s.sh.room), .d (vI s.mode), .d (vI s.base), .d (rSl s.slots), .d (rR s.roots), .d (rBB s.data)], .var 28 [.d (vI 0), .d (vI 0), .d (vI 0), .d (vI 0), .d (vI 0), .d (vI 0), .d (.v (.slice none 0 0)), .d (.v (.slice none 0 0)), .d (.v (.slice none 0 0))], .var 28 [.d (vI s.sh.pages), .d (vI s.sh.slots), .d (vI s.sh.roots), .d (vI s.sh.room), .d (vI s.mode), .d (vI s.base), .hdr 4 0 s.slots.length, .hdr 6 0 s.roots.length, .hdr 7 0 i], .dead, .row 5 (s.slots.map eSlot), .dead, .row 3 (s.roots.map eRoot), .row 1 ((s.data.take i).map oB)]) s.data.length (Weak.nilCell 2 8 1 rfl rfl) ⟨0, by simp, by simp, rfl, rfl⟩ ?_
 rintro m σ o ⟨i, rfl, hi, rfl, rfl⟩ _
 refine W_seq ?_
 refine xU ?_
 iterate 2 refine xO ?_
 refine xO ?_ (h := by simp [eSlot]; exact .mk)
 iterate 2 refine xO ?_
 refine xE [1,2,3,4,21] fun _ => ?_
 refine W_cond rfl ?_ ?_
 · intro h21
   have hi2 : i < s.data.length := by simpa using h21
   have hb := hs.h4 i hi2
   have f1 : (nth s.data i).length ≤ 140737488355328 := by omega
   have f2 : (i + 1) * 24 ≤ 140737488355328 := by omega
   have f3 : i ≤ 140737488355327 := by omega
   have f5 : (D.row M.own 1 ((nth s.data i).map vB)).noOwn = false := by first | rfl | simp [noOwn_row]
   have f4 : min i s.data.length = i := by omega
   refine W_skip ?_
   rintro -
   refine W_seq ?_
   refine W_block ?_
   refine W_regDT (hard := []) [1,2,8,9] (keepOk_lt (by decide)) (by kernel_rfl) 4 [[0,1,3,4,5,6,7,2,8,9,10,11,12], [0,3,4,5,6,7,2,1,8,9,10,11,12], [0,3,4,5,6,7,2,8,1,9,10,11,12], [0,3,4,5,6,7,2,8,9,1,10,11,12]] (by decide +kernel) ⟨?_, ?_, ?_, ?_, trivial⟩
   · skip
     refine xO ?_
     refine xO ?_ (h := by simp [eSlot]; exact .mk)
     refine xO ?_
     refine xO ?_ (h := by simp [eSlot]; exact .mk)
     refine xO ?_
     refine xO ?_ (h := by simp [eSlot, hi2]; exact .mk)
     refine xO ?_ (h := by simp [-List.getElem?_map, map_get hi2]; exact .mk)
     refine xO ?_
     refine xO ?_ (h := by simp [rows, f1]; exact .mk)
     refine xO ?_
     refine xO ?_ (h := by simp [rows, f5, f2, f3, f4]; exact .mk)
     refine xO ?_
     refine xO ?_ (h := by simp [splice]; exact .mk)
     refine xE [1,2,3,4] fun _ => ?_
     refine W_reg rfl ?_
     iterate 3 refine xO ?_
     refine xE [1,2,3,4] ?_
     refine rounds_kill [1,2,3,4] ?_
     refine rounds_kills [1,2,3,4] rfl ?_
     refine rounds_swap 7 11 1 (by decide) (by simp) (by decide) rfl rfl ?_
     refine rounds_drop 8 [1,2,3,4] (by decide) (by rfl) (by rfl) ?_
     refine rounds_next (m' := s.data.length - (i+1)) (by omega) ⟨i+1, rfl, by omega, ?_, ?_⟩
     · rw [wrap64 (by omega) (by omega)]; rfl
     rw [take_succ hi2]; simp; try rfl
   · skip
     iterate 2 refine xO ?_
     refine xO ?_ (h := by simp [eSlot]; exact .mk)
     refine xO ?_
     refine xO ?_ (h := by simp [eSlot, hi2]; exact .mk)
     refine xO ?_ (h := by simp [-List.getElem?_map, map_get hi2]; exact .mk)
     refine xO ?_
     refine xO ?_ (h := by simp [eSlot]; exact .mk)
     refine xO ?_ (h := by simp [rows, f1]; exact .mk)
     refine xO ?_
     refine xO ?_ (h := by simp [rows, f5, f2, f3, f4]; exact .mk)
     refine xO ?_
     refine xO ?_ (h := by simp [splice]; exact .mk)
     refine xE [1,2,3,4] fun _ => ?_
     refine W_reg rfl ?_
     iterate 3 refine xO ?_
     refine xE [1,2,3,4] ?_
     refine rounds_kill [1,2,3,4] ?_
     refine rounds_kills [1,2,3,4] rfl ?_
     refine rounds_swap 7 11 1 (by decide) (by simp) (by decide) rfl rfl ?_
     refine rounds_drop 8 [1,2,3,4] (by decide) (by rfl) (by rfl) ?_
     refine rounds_next (m' := s.data.length - (i+1)) (by omega) ⟨i+1, rfl, by omega, ?_, ?_⟩
     · rw [wrap64 (by omega) (by omega)]; rfl
     rw [take_succ hi2]; simp; try rfl
   · skip
     iterate 2 refine xO ?_
     refine xO ?_ (h := by simp [eSlot]; exact .mk)
     refine xO ?_
     refine xO ?_ (h := by simp [eSlot, hi2]; exact .mk)
     refine xO ?_ (h := by simp [-List.getElem?_map, map_get hi2]; exact .mk)
     refine xO ?_
     refine xO ?_ (h := by simp [rows, f1]; exact .mk)
     refine xO ?_ (h := by simp [eSlot]; exact .mk)
     refine xO ?_
     refine xO ?_ (h := by simp [rows, f5, f2, f3, f4]; exact .mk)
     refine xO ?_
     refine xO ?_ (h := by simp [splice]; exact .mk)
     refine xE [1,2,3,4] fun _ => ?_
     refine W_reg rfl ?_
     iterate 3 refine xO ?_
     refine xE [1,2,3,4] ?_
     refine rounds_kill [1,2,3,4] ?_
     refine rounds_kills [1,2,3,4] rfl ?_
     refine rounds_swap 7 11 1 (by decide) (by simp) (by decide) rfl rfl ?_
     refine rounds_drop 8 [1,2,3,4] (by decide) (by rfl) (by rfl) ?_
     refine rounds_next (m' := s.data.length - (i+1)) (by omega) ⟨i+1, rfl, by omega, ?_, ?_⟩
     · rw [wrap64 (by omega) (by omega)]; rfl
     rw [take_succ hi2]; simp; try rfl
   skip
   iterate 2 refine xO ?_
   refine xO ?_ (h := by simp [eSlot]; exact .mk)
   refine xO ?_
   refine xO ?_ (h := by simp [eSlot, hi2]; exact .mk)
   refine xO ?_ (h := by simp [-List.getElem?_map, map_get hi2]; exact .mk)
   refine xO ?_
   refine xO ?_ (h := by simp [rows, f1]; exact .mk)
   refine xO ?_
   refine xO ?_ (h := by simp [eSlot]; exact .mk)
   refine xO ?_ (h := by simp [rows, f5, f2, f3, f4]; exact .mk)
   refine xO ?_
   refine xO ?_ (h := by simp [splice]; exact .mk)
   refine xE [1,2,3,4] fun _ => ?_
   refine W_reg rfl ?_
   iterate 3 refine xO ?_
   refine xE [1,2,3,4] ?_
   refine rounds_kill [1,2,3,4] ?_
   refine rounds_kills [1,2,3,4] rfl ?_
   refine rounds_swap 7 11 1 (by decide) (by simp) (by decide) rfl rfl ?_
   refine rounds_drop 8 [1,2,3,4] (by decide) (by rfl) (by rfl) ?_
   refine rounds_next (m' := s.data.length - (i+1)) (by omega) ⟨i+1, rfl, by omega, ?_, ?_⟩
   · rw [wrap64 (by omega) (by omega)]; rfl
   rw [take_succ hi2]; simp; try rfl
 intro h21
 obtain rfl : i = s.data.length := by simp at h21; omega
 rw [show List.take s.data.length (s.data.map oB) = s.data.map oB by rw [List.take_of_length_le (by simp)]]
 refine W_exit ?_
 refine xT ?_
 refine xO ?_ (h := by simp [eSlot]; exact .mk)
 refine xO ?_ (h := by simp [splice]; exact .mk)
 refine xE [2] fun _ => ?_
 refine W_ret ?_
 refine end_ret (by simp [Tryz.f21]; exact .mk) (by simp; exact .mk) ?_ (by simp [oStt])
 simp [Tryz.f21, oStt, ownR]

open Go.Awp
open Go.Awp
def turnS (s : Stt) (mode step : Int) : Stt := { s with mode := mode, base := s.base + step }
def clipG (fr : Int) (g : Int × Int) : Int × Int := if 0 < fr - g.1 then (fr, g.2 - (fr - g.1)) else g
def clipS (fr : Int) (l : List (Int × Int)) : List (Int × Int) := (l.map (clipG fr)).filter fun g => decide (0 < g.2)
def gapsOf (s : Stt) : List (Int × Int) := gapsF (s.sh.pages * 32) (s.base * 32) (spansS s.slots)
def behindS (s : Stt) (fr size : Int) : Option Int := (bestS (clipS fr (gapsOf s)) size).map (·.1)
def lenAt (s : Stt) (k : Int) : Int := (nth s.slots k.toNat).len
def upStep (s : Stt) : Stt × Int :=
 if s.base = s.sh.pages then (turnS s 2 0, 0)
 else if onesS s.slots = [] ∨ (s.base + 1) * 32 ≤ (nth (onesS s.slots) 0).at_ then (turnS s s.mode 1, 0)
 else match roomS s true (lenAt s (nth (onesS s.slots) 0).slot) with
  | some a => moveS s (nth (onesS s.slots) 0).slot true a
  | none => match behindS s ((s.base + 1) * 32) (nth (onesS s.slots) 0).len with
   | some a => moveS s (nth (onesS s.slots) 0).slot false a
   | none => (zStt, 10)
def coverB (pages : Int) (page : Int) (o : Int × Int) : Bool := decide ((spotS pages o).1.page ≤ page) && decide (page - (spotS pages o).1.page < (spotS pages o).1.count)
def matesS (pages : Int) (l : List (Int × Int)) (page : Int) : List Nat := (List.range l.length).filter fun i => coverB pages page (nth l i)
def leastS (l : List (Int × Int)) : List Nat → Nat
 | [] => 0
 | i :: t => t.foldl (fun m j => if (nth l j).1 < (nth l m).1 then j else m) i
def restS (l : List (Int × Int)) (ms : List Nat) : List (Int × Int) := ((List.range l.length).filter fun i => !ms.contains i).map (nth l)
def downStep (s : Stt) : Stt × Int :=
 if s.base = 0 then (turnS s 1 0, 0)
 else if matesS s.base (twosO s.slots) (s.base - 1) = [] then (turnS s s.mode (-1), 0)
 else match roomS s false (nth (twosO s.slots) (leastS (twosO s.slots) (matesS s.base (twosO s.slots) (s.base - 1)))).2 with
  | some a => moveS s (nth (twosI s.slots) (leastS (twosO s.slots) (matesS s.base (twosO s.slots) (s.base - 1)))) false a
  | none => match placeS (s.base - 1) (restS (twosO s.slots) (matesS s.base (twosO s.slots) (s.base - 1))) (nth (twosO s.slots) (leastS (twosO s.slots) (matesS s.base (twosO s.slots) (s.base - 1)))).2 with
   | some a => moveS s (nth (twosI s.slots) (leastS (twosO s.slots) (matesS s.base (twosO s.slots) (s.base - 1)))) true a
   | none => (zStt, 10)
def stepS (s : Stt) : Stt × Int := if sttS s = true then (if s.mode = 3 then upStep s else if s.mode = 4 then downStep s else (zStt, 12)) else (zStt, 1)
def frontB (s : Stt) (x : Slot) : Bool := isOne x && decide (x.at_ < (s.base + 1) * 32)
def frontN (s : Stt) : Nat := ((List.range s.slots.length).filter fun i => frontB s (nth s.slots i)).length
def leftU (s : Stt) : Nat := if s.base = s.sh.pages then 1 else 9 * (s.sh.pages - s.base - 1).toNat + frontN s + 2
open Go.Awp
/- The document's answers, in plain Lean: blocks in order, rows of free pages. -/
def insR : List Blk → Blk → List Blk
 | [], b => [b]
 | x :: l, b => if b.at_ < x.at_ then b :: x :: l else x :: insR l b
theorem insR_at {b : Blk} : ∀ {l : List Blk} {k : Nat}, k ≤ l.length → (∀ j, j < k → (nth l j).at_ ≤ b.at_) → (k < l.length → b.at_ < (nth l k).at_) → insR l b = l.take k ++ b :: l.drop k
 | [], k, h, _, _ => by
  obtain rfl : k = 0 := by simpa using h
  rfl
 | x :: l, 0, _, _, h2 => by
  have := h2 (by simp)
  unfold insR; rw [if_pos (by simpa [nth] using this)]; rfl
 | x :: l, k + 1, h, h1, h2 => by
  have h0 := h1 0 (by omega)
  unfold insR; rw [if_neg (by have : x.at_ ≤ b.at_ := by simpa [nth] using h0
                              omega)]
  rw [insR_at (l := l) (k := k) (by simpa using h) (fun j hj => by have := h1 (j + 1) (by omega); simpa [nth] using this) (fun hk => by have := h2 (by simpa using hk); simpa [nth] using this)]
  rfl
theorem insR_perm {b : Blk} : ∀ {l : List Blk}, (insR l b).Perm (b :: l)
 | [] => .refl _
 | x :: l => by
  unfold insR; split
  · exact .refl _
  · exact (List.Perm.cons x (insR_perm (l := l))).trans (List.Perm.swap b x l)
theorem insR_sorted {b : Blk} : ∀ {l : List Blk}, l.Pairwise beforeB → (∀ y ∈ l, y.slot < b.slot) → (insR l b).Pairwise beforeB
 | [], _, _ => by simp [insR]
 | x :: l, h, h2 => by
  rw [List.pairwise_cons] at h
  unfold insR; split
  · rename_i hx
    rw [List.pairwise_cons]
    refine ⟨fun y hy => ?_, List.pairwise_cons.2 h⟩
    rcases List.mem_cons.1 hy with rfl | hy
    · exact .inl hx
    · have := h.1 y hy; unfold beforeB at *; omega
  · rename_i hx
    rw [List.pairwise_cons]
    refine ⟨fun y hy => ?_, insR_sorted h.2 fun y hy => h2 y (by simp [hy])⟩
    rcases List.mem_cons.1 (insR_perm.mem_iff.1 hy) with rfl | hy
    · have := h2 x (by simp); unfold beforeB; omega
    · exact h.1 y hy
theorem before_uniq : ∀ {l m : List Blk}, l.Perm m → l.Pairwise beforeB → m.Pairwise beforeB → l = m
 | [], m, h, _, _ => (List.nil_perm.1 h).symm
 | a :: l, [], h, _, _ => by simpa using h.length_eq
 | a :: l, b :: m, h, h1, h2 => by
  rw [List.pairwise_cons] at h1 h2
  by_cases e : a = b
  · subst e; rw [before_uniq (List.Perm.cons_inv h) h1.2 h2.2]
  · exfalso
    have q1 : a ∈ m := (List.mem_cons.1 (h.mem_iff.1 (by simp))).resolve_left e
    have q2 : b ∈ l := (List.mem_cons.1 (h.mem_iff.2 (by simp))).resolve_left fun q => e q.symm
    have := h1.1 b q2; have := h2.1 a q1
    unfold beforeB at *; omega
def insI (l : List Slot) : Nat → List Blk
 | 0 => []
 | i + 1 => if isOne (nth l i) = true then insR (insI l i) (blkAt l i) else insI l i
theorem insI_perm {l : List Slot} : ∀ {i : Nat}, (insI l i).Perm ((oneIx l i).map (blkAt l))
 | 0 => .refl _
 | i + 1 => by
  unfold insI; split
  · rename_i h
    rw [oneIx_t h, List.map_append]
    exact insR_perm.trans ((List.Perm.cons _ insI_perm).trans (List.perm_append_comm (l₁ := [blkAt l i])))
  · rename_i h; rw [oneIx_f (by simpa using h)]; exact insI_perm
theorem insI_slot {l : List Slot} {i : Nat} : ∀ b ∈ insI l i, b.slot < (i : Int) := fun b hb => by
 have := insI_perm.mem_iff.1 hb
 simp only [List.mem_map] at this
 obtain ⟨k, hk, rfl⟩ := this
 have := (oneIx_mem hk).1
 show (k : Int) < i; omega
theorem insI_sorted {l : List Slot} : ∀ {i : Nat}, (insI l i).Pairwise beforeB
 | 0 => List.Pairwise.nil
 | i + 1 => by
  unfold insI; split
  · exact insR_sorted insI_sorted fun y hy => insI_slot y hy
  · exact insI_sorted
theorem insI_len {l : List Slot} {i : Nat} : (insI l i).length ≤ i := by
 rw [insI_perm.length_eq, List.length_map]; exact oneIx_len
theorem insI_onesS {l : List Slot} : insI l l.length = onesS l := before_uniq (insI_perm.trans (stS_perm _).symm) insI_sorted onesS_sorted
theorem runsI_skip {ks : List Int} {i : Nat} (h : nth ks i ≠ -1) : runsI ks (i + 1) = ((runsI ks i).1, false) := by
 conv => lhs; unfold runsI
 rw [if_neg h]
theorem runsI_free {ks : List Int} {i : Nat} (hf : (runsI ks i).2 = false) : ∀ {n : Nat}, (∀ t, t < n + 1 → nth ks (i + t) = -1) → runsI ks (i + (n + 1)) = ((runsI ks i).1 ++ [((i : Int), ((n + 1 : Nat) : Int))], true)
 | 0, h => by
  show runsI ks (i + 1) = _
  conv => lhs; unfold runsI
  rw [if_pos (by simpa using h 0 (by omega)), if_neg (by simp [hf])]; rfl
 | n + 1, h => by
  have ih := runsI_free hf (n := n) fun t ht => h t (by omega)
  show runsI ks ((i + (n + 1)) + 1) = _
  conv => lhs; unfold runsI
  rw [if_pos (h (n + 1) (by omega)), ih]
  simp only [if_true]
  rw [bumpR_last]; rfl
def gapsR (fr to : Int) (l : List (Int × Int)) : List (Int × Int) × Int := if gapsS fr to l = true then (gapsF to fr l, 0) else ([], 1)
open Go.Awp
theorem ct233 (g : Gl) : CtAt Tryz.prog g 233 [vI 64] (vI 13) := by
 refine ctAt_of_W Tryz.func233 rfl rfl (Nat.le_of_ble_eq_true rfl) fun B S => ?_
 refine xU ?_
 refine xO ?_
 refine xE [0] fun _ => ?_
 refine W_seq ?_
 refine xU ?_
 iterate 2 refine xO ?_
 refine xE [0,5] fun _ => ?_
 refine W_cond rfl ?_ ?_
 · intro h5
   simp at h5
 intro h5
 refine W_skip ?_
 refine xT ?_
 iterate 7 refine xO ?_
 refine xE [0] ?_
 refine xT ?_
 iterate 3 refine xO ?_
 refine xE [0] ?_
 refine xT ?_
 iterate 2 refine xO ?_
 refine xE [0,3] fun _ => ?_
 refine W_seq ?_
 refine W_block ?_
 refine W_rounds (fun m σ o => ((m = 3 ∧ σ = slots [(0, .d (vI 10)), (3, .d (vI 10))]) ∨ (m = 2 ∧ σ = slots [(0, .d (vI 2)), (3, .d (vI 12))]) ∨ (m = 1 ∧ σ = slots [(0, .d (vI 1)), (3, .d (vI 13))])) ∧ o = []) 3 .refl ⟨.inl ⟨rfl, rfl⟩, rfl⟩ ?_
 rintro m σ o ⟨⟨rfl, rfl⟩ | ⟨rfl, rfl⟩ | ⟨rfl, rfl⟩, rfl⟩ _
 · skip
   skip
   refine W_seq ?_
   refine xU ?_
   iterate 2 refine xO ?_
   refine xE [0,3,16] fun _ => ?_
   refine W_cond rfl ?_ ?_
   · intro h16
     refine W_skip ?_
     rintro -
     refine W_block ?_
     refine xU ?_
     iterate 7 refine xO ?_
     refine xE [0,3] fun _ => ?_
     refine W_reg rfl ?_
     iterate 4 refine xO ?_
     refine xE [0,3] ?_
     refine rounds_kill [0,3] ?_
     exact rounds_next (m' := 2) (by omega) ⟨.inr (.inl ⟨rfl, rfl⟩), rfl⟩
   intro h16
   simp at h16
 · skip
   skip
   refine W_seq ?_
   refine xU ?_
   iterate 2 refine xO ?_
   refine xE [0,3,16] fun _ => ?_
   refine W_cond rfl ?_ ?_
   · intro h16
     refine W_skip ?_
     rintro -
     refine W_block ?_
     refine xU ?_
     iterate 7 refine xO ?_
     refine xE [0,3] fun _ => ?_
     refine W_reg rfl ?_
     iterate 4 refine xO ?_
     refine xE [0,3] ?_
     refine rounds_kill [0,3] ?_
     exact rounds_next (m' := 1) (by omega) ⟨.inr (.inr ⟨rfl, rfl⟩), rfl⟩
   intro h16
   simp at h16
 skip
 skip
 refine W_seq ?_
 refine xU ?_
 iterate 2 refine xO ?_
 refine xE [0,3,16] fun _ => ?_
 refine W_cond rfl ?_ ?_
 · intro h16
   simp at h16
 intro h16
 refine W_exit ?_
 refine xT ?_
 iterate 2 refine xO ?_
 refine xE [2] fun _ => ?_
 refine W_ret ?_
 refine xR (by simp [Tryz.f233]; exact .mk) ?_
 simp [Tryz.f233]

theorem ct202 (g : Gl) (s : Shape) (hs : sizedSh s = true) : CtAt Tryz.prog g 202 [eShape s] (.agg [vI 1, vI 2, vI s.room, vI (headsS s), vI (tableA s), vI (rootsA s), vI (treeA s), vI (heapA s), vI (linesA s)]) := by
 refine ctAt_of_W Tryz.func202 rfl rfl (Nat.le_of_ble_eq_true rfl) fun B S => ?_
 simp only [eShape, List.map, argD_agg]
 have hb : 1 ≤ s.pages ∧ s.pages ≤ 64 ∧ 1 ≤ s.room ∧ s.room ≤ 4096 ∧ 2 ≤ s.slots ∧ s.slots ≤ 32 ∧ 2 ≤ s.roots ∧ s.roots ≤ 8 := by simp [sizedSh] at hs; omega
 have d1 : 0 ≤ s.slots.tdiv 2 ∧ s.slots.tdiv 2 ≤ 16 := by rw [Int.tdiv_eq_ediv_of_nonneg (by omega)]; omega
 have d2 : 0 ≤ s.roots.tdiv 2 ∧ s.roots.tdiv 2 ≤ 4 := by rw [Int.tdiv_eq_ediv_of_nonneg (by omega)]; omega
 have q1 : headsS s = 2 + s.room * 2 := rfl
 have q2 : tableA s = headsS s + 1 := rfl
 have q3 : rootsA s = tableA s + s.slots.tdiv 2 := rfl
 have q4 : treeA s = rootsA s + s.roots.tdiv 2 := rfl
 have q5 : heapA s = treeA s + 26 := rfl
 have q6 : linesA s = heapA s + s.pages * 4 := rfl
 have e1 : IntKind.i64.wrap (2 * s.room) = 2 * s.room := wrap64 (by omega) (by omega)
 have e2 : IntKind.i64.wrap (2 + 2 * s.room) = headsS s := (wrap64 (by omega) (by omega)).trans (by omega)
 have e3 : IntKind.i64.wrap (headsS s + 1) = tableA s := (wrap64 (by omega) (by omega)).trans (by omega)
 have e4 : IntKind.i64.wrap (s.slots.tdiv 2) = s.slots.tdiv 2 := wrap64 (by omega) (by omega)
 have e5 : IntKind.i64.wrap (tableA s + s.slots.tdiv 2) = rootsA s := (wrap64 (by omega) (by omega)).trans (by omega)
 have e6 : IntKind.i64.wrap (s.roots.tdiv 2) = s.roots.tdiv 2 := wrap64 (by omega) (by omega)
 have e7 : IntKind.i64.wrap (rootsA s + s.roots.tdiv 2) = treeA s := (wrap64 (by omega) (by omega)).trans (by omega)
 have e8 : IntKind.i64.wrap 26 = 26 := rfl
 have e9 : IntKind.i64.wrap (treeA s + 26) = heapA s := (wrap64 (by omega) (by omega)).trans (by omega)
 have e10 : IntKind.i64.wrap (4 * s.pages) = 4 * s.pages := wrap64 (by omega) (by omega)
 have e11 : IntKind.i64.wrap (heapA s + 4 * s.pages) = linesA s := (wrap64 (by omega) (by omega)).trans (by omega)
 refine xU ?_
 iterate 2 refine xO ?_
 refine xE [1,2] ?_
 refine xT ?_
 iterate 2 refine xO ?_
 iterate 2 (refine xO ?_ (h := by simp [splice]; exact .mk))
 refine xO ?_
 refine xO ?_ (h := by simp [splice]; exact .mk)
 refine xE [1,2,3] ?_
 refine xT ?_
 iterate 2 refine xO ?_
 refine xO ?_ (h := by simp [e1]; exact .mk)
 refine xO ?_ (h := by simp [e2]; exact .mk)
 refine xO ?_
 refine xO ?_ (h := by simp [splice]; exact .mk)
 refine xE [1,2,3] ?_
 refine xT ?_
 iterate 2 refine xO ?_
 refine xO ?_ (h := by simp [e3]; exact .mk)
 refine xO ?_
 refine xO ?_ (h := by simp [splice]; exact .mk)
 refine xE [1,2,3] ?_
 refine xT ?_
 iterate 4 refine xO ?_
 refine xO ?_ (h := by simp [e4]; exact .mk)
 refine xO ?_ (h := by simp [e5]; exact .mk)
 refine xO ?_
 refine xO ?_ (h := by simp [splice]; exact .mk)
 refine xE [1,2,3] ?_
 refine xT ?_
 iterate 4 refine xO ?_
 refine xO ?_ (h := by simp [e6]; exact .mk)
 refine xO ?_ (h := by simp [e7]; exact .mk)
 refine xO ?_
 refine xO ?_ (h := by simp [splice]; exact .mk)
 refine xE [1,2,3] fun _ => ?_
 refine W_seq ?_
 refine W_regD (by kernel_rfl) [] 4 [0,1,2,3,4,5,6] (by decide +kernel) ?_
 iterate 2 refine xO ?_
 refine xC (ct233 g) ?_
 refine xO ?_ (h := by simp [e8]; exact .mk)
 refine xO ?_ (h := by simp [e9]; exact .mk)
 refine xO ?_
 refine xO ?_ (h := by simp [splice]; exact .mk)
 refine xE [1,2,3] ?_
 refine xT ?_
 iterate 4 refine xO ?_
 refine xO ?_ (h := by simp [e10]; exact .mk)
 refine xO ?_ (h := by simp [e11]; exact .mk)
 refine xO ?_
 refine xO ?_ (h := by simp [splice]; exact .mk)
 refine xE [2,3] ?_
 refine xT ?_
 refine xO ?_
 refine xO ?_ (h := by simp [splice]; exact .mk)
 refine xE [2] fun _ => ?_
 refine W_ret ?_
 refine xR (by simp [Tryz.f202]; exact .mk) ?_
 simp [Tryz.f202]

theorem ct144 (g : Gl) (s : Shape) : CtAt Tryz.prog g 144 [eShape s] (.v (.bool (shapeS s))) := by
 refine ctAt_of_W Tryz.func144 rfl rfl (Nat.le_of_ble_eq_true rfl) fun B S => ?_
 simp only [eShape, List.map, argD_agg]
 have m1 : 2 ≤ s.slots → (s.slots.tmod 2 = 0 ∨ s.slots.tmod 2 = 1) := fun h => by rw [Int.tmod_eq_emod_of_nonneg (by omega)]; omega
 have m2 : 2 ≤ s.roots → (s.roots.tmod 2 = 0 ∨ s.roots.tmod 2 = 1) := fun h => by rw [Int.tmod_eq_emod_of_nonneg (by omega)]; omega
 refine xU ?_
 iterate 2 refine xO ?_
 refine xE [1] fun _ => ?_
 refine W_seq ?_
 refine xU ?_
 iterate 4 refine xO ?_
 iterate 3 refine xI ?_
 refine xP ?_
 refine xB ?_
 iterate 3 refine xI ?_
 refine xP ?_
 refine xB ?_
 iterate 3 refine xI ?_
 refine xP ?_
 refine xB ?_
 iterate 4 refine xI ?_
 refine xP ?_
 refine xB ?_
 iterate 3 refine xI ?_
 refine xP ?_
 refine xB ?_
 iterate 3 refine xI ?_
 refine xP ?_
 refine xB ?_
 iterate 4 refine xI ?_
 refine xP ?_
 refine xB ?_
 iterate 3 refine xI ?_
 refine xP ?_
 refine xB ?_
 iterate 3 refine xI ?_
 refine xP ?_
 refine xE [1,52] fun _ => ?_
 refine W_cond rfl ?_ ?_
 · intro h52
   have hz : sizedSh s = false := by simp [sizedSh] at h52 ⊢; omega
   have hr : shapeS s = false := by simp [shapeS, hz]
   refine xU ?_
   refine xO ?_
   refine xE [2] fun _ => ?_
   refine W_ret ?_
   refine xR (by simp [Tryz.f144]; exact .mk) ?_
   simp [Tryz.f144, hr]
 intro h52
 have hz : sizedSh s = true := by simp [sizedSh] at h52 ⊢; omega
 have hr : shapeS s = decide (linesA s ≤ 4096) := by simp [shapeS, hz]
 refine W_skip ?_
 refine xT ?_
 refine xO ?_
 refine xC (ct202 g s hz) ?_
 iterate 3 refine xO ?_
 refine xE [2] fun _ => ?_
 refine W_ret ?_
 refine xR (by simp [Tryz.f144]; exact .mk) ?_
 simp [Tryz.f144, hr]

theorem ct92 (g : Gl) (s : Shape) (mode base : Int) : CtAt Tryz.prog g 92 [eShape s, vI mode, vI base] (.v (.bool (superS s mode base))) := by
 refine ctAt_of_W Tryz.func92 rfl rfl (Nat.le_of_ble_eq_true rfl) fun B S => ?_
 simp only [eShape, List.map, argD_agg, argD_v]
 refine xU ?_
 iterate 2 refine xO ?_
 refine xE [1,2,3] ?_
 refine xT ?_
 refine xO ?_
 refine xC (ct144 g s) ?_
 refine xO ?_
 refine xE [1,2,3,7] fun _ => ?_
 refine W_seq ?_
 refine xU ?_
 iterate 3 refine xO ?_
 iterate 2 refine xI ?_
 refine xP ?_
 refine xB ?_
 iterate 4 refine xI ?_
 refine xP ?_
 refine xE [1,2,3,21] fun _ => ?_
 refine W_cond rfl ?_ ?_
 · intro h21
   refine xU ?_
   refine xO ?_
   refine xE [6] fun _ => ?_
   refine W_ret ?_
   refine xR (by simp [Tryz.f92]; exact .mk) ?_
   first | (simp [Tryz.f92, superS, *]; done) | (simp [Tryz.f92, superS] at *; grind)
 intro h21
 refine W_skip ?_
 rintro -
 refine W_seq ?_
 refine xU ?_
 refine xO ?_
 refine xE [2,3,22] fun _ => ?_
 refine W_block ?_
 refine xU ?_
 iterate 2 refine xO ?_
 refine xE [2,3,22,23] fun _ => ?_
 refine W_cond rfl ?_ ?_
 · intro h23
   refine xU ?_
   iterate 3 refine xO ?_
   refine xE [6] fun _ => ?_
   refine W_ret ?_
   refine xR (by simp [Tryz.f92]; exact .mk) ?_
   first | (simp [Tryz.f92, superS, *]; done) | (simp [Tryz.f92, superS] at *; grind)
 intro h23
 refine xU ?_
 iterate 2 refine xO ?_
 refine xE [2,3,22,27] fun _ => ?_
 refine W_cond rfl ?_ ?_
 · intro h27
   refine xU ?_
   iterate 5 refine xO ?_
   refine xE [6] fun _ => ?_
   refine W_ret ?_
   refine xR (by simp [Tryz.f92]; exact .mk) ?_
   first | (simp [Tryz.f92, superS, *]; done) | (simp [Tryz.f92, superS] at *; grind)
 intro h27
 refine W_seq ?_
 refine xU ?_
 iterate 2 refine xO ?_
 refine xE [22,33] fun _ => ?_
 refine W_cond rfl ?_ ?_
 · intro h33
   refine W_skip ?_
   rintro -
   refine W_cond rfl ?_ ?_
   · intro h33'
     refine xU ?_
     refine xO ?_
     refine xE [6] fun _ => ?_
     refine W_ret ?_
     refine xR (by simp [Tryz.f92]; exact .mk) ?_
     first | (simp [Tryz.f92, superS, *]; done) | (simp [Tryz.f92, superS] at *; grind)
   intro hq
   cases h33.symm.trans hq
 intro h33
 refine W_reg rfl ?_
 iterate 2 refine xO ?_
 refine xE [33] fun _ => ?_
 refine W_cond rfl ?_ ?_
 · intro h33'
   refine xU ?_
   refine xO ?_
   refine xE [6] fun _ => ?_
   refine W_ret ?_
   refine xR (by simp [Tryz.f92]; exact .mk) ?_
   first | (simp [Tryz.f92, superS, *]; done) | (simp [Tryz.f92, superS] at *; grind)
 intro h33'
 refine W_skip ?_
 refine xT ?_
 refine xO ?_
 refine xE [6] fun _ => ?_
 refine W_ret ?_
 refine xR (by simp [Tryz.f92]; exact .mk) ?_
 first | (simp [Tryz.f92, superS, *]; done) | (simp [Tryz.f92, superS] at *; grind)

theorem ct145 (g : Gl) (s : Slot) : CtAt Tryz.prog g 145 [eSlot s] (.v (.bool (slotS1 s))) := by
 refine ctAt_of_W Tryz.func145 rfl rfl (Nat.le_of_ble_eq_true rfl) fun B S => ?_
 simp only [eSlot, List.map, argD_agg]
 refine xU ?_
 iterate 2 refine xO ?_
 refine xE [1] fun _ => ?_
 refine W_seq ?_
 refine xU ?_
 iterate 4 refine xO ?_
 iterate 3 refine xI ?_
 refine xP ?_
 refine xE [1,10] fun _ => ?_
 refine W_cond rfl ?_ ?_
 · intro h10
   refine xU ?_
   refine xO ?_
   refine xE [2] fun _ => ?_
   refine W_ret ?_
   refine xR (by simp [Tryz.f145]; exact .mk) ?_
   simp [Tryz.f145, slotS1] at *; grind
 intro h10
 refine W_skip ?_
 rintro -
 refine W_seq ?_
 refine xU ?_
 iterate 3 refine xO ?_
 refine xE [1,13] fun _ => ?_
 refine W_cond rfl ?_ ?_
 · intro h13
   refine xU ?_
   iterate 4 refine xO ?_
   iterate 3 refine xI ?_
   refine xP ?_
   refine xB ?_
   iterate 3 refine xI ?_
   refine xP ?_
   refine xB ?_
   refine xE [2] fun _ => ?_
   refine W_ret ?_
   refine xR (by simp [Tryz.f145]; exact .mk) ?_
   simp [Tryz.f145, slotS1] at *; grind
 intro h13
 refine W_skip ?_
 refine xT ?_
 iterate 4 refine xO ?_
 iterate 3 refine xI ?_
 refine xP ?_
 refine xB ?_
 iterate 3 refine xI ?_
 refine xP ?_
 refine xB ?_
 iterate 3 refine xI ?_
 refine xP ?_
 refine xB ?_
 refine xE [2] fun _ => ?_
 refine W_ret ?_
 refine xR (by simp [Tryz.f145]; exact .mk) ?_
 simp [Tryz.f145, slotS1] at *; grind

theorem ct93 (g : Gl) (l : List Slot) (hl : l.length ≤ 2^40) : CtAt Tryz.prog g 93 [rSl l] (.v (.bool (tableS l))) := by
 refine ctAt_of_W Tryz.func93 rfl rfl (Nat.le_of_ble_eq_true rfl) fun B S => ?_
 refine xU ?_
 refine xO ?_
 refine xE [0] fun _ => ?_
 refine W_seq ?_
 refine xU ?_
 refine xO ?_
 refine xE [0,3] fun _ => ?_
 refine W_block ?_
 refine W_rounds (fun m σ o => ∃ i : Nat, m = l.length - i ∧ i ≤ l.length ∧ (∀ j, j < i → slotS1 (nth l j) = true) ∧ σ = slots [(0, .d (rSl l)), (3, .d (vI i))] ∧ o = []) l.length .refl ⟨0, by simp, by simp, by simp, rfl, rfl⟩ ?_
 rintro m σ o ⟨i, rfl, hi, hinv, rfl, rfl⟩ _
 refine W_seq ?_
 refine xU ?_
 iterate 4 refine xO ?_
 refine xE [0,3,8] fun _ => ?_
 refine W_cond rfl ?_ ?_
 · intro h8
   have hi2 : i < l.length := by simpa using h8
   refine W_skip ?_
   rintro -
   refine W_seq ?_
   refine W_block ?_
   refine xU ?_
   iterate 2 refine xO ?_
   refine xO ?_ (h := by simp [eSlot, hi2]; exact .mk)
   refine xO ?_ (h := by simp [-List.getElem?_map, map_get hi2, eSlot]; exact .mk)
   refine xC (ct145 g (nth l i)) ?_
   refine xO ?_
   refine xE [0,3,4] ?_
   refine xT ?_
   iterate 2 refine xO ?_
   refine xE [0,3,17] fun _ => ?_
   refine W_cond rfl ?_ ?_
   · intro h17
     have hr : tableS l = false := by unfold tableS; rw [all_bad hi2 (by simpa using h17)]; rfl
     refine xU ?_
     refine xO ?_
     refine xE [2] fun _ => ?_
     refine W_ret ?_
     refine xR (by simp [Tryz.f93]; exact .mk) ?_
     first | (simp [Tryz.f93, hr]; done) | (simp [Tryz.f93, hr, tnewOk, Bool.and_assoc]; try (first | done | grind))
   intro h17
   refine W_skip ?_
   rintro -
   refine W_reg rfl ?_
   iterate 3 refine xO ?_
   refine xE [0,3] ?_
   refine rounds_drop 0 [0,3] (by simp) (by simp) (by simp) ?_
   refine rounds_next (m' := l.length - (i+1)) (by omega) ⟨i+1, rfl, by omega, ?_, ?_, rfl⟩
   · intro j hj
     rcases Nat.lt_succ_iff_lt_or_eq.1 hj with hj | rfl
     · exact hinv j hj
     simpa using h17
   rw [wrap64 (by omega) (by omega)]; rfl
 intro h8
 have hr : tableS l = tnewOk l.length := by unfold tableS; rw [all_good (fun j hj => hinv j (by simp at h8; omega))]; rfl
 refine W_exit ?_
 refine xT ?_
 iterate 4 refine xO ?_
 iterate 3 refine xI ?_
 refine xP ?_
 refine xB ?_
 iterate 4 refine xI ?_
 refine xP ?_
 refine xB ?_
 refine xE [2] fun _ => ?_
 refine W_ret ?_
 refine xR (by simp [Tryz.f93]; exact .mk) ?_
 first | (simp [Tryz.f93, hr]; done) | (simp [Tryz.f93, hr, tnewOk, Bool.and_assoc]; try (first | done | grind))

end Go.Proofs
