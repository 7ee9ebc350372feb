/- Contracts of the program's functions and plain facts, for arguments as each lemma says. -/
import Derived.Test.YtokgokbgidgfeaaAwpD
import Derived.Test.YtokgokbgidgfeaaCA
import Derived.Test.YtokgokbgidgfeaaCD
import Derived.Test.YtokgokbgidgfeaaCE
set_option linter.all false
set_option maxHeartbeats 4000000
namespace Go.Proofs
open Go.Awp
theorem in87 (g : Gl) (o0 o1 o2 o3 o8 : Awp.Obj) (a : Abs) (o : Op) (ho : ∀ m, objsLt m [o0, o1, o2, o3, o8] = true) (ha : a.Ok) (k : Nat) (hix : o.ix = k) (hk : k < a.data.length) (hd : (nth a.data k).length ≤ 2^40) (hq : reachS (nth a.data k).length o.off o.n = true) : ∀ B S, CallsA Try.prog g B S ⟨9, true⟩ 87 [.ptr 7 0 0, .agg [.d (vI o.act), .d (vI o.ix), .d (vI o.gen), .d (vI o.n), .d (vI o.off), .d (rB o.b), .d (vS o.name)]] [o0, o1, o2, o3, .row 1 (a.gens.map vI), .row 1 (a.data.map oB), .row 3 (a.roots.map eRoot), .var 79 [.hdr 4 0 a.gens.length, .hdr 5 0 a.data.length, (.hdr 6 0 a.roots.length), .d (vI 0), .d (vI 0), .d (.v (.slice none 0 0))], o8]
    (fun x q => x = .d (vI 0) ∧ q = [o0, o1, o2, o3, .row 1 (a.gens.map vI), .row 1 (a.data.map oB), .row 3 (a.roots.map eRoot), .var 79 [.hdr 4 0 a.gens.length, .hdr 5 0 a.data.length, (.hdr 6 0 a.roots.length), .d (vI 0), .d (vI 0), .hdr 10 0 (readS a k o.off o.n).b.length], o8, .var 31 [.d (vI o.act), .d (vI k), .d (vI o.gen), .d (vI o.n), .d (vI o.off), .d (rB o.b), .d (vS o.name)], .row 1 ((readS a k o.off o.n).b.map vB)]) := by
 refine callsA_at Try.func87 rfl (Nat.le_of_ble_eq_true rfl) fun B S => ?_
 obtain ⟨z0, z1, z2, z3, z8⟩ : o0.lt 9 = true ∧ o1.lt 9 = true ∧ o2.lt 9 = true ∧ o3.lt 9 = true ∧ o8.lt 9 = true := by simpa using ho 9
 simp only [hix]
 refine xU ?_
 iterate 2 (refine xO ?_ (h := by simp [z0, z1, z2, z3, z8]; exact .mk))
 refine xF [0,3] ?_
 refine W_seq ?_
 have hrr : readS a k o.off o.n = ⟨a, 0, 0, ((nth a.data k).drop o.off.toNat).take o.n.toNat, 0⟩ := by simp [readS, hq]
 refine W_reg rfl ?_
 iterate 7 (refine xO ?_ (h := by simp [z0, z1, z2, z3, z8]; exact .mk))
 refine run_inl0 rfl rfl rfl rfl (by simp [z0, z1, z2, z3, z8]; exact .mk) ⟨_, Try.func120, rfl, rfl⟩ (in120 g _ _ _ _ _ _ a k o.gen o.off o.n true (fun m => by have := ho m; simp at this; simp [this]) hk hd hq) (.inr ⟨[], by simp⟩) ?_
 iterate 5 (refine xO ?_ (h := by simp [z0, z1, z2, z3, z8]; exact .mk))
 refine xF [0,5,6] ?_
 refine W_seq (xU ?_)
 iterate 2 (refine xO ?_ (h := by simp [z0, z1, z2, z3, z8]; exact .mk))
 refine xF [0,5,19] ?_
 refine W_cond rfl ?_ ?_
 · intro h19
   simp at h19
 intro h19
 refine W_skip ?_
 refine xT ?_
 iterate 2 (refine xO ?_ (h := by simp [z0, z1, z2, z3, z8]; exact .mk))
 refine run_call0 rfl rfl rfl rfl (by simp [z0, z1, z2, z3, z8]; exact .mk) (by simp [z0, z1, z2, z3, z8]; exact .mk) (ct53 g _ (by simp; omega)) (by simp [z0, z1, z2, z3, z8]) (by simp [z0, z1, z2, z3, z8]; exact .mk) ?_
 iterate 3 (refine xO ?_ (h := by simp [z0, z1, z2, z3, z8]; exact .mk))
 refine xO ?_ (h := by simp [z0, z1, z2, z3, z8, splice]; exact .mk)
 refine xG [] ?_
 refine xO ?_ (h := by simp [z0, z1, z2, z3, z8]; exact .mk)
 refine xF [4] ?_
 refine W_ret (endAt_ret (by simp [z0, z1, z2, z3, z8, Try.f87]; exact .mk) ?_ ?_)
 · simp
 simp [hrr]

theorem in87f (g : Gl) (o0 o1 o2 o3 o8 : Awp.Obj) (a : Abs) (o : Op) (ho : ∀ m, objsLt m [o0, o1, o2, o3, o8] = true) (ha : a.Ok) (k : Nat) (hix : o.ix = k) (hk : k < a.data.length) (hd : (nth a.data k).length ≤ 2^40) (hq : reachS (nth a.data k).length o.off o.n = false) : ∀ B S, CallsA Try.prog g B S ⟨9, true⟩ 87 [.ptr 7 0 0, .agg [.d (vI o.act), .d (vI o.ix), .d (vI o.gen), .d (vI o.n), .d (vI o.off), .d (rB o.b), .d (vS o.name)]] [o0, o1, o2, o3, .row 1 (a.gens.map vI), .row 1 (a.data.map oB), .row 3 (a.roots.map eRoot), .var 79 [.hdr 4 0 a.gens.length, .hdr 5 0 a.data.length, (.hdr 6 0 a.roots.length), .d (vI 0), .d (vI 0), .d (.v (.slice none 0 0))], o8]
    (fun x q => x = .d (vI 1) ∧ q = [o0, o1, o2, o3, .row 1 (a.gens.map vI), .row 1 (a.data.map oB), .row 3 (a.roots.map eRoot), .var 79 [.hdr 4 0 a.gens.length, .hdr 5 0 a.data.length, (.hdr 6 0 a.roots.length), .d (vI 0), .d (vI 0), .d (.v (.slice none 0 0))], o8]) := by
 refine callsA_at Try.func87 rfl (Nat.le_of_ble_eq_true rfl) fun B S => ?_
 obtain ⟨z0, z1, z2, z3, z8⟩ : o0.lt 9 = true ∧ o1.lt 9 = true ∧ o2.lt 9 = true ∧ o3.lt 9 = true ∧ o8.lt 9 = true := by simpa using ho 9
 simp only [hix]
 refine xU ?_
 iterate 2 (refine xO ?_ (h := by simp [z0, z1, z2, z3, z8]; exact .mk))
 refine xG [0,3] ?_
 iterate 7 (refine xO ?_ (h := by simp [z0, z1, z2, z3, z8]; exact .mk))
 refine run_inl0 rfl rfl rfl rfl (by simp [z0, z1, z2, z3, z8]; exact .mk) ⟨_, Try.func120, rfl, rfl⟩ (in120 g _ _ _ _ _ _ a k o.gen o.off o.n false (fun m => by have := ho m; simp at this; simp [this]) hk hd hq) (.inr ⟨[], by simp⟩) ?_
 iterate 5 (refine xO ?_ (h := by simp [z0, z1, z2, z3, z8]; exact .mk))
 refine xF [0,5,6] ?_
 refine W_seq (xU ?_)
 iterate 2 (refine xO ?_ (h := by simp [z0, z1, z2, z3, z8]; exact .mk))
 refine xF [0,5,19] ?_
 refine W_cond rfl ?_ ?_
 · intro h19
   refine xU ?_
   refine xO ?_ (h := by simp [z0, z1, z2, z3, z8]; exact .mk)
   refine xF [4] ?_
   refine W_ret (endAt_drop 9 (by simp [z0, z1, z2, z3, z8, Try.f87]; exact .mk) ?_ ?_ (by simp) (by simp [z0, z1, z2, z3, z8]) (by simp [z0, z1, z2, z3, z8]))
   · simp
   simp
 intro h19
 simp at h19

theorem in88 (g : Gl) (o0 o1 o2 o3 o8 : Awp.Obj) (a : Abs) (o : Op) (ho : ∀ m, objsLt m [o0, o1, o2, o3, o8] = true) (ha : a.Ok) (k : Nat) (hix : o.ix = k) (hk : k < a.data.length) (hd : (nth a.data k).length ≤ 2^40) (fx : objsFix [o0, o1, o2, o3, o8] = true) (hob : o.b.length ≤ 2^40) (q : Bool) (hq : reachS (nth a.data k).length o.off o.b.length = q) : ∀ B S, CallsA Try.prog g B S ⟨9, false⟩ 88 [.ptr 7 0 0, .agg [.d (vI o.act), .d (vI o.ix), .d (vI o.gen), .d (vI o.n), .d (vI o.off), .d (rB o.b), .d (vS o.name)]] [o0, o1, o2, o3, .row 1 (a.gens.map vI), .row 1 (a.data.map oB), .row 3 (a.roots.map eRoot), .var 79 [.hdr 4 0 a.gens.length, .hdr 5 0 a.data.length, (.hdr 6 0 a.roots.length), .d (vI 0), .d (vI 0), .d (.v (.slice none 0 0))], o8]
    (fun x r => x = .d (vI (writeS a k o.off o.b).e) ∧ r = [o0, o1, o2, o3, .row 1 (a.gens.map vI), .row 1 ((writeS a k o.off o.b).a.data.map oB), .row 3 (a.roots.map eRoot), .var 79 [.hdr 4 0 a.gens.length, .hdr 5 0 a.data.length, (.hdr 6 0 a.roots.length), .d (vI 0), .d (vI 0), .d (.v (.slice none 0 0))], o8]) := by
 refine callsA_at Try.func88 rfl (Nat.le_of_ble_eq_true rfl) fun B S => ?_
 obtain ⟨z0, z1, z2, z3, z8⟩ : o0.lt 9 = true ∧ o1.lt 9 = true ∧ o2.lt 9 = true ∧ o3.lt 9 = true ∧ o8.lt 9 = true := by simpa using ho 9
 simp only [hix]
 simp only [objsFix, Bool.and_eq_true, and_true] at fx
 refine xU ?_
 iterate 2 (refine xO ?_ (h := by simp [z0, z1, z2, z3, z8]; exact .mk))
 refine xF [0,3] ?_
 refine W_seq (W_weak (s2 := slots [(0, .ptr 7 0 0), (3, .ptr 9 0 0)]) (objs2 := [o0, o1, o2, o3, .row 1 (a.gens.map vI), .hole k 10 (nth a.data k).length (a.data.map oB), .row 3 (a.roots.map eRoot), .var 79 [.hdr 4 0 a.gens.length, .hdr 5 0 a.data.length, (.hdr 6 0 a.roots.length), .d (vI 0), .d (vI 0), .d (.v (.slice none 0 0))], o8, .var 31 [.d (vI o.act), .d (vI k), .d (vI o.gen), .d (vI o.n), .d (vI o.off), .d (rB o.b), .d (vS o.name)], .row 1 ((nth a.data k).map vB)]) (Weak.open (xs := a.data.map oB) (ys := (nth a.data k).map vB) 5 k rfl rfl (map_get (f := oB) hk) ?_ ?_ (by simp)) ?_)
 · simp
 · simp [fx]
 refine W_reg rfl ?_
 iterate 8 (refine xO ?_ (h := by simp [z0, z1, z2, z3, z8]; exact .mk))
 refine run_inl0 rfl rfl rfl rfl (by simp [z0, z1, z2, z3, z8]; exact .mk) ⟨_, Try.func120, rfl, rfl⟩ (in120h g o0 o1 o2 o3 o8 (.var 31 [.d (vI o.act), .d (vI k), .d (vI o.gen), .d (vI o.n), .d (vI o.off), .d (rB o.b), .d (vS o.name)]) a k o.gen o.off o.b.length q (fun m => by have := ho m; simp at this; simp [this]) hk hd hq) (.inr ⟨[], by simp⟩) ?_
 iterate 5 (refine xO ?_ (h := by simp [z0, z1, z2, z3, z8]; exact .mk))
 refine xF [3,5,6] ?_
 refine W_seq (xU ?_)
 iterate 2 (refine xO ?_ (h := by simp [z0, z1, z2, z3, z8]; exact .mk))
 refine xF [3,5,20] ?_
 refine W_cond rfl ?_ ?_
 · intro h20
   obtain rfl : q = false := by simpa using h20
   have hr : writeS a k o.off o.b = ⟨a, 0, 0, [], 1⟩ := by simp [writeS, hq]
   refine W_seq (W_weak (objs2 := [o0, o1, o2, o3, .row 1 (a.gens.map vI), .row 1 ((a.data.map oB).set k (.row .own 1 ((nth a.data k).map vB))), .row 3 (a.roots.map eRoot), .var 79 [.hdr 4 0 a.gens.length, .hdr 5 0 a.data.length, (.hdr 6 0 a.roots.length), .d (vI 0), .d (vI 0), .d (.v (.slice none 0 0))], o8, .var 31 [.d (vI o.act), .d (vI k), .d (vI o.gen), .d (vI o.n), .d (vI o.off), .d (rB o.b), .d (vS o.name)], .dead]) (Weak.close (i := k) (r' := 10) (k := 1) (xs := a.data.map oB) (ys := (nth a.data k).map vB) (len := (nth a.data k).length) 5 rfl rfl ?_) ?_)
   · simp
   refine W_reg rfl ?_
   refine xO ?_ (h := by simp [z0, z1, z2, z3, z8]; exact .mk)
   refine xF [4] ?_
   refine W_ret (endAt_drop 9 (by simp [z0, z1, z2, z3, z8, Try.f88]; exact .mk) ?_ ?_ (by simp) (by simp [z0, z1, z2, z3, z8]) (by simp [z0, z1, z2, z3, z8]))
   · simp [hr]
   simp only [hr]; first | rw [set_oB_self hk]; rfl | rw [set_oB_splice]; rfl
 intro h20
 obtain rfl : q = true := by simpa using h20
 have hx : 0 ≤ o.off ∧ o.off ≤ (nth a.data k).length ∧ (o.b.length : Int) ≤ (nth a.data k).length - o.off := by rw [reachS] at hq; simp at hq; omega
 have hr : writeS a k o.off o.b = ⟨{ a with data := a.data.set k (Go.splice (nth a.data k) o.off.toNat o.b) }, 0, 0, [], 0⟩ := by simp [writeS, hq]
 refine W_skip ?_
 refine xT ?_
 iterate 3 (refine xO ?_ (h := by simp [z0, z1, z2, z3, z8]; exact .mk))
 refine xO ?_ (h := by simp [z0, z1, z2, z3, z8, copyA, show o.off.toNat + o.b.length ≤ (nth a.data k).length from by omega]; exact .mk)
 refine xF [] ?_
 refine W_seq (W_weak (objs2 := [o0, o1, o2, o3, .row 1 (a.gens.map vI), .row 1 ((a.data.map oB).set k (.row .own 1 (Go.splice ((nth a.data k).map vB) o.off.toNat (o.b.map vB)))), .row 3 (a.roots.map eRoot), .var 79 [.hdr 4 0 a.gens.length, .hdr 5 0 a.data.length, (.hdr 6 0 a.roots.length), .d (vI 0), .d (vI 0), .d (.v (.slice none 0 0))], o8, .var 31 [.d (vI o.act), .d (vI k), .d (vI o.gen), .d (vI o.n), .d (vI o.off), .d (rB o.b), .d (vS o.name)], .dead]) (Weak.close (i := k) (r' := 10) (k := 1) (xs := a.data.map oB) (ys := Go.splice ((nth a.data k).map vB) o.off.toNat (o.b.map vB)) (len := (nth a.data k).length) 5 rfl rfl ?_) ?_)
 · rw [splice_map, List.length_map, Go.length_splice _ _ _ (by omega)]
 refine W_reg rfl ?_
 refine xO ?_ (h := by simp [z0, z1, z2, z3, z8]; exact .mk)
 refine xF [4] ?_
 refine W_ret (endAt_drop 9 (by simp [z0, z1, z2, z3, z8, Try.f88]; exact .mk) ?_ ?_ (by simp) (by simp [z0, z1, z2, z3, z8]) (by simp [z0, z1, z2, z3, z8]))
 · simp [hr]
 simp only [hr]; first | rw [set_oB_self hk]; rfl | rw [set_oB_splice]; rfl

open Go.Awp
theorem in82s (g : Gl) (o0 o1 o2 o3 o8 : Awp.Obj) (a : Abs) (o : Op) (ho : ∀ m, objsLt m [o0, o1, o2, o3, o8] = true) (ha : a.Ok) (hact : o.act = 6) (hr : RootsOk a.roots) (hn : o.name.size ≤ 2^40) : ∀ B S, CallsA Try.prog g B S ⟨9, true⟩ 82 [.ptr 7 0 0, .agg [.d (vI o.act), .d (vI o.ix), .d (vI o.gen), .d (vI o.n), .d (vI o.off), .d (rB o.b), .d (vS o.name)]] [o0, o1, o2, o3, .row 1 (a.gens.map vI), .row 1 (a.data.map oB), .row 3 (a.roots.map eRoot), .var 79 [.hdr 4 0 a.gens.length, .hdr 5 0 a.data.length, (.hdr 6 0 a.roots.length), .d (vI 0), .d (vI 0), .d (.v (.slice none 0 0))], o8]
    (fun x r => x = .d (vI (setS a.roots o.name o.ix o.gen).2) ∧ r = [o0, o1, o2, o3, .row 1 (a.gens.map vI), .row 1 (a.data.map oB), .row 3 (a.roots.map eRoot), .var 79 [.hdr 4 0 a.gens.length, .hdr 5 0 a.data.length, .hdr 10 0 (setS a.roots o.name o.ix o.gen).1.length, .d (vI 0), .d (vI 0), .d (.v (.slice none 0 0))], o8, .var 31 [.d (vI o.act), .d (vI o.ix), .d (vI o.gen), .d (vI o.n), .d (vI o.off), .d (rB o.b), .d (vS o.name)], .row 3 ((setS a.roots o.name o.ix o.gen).1.map eRoot)]) := by
 refine callsA_at Try.func82 rfl (Nat.le_of_ble_eq_true rfl) fun B S => ?_
 obtain ⟨z0, z1, z2, z3, z8⟩ : o0.lt 9 = true ∧ o1.lt 9 = true ∧ o2.lt 9 = true ∧ o3.lt 9 = true ∧ o8.lt 9 = true := by simpa using ho 9
 refine xU ?_
 iterate 2 (refine xO ?_ (h := by simp [z0, z1, z2, z3, z8]; exact .mk))
 refine xG [0,3,4] ?_
 iterate 6 (refine xO ?_ (h := by simp [z0, z1, z2, z3, z8]; exact .mk))
 refine xF [0,3,4,5] ?_
 refine W_seq (xU ?_)
 iterate 2 (refine xO ?_ (h := by simp [z0, z1, z2, z3, z8]; exact .mk))
 refine xF [0,3,4,5,12] ?_
 refine W_block (xU ?_)
 iterate 2 (refine xO ?_ (h := by simp [z0, z1, z2, z3, z8]; exact .mk))
 refine xF [0,3,4,5,12,13] ?_
 refine W_cond rfl ?_ ?_
 · intro h13
   refine W_reg rfl ?_
   iterate 5 (refine xO ?_ (h := by simp [z0, z1, z2, z3, z8]; exact .mk))
   refine run_call0 rfl rfl rfl rfl (by simp [z0, z1, z2, z3, z8]; exact .mk) (by simp [z0, z1, z2, z3, z8, row_rows, Function.comp_def]; exact .mk) (ct116 g a.roots _ _ _ hr hn) (by simp [z0, z1, z2, z3, z8]) (by simp [z0, z1, z2, z3, z8]; exact .mk) ?_
   iterate 5 (refine xO ?_ (h := by simp [z0, z1, z2, z3, z8]; exact .mk))
   refine xG [0,4,5] ?_
   iterate 5 (refine xO ?_ (h := by simp [z0, z1, z2, z3, z8]; exact .mk))
   refine xO ?_ (h := by simp [z0, z1, z2, z3, z8, splice]; exact .mk)
   refine xG [4] ?_
   iterate 2 (refine xO ?_ (h := by simp [z0, z1, z2, z3, z8]; exact .mk))
   refine xF [4] ?_
   refine W_ret (endAt_ret (by simp [z0, z1, z2, z3, z8, Try.f82]; exact .mk) ?_ ?_)
   · simp
   simp
 intro h13
 simp [hact] at h13

theorem in82g (g : Gl) (o0 o1 o2 o3 o8 : Awp.Obj) (a : Abs) (o : Op) (ho : ∀ m, objsLt m [o0, o1, o2, o3, o8] = true) (ha : a.Ok) (hact : o.act = 7) (hr : RootsOk a.roots) (hn : o.name.size ≤ 2^40) : ∀ B S, CallsA Try.prog g B S ⟨9, true⟩ 82 [.ptr 7 0 0, .agg [.d (vI o.act), .d (vI o.ix), .d (vI o.gen), .d (vI o.n), .d (vI o.off), .d (rB o.b), .d (vS o.name)]] [o0, o1, o2, o3, .row 1 (a.gens.map vI), .row 1 (a.data.map oB), .row 3 (a.roots.map eRoot), .var 79 [.hdr 4 0 a.gens.length, .hdr 5 0 a.data.length, (.hdr 6 0 a.roots.length), .d (vI 0), .d (vI 0), .d (.v (.slice none 0 0))], o8]
    (fun x r => x = .d (vI (getS a.roots o.name).2.2) ∧ r = [o0, o1, o2, o3, .row 1 (a.gens.map vI), .row 1 (a.data.map oB), .row 3 (a.roots.map eRoot), .var 79 [.hdr 4 0 a.gens.length, .hdr 5 0 a.data.length, (.hdr 6 0 a.roots.length), .d (vI (getS a.roots o.name).1), .d (vI (getS a.roots o.name).2.1), .d (.v (.slice none 0 0))], o8]) := by
 refine callsA_at Try.func82 rfl (Nat.le_of_ble_eq_true rfl) fun B S => ?_
 obtain ⟨z0, z1, z2, z3, z8⟩ : o0.lt 9 = true ∧ o1.lt 9 = true ∧ o2.lt 9 = true ∧ o3.lt 9 = true ∧ o8.lt 9 = true := by simpa using ho 9
 refine xU ?_
 iterate 2 (refine xO ?_ (h := by simp [z0, z1, z2, z3, z8]; exact .mk))
 refine xG [0,3,4] ?_
 iterate 6 (refine xO ?_ (h := by simp [z0, z1, z2, z3, z8]; exact .mk))
 refine xF [0,3,4,5] ?_
 refine W_seq (xU ?_)
 iterate 2 (refine xO ?_ (h := by simp [z0, z1, z2, z3, z8]; exact .mk))
 refine xF [0,3,4,5,12] ?_
 refine W_block (xU ?_)
 iterate 2 (refine xO ?_ (h := by simp [z0, z1, z2, z3, z8]; exact .mk))
 refine xF [0,3,4,5,12,13] ?_
 refine W_cond rfl ?_ ?_
 · intro h13
   simp [hact] at h13
 intro h13
 refine xU ?_
 iterate 2 (refine xO ?_ (h := by simp [z0, z1, z2, z3, z8]; exact .mk))
 refine xF [0,3,4,5,12,24] ?_
 refine W_cond rfl ?_ ?_
 · intro h24
   refine W_reg rfl ?_
   iterate 4 (refine xO ?_ (h := by simp [z0, z1, z2, z3, z8]; exact .mk))
   refine run_call0 rfl rfl rfl rfl (by simp [z0, z1, z2, z3, z8]; exact .mk) (by simp [z0, z1, z2, z3, z8, row_rows, Function.comp_def]; exact .mk) (ct117 g a.roots _ hr hn) (by simp [z0, z1, z2, z3, z8]) (by simp [z0, z1, z2, z3, z8]; exact .mk) ?_
   iterate 6 (refine xO ?_ (h := by simp [z0, z1, z2, z3, z8]; exact .mk))
   refine xO ?_ (h := by simp [z0, z1, z2, z3, z8, splice]; exact .mk)
   refine xO ?_ (h := by simp [z0, z1, z2, z3, z8]; exact .mk)
   refine xG [0,4,5] ?_
   iterate 5 (refine xO ?_ (h := by simp [z0, z1, z2, z3, z8]; exact .mk))
   refine xO ?_ (h := by simp [z0, z1, z2, z3, z8, splice]; exact .mk)
   refine xG [4] ?_
   iterate 2 (refine xO ?_ (h := by simp [z0, z1, z2, z3, z8]; exact .mk))
   refine xF [4] ?_
   refine W_ret (endAt_drop 9 (by simp [z0, z1, z2, z3, z8, Try.f82]; exact .mk) ?_ ?_ (by simp) (by simp [z0, z1, z2, z3, z8]) (by simp [z0, z1, z2, z3, z8]))
   · simp
   simp
 intro h24
 simp [hact] at h24

theorem in82d (g : Gl) (o0 o1 o2 o3 o8 : Awp.Obj) (a : Abs) (o : Op) (ho : ∀ m, objsLt m [o0, o1, o2, o3, o8] = true) (ha : a.Ok) (hact : o.act = 8) (hr : RootsOk a.roots) (hn : o.name.size ≤ 2^40) : ∀ B S, CallsA Try.prog g B S ⟨9, true⟩ 82 [.ptr 7 0 0, .agg [.d (vI o.act), .d (vI o.ix), .d (vI o.gen), .d (vI o.n), .d (vI o.off), .d (rB o.b), .d (vS o.name)]] [o0, o1, o2, o3, .row 1 (a.gens.map vI), .row 1 (a.data.map oB), .row 3 (a.roots.map eRoot), .var 79 [.hdr 4 0 a.gens.length, .hdr 5 0 a.data.length, (.hdr 6 0 a.roots.length), .d (vI 0), .d (vI 0), .d (.v (.slice none 0 0))], o8]
    (fun x r => x = .d (vI (dropS a.roots o.name).2) ∧ r = [o0, o1, o2, o3, .row 1 (a.gens.map vI), .row 1 (a.data.map oB), .row 3 (a.roots.map eRoot), .var 79 [.hdr 4 0 a.gens.length, .hdr 5 0 a.data.length, .hdr 10 0 (dropS a.roots o.name).1.length, .d (vI 0), .d (vI 0), .d (.v (.slice none 0 0))], o8, .var 31 [.d (vI o.act), .d (vI o.ix), .d (vI o.gen), .d (vI o.n), .d (vI o.off), .d (rB o.b), .d (vS o.name)], .row 3 ((dropS a.roots o.name).1.map eRoot)]) := by
 refine callsA_at Try.func82 rfl (Nat.le_of_ble_eq_true rfl) fun B S => ?_
 obtain ⟨z0, z1, z2, z3, z8⟩ : o0.lt 9 = true ∧ o1.lt 9 = true ∧ o2.lt 9 = true ∧ o3.lt 9 = true ∧ o8.lt 9 = true := by simpa using ho 9
 refine xU ?_
 iterate 2 (refine xO ?_ (h := by simp [z0, z1, z2, z3, z8]; exact .mk))
 refine xG [0,3,4] ?_
 iterate 6 (refine xO ?_ (h := by simp [z0, z1, z2, z3, z8]; exact .mk))
 refine xF [0,3,4,5] ?_
 refine W_seq (xU ?_)
 iterate 2 (refine xO ?_ (h := by simp [z0, z1, z2, z3, z8]; exact .mk))
 refine xF [0,3,4,5,12] ?_
 refine W_block (xU ?_)
 iterate 2 (refine xO ?_ (h := by simp [z0, z1, z2, z3, z8]; exact .mk))
 refine xF [0,3,4,5,12,13] ?_
 refine W_cond rfl ?_ ?_
 · intro h13
   simp [hact] at h13
 intro h13
 refine xU ?_
 iterate 2 (refine xO ?_ (h := by simp [z0, z1, z2, z3, z8]; exact .mk))
 refine xF [0,3,4,5,12,24] ?_
 refine W_cond rfl ?_ ?_
 · intro h24
   simp [hact] at h24
 intro h24
 refine xU ?_
 iterate 2 (refine xO ?_ (h := by simp [z0, z1, z2, z3, z8]; exact .mk))
 refine xF [0,3,4,5,37] ?_
 refine W_cond rfl ?_ ?_
 · intro h37
   refine W_reg rfl ?_
   iterate 3 (refine xO ?_ (h := by simp [z0, z1, z2, z3, z8]; exact .mk))
   refine run_call0 rfl rfl rfl rfl (by simp [z0, z1, z2, z3, z8]; exact .mk) (by simp [z0, z1, z2, z3, z8, row_rows, Function.comp_def]; exact .mk) (ct118 g a.roots _ hr hn) (by simp [z0, z1, z2, z3, z8]) (by simp [z0, z1, z2, z3, z8]; exact .mk) ?_
   iterate 5 (refine xO ?_ (h := by simp [z0, z1, z2, z3, z8]; exact .mk))
   refine xG [0,4,5] ?_
   iterate 5 (refine xO ?_ (h := by simp [z0, z1, z2, z3, z8]; exact .mk))
   refine xO ?_ (h := by simp [z0, z1, z2, z3, z8, splice]; exact .mk)
   refine xG [4] ?_
   iterate 2 (refine xO ?_ (h := by simp [z0, z1, z2, z3, z8]; exact .mk))
   refine xF [4] ?_
   refine W_ret (endAt_ret (by simp [z0, z1, z2, z3, z8, Try.f82]; exact .mk) ?_ ?_)
   · simp
   simp
 intro h37
 simp [hact] at h37

theorem in80 (g : Gl) (o0 o1 o2 o3 o8 : Awp.Obj) (a : Abs) (o : Op) (e : Nat) (ho : ∀ m, objsLt m [o0, o1, o2, o3, o8] = true) : ∀ B S, CallsA Try.prog g B S ⟨10, true⟩ 80 [.agg [.d (vI o.act), .d (vI o.ix), .d (vI o.gen), .d (vI o.n), .d (vI o.off), .d (rB o.b), .d (vS o.name)], .ptr 9 0 0] [o0, o1, o2, o3, .row 1 (a.gens.map vI), .row 1 (a.data.map oB), .row 3 (a.roots.map eRoot), .var 79 [.hdr 4 0 a.gens.length, .hdr 5 0 a.data.length, (.hdr 6 0 a.roots.length), .d (vI 0), .d (vI 0), .d (.v (.slice none 0 0))], o8, .var 39 [.d (vI e)]]
    (fun x r => x = .d (vI e) ∧ r = [o0, o1, o2, o3, .row 1 (a.gens.map vI), .row 1 (a.data.map oB), .row 3 (a.roots.map eRoot), .var 79 [.hdr 4 0 a.gens.length, .hdr 5 0 a.data.length, (.hdr 6 0 a.roots.length), .d (vI 0), .d (vI 0), .d (.v (.slice none 0 0))], o8, .var 39 [.d (vI e)]]) := by
 refine callsA_at Try.func80 rfl (Nat.le_of_ble_eq_true rfl) fun B S => ?_
 obtain ⟨z0, z1, z2, z3, z8⟩ : o0.lt 10 = true ∧ o1.lt 10 = true ∧ o2.lt 10 = true ∧ o3.lt 10 = true ∧ o8.lt 10 = true := by simpa using ho 10
 refine xU ?_
 iterate 2 (refine xO ?_ (h := by simp [z0, z1, z2, z3, z8]; exact .mk))
 refine xG [1] ?_
 iterate 2 (refine xO ?_ (h := by simp [z0, z1, z2, z3, z8]; exact .mk))
 refine xF [3] ?_
 refine W_ret (endAt_drop 10 (by simp [z0, z1, z2, z3, z8, Try.f80]; exact .mk) ?_ ?_ (by simp) (by simp [z0, z1, z2, z3, z8]) (by simp [z0, z1, z2, z3, z8]))
 · simp
 simp

theorem in79 (g : Gl) (o0 o1 o2 o3 o8 : Awp.Obj) (a : Abs) (e : Nat) : ∀ B S, CallsA Try.prog g B S ⟨9, true⟩ 79 [.d (vI e)] [o0, o1, o2, o3, .row 1 (a.gens.map vI), .row 1 (a.data.map oB), .row 3 (a.roots.map eRoot), .var 79 [.hdr 4 0 a.gens.length, .hdr 5 0 a.data.length, (.hdr 6 0 a.roots.length), .d (vI 0), .d (vI 0), .d (.v (.slice none 0 0))], o8]
    (fun x r => x = .fn (.func 80) [] [.ptr 9 0 0] ∧ r = [o0, o1, o2, o3, .row 1 (a.gens.map vI), .row 1 (a.data.map oB), .row 3 (a.roots.map eRoot), .var 79 [.hdr 4 0 a.gens.length, .hdr 5 0 a.data.length, (.hdr 6 0 a.roots.length), .d (vI 0), .d (vI 0), .d (.v (.slice none 0 0))], o8, .var 39 [.d (vI e)]]) := by
 refine callsA_at Try.func79 rfl (Nat.le_of_ble_eq_true rfl) fun B S => ?_
 refine xU ?_
 iterate 2 refine xO ?_
 refine xG [1] ?_
 iterate 2 refine xO ?_
 refine xF [2] ?_
 refine W_ret (endAt_ret (by simp [Try.f79]; exact .mk) ?_ ?_)
 · simp
 simp

open Go.Awp
theorem in42g (g : Gl) (o0 o1 o2 o3 : Awp.Obj) (a : Abs) (o : Op) (hgd : a.data.length = a.gens.length) (hn : o.name.size ≤ 2^40) (f : Nat) (hf : kindS a o = (f : Int)) : ∀ B S, CallsA Try.prog g B S ⟨8, true⟩ 42 [.ptr 7 0 0, .agg [.d (vI o.act), .d (vI o.ix), .d (vI o.gen), .d (vI o.n), .d (vI o.off), .d (rB o.b), .d (vS o.name)]] [o0, o1, o2, o3, .row 1 (a.gens.map vI), .row 1 (a.data.map oB), .row 3 (a.roots.map eRoot), .var 79 [.hdr 4 0 a.gens.length, .hdr 5 0 a.data.length, (.hdr 6 0 a.roots.length), .d (vI 0), .d (vI 0), .d (.v (.slice none 0 0))]]
    (fun x r => x = .fn (.func f) [.ptr 7 0 0] [] ∧ r = [o0, o1, o2, o3, .row 1 (a.gens.map vI), .row 1 (a.data.map oB), .row 3 (a.roots.map eRoot), .var 79 [.hdr 4 0 a.gens.length, .hdr 5 0 a.data.length, (.hdr 6 0 a.roots.length), .d (vI 0), .d (vI 0), .d (.v (.slice none 0 0))], .var 31 [.d (vI o.act), .d (vI o.ix), .d (vI o.gen), .d (vI o.n), .d (vI o.off), .d (rB o.b), .d (vS o.name)]]) := by
 refine callsA_at Try.func42 rfl (Nat.le_of_ble_eq_true rfl) fun B S => ?_
 refine xU ?_
 iterate 2 refine xO ?_
 refine xG [0,3] ?_
 refine xO ?_
 refine xF [0,3,5] ?_
 refine W_seq (W_block ?_)
 refine xU ?_
 iterate 4 refine xO ?_
 refine xF [0,3,5,6] ?_
 refine W_cond rfl ?_ ?_
 · intro h6
   have k1 : o.act = 1 := by simpa using h6
   refine xU ?_
   iterate 3 refine xO ?_
   refine xF [4] ?_
   refine W_ret (endAt_ret (by simp [Try.f42]; exact .mk) ?_ ?_)
   · simp
     unfold kindS at hf <;> (repeat' split at hf) <;> first | (show (_ : Nat) = _; omega) | (exfalso; omega) | (exfalso; simp_all; done)
   first | rfl | (exfalso; unfold kindS at hf <;> (repeat' split at hf) <;> first | (show (_ : Nat) = _; omega) | (exfalso; omega) | (exfalso; simp_all; done))
 intro h6
 have k1 : o.act ≠ 1 := by simpa using h6
 refine W_seq (xU ?_)
 iterate 4 refine xO ?_
 refine xF [0,3,5,12] ?_
 refine W_cond rfl ?_ ?_
 · intro h12
   have k2 : o.act = 7 := by simpa using h12
   refine W_skip ?_
   rintro -
   refine W_cond rfl ?_ ?_
   · intro h12'
     have k3 : o.act = 7 ∨ o.act = 8 := by simp at h12'; omega
     refine xU ?_
     iterate 3 refine xO ?_
     refine xF [4] ?_
     refine W_ret (endAt_ret (by simp [Try.f42]; exact .mk) ?_ ?_)
     · simp
       unfold kindS at hf <;> (repeat' split at hf) <;> first | (show (_ : Nat) = _; omega) | (exfalso; omega) | (exfalso; simp_all; done)
     first | rfl | (exfalso; unfold kindS at hf <;> (repeat' split at hf) <;> first | (show (_ : Nat) = _; omega) | (exfalso; omega) | (exfalso; simp_all; done))
   intro h12'
   have k3 : ¬ (o.act = 7 ∨ o.act = 8) := by simp at h12'; omega
   refine W_seq (xU ?_)
   iterate 4 refine xO ?_
   refine xF [0,3,5,21] ?_
   refine W_cond rfl ?_ ?_
   · intro h21
     have k4 : o.act < 1 := by simpa using h21
     refine W_skip ?_
     rintro -
     refine W_cond rfl ?_ ?_
     · intro h21'
       have k4' : o.act < 1 ∨ 8 < o.act := by simp at h21'; omega
       refine xU ?_
       refine xO ?_
       refine run_inl0 rfl rfl rfl rfl (by simp; exact .mk) ⟨_, Try.func79, rfl, rfl⟩ (in79 g o0 o1 o2 o3 _ a 1) (.inr ⟨_, rfl⟩) ?_
       refine xO ?_
       refine xF [4] ?_
       refine W_ret (endAt_ret (by simp [Try.f42]; exact .mk) ?_ ?_)
       · simp
         unfold kindS at hf <;> (repeat' split at hf) <;> first | (show (_ : Nat) = _; omega) | (exfalso; omega) | (exfalso; simp_all; done)
       first | rfl | (exfalso; unfold kindS at hf <;> (repeat' split at hf) <;> first | (show (_ : Nat) = _; omega) | (exfalso; omega) | (exfalso; simp_all; done))
     intro h21'
     have k4' : ¬ (o.act < 1 ∨ 8 < o.act) := by simp at h21'; omega
     refine xU ?_
     iterate 4 refine xO ?_
     iterate 2 (refine run_if rfl (by simp; exact .mk) rfl (by simp <;> omega) (fun hb => by simp; exact .mk) ?_)
     refine run_call rfl (by simp; exact .mk) rfl rfl (by simp) (by simp; exact .mk) (by simp [row_rows, Function.comp_def]; exact .mk) (fun hb => ct83 g _ hn) (by simp) (by simp; exact .mk) (by simp) ?_
     refine run_if rfl (by simp; exact .mk) rfl (by simp <;> omega) (fun hb => by simp; exact .mk) ?_
     refine xP ?_
     refine run_op1 rfl rfl rfl (by simp <;> omega) (by simp; exact .mk) ?_
     refine run_end [0,3,5,30] (by simp <;> omega) (by simp; exact .mk) ?_
     rintro -
     refine W_cond rfl ?_ ?_
     · intro h30
       have k5 : o.act = 6 ∧ nameS o.name = false := by simpa using h30
       refine xU ?_
       refine xO ?_
       refine run_inl0 rfl rfl rfl rfl (by simp; exact .mk) ⟨_, Try.func79, rfl, rfl⟩ (in79 g o0 o1 o2 o3 _ a 3) (.inr ⟨_, rfl⟩) ?_
       refine xO ?_
       refine xF [4] ?_
       refine W_ret (endAt_ret (by simp [Try.f42]; exact .mk) ?_ ?_)
       · simp
         unfold kindS at hf <;> (repeat' split at hf) <;> first | (show (_ : Nat) = _; omega) | (exfalso; omega) | (exfalso; simp_all; done)
       first | rfl | (exfalso; unfold kindS at hf <;> (repeat' split at hf) <;> first | (show (_ : Nat) = _; omega) | (exfalso; omega) | (exfalso; simp_all; done))
     intro h30
     have k5 : ¬ (o.act = 6 ∧ nameS o.name = false) := by simpa using h30
     refine W_seq ?_
     refine W_regD (by kernel_rfl) [] 4 [0,1,2,3,4,5,6,7,8] (by decide +kernel) ?_
     iterate 6 refine xO ?_
     refine xC (ct84 g a _ _ hgd) ?_ (he := by simp [row_rows, Function.comp_def]; exact .mk)
     iterate 2 refine xO ?_
     refine xF [0,3,5,42] ?_
     refine W_cond rfl ?_ ?_
     · intro h42
       have k6 : goodS a o.ix o.gen = false := by simpa using h42
       refine xU ?_
       refine xO ?_
       refine run_inl0 rfl rfl rfl rfl (by simp; exact .mk) ⟨_, Try.func79, rfl, rfl⟩ (in79 g o0 o1 o2 o3 _ a 8) (.inr ⟨_, rfl⟩) ?_
       refine xO ?_
       refine xF [4] ?_
       refine W_ret (endAt_ret (by simp [Try.f42]; exact .mk) ?_ ?_)
       · simp
         unfold kindS at hf <;> (repeat' split at hf) <;> first | (show (_ : Nat) = _; omega) | (exfalso; omega) | (exfalso; simp_all; done)
       first | rfl | (exfalso; unfold kindS at hf <;> (repeat' split at hf) <;> first | (show (_ : Nat) = _; omega) | (exfalso; omega) | (exfalso; simp_all; done))
     intro h42
     have k6 : ¬ goodS a o.ix o.gen = false := by simpa using h42
     refine xU ?_
     iterate 4 refine xO ?_
     refine xF [0,3,53] ?_
     refine W_cond rfl ?_ ?_
     · intro h53
       have k7 : o.act = 2 := by simpa using h53
       refine xU ?_
       iterate 3 refine xO ?_
       refine xF [4] ?_
       refine W_ret (endAt_ret (by simp [Try.f42]; exact .mk) ?_ ?_)
       · simp
         unfold kindS at hf <;> (repeat' split at hf) <;> first | (show (_ : Nat) = _; omega) | (exfalso; omega) | (exfalso; simp_all; done)
       first | rfl | (exfalso; unfold kindS at hf <;> (repeat' split at hf) <;> first | (show (_ : Nat) = _; omega) | (exfalso; omega) | (exfalso; simp_all; done))
     intro h53
     have k7 : o.act ≠ 2 := by simpa using h53
     refine xU ?_
     iterate 4 refine xO ?_
     refine xF [0,3,59] ?_
     refine W_cond rfl ?_ ?_
     · intro h59
       have k8 : o.act = 3 := by simpa using h59
       refine xU ?_
       iterate 3 refine xO ?_
       refine xF [4] ?_
       refine W_ret (endAt_ret (by simp [Try.f42]; exact .mk) ?_ ?_)
       · simp
         unfold kindS at hf <;> (repeat' split at hf) <;> first | (show (_ : Nat) = _; omega) | (exfalso; omega) | (exfalso; simp_all; done)
       first | rfl | (exfalso; unfold kindS at hf <;> (repeat' split at hf) <;> first | (show (_ : Nat) = _; omega) | (exfalso; omega) | (exfalso; simp_all; done))
     intro h59
     have k8 : o.act ≠ 3 := by simpa using h59
     refine xU ?_
     iterate 4 refine xO ?_
     refine xF [0,3,65] ?_
     refine W_cond rfl ?_ ?_
     · intro h65
       have k9 : o.act = 4 := by simpa using h65
       refine xU ?_
       iterate 3 refine xO ?_
       refine xF [4] ?_
       refine W_ret (endAt_ret (by simp [Try.f42]; exact .mk) ?_ ?_)
       · simp
         unfold kindS at hf <;> (repeat' split at hf) <;> first | (show (_ : Nat) = _; omega) | (exfalso; omega) | (exfalso; simp_all; done)
       first | rfl | (exfalso; unfold kindS at hf <;> (repeat' split at hf) <;> first | (show (_ : Nat) = _; omega) | (exfalso; omega) | (exfalso; simp_all; done))
     intro h65
     have k9 : o.act ≠ 4 := by simpa using h65
     refine xU ?_
     iterate 4 refine xO ?_
     refine xF [0,71] ?_
     refine W_cond rfl ?_ ?_
     · intro h71
       have k10 : o.act = 5 := by simpa using h71
       refine xU ?_
       iterate 3 refine xO ?_
       refine xF [4] ?_
       refine W_ret (endAt_ret (by simp [Try.f42]; exact .mk) ?_ ?_)
       · simp
         unfold kindS at hf <;> (repeat' split at hf) <;> first | (show (_ : Nat) = _; omega) | (exfalso; omega) | (exfalso; simp_all; done)
       first | rfl | (exfalso; unfold kindS at hf <;> (repeat' split at hf) <;> first | (show (_ : Nat) = _; omega) | (exfalso; omega) | (exfalso; simp_all; done))
     intro h71
     have k10 : o.act ≠ 5 := by simpa using h71
     refine W_skip ?_
     refine xT ?_
     iterate 3 refine xO ?_
     refine xF [4] ?_
     refine W_ret (endAt_ret (by simp [Try.f42]; exact .mk) ?_ ?_)
     · simp
       unfold kindS at hf <;> (repeat' split at hf) <;> first | (show (_ : Nat) = _; omega) | (exfalso; omega) | (exfalso; simp_all; done)
     first | rfl | (exfalso; unfold kindS at hf <;> (repeat' split at hf) <;> first | (show (_ : Nat) = _; omega) | (exfalso; omega) | (exfalso; simp_all; done))
   intro h21
   have k4 : ¬ o.act < 1 := by simpa using h21
   refine W_reg rfl ?_
   iterate 4 refine xO ?_
   refine xF [0,3,5,21] ?_
   refine W_cond rfl ?_ ?_
   · intro h21'
     have k4' : o.act < 1 ∨ 8 < o.act := by simp at h21'; omega
     refine xU ?_
     refine xO ?_
     refine run_inl0 rfl rfl rfl rfl (by simp; exact .mk) ⟨_, Try.func79, rfl, rfl⟩ (in79 g o0 o1 o2 o3 _ a 1) (.inr ⟨_, rfl⟩) ?_
     refine xO ?_
     refine xF [4] ?_
     refine W_ret (endAt_ret (by simp [Try.f42]; exact .mk) ?_ ?_)
     · simp
       unfold kindS at hf <;> (repeat' split at hf) <;> first | (show (_ : Nat) = _; omega) | (exfalso; omega) | (exfalso; simp_all; done)
     first | rfl | (exfalso; unfold kindS at hf <;> (repeat' split at hf) <;> first | (show (_ : Nat) = _; omega) | (exfalso; omega) | (exfalso; simp_all; done))
   intro h21'
   have k4' : ¬ (o.act < 1 ∨ 8 < o.act) := by simp at h21'; omega
   refine xU ?_
   iterate 4 refine xO ?_
   iterate 2 (refine run_if rfl (by simp; exact .mk) rfl (by simp <;> omega) (fun hb => by simp; exact .mk) ?_)
   refine run_call rfl (by simp; exact .mk) rfl rfl (by simp) (by simp; exact .mk) (by simp [row_rows, Function.comp_def]; exact .mk) (fun hb => ct83 g _ hn) (by simp) (by simp; exact .mk) (by simp) ?_
   refine run_if rfl (by simp; exact .mk) rfl (by simp <;> omega) (fun hb => by simp; exact .mk) ?_
   refine xP ?_
   refine run_op1 rfl rfl rfl (by simp <;> omega) (by simp; exact .mk) ?_
   refine run_end [0,3,5,30] (by simp <;> omega) (by simp; exact .mk) ?_
   rintro -
   refine W_cond rfl ?_ ?_
   · intro h30
     have k5 : o.act = 6 ∧ nameS o.name = false := by simpa using h30
     refine xU ?_
     refine xO ?_
     refine run_inl0 rfl rfl rfl rfl (by simp; exact .mk) ⟨_, Try.func79, rfl, rfl⟩ (in79 g o0 o1 o2 o3 _ a 3) (.inr ⟨_, rfl⟩) ?_
     refine xO ?_
     refine xF [4] ?_
     refine W_ret (endAt_ret (by simp [Try.f42]; exact .mk) ?_ ?_)
     · simp
       unfold kindS at hf <;> (repeat' split at hf) <;> first | (show (_ : Nat) = _; omega) | (exfalso; omega) | (exfalso; simp_all; done)
     first | rfl | (exfalso; unfold kindS at hf <;> (repeat' split at hf) <;> first | (show (_ : Nat) = _; omega) | (exfalso; omega) | (exfalso; simp_all; done))
   intro h30
   have k5 : ¬ (o.act = 6 ∧ nameS o.name = false) := by simpa using h30
   refine W_seq ?_
   refine W_regD (by kernel_rfl) [] 4 [0,1,2,3,4,5,6,7,8] (by decide +kernel) ?_
   iterate 6 refine xO ?_
   refine xC (ct84 g a _ _ hgd) ?_ (he := by simp [row_rows, Function.comp_def]; exact .mk)
   iterate 2 refine xO ?_
   refine xF [0,3,5,42] ?_
   refine W_cond rfl ?_ ?_
   · intro h42
     have k6 : goodS a o.ix o.gen = false := by simpa using h42
     refine xU ?_
     refine xO ?_
     refine run_inl0 rfl rfl rfl rfl (by simp; exact .mk) ⟨_, Try.func79, rfl, rfl⟩ (in79 g o0 o1 o2 o3 _ a 8) (.inr ⟨_, rfl⟩) ?_
     refine xO ?_
     refine xF [4] ?_
     refine W_ret (endAt_ret (by simp [Try.f42]; exact .mk) ?_ ?_)
     · simp
       unfold kindS at hf <;> (repeat' split at hf) <;> first | (show (_ : Nat) = _; omega) | (exfalso; omega) | (exfalso; simp_all; done)
     first | rfl | (exfalso; unfold kindS at hf <;> (repeat' split at hf) <;> first | (show (_ : Nat) = _; omega) | (exfalso; omega) | (exfalso; simp_all; done))
   intro h42
   have k6 : ¬ goodS a o.ix o.gen = false := by simpa using h42
   refine xU ?_
   iterate 4 refine xO ?_
   refine xF [0,3,53] ?_
   refine W_cond rfl ?_ ?_
   · intro h53
     have k7 : o.act = 2 := by simpa using h53
     refine xU ?_
     iterate 3 refine xO ?_
     refine xF [4] ?_
     refine W_ret (endAt_ret (by simp [Try.f42]; exact .mk) ?_ ?_)
     · simp
       unfold kindS at hf <;> (repeat' split at hf) <;> first | (show (_ : Nat) = _; omega) | (exfalso; omega) | (exfalso; simp_all; done)
     first | rfl | (exfalso; unfold kindS at hf <;> (repeat' split at hf) <;> first | (show (_ : Nat) = _; omega) | (exfalso; omega) | (exfalso; simp_all; done))
   intro h53
   have k7 : o.act ≠ 2 := by simpa using h53
   refine xU ?_
   iterate 4 refine xO ?_
   refine xF [0,3,59] ?_
   refine W_cond rfl ?_ ?_
   · intro h59
     have k8 : o.act = 3 := by simpa using h59
     refine xU ?_
     iterate 3 refine xO ?_
     refine xF [4] ?_
     refine W_ret (endAt_ret (by simp [Try.f42]; exact .mk) ?_ ?_)
     · simp
       unfold kindS at hf <;> (repeat' split at hf) <;> first | (show (_ : Nat) = _; omega) | (exfalso; omega) | (exfalso; simp_all; done)
     first | rfl | (exfalso; unfold kindS at hf <;> (repeat' split at hf) <;> first | (show (_ : Nat) = _; omega) | (exfalso; omega) | (exfalso; simp_all; done))
   intro h59
   have k8 : o.act ≠ 3 := by simpa using h59
   refine xU ?_
   iterate 4 refine xO ?_
   refine xF [0,3,65] ?_
   refine W_cond rfl ?_ ?_
   · intro h65
     have k9 : o.act = 4 := by simpa using h65
     refine xU ?_
     iterate 3 refine xO ?_
     refine xF [4] ?_
     refine W_ret (endAt_ret (by simp [Try.f42]; exact .mk) ?_ ?_)
     · simp
       unfold kindS at hf <;> (repeat' split at hf) <;> first | (show (_ : Nat) = _; omega) | (exfalso; omega) | (exfalso; simp_all; done)
     first | rfl | (exfalso; unfold kindS at hf <;> (repeat' split at hf) <;> first | (show (_ : Nat) = _; omega) | (exfalso; omega) | (exfalso; simp_all; done))
   intro h65
   have k9 : o.act ≠ 4 := by simpa using h65
   refine xU ?_
   iterate 4 refine xO ?_
   refine xF [0,71] ?_
   refine W_cond rfl ?_ ?_
   · intro h71
     have k10 : o.act = 5 := by simpa using h71
     refine xU ?_
     iterate 3 refine xO ?_
     refine xF [4] ?_
     refine W_ret (endAt_ret (by simp [Try.f42]; exact .mk) ?_ ?_)
     · simp
       unfold kindS at hf <;> (repeat' split at hf) <;> first | (show (_ : Nat) = _; omega) | (exfalso; omega) | (exfalso; simp_all; done)
     first | rfl | (exfalso; unfold kindS at hf <;> (repeat' split at hf) <;> first | (show (_ : Nat) = _; omega) | (exfalso; omega) | (exfalso; simp_all; done))
   intro h71
   have k10 : o.act ≠ 5 := by simpa using h71
   refine W_skip ?_
   refine xT ?_
   iterate 3 refine xO ?_
   refine xF [4] ?_
   refine W_ret (endAt_ret (by simp [Try.f42]; exact .mk) ?_ ?_)
   · simp
     unfold kindS at hf <;> (repeat' split at hf) <;> first | (show (_ : Nat) = _; omega) | (exfalso; omega) | (exfalso; simp_all; done)
   first | rfl | (exfalso; unfold kindS at hf <;> (repeat' split at hf) <;> first | (show (_ : Nat) = _; omega) | (exfalso; omega) | (exfalso; simp_all; done))
 intro h12
 have k2 : o.act ≠ 7 := by simpa using h12
 refine W_reg rfl ?_
 iterate 4 refine xO ?_
 refine xF [0,3,5,12] ?_
 refine W_cond rfl ?_ ?_
 · intro h12'
   have k3 : o.act = 7 ∨ o.act = 8 := by simp at h12'; omega
   refine xU ?_
   iterate 3 refine xO ?_
   refine xF [4] ?_
   refine W_ret (endAt_ret (by simp [Try.f42]; exact .mk) ?_ ?_)
   · simp
     unfold kindS at hf <;> (repeat' split at hf) <;> first | (show (_ : Nat) = _; omega) | (exfalso; omega) | (exfalso; simp_all; done)
   first | rfl | (exfalso; unfold kindS at hf <;> (repeat' split at hf) <;> first | (show (_ : Nat) = _; omega) | (exfalso; omega) | (exfalso; simp_all; done))
 intro h12'
 have k3 : ¬ (o.act = 7 ∨ o.act = 8) := by simp at h12'; omega
 refine W_seq (xU ?_)
 iterate 4 refine xO ?_
 refine xF [0,3,5,21] ?_
 refine W_cond rfl ?_ ?_
 · intro h21
   have k4 : o.act < 1 := by simpa using h21
   refine W_skip ?_
   rintro -
   refine W_cond rfl ?_ ?_
   · intro h21'
     have k4' : o.act < 1 ∨ 8 < o.act := by simp at h21'; omega
     refine xU ?_
     refine xO ?_
     refine run_inl0 rfl rfl rfl rfl (by simp; exact .mk) ⟨_, Try.func79, rfl, rfl⟩ (in79 g o0 o1 o2 o3 _ a 1) (.inr ⟨_, rfl⟩) ?_
     refine xO ?_
     refine xF [4] ?_
     refine W_ret (endAt_ret (by simp [Try.f42]; exact .mk) ?_ ?_)
     · simp
       unfold kindS at hf <;> (repeat' split at hf) <;> first | (show (_ : Nat) = _; omega) | (exfalso; omega) | (exfalso; simp_all; done)
     first | rfl | (exfalso; unfold kindS at hf <;> (repeat' split at hf) <;> first | (show (_ : Nat) = _; omega) | (exfalso; omega) | (exfalso; simp_all; done))
   intro h21'
   have k4' : ¬ (o.act < 1 ∨ 8 < o.act) := by simp at h21'; omega
   refine xU ?_
   iterate 4 refine xO ?_
   iterate 2 (refine run_if rfl (by simp; exact .mk) rfl (by simp <;> omega) (fun hb => by simp; exact .mk) ?_)
   refine run_call rfl (by simp; exact .mk) rfl rfl (by simp) (by simp; exact .mk) (by simp [row_rows, Function.comp_def]; exact .mk) (fun hb => ct83 g _ hn) (by simp) (by simp; exact .mk) (by simp) ?_
   refine run_if rfl (by simp; exact .mk) rfl (by simp <;> omega) (fun hb => by simp; exact .mk) ?_
   refine xP ?_
   refine run_op1 rfl rfl rfl (by simp <;> omega) (by simp; exact .mk) ?_
   refine run_end [0,3,5,30] (by simp <;> omega) (by simp; exact .mk) ?_
   rintro -
   refine W_cond rfl ?_ ?_
   · intro h30
     have k5 : o.act = 6 ∧ nameS o.name = false := by simpa using h30
     refine xU ?_
     refine xO ?_
     refine run_inl0 rfl rfl rfl rfl (by simp; exact .mk) ⟨_, Try.func79, rfl, rfl⟩ (in79 g o0 o1 o2 o3 _ a 3) (.inr ⟨_, rfl⟩) ?_
     refine xO ?_
     refine xF [4] ?_
     refine W_ret (endAt_ret (by simp [Try.f42]; exact .mk) ?_ ?_)
     · simp
       unfold kindS at hf <;> (repeat' split at hf) <;> first | (show (_ : Nat) = _; omega) | (exfalso; omega) | (exfalso; simp_all; done)
     first | rfl | (exfalso; unfold kindS at hf <;> (repeat' split at hf) <;> first | (show (_ : Nat) = _; omega) | (exfalso; omega) | (exfalso; simp_all; done))
   intro h30
   have k5 : ¬ (o.act = 6 ∧ nameS o.name = false) := by simpa using h30
   refine W_seq ?_
   refine W_regD (by kernel_rfl) [] 4 [0,1,2,3,4,5,6,7,8] (by decide +kernel) ?_
   iterate 6 refine xO ?_
   refine xC (ct84 g a _ _ hgd) ?_ (he := by simp [row_rows, Function.comp_def]; exact .mk)
   iterate 2 refine xO ?_
   refine xF [0,3,5,42] ?_
   refine W_cond rfl ?_ ?_
   · intro h42
     have k6 : goodS a o.ix o.gen = false := by simpa using h42
     refine xU ?_
     refine xO ?_
     refine run_inl0 rfl rfl rfl rfl (by simp; exact .mk) ⟨_, Try.func79, rfl, rfl⟩ (in79 g o0 o1 o2 o3 _ a 8) (.inr ⟨_, rfl⟩) ?_
     refine xO ?_
     refine xF [4] ?_
     refine W_ret (endAt_ret (by simp [Try.f42]; exact .mk) ?_ ?_)
     · simp
       unfold kindS at hf <;> (repeat' split at hf) <;> first | (show (_ : Nat) = _; omega) | (exfalso; omega) | (exfalso; simp_all; done)
     first | rfl | (exfalso; unfold kindS at hf <;> (repeat' split at hf) <;> first | (show (_ : Nat) = _; omega) | (exfalso; omega) | (exfalso; simp_all; done))
   intro h42
   have k6 : ¬ goodS a o.ix o.gen = false := by simpa using h42
   refine xU ?_
   iterate 4 refine xO ?_
   refine xF [0,3,53] ?_
   refine W_cond rfl ?_ ?_
   · intro h53
     have k7 : o.act = 2 := by simpa using h53
     refine xU ?_
     iterate 3 refine xO ?_
     refine xF [4] ?_
     refine W_ret (endAt_ret (by simp [Try.f42]; exact .mk) ?_ ?_)
     · simp
       unfold kindS at hf <;> (repeat' split at hf) <;> first | (show (_ : Nat) = _; omega) | (exfalso; omega) | (exfalso; simp_all; done)
     first | rfl | (exfalso; unfold kindS at hf <;> (repeat' split at hf) <;> first | (show (_ : Nat) = _; omega) | (exfalso; omega) | (exfalso; simp_all; done))
   intro h53
   have k7 : o.act ≠ 2 := by simpa using h53
   refine xU ?_
   iterate 4 refine xO ?_
   refine xF [0,3,59] ?_
   refine W_cond rfl ?_ ?_
   · intro h59
     have k8 : o.act = 3 := by simpa using h59
     refine xU ?_
     iterate 3 refine xO ?_
     refine xF [4] ?_
     refine W_ret (endAt_ret (by simp [Try.f42]; exact .mk) ?_ ?_)
     · simp
       unfold kindS at hf <;> (repeat' split at hf) <;> first | (show (_ : Nat) = _; omega) | (exfalso; omega) | (exfalso; simp_all; done)
     first | rfl | (exfalso; unfold kindS at hf <;> (repeat' split at hf) <;> first | (show (_ : Nat) = _; omega) | (exfalso; omega) | (exfalso; simp_all; done))
   intro h59
   have k8 : o.act ≠ 3 := by simpa using h59
   refine xU ?_
   iterate 4 refine xO ?_
   refine xF [0,3,65] ?_
   refine W_cond rfl ?_ ?_
   · intro h65
     have k9 : o.act = 4 := by simpa using h65
     refine xU ?_
     iterate 3 refine xO ?_
     refine xF [4] ?_
     refine W_ret (endAt_ret (by simp [Try.f42]; exact .mk) ?_ ?_)
     · simp
       unfold kindS at hf <;> (repeat' split at hf) <;> first | (show (_ : Nat) = _; omega) | (exfalso; omega) | (exfalso; simp_all; done)
     first | rfl | (exfalso; unfold kindS at hf <;> (repeat' split at hf) <;> first | (show (_ : Nat) = _; omega) | (exfalso; omega) | (exfalso; simp_all; done))
   intro h65
   have k9 : o.act ≠ 4 := by simpa using h65
   refine xU ?_
   iterate 4 refine xO ?_
   refine xF [0,71] ?_
   refine W_cond rfl ?_ ?_
   · intro h71
     have k10 : o.act = 5 := by simpa using h71
     refine xU ?_
     iterate 3 refine xO ?_
     refine xF [4] ?_
     refine W_ret (endAt_ret (by simp [Try.f42]; exact .mk) ?_ ?_)
     · simp
       unfold kindS at hf <;> (repeat' split at hf) <;> first | (show (_ : Nat) = _; omega) | (exfalso; omega) | (exfalso; simp_all; done)
     first | rfl | (exfalso; unfold kindS at hf <;> (repeat' split at hf) <;> first | (show (_ : Nat) = _; omega) | (exfalso; omega) | (exfalso; simp_all; done))
   intro h71
   have k10 : o.act ≠ 5 := by simpa using h71
   refine W_skip ?_
   refine xT ?_
   iterate 3 refine xO ?_
   refine xF [4] ?_
   refine W_ret (endAt_ret (by simp [Try.f42]; exact .mk) ?_ ?_)
   · simp
     unfold kindS at hf <;> (repeat' split at hf) <;> first | (show (_ : Nat) = _; omega) | (exfalso; omega) | (exfalso; simp_all; done)
   first | rfl | (exfalso; unfold kindS at hf <;> (repeat' split at hf) <;> first | (show (_ : Nat) = _; omega) | (exfalso; omega) | (exfalso; simp_all; done))
 intro h21
 have k4 : ¬ o.act < 1 := by simpa using h21
 refine W_reg rfl ?_
 iterate 4 refine xO ?_
 refine xF [0,3,5,21] ?_
 refine W_cond rfl ?_ ?_
 · intro h21'
   have k4' : o.act < 1 ∨ 8 < o.act := by simp at h21'; omega
   refine xU ?_
   refine xO ?_
   refine run_inl0 rfl rfl rfl rfl (by simp; exact .mk) ⟨_, Try.func79, rfl, rfl⟩ (in79 g o0 o1 o2 o3 _ a 1) (.inr ⟨_, rfl⟩) ?_
   refine xO ?_
   refine xF [4] ?_
   refine W_ret (endAt_ret (by simp [Try.f42]; exact .mk) ?_ ?_)
   · simp
     unfold kindS at hf <;> (repeat' split at hf) <;> first | (show (_ : Nat) = _; omega) | (exfalso; omega) | (exfalso; simp_all; done)
   first | rfl | (exfalso; unfold kindS at hf <;> (repeat' split at hf) <;> first | (show (_ : Nat) = _; omega) | (exfalso; omega) | (exfalso; simp_all; done))
 intro h21'
 have k4' : ¬ (o.act < 1 ∨ 8 < o.act) := by simp at h21'; omega
 refine xU ?_
 iterate 4 refine xO ?_
 iterate 2 (refine run_if rfl (by simp; exact .mk) rfl (by simp <;> omega) (fun hb => by simp; exact .mk) ?_)
 refine run_call rfl (by simp; exact .mk) rfl rfl (by simp) (by simp; exact .mk) (by simp [row_rows, Function.comp_def]; exact .mk) (fun hb => ct83 g _ hn) (by simp) (by simp; exact .mk) (by simp) ?_
 refine run_if rfl (by simp; exact .mk) rfl (by simp <;> omega) (fun hb => by simp; exact .mk) ?_
 refine xP ?_
 refine run_op1 rfl rfl rfl (by simp <;> omega) (by simp; exact .mk) ?_
 refine run_end [0,3,5,30] (by simp <;> omega) (by simp; exact .mk) ?_
 rintro -
 refine W_cond rfl ?_ ?_
 · intro h30
   have k5 : o.act = 6 ∧ nameS o.name = false := by simpa using h30
   refine xU ?_
   refine xO ?_
   refine run_inl0 rfl rfl rfl rfl (by simp; exact .mk) ⟨_, Try.func79, rfl, rfl⟩ (in79 g o0 o1 o2 o3 _ a 3) (.inr ⟨_, rfl⟩) ?_
   refine xO ?_
   refine xF [4] ?_
   refine W_ret (endAt_ret (by simp [Try.f42]; exact .mk) ?_ ?_)
   · simp
     unfold kindS at hf <;> (repeat' split at hf) <;> first | (show (_ : Nat) = _; omega) | (exfalso; omega) | (exfalso; simp_all; done)
   first | rfl | (exfalso; unfold kindS at hf <;> (repeat' split at hf) <;> first | (show (_ : Nat) = _; omega) | (exfalso; omega) | (exfalso; simp_all; done))
 intro h30
 have k5 : ¬ (o.act = 6 ∧ nameS o.name = false) := by simpa using h30
 refine W_seq ?_
 refine W_regD (by kernel_rfl) [] 4 [0,1,2,3,4,5,6,7,8] (by decide +kernel) ?_
 iterate 6 refine xO ?_
 refine xC (ct84 g a _ _ hgd) ?_ (he := by simp [row_rows, Function.comp_def]; exact .mk)
 iterate 2 refine xO ?_
 refine xF [0,3,5,42] ?_
 refine W_cond rfl ?_ ?_
 · intro h42
   have k6 : goodS a o.ix o.gen = false := by simpa using h42
   refine xU ?_
   refine xO ?_
   refine run_inl0 rfl rfl rfl rfl (by simp; exact .mk) ⟨_, Try.func79, rfl, rfl⟩ (in79 g o0 o1 o2 o3 _ a 8) (.inr ⟨_, rfl⟩) ?_
   refine xO ?_
   refine xF [4] ?_
   refine W_ret (endAt_ret (by simp [Try.f42]; exact .mk) ?_ ?_)
   · simp
     unfold kindS at hf <;> (repeat' split at hf) <;> first | (show (_ : Nat) = _; omega) | (exfalso; omega) | (exfalso; simp_all; done)
   first | rfl | (exfalso; unfold kindS at hf <;> (repeat' split at hf) <;> first | (show (_ : Nat) = _; omega) | (exfalso; omega) | (exfalso; simp_all; done))
 intro h42
 have k6 : ¬ goodS a o.ix o.gen = false := by simpa using h42
 refine xU ?_
 iterate 4 refine xO ?_
 refine xF [0,3,53] ?_
 refine W_cond rfl ?_ ?_
 · intro h53
   have k7 : o.act = 2 := by simpa using h53
   refine xU ?_
   iterate 3 refine xO ?_
   refine xF [4] ?_
   refine W_ret (endAt_ret (by simp [Try.f42]; exact .mk) ?_ ?_)
   · simp
     unfold kindS at hf <;> (repeat' split at hf) <;> first | (show (_ : Nat) = _; omega) | (exfalso; omega) | (exfalso; simp_all; done)
   first | rfl | (exfalso; unfold kindS at hf <;> (repeat' split at hf) <;> first | (show (_ : Nat) = _; omega) | (exfalso; omega) | (exfalso; simp_all; done))
 intro h53
 have k7 : o.act ≠ 2 := by simpa using h53
 refine xU ?_
 iterate 4 refine xO ?_
 refine xF [0,3,59] ?_
 refine W_cond rfl ?_ ?_
 · intro h59
   have k8 : o.act = 3 := by simpa using h59
   refine xU ?_
   iterate 3 refine xO ?_
   refine xF [4] ?_
   refine W_ret (endAt_ret (by simp [Try.f42]; exact .mk) ?_ ?_)
   · simp
     unfold kindS at hf <;> (repeat' split at hf) <;> first | (show (_ : Nat) = _; omega) | (exfalso; omega) | (exfalso; simp_all; done)
   first | rfl | (exfalso; unfold kindS at hf <;> (repeat' split at hf) <;> first | (show (_ : Nat) = _; omega) | (exfalso; omega) | (exfalso; simp_all; done))
 intro h59
 have k8 : o.act ≠ 3 := by simpa using h59
 refine xU ?_
 iterate 4 refine xO ?_
 refine xF [0,3,65] ?_
 refine W_cond rfl ?_ ?_
 · intro h65
   have k9 : o.act = 4 := by simpa using h65
   refine xU ?_
   iterate 3 refine xO ?_
   refine xF [4] ?_
   refine W_ret (endAt_ret (by simp [Try.f42]; exact .mk) ?_ ?_)
   · simp
     unfold kindS at hf <;> (repeat' split at hf) <;> first | (show (_ : Nat) = _; omega) | (exfalso; omega) | (exfalso; simp_all; done)
   first | rfl | (exfalso; unfold kindS at hf <;> (repeat' split at hf) <;> first | (show (_ : Nat) = _; omega) | (exfalso; omega) | (exfalso; simp_all; done))
 intro h65
 have k9 : o.act ≠ 4 := by simpa using h65
 refine xU ?_
 iterate 4 refine xO ?_
 refine xF [0,71] ?_
 refine W_cond rfl ?_ ?_
 · intro h71
   have k10 : o.act = 5 := by simpa using h71
   refine xU ?_
   iterate 3 refine xO ?_
   refine xF [4] ?_
   refine W_ret (endAt_ret (by simp [Try.f42]; exact .mk) ?_ ?_)
   · simp
     unfold kindS at hf <;> (repeat' split at hf) <;> first | (show (_ : Nat) = _; omega) | (exfalso; omega) | (exfalso; simp_all; done)
   first | rfl | (exfalso; unfold kindS at hf <;> (repeat' split at hf) <;> first | (show (_ : Nat) = _; omega) | (exfalso; omega) | (exfalso; simp_all; done))
 intro h71
 have k10 : o.act ≠ 5 := by simpa using h71
 refine W_skip ?_
 refine xT ?_
 iterate 3 refine xO ?_
 refine xF [4] ?_
 refine W_ret (endAt_ret (by simp [Try.f42]; exact .mk) ?_ ?_)
 · simp
   unfold kindS at hf <;> (repeat' split at hf) <;> first | (show (_ : Nat) = _; omega) | (exfalso; omega) | (exfalso; simp_all; done)
 first | rfl | (exfalso; unfold kindS at hf <;> (repeat' split at hf) <;> first | (show (_ : Nat) = _; omega) | (exfalso; omega) | (exfalso; simp_all; done))

open Go.Awp
theorem in42b (g : Gl) (o0 o1 o2 o3 : Awp.Obj) (a : Abs) (o : Op) (hgd : a.data.length = a.gens.length) (hn : o.name.size ≤ 2^40) (e : Nat) (he : 0 < e) (hf : kindS a o = -(e : Int)) : ∀ B S, CallsA Try.prog g B S ⟨8, true⟩ 42 [.ptr 7 0 0, .agg [.d (vI o.act), .d (vI o.ix), .d (vI o.gen), .d (vI o.n), .d (vI o.off), .d (rB o.b), .d (vS o.name)]] [o0, o1, o2, o3, .row 1 (a.gens.map vI), .row 1 (a.data.map oB), .row 3 (a.roots.map eRoot), .var 79 [.hdr 4 0 a.gens.length, .hdr 5 0 a.data.length, (.hdr 6 0 a.roots.length), .d (vI 0), .d (vI 0), .d (.v (.slice none 0 0))]]
    (fun x r => x = .fn (.func 80) [] [.ptr 9 0 0] ∧ r = [o0, o1, o2, o3, .row 1 (a.gens.map vI), .row 1 (a.data.map oB), .row 3 (a.roots.map eRoot), .var 79 [.hdr 4 0 a.gens.length, .hdr 5 0 a.data.length, (.hdr 6 0 a.roots.length), .d (vI 0), .d (vI 0), .d (.v (.slice none 0 0))], .var 31 [.d (vI o.act), .d (vI o.ix), .d (vI o.gen), .d (vI o.n), .d (vI o.off), .d (rB o.b), .d (vS o.name)], .var 39 [.d (vI e)]]) := by
 refine callsA_at Try.func42 rfl (Nat.le_of_ble_eq_true rfl) fun B S => ?_
 refine xU ?_
 iterate 2 refine xO ?_
 refine xG [0,3] ?_
 refine xO ?_
 refine xF [0,3,5] ?_
 refine W_seq (W_block ?_)
 refine xU ?_
 iterate 4 refine xO ?_
 refine xF [0,3,5,6] ?_
 refine W_cond rfl ?_ ?_
 · intro h6
   have k1 : o.act = 1 := by simpa using h6
   refine xU ?_
   iterate 3 refine xO ?_
   refine xF [4] ?_
   refine W_ret (endAt_ret (by simp [Try.f42]; exact .mk) ?_ ?_)
   · first | rfl | (exfalso; unfold kindS at hf <;> (repeat' split at hf) <;> first | (show (_ : Nat) = _; omega) | (exfalso; omega) | (exfalso; simp_all; done))
   first | (obtain rfl : e = 1 := by unfold kindS at hf <;> (repeat' split at hf) <;> first | (show (_ : Nat) = _; omega) | (exfalso; omega) | (exfalso; simp_all; done)
            rfl) | (obtain rfl : e = 3 := by unfold kindS at hf <;> (repeat' split at hf) <;> first | (show (_ : Nat) = _; omega) | (exfalso; omega) | (exfalso; simp_all; done)
                    rfl) | (obtain rfl : e = 8 := by unfold kindS at hf <;> (repeat' split at hf) <;> first | (show (_ : Nat) = _; omega) | (exfalso; omega) | (exfalso; simp_all; done)
                            rfl) | (exfalso; unfold kindS at hf <;> (repeat' split at hf) <;> first | (show (_ : Nat) = _; omega) | (exfalso; omega) | (exfalso; simp_all; done))
 intro h6
 have k1 : o.act ≠ 1 := by simpa using h6
 refine W_seq (xU ?_)
 iterate 4 refine xO ?_
 refine xF [0,3,5,12] ?_
 refine W_cond rfl ?_ ?_
 · intro h12
   have k2 : o.act = 7 := by simpa using h12
   refine W_skip ?_
   rintro -
   refine W_cond rfl ?_ ?_
   · intro h12'
     have k3 : o.act = 7 ∨ o.act = 8 := by simp at h12'; omega
     refine xU ?_
     iterate 3 refine xO ?_
     refine xF [4] ?_
     refine W_ret (endAt_ret (by simp [Try.f42]; exact .mk) ?_ ?_)
     · first | rfl | (exfalso; unfold kindS at hf <;> (repeat' split at hf) <;> first | (show (_ : Nat) = _; omega) | (exfalso; omega) | (exfalso; simp_all; done))
     first | (obtain rfl : e = 1 := by unfold kindS at hf <;> (repeat' split at hf) <;> first | (show (_ : Nat) = _; omega) | (exfalso; omega) | (exfalso; simp_all; done)
              rfl) | (obtain rfl : e = 3 := by unfold kindS at hf <;> (repeat' split at hf) <;> first | (show (_ : Nat) = _; omega) | (exfalso; omega) | (exfalso; simp_all; done)
                      rfl) | (obtain rfl : e = 8 := by unfold kindS at hf <;> (repeat' split at hf) <;> first | (show (_ : Nat) = _; omega) | (exfalso; omega) | (exfalso; simp_all; done)
                              rfl) | (exfalso; unfold kindS at hf <;> (repeat' split at hf) <;> first | (show (_ : Nat) = _; omega) | (exfalso; omega) | (exfalso; simp_all; done))
   intro h12'
   have k3 : ¬ (o.act = 7 ∨ o.act = 8) := by simp at h12'; omega
   refine W_seq (xU ?_)
   iterate 4 refine xO ?_
   refine xF [0,3,5,21] ?_
   refine W_cond rfl ?_ ?_
   · intro h21
     have k4 : o.act < 1 := by simpa using h21
     refine W_skip ?_
     rintro -
     refine W_cond rfl ?_ ?_
     · intro h21'
       have k4' : o.act < 1 ∨ 8 < o.act := by simp at h21'; omega
       refine xU ?_
       refine xO ?_
       refine run_inl0 rfl rfl rfl rfl (by simp; exact .mk) ⟨_, Try.func79, rfl, rfl⟩ (in79 g o0 o1 o2 o3 _ a 1) (.inr ⟨_, rfl⟩) ?_
       refine xO ?_
       refine xF [4] ?_
       refine W_ret (endAt_ret (by simp [Try.f42]; exact .mk) ?_ ?_)
       · first | rfl | (exfalso; unfold kindS at hf <;> (repeat' split at hf) <;> first | (show (_ : Nat) = _; omega) | (exfalso; omega) | (exfalso; simp_all; done))
       first | (obtain rfl : e = 1 := by unfold kindS at hf <;> (repeat' split at hf) <;> first | (show (_ : Nat) = _; omega) | (exfalso; omega) | (exfalso; simp_all; done)
                rfl) | (obtain rfl : e = 3 := by unfold kindS at hf <;> (repeat' split at hf) <;> first | (show (_ : Nat) = _; omega) | (exfalso; omega) | (exfalso; simp_all; done)
                        rfl) | (obtain rfl : e = 8 := by unfold kindS at hf <;> (repeat' split at hf) <;> first | (show (_ : Nat) = _; omega) | (exfalso; omega) | (exfalso; simp_all; done)
                                rfl) | (exfalso; unfold kindS at hf <;> (repeat' split at hf) <;> first | (show (_ : Nat) = _; omega) | (exfalso; omega) | (exfalso; simp_all; done))
     intro h21'
     have k4' : ¬ (o.act < 1 ∨ 8 < o.act) := by simp at h21'; omega
     refine xU ?_
     iterate 4 refine xO ?_
     iterate 2 (refine run_if rfl (by simp; exact .mk) rfl (by simp <;> omega) (fun hb => by simp; exact .mk) ?_)
     refine run_call rfl (by simp; exact .mk) rfl rfl (by simp) (by simp; exact .mk) (by simp [row_rows, Function.comp_def]; exact .mk) (fun hb => ct83 g _ hn) (by simp) (by simp; exact .mk) (by simp) ?_
     refine run_if rfl (by simp; exact .mk) rfl (by simp <;> omega) (fun hb => by simp; exact .mk) ?_
     refine xP ?_
     refine run_op1 rfl rfl rfl (by simp <;> omega) (by simp; exact .mk) ?_
     refine run_end [0,3,5,30] (by simp <;> omega) (by simp; exact .mk) ?_
     rintro -
     refine W_cond rfl ?_ ?_
     · intro h30
       have k5 : o.act = 6 ∧ nameS o.name = false := by simpa using h30
       refine xU ?_
       refine xO ?_
       refine run_inl0 rfl rfl rfl rfl (by simp; exact .mk) ⟨_, Try.func79, rfl, rfl⟩ (in79 g o0 o1 o2 o3 _ a 3) (.inr ⟨_, rfl⟩) ?_
       refine xO ?_
       refine xF [4] ?_
       refine W_ret (endAt_ret (by simp [Try.f42]; exact .mk) ?_ ?_)
       · first | rfl | (exfalso; unfold kindS at hf <;> (repeat' split at hf) <;> first | (show (_ : Nat) = _; omega) | (exfalso; omega) | (exfalso; simp_all; done))
       first | (obtain rfl : e = 1 := by unfold kindS at hf <;> (repeat' split at hf) <;> first | (show (_ : Nat) = _; omega) | (exfalso; omega) | (exfalso; simp_all; done)
                rfl) | (obtain rfl : e = 3 := by unfold kindS at hf <;> (repeat' split at hf) <;> first | (show (_ : Nat) = _; omega) | (exfalso; omega) | (exfalso; simp_all; done)
                        rfl) | (obtain rfl : e = 8 := by unfold kindS at hf <;> (repeat' split at hf) <;> first | (show (_ : Nat) = _; omega) | (exfalso; omega) | (exfalso; simp_all; done)
                                rfl) | (exfalso; unfold kindS at hf <;> (repeat' split at hf) <;> first | (show (_ : Nat) = _; omega) | (exfalso; omega) | (exfalso; simp_all; done))
     intro h30
     have k5 : ¬ (o.act = 6 ∧ nameS o.name = false) := by simpa using h30
     refine W_seq ?_
     refine W_regD (by kernel_rfl) [] 4 [0,1,2,3,4,5,6,7,8] (by decide +kernel) ?_
     iterate 6 refine xO ?_
     refine xC (ct84 g a _ _ hgd) ?_ (he := by simp [row_rows, Function.comp_def]; exact .mk)
     iterate 2 refine xO ?_
     refine xF [0,3,5,42] ?_
     refine W_cond rfl ?_ ?_
     · intro h42
       have k6 : goodS a o.ix o.gen = false := by simpa using h42
       refine xU ?_
       refine xO ?_
       refine run_inl0 rfl rfl rfl rfl (by simp; exact .mk) ⟨_, Try.func79, rfl, rfl⟩ (in79 g o0 o1 o2 o3 _ a 8) (.inr ⟨_, rfl⟩) ?_
       refine xO ?_
       refine xF [4] ?_
       refine W_ret (endAt_ret (by simp [Try.f42]; exact .mk) ?_ ?_)
       · first | rfl | (exfalso; unfold kindS at hf <;> (repeat' split at hf) <;> first | (show (_ : Nat) = _; omega) | (exfalso; omega) | (exfalso; simp_all; done))
       first | (obtain rfl : e = 1 := by unfold kindS at hf <;> (repeat' split at hf) <;> first | (show (_ : Nat) = _; omega) | (exfalso; omega) | (exfalso; simp_all; done)
                rfl) | (obtain rfl : e = 3 := by unfold kindS at hf <;> (repeat' split at hf) <;> first | (show (_ : Nat) = _; omega) | (exfalso; omega) | (exfalso; simp_all; done)
                        rfl) | (obtain rfl : e = 8 := by unfold kindS at hf <;> (repeat' split at hf) <;> first | (show (_ : Nat) = _; omega) | (exfalso; omega) | (exfalso; simp_all; done)
                                rfl) | (exfalso; unfold kindS at hf <;> (repeat' split at hf) <;> first | (show (_ : Nat) = _; omega) | (exfalso; omega) | (exfalso; simp_all; done))
     intro h42
     have k6 : ¬ goodS a o.ix o.gen = false := by simpa using h42
     refine xU ?_
     iterate 4 refine xO ?_
     refine xF [0,3,53] ?_
     refine W_cond rfl ?_ ?_
     · intro h53
       have k7 : o.act = 2 := by simpa using h53
       refine xU ?_
       iterate 3 refine xO ?_
       refine xF [4] ?_
       refine W_ret (endAt_ret (by simp [Try.f42]; exact .mk) ?_ ?_)
       · first | rfl | (exfalso; unfold kindS at hf <;> (repeat' split at hf) <;> first | (show (_ : Nat) = _; omega) | (exfalso; omega) | (exfalso; simp_all; done))
       first | (obtain rfl : e = 1 := by unfold kindS at hf <;> (repeat' split at hf) <;> first | (show (_ : Nat) = _; omega) | (exfalso; omega) | (exfalso; simp_all; done)
                rfl) | (obtain rfl : e = 3 := by unfold kindS at hf <;> (repeat' split at hf) <;> first | (show (_ : Nat) = _; omega) | (exfalso; omega) | (exfalso; simp_all; done)
                        rfl) | (obtain rfl : e = 8 := by unfold kindS at hf <;> (repeat' split at hf) <;> first | (show (_ : Nat) = _; omega) | (exfalso; omega) | (exfalso; simp_all; done)
                                rfl) | (exfalso; unfold kindS at hf <;> (repeat' split at hf) <;> first | (show (_ : Nat) = _; omega) | (exfalso; omega) | (exfalso; simp_all; done))
     intro h53
     have k7 : o.act ≠ 2 := by simpa using h53
     refine xU ?_
     iterate 4 refine xO ?_
     refine xF [0,3,59] ?_
     refine W_cond rfl ?_ ?_
     · intro h59
       have k8 : o.act = 3 := by simpa using h59
       refine xU ?_
       iterate 3 refine xO ?_
       refine xF [4] ?_
       refine W_ret (endAt_ret (by simp [Try.f42]; exact .mk) ?_ ?_)
       · first | rfl | (exfalso; unfold kindS at hf <;> (repeat' split at hf) <;> first | (show (_ : Nat) = _; omega) | (exfalso; omega) | (exfalso; simp_all; done))
       first | (obtain rfl : e = 1 := by unfold kindS at hf <;> (repeat' split at hf) <;> first | (show (_ : Nat) = _; omega) | (exfalso; omega) | (exfalso; simp_all; done)
                rfl) | (obtain rfl : e = 3 := by unfold kindS at hf <;> (repeat' split at hf) <;> first | (show (_ : Nat) = _; omega) | (exfalso; omega) | (exfalso; simp_all; done)
                        rfl) | (obtain rfl : e = 8 := by unfold kindS at hf <;> (repeat' split at hf) <;> first | (show (_ : Nat) = _; omega) | (exfalso; omega) | (exfalso; simp_all; done)
                                rfl) | (exfalso; unfold kindS at hf <;> (repeat' split at hf) <;> first | (show (_ : Nat) = _; omega) | (exfalso; omega) | (exfalso; simp_all; done))
     intro h59
     have k8 : o.act ≠ 3 := by simpa using h59
     refine xU ?_
     iterate 4 refine xO ?_
     refine xF [0,3,65] ?_
     refine W_cond rfl ?_ ?_
     · intro h65
       have k9 : o.act = 4 := by simpa using h65
       refine xU ?_
       iterate 3 refine xO ?_
       refine xF [4] ?_
       refine W_ret (endAt_ret (by simp [Try.f42]; exact .mk) ?_ ?_)
       · first | rfl | (exfalso; unfold kindS at hf <;> (repeat' split at hf) <;> first | (show (_ : Nat) = _; omega) | (exfalso; omega) | (exfalso; simp_all; done))
       first | (obtain rfl : e = 1 := by unfold kindS at hf <;> (repeat' split at hf) <;> first | (show (_ : Nat) = _; omega) | (exfalso; omega) | (exfalso; simp_all; done)
                rfl) | (obtain rfl : e = 3 := by unfold kindS at hf <;> (repeat' split at hf) <;> first | (show (_ : Nat) = _; omega) | (exfalso; omega) | (exfalso; simp_all; done)
                        rfl) | (obtain rfl : e = 8 := by unfold kindS at hf <;> (repeat' split at hf) <;> first | (show (_ : Nat) = _; omega) | (exfalso; omega) | (exfalso; simp_all; done)
                                rfl) | (exfalso; unfold kindS at hf <;> (repeat' split at hf) <;> first | (show (_ : Nat) = _; omega) | (exfalso; omega) | (exfalso; simp_all; done))
     intro h65
     have k9 : o.act ≠ 4 := by simpa using h65
     refine xU ?_
     iterate 4 refine xO ?_
     refine xF [0,71] ?_
     refine W_cond rfl ?_ ?_
     · intro h71
       have k10 : o.act = 5 := by simpa using h71
       refine xU ?_
       iterate 3 refine xO ?_
       refine xF [4] ?_
       refine W_ret (endAt_ret (by simp [Try.f42]; exact .mk) ?_ ?_)
       · first | rfl | (exfalso; unfold kindS at hf <;> (repeat' split at hf) <;> first | (show (_ : Nat) = _; omega) | (exfalso; omega) | (exfalso; simp_all; done))
       first | (obtain rfl : e = 1 := by unfold kindS at hf <;> (repeat' split at hf) <;> first | (show (_ : Nat) = _; omega) | (exfalso; omega) | (exfalso; simp_all; done)
                rfl) | (obtain rfl : e = 3 := by unfold kindS at hf <;> (repeat' split at hf) <;> first | (show (_ : Nat) = _; omega) | (exfalso; omega) | (exfalso; simp_all; done)
                        rfl) | (obtain rfl : e = 8 := by unfold kindS at hf <;> (repeat' split at hf) <;> first | (show (_ : Nat) = _; omega) | (exfalso; omega) | (exfalso; simp_all; done)
                                rfl) | (exfalso; unfold kindS at hf <;> (repeat' split at hf) <;> first | (show (_ : Nat) = _; omega) | (exfalso; omega) | (exfalso; simp_all; done))
     intro h71
     have k10 : o.act ≠ 5 := by simpa using h71
     refine W_skip ?_
     refine xT ?_
     iterate 3 refine xO ?_
     refine xF [4] ?_
     refine W_ret (endAt_ret (by simp [Try.f42]; exact .mk) ?_ ?_)
     · first | rfl | (exfalso; unfold kindS at hf <;> (repeat' split at hf) <;> first | (show (_ : Nat) = _; omega) | (exfalso; omega) | (exfalso; simp_all; done))
     first | (obtain rfl : e = 1 := by unfold kindS at hf <;> (repeat' split at hf) <;> first | (show (_ : Nat) = _; omega) | (exfalso; omega) | (exfalso; simp_all; done)
              rfl) | (obtain rfl : e = 3 := by unfold kindS at hf <;> (repeat' split at hf) <;> first | (show (_ : Nat) = _; omega) | (exfalso; omega) | (exfalso; simp_all; done)
                      rfl) | (obtain rfl : e = 8 := by unfold kindS at hf <;> (repeat' split at hf) <;> first | (show (_ : Nat) = _; omega) | (exfalso; omega) | (exfalso; simp_all; done)
                              rfl) | (exfalso; unfold kindS at hf <;> (repeat' split at hf) <;> first | (show (_ : Nat) = _; omega) | (exfalso; omega) | (exfalso; simp_all; done))
   intro h21
   have k4 : ¬ o.act < 1 := by simpa using h21
   refine W_reg rfl ?_
   iterate 4 refine xO ?_
   refine xF [0,3,5,21] ?_
   refine W_cond rfl ?_ ?_
   · intro h21'
     have k4' : o.act < 1 ∨ 8 < o.act := by simp at h21'; omega
     refine xU ?_
     refine xO ?_
     refine run_inl0 rfl rfl rfl rfl (by simp; exact .mk) ⟨_, Try.func79, rfl, rfl⟩ (in79 g o0 o1 o2 o3 _ a 1) (.inr ⟨_, rfl⟩) ?_
     refine xO ?_
     refine xF [4] ?_
     refine W_ret (endAt_ret (by simp [Try.f42]; exact .mk) ?_ ?_)
     · first | rfl | (exfalso; unfold kindS at hf <;> (repeat' split at hf) <;> first | (show (_ : Nat) = _; omega) | (exfalso; omega) | (exfalso; simp_all; done))
     first | (obtain rfl : e = 1 := by unfold kindS at hf <;> (repeat' split at hf) <;> first | (show (_ : Nat) = _; omega) | (exfalso; omega) | (exfalso; simp_all; done)
              rfl) | (obtain rfl : e = 3 := by unfold kindS at hf <;> (repeat' split at hf) <;> first | (show (_ : Nat) = _; omega) | (exfalso; omega) | (exfalso; simp_all; done)
                      rfl) | (obtain rfl : e = 8 := by unfold kindS at hf <;> (repeat' split at hf) <;> first | (show (_ : Nat) = _; omega) | (exfalso; omega) | (exfalso; simp_all; done)
                              rfl) | (exfalso; unfold kindS at hf <;> (repeat' split at hf) <;> first | (show (_ : Nat) = _; omega) | (exfalso; omega) | (exfalso; simp_all; done))
   intro h21'
   have k4' : ¬ (o.act < 1 ∨ 8 < o.act) := by simp at h21'; omega
   refine xU ?_
   iterate 4 refine xO ?_
   iterate 2 (refine run_if rfl (by simp; exact .mk) rfl (by simp <;> omega) (fun hb => by simp; exact .mk) ?_)
   refine run_call rfl (by simp; exact .mk) rfl rfl (by simp) (by simp; exact .mk) (by simp [row_rows, Function.comp_def]; exact .mk) (fun hb => ct83 g _ hn) (by simp) (by simp; exact .mk) (by simp) ?_
   refine run_if rfl (by simp; exact .mk) rfl (by simp <;> omega) (fun hb => by simp; exact .mk) ?_
   refine xP ?_
   refine run_op1 rfl rfl rfl (by simp <;> omega) (by simp; exact .mk) ?_
   refine run_end [0,3,5,30] (by simp <;> omega) (by simp; exact .mk) ?_
   rintro -
   refine W_cond rfl ?_ ?_
   · intro h30
     have k5 : o.act = 6 ∧ nameS o.name = false := by simpa using h30
     refine xU ?_
     refine xO ?_
     refine run_inl0 rfl rfl rfl rfl (by simp; exact .mk) ⟨_, Try.func79, rfl, rfl⟩ (in79 g o0 o1 o2 o3 _ a 3) (.inr ⟨_, rfl⟩) ?_
     refine xO ?_
     refine xF [4] ?_
     refine W_ret (endAt_ret (by simp [Try.f42]; exact .mk) ?_ ?_)
     · first | rfl | (exfalso; unfold kindS at hf <;> (repeat' split at hf) <;> first | (show (_ : Nat) = _; omega) | (exfalso; omega) | (exfalso; simp_all; done))
     first | (obtain rfl : e = 1 := by unfold kindS at hf <;> (repeat' split at hf) <;> first | (show (_ : Nat) = _; omega) | (exfalso; omega) | (exfalso; simp_all; done)
              rfl) | (obtain rfl : e = 3 := by unfold kindS at hf <;> (repeat' split at hf) <;> first | (show (_ : Nat) = _; omega) | (exfalso; omega) | (exfalso; simp_all; done)
                      rfl) | (obtain rfl : e = 8 := by unfold kindS at hf <;> (repeat' split at hf) <;> first | (show (_ : Nat) = _; omega) | (exfalso; omega) | (exfalso; simp_all; done)
                              rfl) | (exfalso; unfold kindS at hf <;> (repeat' split at hf) <;> first | (show (_ : Nat) = _; omega) | (exfalso; omega) | (exfalso; simp_all; done))
   intro h30
   have k5 : ¬ (o.act = 6 ∧ nameS o.name = false) := by simpa using h30
   refine W_seq ?_
   refine W_regD (by kernel_rfl) [] 4 [0,1,2,3,4,5,6,7,8] (by decide +kernel) ?_
   iterate 6 refine xO ?_
   refine xC (ct84 g a _ _ hgd) ?_ (he := by simp [row_rows, Function.comp_def]; exact .mk)
   iterate 2 refine xO ?_
   refine xF [0,3,5,42] ?_
   refine W_cond rfl ?_ ?_
   · intro h42
     have k6 : goodS a o.ix o.gen = false := by simpa using h42
     refine xU ?_
     refine xO ?_
     refine run_inl0 rfl rfl rfl rfl (by simp; exact .mk) ⟨_, Try.func79, rfl, rfl⟩ (in79 g o0 o1 o2 o3 _ a 8) (.inr ⟨_, rfl⟩) ?_
     refine xO ?_
     refine xF [4] ?_
     refine W_ret (endAt_ret (by simp [Try.f42]; exact .mk) ?_ ?_)
     · first | rfl | (exfalso; unfold kindS at hf <;> (repeat' split at hf) <;> first | (show (_ : Nat) = _; omega) | (exfalso; omega) | (exfalso; simp_all; done))
     first | (obtain rfl : e = 1 := by unfold kindS at hf <;> (repeat' split at hf) <;> first | (show (_ : Nat) = _; omega) | (exfalso; omega) | (exfalso; simp_all; done)
              rfl) | (obtain rfl : e = 3 := by unfold kindS at hf <;> (repeat' split at hf) <;> first | (show (_ : Nat) = _; omega) | (exfalso; omega) | (exfalso; simp_all; done)
                      rfl) | (obtain rfl : e = 8 := by unfold kindS at hf <;> (repeat' split at hf) <;> first | (show (_ : Nat) = _; omega) | (exfalso; omega) | (exfalso; simp_all; done)
                              rfl) | (exfalso; unfold kindS at hf <;> (repeat' split at hf) <;> first | (show (_ : Nat) = _; omega) | (exfalso; omega) | (exfalso; simp_all; done))
   intro h42
   have k6 : ¬ goodS a o.ix o.gen = false := by simpa using h42
   refine xU ?_
   iterate 4 refine xO ?_
   refine xF [0,3,53] ?_
   refine W_cond rfl ?_ ?_
   · intro h53
     have k7 : o.act = 2 := by simpa using h53
     refine xU ?_
     iterate 3 refine xO ?_
     refine xF [4] ?_
     refine W_ret (endAt_ret (by simp [Try.f42]; exact .mk) ?_ ?_)
     · first | rfl | (exfalso; unfold kindS at hf <;> (repeat' split at hf) <;> first | (show (_ : Nat) = _; omega) | (exfalso; omega) | (exfalso; simp_all; done))
     first | (obtain rfl : e = 1 := by unfold kindS at hf <;> (repeat' split at hf) <;> first | (show (_ : Nat) = _; omega) | (exfalso; omega) | (exfalso; simp_all; done)
              rfl) | (obtain rfl : e = 3 := by unfold kindS at hf <;> (repeat' split at hf) <;> first | (show (_ : Nat) = _; omega) | (exfalso; omega) | (exfalso; simp_all; done)
                      rfl) | (obtain rfl : e = 8 := by unfold kindS at hf <;> (repeat' split at hf) <;> first | (show (_ : Nat) = _; omega) | (exfalso; omega) | (exfalso; simp_all; done)
                              rfl) | (exfalso; unfold kindS at hf <;> (repeat' split at hf) <;> first | (show (_ : Nat) = _; omega) | (exfalso; omega) | (exfalso; simp_all; done))
   intro h53
   have k7 : o.act ≠ 2 := by simpa using h53
   refine xU ?_
   iterate 4 refine xO ?_
   refine xF [0,3,59] ?_
   refine W_cond rfl ?_ ?_
   · intro h59
     have k8 : o.act = 3 := by simpa using h59
     refine xU ?_
     iterate 3 refine xO ?_
     refine xF [4] ?_
     refine W_ret (endAt_ret (by simp [Try.f42]; exact .mk) ?_ ?_)
     · first | rfl | (exfalso; unfold kindS at hf <;> (repeat' split at hf) <;> first | (show (_ : Nat) = _; omega) | (exfalso; omega) | (exfalso; simp_all; done))
     first | (obtain rfl : e = 1 := by unfold kindS at hf <;> (repeat' split at hf) <;> first | (show (_ : Nat) = _; omega) | (exfalso; omega) | (exfalso; simp_all; done)
              rfl) | (obtain rfl : e = 3 := by unfold kindS at hf <;> (repeat' split at hf) <;> first | (show (_ : Nat) = _; omega) | (exfalso; omega) | (exfalso; simp_all; done)
                      rfl) | (obtain rfl : e = 8 := by unfold kindS at hf <;> (repeat' split at hf) <;> first | (show (_ : Nat) = _; omega) | (exfalso; omega) | (exfalso; simp_all; done)
                              rfl) | (exfalso; unfold kindS at hf <;> (repeat' split at hf) <;> first | (show (_ : Nat) = _; omega) | (exfalso; omega) | (exfalso; simp_all; done))
   intro h59
   have k8 : o.act ≠ 3 := by simpa using h59
   refine xU ?_
   iterate 4 refine xO ?_
   refine xF [0,3,65] ?_
   refine W_cond rfl ?_ ?_
   · intro h65
     have k9 : o.act = 4 := by simpa using h65
     refine xU ?_
     iterate 3 refine xO ?_
     refine xF [4] ?_
     refine W_ret (endAt_ret (by simp [Try.f42]; exact .mk) ?_ ?_)
     · first | rfl | (exfalso; unfold kindS at hf <;> (repeat' split at hf) <;> first | (show (_ : Nat) = _; omega) | (exfalso; omega) | (exfalso; simp_all; done))
     first | (obtain rfl : e = 1 := by unfold kindS at hf <;> (repeat' split at hf) <;> first | (show (_ : Nat) = _; omega) | (exfalso; omega) | (exfalso; simp_all; done)
              rfl) | (obtain rfl : e = 3 := by unfold kindS at hf <;> (repeat' split at hf) <;> first | (show (_ : Nat) = _; omega) | (exfalso; omega) | (exfalso; simp_all; done)
                      rfl) | (obtain rfl : e = 8 := by unfold kindS at hf <;> (repeat' split at hf) <;> first | (show (_ : Nat) = _; omega) | (exfalso; omega) | (exfalso; simp_all; done)
                              rfl) | (exfalso; unfold kindS at hf <;> (repeat' split at hf) <;> first | (show (_ : Nat) = _; omega) | (exfalso; omega) | (exfalso; simp_all; done))
   intro h65
   have k9 : o.act ≠ 4 := by simpa using h65
   refine xU ?_
   iterate 4 refine xO ?_
   refine xF [0,71] ?_
   refine W_cond rfl ?_ ?_
   · intro h71
     have k10 : o.act = 5 := by simpa using h71
     refine xU ?_
     iterate 3 refine xO ?_
     refine xF [4] ?_
     refine W_ret (endAt_ret (by simp [Try.f42]; exact .mk) ?_ ?_)
     · first | rfl | (exfalso; unfold kindS at hf <;> (repeat' split at hf) <;> first | (show (_ : Nat) = _; omega) | (exfalso; omega) | (exfalso; simp_all; done))
     first | (obtain rfl : e = 1 := by unfold kindS at hf <;> (repeat' split at hf) <;> first | (show (_ : Nat) = _; omega) | (exfalso; omega) | (exfalso; simp_all; done)
              rfl) | (obtain rfl : e = 3 := by unfold kindS at hf <;> (repeat' split at hf) <;> first | (show (_ : Nat) = _; omega) | (exfalso; omega) | (exfalso; simp_all; done)
                      rfl) | (obtain rfl : e = 8 := by unfold kindS at hf <;> (repeat' split at hf) <;> first | (show (_ : Nat) = _; omega) | (exfalso; omega) | (exfalso; simp_all; done)
                              rfl) | (exfalso; unfold kindS at hf <;> (repeat' split at hf) <;> first | (show (_ : Nat) = _; omega) | (exfalso; omega) | (exfalso; simp_all; done))
   intro h71
   have k10 : o.act ≠ 5 := by simpa using h71
   refine W_skip ?_
   refine xT ?_
   iterate 3 refine xO ?_
   refine xF [4] ?_
   refine W_ret (endAt_ret (by simp [Try.f42]; exact .mk) ?_ ?_)
   · first | rfl | (exfalso; unfold kindS at hf <;> (repeat' split at hf) <;> first | (show (_ : Nat) = _; omega) | (exfalso; omega) | (exfalso; simp_all; done))
   first | (obtain rfl : e = 1 := by unfold kindS at hf <;> (repeat' split at hf) <;> first | (show (_ : Nat) = _; omega) | (exfalso; omega) | (exfalso; simp_all; done)
            rfl) | (obtain rfl : e = 3 := by unfold kindS at hf <;> (repeat' split at hf) <;> first | (show (_ : Nat) = _; omega) | (exfalso; omega) | (exfalso; simp_all; done)
                    rfl) | (obtain rfl : e = 8 := by unfold kindS at hf <;> (repeat' split at hf) <;> first | (show (_ : Nat) = _; omega) | (exfalso; omega) | (exfalso; simp_all; done)
                            rfl) | (exfalso; unfold kindS at hf <;> (repeat' split at hf) <;> first | (show (_ : Nat) = _; omega) | (exfalso; omega) | (exfalso; simp_all; done))
 intro h12
 have k2 : o.act ≠ 7 := by simpa using h12
 refine W_reg rfl ?_
 iterate 4 refine xO ?_
 refine xF [0,3,5,12] ?_
 refine W_cond rfl ?_ ?_
 · intro h12'
   have k3 : o.act = 7 ∨ o.act = 8 := by simp at h12'; omega
   refine xU ?_
   iterate 3 refine xO ?_
   refine xF [4] ?_
   refine W_ret (endAt_ret (by simp [Try.f42]; exact .mk) ?_ ?_)
   · first | rfl | (exfalso; unfold kindS at hf <;> (repeat' split at hf) <;> first | (show (_ : Nat) = _; omega) | (exfalso; omega) | (exfalso; simp_all; done))
   first | (obtain rfl : e = 1 := by unfold kindS at hf <;> (repeat' split at hf) <;> first | (show (_ : Nat) = _; omega) | (exfalso; omega) | (exfalso; simp_all; done)
            rfl) | (obtain rfl : e = 3 := by unfold kindS at hf <;> (repeat' split at hf) <;> first | (show (_ : Nat) = _; omega) | (exfalso; omega) | (exfalso; simp_all; done)
                    rfl) | (obtain rfl : e = 8 := by unfold kindS at hf <;> (repeat' split at hf) <;> first | (show (_ : Nat) = _; omega) | (exfalso; omega) | (exfalso; simp_all; done)
                            rfl) | (exfalso; unfold kindS at hf <;> (repeat' split at hf) <;> first | (show (_ : Nat) = _; omega) | (exfalso; omega) | (exfalso; simp_all; done))
 intro h12'
 have k3 : ¬ (o.act = 7 ∨ o.act = 8) := by simp at h12'; omega
 refine W_seq (xU ?_)
 iterate 4 refine xO ?_
 refine xF [0,3,5,21] ?_
 refine W_cond rfl ?_ ?_
 · intro h21
   have k4 : o.act < 1 := by simpa using h21
   refine W_skip ?_
   rintro -
   refine W_cond rfl ?_ ?_
   · intro h21'
     have k4' : o.act < 1 ∨ 8 < o.act := by simp at h21'; omega
     refine xU ?_
     refine xO ?_
     refine run_inl0 rfl rfl rfl rfl (by simp; exact .mk) ⟨_, Try.func79, rfl, rfl⟩ (in79 g o0 o1 o2 o3 _ a 1) (.inr ⟨_, rfl⟩) ?_
     refine xO ?_
     refine xF [4] ?_
     refine W_ret (endAt_ret (by simp [Try.f42]; exact .mk) ?_ ?_)
     · first | rfl | (exfalso; unfold kindS at hf <;> (repeat' split at hf) <;> first | (show (_ : Nat) = _; omega) | (exfalso; omega) | (exfalso; simp_all; done))
     first | (obtain rfl : e = 1 := by unfold kindS at hf <;> (repeat' split at hf) <;> first | (show (_ : Nat) = _; omega) | (exfalso; omega) | (exfalso; simp_all; done)
              rfl) | (obtain rfl : e = 3 := by unfold kindS at hf <;> (repeat' split at hf) <;> first | (show (_ : Nat) = _; omega) | (exfalso; omega) | (exfalso; simp_all; done)
                      rfl) | (obtain rfl : e = 8 := by unfold kindS at hf <;> (repeat' split at hf) <;> first | (show (_ : Nat) = _; omega) | (exfalso; omega) | (exfalso; simp_all; done)
                              rfl) | (exfalso; unfold kindS at hf <;> (repeat' split at hf) <;> first | (show (_ : Nat) = _; omega) | (exfalso; omega) | (exfalso; simp_all; done))
   intro h21'
   have k4' : ¬ (o.act < 1 ∨ 8 < o.act) := by simp at h21'; omega
   refine xU ?_
   iterate 4 refine xO ?_
   iterate 2 (refine run_if rfl (by simp; exact .mk) rfl (by simp <;> omega) (fun hb => by simp; exact .mk) ?_)
   refine run_call rfl (by simp; exact .mk) rfl rfl (by simp) (by simp; exact .mk) (by simp [row_rows, Function.comp_def]; exact .mk) (fun hb => ct83 g _ hn) (by simp) (by simp; exact .mk) (by simp) ?_
   refine run_if rfl (by simp; exact .mk) rfl (by simp <;> omega) (fun hb => by simp; exact .mk) ?_
   refine xP ?_
   refine run_op1 rfl rfl rfl (by simp <;> omega) (by simp; exact .mk) ?_
   refine run_end [0,3,5,30] (by simp <;> omega) (by simp; exact .mk) ?_
   rintro -
   refine W_cond rfl ?_ ?_
   · intro h30
     have k5 : o.act = 6 ∧ nameS o.name = false := by simpa using h30
     refine xU ?_
     refine xO ?_
     refine run_inl0 rfl rfl rfl rfl (by simp; exact .mk) ⟨_, Try.func79, rfl, rfl⟩ (in79 g o0 o1 o2 o3 _ a 3) (.inr ⟨_, rfl⟩) ?_
     refine xO ?_
     refine xF [4] ?_
     refine W_ret (endAt_ret (by simp [Try.f42]; exact .mk) ?_ ?_)
     · first | rfl | (exfalso; unfold kindS at hf <;> (repeat' split at hf) <;> first | (show (_ : Nat) = _; omega) | (exfalso; omega) | (exfalso; simp_all; done))
     first | (obtain rfl : e = 1 := by unfold kindS at hf <;> (repeat' split at hf) <;> first | (show (_ : Nat) = _; omega) | (exfalso; omega) | (exfalso; simp_all; done)
              rfl) | (obtain rfl : e = 3 := by unfold kindS at hf <;> (repeat' split at hf) <;> first | (show (_ : Nat) = _; omega) | (exfalso; omega) | (exfalso; simp_all; done)
                      rfl) | (obtain rfl : e = 8 := by unfold kindS at hf <;> (repeat' split at hf) <;> first | (show (_ : Nat) = _; omega) | (exfalso; omega) | (exfalso; simp_all; done)
                              rfl) | (exfalso; unfold kindS at hf <;> (repeat' split at hf) <;> first | (show (_ : Nat) = _; omega) | (exfalso; omega) | (exfalso; simp_all; done))
   intro h30
   have k5 : ¬ (o.act = 6 ∧ nameS o.name = false) := by simpa using h30
   refine W_seq ?_
   refine W_regD (by kernel_rfl) [] 4 [0,1,2,3,4,5,6,7,8] (by decide +kernel) ?_
   iterate 6 refine xO ?_
   refine xC (ct84 g a _ _ hgd) ?_ (he := by simp [row_rows, Function.comp_def]; exact .mk)
   iterate 2 refine xO ?_
   refine xF [0,3,5,42] ?_
   refine W_cond rfl ?_ ?_
   · intro h42
     have k6 : goodS a o.ix o.gen = false := by simpa using h42
     refine xU ?_
     refine xO ?_
     refine run_inl0 rfl rfl rfl rfl (by simp; exact .mk) ⟨_, Try.func79, rfl, rfl⟩ (in79 g o0 o1 o2 o3 _ a 8) (.inr ⟨_, rfl⟩) ?_
     refine xO ?_
     refine xF [4] ?_
     refine W_ret (endAt_ret (by simp [Try.f42]; exact .mk) ?_ ?_)
     · first | rfl | (exfalso; unfold kindS at hf <;> (repeat' split at hf) <;> first | (show (_ : Nat) = _; omega) | (exfalso; omega) | (exfalso; simp_all; done))
     first | (obtain rfl : e = 1 := by unfold kindS at hf <;> (repeat' split at hf) <;> first | (show (_ : Nat) = _; omega) | (exfalso; omega) | (exfalso; simp_all; done)
              rfl) | (obtain rfl : e = 3 := by unfold kindS at hf <;> (repeat' split at hf) <;> first | (show (_ : Nat) = _; omega) | (exfalso; omega) | (exfalso; simp_all; done)
                      rfl) | (obtain rfl : e = 8 := by unfold kindS at hf <;> (repeat' split at hf) <;> first | (show (_ : Nat) = _; omega) | (exfalso; omega) | (exfalso; simp_all; done)
                              rfl) | (exfalso; unfold kindS at hf <;> (repeat' split at hf) <;> first | (show (_ : Nat) = _; omega) | (exfalso; omega) | (exfalso; simp_all; done))
   intro h42
   have k6 : ¬ goodS a o.ix o.gen = false := by simpa using h42
   refine xU ?_
   iterate 4 refine xO ?_
   refine xF [0,3,53] ?_
   refine W_cond rfl ?_ ?_
   · intro h53
     have k7 : o.act = 2 := by simpa using h53
     refine xU ?_
     iterate 3 refine xO ?_
     refine xF [4] ?_
     refine W_ret (endAt_ret (by simp [Try.f42]; exact .mk) ?_ ?_)
     · first | rfl | (exfalso; unfold kindS at hf <;> (repeat' split at hf) <;> first | (show (_ : Nat) = _; omega) | (exfalso; omega) | (exfalso; simp_all; done))
     first | (obtain rfl : e = 1 := by unfold kindS at hf <;> (repeat' split at hf) <;> first | (show (_ : Nat) = _; omega) | (exfalso; omega) | (exfalso; simp_all; done)
              rfl) | (obtain rfl : e = 3 := by unfold kindS at hf <;> (repeat' split at hf) <;> first | (show (_ : Nat) = _; omega) | (exfalso; omega) | (exfalso; simp_all; done)
                      rfl) | (obtain rfl : e = 8 := by unfold kindS at hf <;> (repeat' split at hf) <;> first | (show (_ : Nat) = _; omega) | (exfalso; omega) | (exfalso; simp_all; done)
                              rfl) | (exfalso; unfold kindS at hf <;> (repeat' split at hf) <;> first | (show (_ : Nat) = _; omega) | (exfalso; omega) | (exfalso; simp_all; done))
   intro h53
   have k7 : o.act ≠ 2 := by simpa using h53
   refine xU ?_
   iterate 4 refine xO ?_
   refine xF [0,3,59] ?_
   refine W_cond rfl ?_ ?_
   · intro h59
     have k8 : o.act = 3 := by simpa using h59
     refine xU ?_
     iterate 3 refine xO ?_
     refine xF [4] ?_
     refine W_ret (endAt_ret (by simp [Try.f42]; exact .mk) ?_ ?_)
     · first | rfl | (exfalso; unfold kindS at hf <;> (repeat' split at hf) <;> first | (show (_ : Nat) = _; omega) | (exfalso; omega) | (exfalso; simp_all; done))
     first | (obtain rfl : e = 1 := by unfold kindS at hf <;> (repeat' split at hf) <;> first | (show (_ : Nat) = _; omega) | (exfalso; omega) | (exfalso; simp_all; done)
              rfl) | (obtain rfl : e = 3 := by unfold kindS at hf <;> (repeat' split at hf) <;> first | (show (_ : Nat) = _; omega) | (exfalso; omega) | (exfalso; simp_all; done)
                      rfl) | (obtain rfl : e = 8 := by unfold kindS at hf <;> (repeat' split at hf) <;> first | (show (_ : Nat) = _; omega) | (exfalso; omega) | (exfalso; simp_all; done)
                              rfl) | (exfalso; unfold kindS at hf <;> (repeat' split at hf) <;> first | (show (_ : Nat) = _; omega) | (exfalso; omega) | (exfalso; simp_all; done))
   intro h59
   have k8 : o.act ≠ 3 := by simpa using h59
   refine xU ?_
   iterate 4 refine xO ?_
   refine xF [0,3,65] ?_
   refine W_cond rfl ?_ ?_
   · intro h65
     have k9 : o.act = 4 := by simpa using h65
     refine xU ?_
     iterate 3 refine xO ?_
     refine xF [4] ?_
     refine W_ret (endAt_ret (by simp [Try.f42]; exact .mk) ?_ ?_)
     · first | rfl | (exfalso; unfold kindS at hf <;> (repeat' split at hf) <;> first | (show (_ : Nat) = _; omega) | (exfalso; omega) | (exfalso; simp_all; done))
     first | (obtain rfl : e = 1 := by unfold kindS at hf <;> (repeat' split at hf) <;> first | (show (_ : Nat) = _; omega) | (exfalso; omega) | (exfalso; simp_all; done)
              rfl) | (obtain rfl : e = 3 := by unfold kindS at hf <;> (repeat' split at hf) <;> first | (show (_ : Nat) = _; omega) | (exfalso; omega) | (exfalso; simp_all; done)
                      rfl) | (obtain rfl : e = 8 := by unfold kindS at hf <;> (repeat' split at hf) <;> first | (show (_ : Nat) = _; omega) | (exfalso; omega) | (exfalso; simp_all; done)
                              rfl) | (exfalso; unfold kindS at hf <;> (repeat' split at hf) <;> first | (show (_ : Nat) = _; omega) | (exfalso; omega) | (exfalso; simp_all; done))
   intro h65
   have k9 : o.act ≠ 4 := by simpa using h65
   refine xU ?_
   iterate 4 refine xO ?_
   refine xF [0,71] ?_
   refine W_cond rfl ?_ ?_
   · intro h71
     have k10 : o.act = 5 := by simpa using h71
     refine xU ?_
     iterate 3 refine xO ?_
     refine xF [4] ?_
     refine W_ret (endAt_ret (by simp [Try.f42]; exact .mk) ?_ ?_)
     · first | rfl | (exfalso; unfold kindS at hf <;> (repeat' split at hf) <;> first | (show (_ : Nat) = _; omega) | (exfalso; omega) | (exfalso; simp_all; done))
     first | (obtain rfl : e = 1 := by unfold kindS at hf <;> (repeat' split at hf) <;> first | (show (_ : Nat) = _; omega) | (exfalso; omega) | (exfalso; simp_all; done)
              rfl) | (obtain rfl : e = 3 := by unfold kindS at hf <;> (repeat' split at hf) <;> first | (show (_ : Nat) = _; omega) | (exfalso; omega) | (exfalso; simp_all; done)
                      rfl) | (obtain rfl : e = 8 := by unfold kindS at hf <;> (repeat' split at hf) <;> first | (show (_ : Nat) = _; omega) | (exfalso; omega) | (exfalso; simp_all; done)
                              rfl) | (exfalso; unfold kindS at hf <;> (repeat' split at hf) <;> first | (show (_ : Nat) = _; omega) | (exfalso; omega) | (exfalso; simp_all; done))
   intro h71
   have k10 : o.act ≠ 5 := by simpa using h71
   refine W_skip ?_
   refine xT ?_
   iterate 3 refine xO ?_
   refine xF [4] ?_
   refine W_ret (endAt_ret (by simp [Try.f42]; exact .mk) ?_ ?_)
   · first | rfl | (exfalso; unfold kindS at hf <;> (repeat' split at hf) <;> first | (show (_ : Nat) = _; omega) | (exfalso; omega) | (exfalso; simp_all; done))
   first | (obtain rfl : e = 1 := by unfold kindS at hf <;> (repeat' split at hf) <;> first | (show (_ : Nat) = _; omega) | (exfalso; omega) | (exfalso; simp_all; done)
            rfl) | (obtain rfl : e = 3 := by unfold kindS at hf <;> (repeat' split at hf) <;> first | (show (_ : Nat) = _; omega) | (exfalso; omega) | (exfalso; simp_all; done)
                    rfl) | (obtain rfl : e = 8 := by unfold kindS at hf <;> (repeat' split at hf) <;> first | (show (_ : Nat) = _; omega) | (exfalso; omega) | (exfalso; simp_all; done)
                            rfl) | (exfalso; unfold kindS at hf <;> (repeat' split at hf) <;> first | (show (_ : Nat) = _; omega) | (exfalso; omega) | (exfalso; simp_all; done))
 intro h21
 have k4 : ¬ o.act < 1 := by simpa using h21
 refine W_reg rfl ?_
 iterate 4 refine xO ?_
 refine xF [0,3,5,21] ?_
 refine W_cond rfl ?_ ?_
 · intro h21'
   have k4' : o.act < 1 ∨ 8 < o.act := by simp at h21'; omega
   refine xU ?_
   refine xO ?_
   refine run_inl0 rfl rfl rfl rfl (by simp; exact .mk) ⟨_, Try.func79, rfl, rfl⟩ (in79 g o0 o1 o2 o3 _ a 1) (.inr ⟨_, rfl⟩) ?_
   refine xO ?_
   refine xF [4] ?_
   refine W_ret (endAt_ret (by simp [Try.f42]; exact .mk) ?_ ?_)
   · first | rfl | (exfalso; unfold kindS at hf <;> (repeat' split at hf) <;> first | (show (_ : Nat) = _; omega) | (exfalso; omega) | (exfalso; simp_all; done))
   first | (obtain rfl : e = 1 := by unfold kindS at hf <;> (repeat' split at hf) <;> first | (show (_ : Nat) = _; omega) | (exfalso; omega) | (exfalso; simp_all; done)
            rfl) | (obtain rfl : e = 3 := by unfold kindS at hf <;> (repeat' split at hf) <;> first | (show (_ : Nat) = _; omega) | (exfalso; omega) | (exfalso; simp_all; done)
                    rfl) | (obtain rfl : e = 8 := by unfold kindS at hf <;> (repeat' split at hf) <;> first | (show (_ : Nat) = _; omega) | (exfalso; omega) | (exfalso; simp_all; done)
                            rfl) | (exfalso; unfold kindS at hf <;> (repeat' split at hf) <;> first | (show (_ : Nat) = _; omega) | (exfalso; omega) | (exfalso; simp_all; done))
 intro h21'
 have k4' : ¬ (o.act < 1 ∨ 8 < o.act) := by simp at h21'; omega
 refine xU ?_
 iterate 4 refine xO ?_
 iterate 2 (refine run_if rfl (by simp; exact .mk) rfl (by simp <;> omega) (fun hb => by simp; exact .mk) ?_)
 refine run_call rfl (by simp; exact .mk) rfl rfl (by simp) (by simp; exact .mk) (by simp [row_rows, Function.comp_def]; exact .mk) (fun hb => ct83 g _ hn) (by simp) (by simp; exact .mk) (by simp) ?_
 refine run_if rfl (by simp; exact .mk) rfl (by simp <;> omega) (fun hb => by simp; exact .mk) ?_
 refine xP ?_
 refine run_op1 rfl rfl rfl (by simp <;> omega) (by simp; exact .mk) ?_
 refine run_end [0,3,5,30] (by simp <;> omega) (by simp; exact .mk) ?_
 rintro -
 refine W_cond rfl ?_ ?_
 · intro h30
   have k5 : o.act = 6 ∧ nameS o.name = false := by simpa using h30
   refine xU ?_
   refine xO ?_
   refine run_inl0 rfl rfl rfl rfl (by simp; exact .mk) ⟨_, Try.func79, rfl, rfl⟩ (in79 g o0 o1 o2 o3 _ a 3) (.inr ⟨_, rfl⟩) ?_
   refine xO ?_
   refine xF [4] ?_
   refine W_ret (endAt_ret (by simp [Try.f42]; exact .mk) ?_ ?_)
   · first | rfl | (exfalso; unfold kindS at hf <;> (repeat' split at hf) <;> first | (show (_ : Nat) = _; omega) | (exfalso; omega) | (exfalso; simp_all; done))
   first | (obtain rfl : e = 1 := by unfold kindS at hf <;> (repeat' split at hf) <;> first | (show (_ : Nat) = _; omega) | (exfalso; omega) | (exfalso; simp_all; done)
            rfl) | (obtain rfl : e = 3 := by unfold kindS at hf <;> (repeat' split at hf) <;> first | (show (_ : Nat) = _; omega) | (exfalso; omega) | (exfalso; simp_all; done)
                    rfl) | (obtain rfl : e = 8 := by unfold kindS at hf <;> (repeat' split at hf) <;> first | (show (_ : Nat) = _; omega) | (exfalso; omega) | (exfalso; simp_all; done)
                            rfl) | (exfalso; unfold kindS at hf <;> (repeat' split at hf) <;> first | (show (_ : Nat) = _; omega) | (exfalso; omega) | (exfalso; simp_all; done))
 intro h30
 have k5 : ¬ (o.act = 6 ∧ nameS o.name = false) := by simpa using h30
 refine W_seq ?_
 refine W_regD (by kernel_rfl) [] 4 [0,1,2,3,4,5,6,7,8] (by decide +kernel) ?_
 iterate 6 refine xO ?_
 refine xC (ct84 g a _ _ hgd) ?_ (he := by simp [row_rows, Function.comp_def]; exact .mk)
 iterate 2 refine xO ?_
 refine xF [0,3,5,42] ?_
 refine W_cond rfl ?_ ?_
 · intro h42
   have k6 : goodS a o.ix o.gen = false := by simpa using h42
   refine xU ?_
   refine xO ?_
   refine run_inl0 rfl rfl rfl rfl (by simp; exact .mk) ⟨_, Try.func79, rfl, rfl⟩ (in79 g o0 o1 o2 o3 _ a 8) (.inr ⟨_, rfl⟩) ?_
   refine xO ?_
   refine xF [4] ?_
   refine W_ret (endAt_ret (by simp [Try.f42]; exact .mk) ?_ ?_)
   · first | rfl | (exfalso; unfold kindS at hf <;> (repeat' split at hf) <;> first | (show (_ : Nat) = _; omega) | (exfalso; omega) | (exfalso; simp_all; done))
   first | (obtain rfl : e = 1 := by unfold kindS at hf <;> (repeat' split at hf) <;> first | (show (_ : Nat) = _; omega) | (exfalso; omega) | (exfalso; simp_all; done)
            rfl) | (obtain rfl : e = 3 := by unfold kindS at hf <;> (repeat' split at hf) <;> first | (show (_ : Nat) = _; omega) | (exfalso; omega) | (exfalso; simp_all; done)
                    rfl) | (obtain rfl : e = 8 := by unfold kindS at hf <;> (repeat' split at hf) <;> first | (show (_ : Nat) = _; omega) | (exfalso; omega) | (exfalso; simp_all; done)
                            rfl) | (exfalso; unfold kindS at hf <;> (repeat' split at hf) <;> first | (show (_ : Nat) = _; omega) | (exfalso; omega) | (exfalso; simp_all; done))
 intro h42
 have k6 : ¬ goodS a o.ix o.gen = false := by simpa using h42
 refine xU ?_
 iterate 4 refine xO ?_
 refine xF [0,3,53] ?_
 refine W_cond rfl ?_ ?_
 · intro h53
   have k7 : o.act = 2 := by simpa using h53
   refine xU ?_
   iterate 3 refine xO ?_
   refine xF [4] ?_
   refine W_ret (endAt_ret (by simp [Try.f42]; exact .mk) ?_ ?_)
   · first | rfl | (exfalso; unfold kindS at hf <;> (repeat' split at hf) <;> first | (show (_ : Nat) = _; omega) | (exfalso; omega) | (exfalso; simp_all; done))
   first | (obtain rfl : e = 1 := by unfold kindS at hf <;> (repeat' split at hf) <;> first | (show (_ : Nat) = _; omega) | (exfalso; omega) | (exfalso; simp_all; done)
            rfl) | (obtain rfl : e = 3 := by unfold kindS at hf <;> (repeat' split at hf) <;> first | (show (_ : Nat) = _; omega) | (exfalso; omega) | (exfalso; simp_all; done)
                    rfl) | (obtain rfl : e = 8 := by unfold kindS at hf <;> (repeat' split at hf) <;> first | (show (_ : Nat) = _; omega) | (exfalso; omega) | (exfalso; simp_all; done)
                            rfl) | (exfalso; unfold kindS at hf <;> (repeat' split at hf) <;> first | (show (_ : Nat) = _; omega) | (exfalso; omega) | (exfalso; simp_all; done))
 intro h53
 have k7 : o.act ≠ 2 := by simpa using h53
 refine xU ?_
 iterate 4 refine xO ?_
 refine xF [0,3,59] ?_
 refine W_cond rfl ?_ ?_
 · intro h59
   have k8 : o.act = 3 := by simpa using h59
   refine xU ?_
   iterate 3 refine xO ?_
   refine xF [4] ?_
   refine W_ret (endAt_ret (by simp [Try.f42]; exact .mk) ?_ ?_)
   · first | rfl | (exfalso; unfold kindS at hf <;> (repeat' split at hf) <;> first | (show (_ : Nat) = _; omega) | (exfalso; omega) | (exfalso; simp_all; done))
   first | (obtain rfl : e = 1 := by unfold kindS at hf <;> (repeat' split at hf) <;> first | (show (_ : Nat) = _; omega) | (exfalso; omega) | (exfalso; simp_all; done)
            rfl) | (obtain rfl : e = 3 := by unfold kindS at hf <;> (repeat' split at hf) <;> first | (show (_ : Nat) = _; omega) | (exfalso; omega) | (exfalso; simp_all; done)
                    rfl) | (obtain rfl : e = 8 := by unfold kindS at hf <;> (repeat' split at hf) <;> first | (show (_ : Nat) = _; omega) | (exfalso; omega) | (exfalso; simp_all; done)
                            rfl) | (exfalso; unfold kindS at hf <;> (repeat' split at hf) <;> first | (show (_ : Nat) = _; omega) | (exfalso; omega) | (exfalso; simp_all; done))
 intro h59
 have k8 : o.act ≠ 3 := by simpa using h59
 refine xU ?_
 iterate 4 refine xO ?_
 refine xF [0,3,65] ?_
 refine W_cond rfl ?_ ?_
 · intro h65
   have k9 : o.act = 4 := by simpa using h65
   refine xU ?_
   iterate 3 refine xO ?_
   refine xF [4] ?_
   refine W_ret (endAt_ret (by simp [Try.f42]; exact .mk) ?_ ?_)
   · first | rfl | (exfalso; unfold kindS at hf <;> (repeat' split at hf) <;> first | (show (_ : Nat) = _; omega) | (exfalso; omega) | (exfalso; simp_all; done))
   first | (obtain rfl : e = 1 := by unfold kindS at hf <;> (repeat' split at hf) <;> first | (show (_ : Nat) = _; omega) | (exfalso; omega) | (exfalso; simp_all; done)
            rfl) | (obtain rfl : e = 3 := by unfold kindS at hf <;> (repeat' split at hf) <;> first | (show (_ : Nat) = _; omega) | (exfalso; omega) | (exfalso; simp_all; done)
                    rfl) | (obtain rfl : e = 8 := by unfold kindS at hf <;> (repeat' split at hf) <;> first | (show (_ : Nat) = _; omega) | (exfalso; omega) | (exfalso; simp_all; done)
                            rfl) | (exfalso; unfold kindS at hf <;> (repeat' split at hf) <;> first | (show (_ : Nat) = _; omega) | (exfalso; omega) | (exfalso; simp_all; done))
 intro h65
 have k9 : o.act ≠ 4 := by simpa using h65
 refine xU ?_
 iterate 4 refine xO ?_
 refine xF [0,71] ?_
 refine W_cond rfl ?_ ?_
 · intro h71
   have k10 : o.act = 5 := by simpa using h71
   refine xU ?_
   iterate 3 refine xO ?_
   refine xF [4] ?_
   refine W_ret (endAt_ret (by simp [Try.f42]; exact .mk) ?_ ?_)
   · first | rfl | (exfalso; unfold kindS at hf <;> (repeat' split at hf) <;> first | (show (_ : Nat) = _; omega) | (exfalso; omega) | (exfalso; simp_all; done))
   first | (obtain rfl : e = 1 := by unfold kindS at hf <;> (repeat' split at hf) <;> first | (show (_ : Nat) = _; omega) | (exfalso; omega) | (exfalso; simp_all; done)
            rfl) | (obtain rfl : e = 3 := by unfold kindS at hf <;> (repeat' split at hf) <;> first | (show (_ : Nat) = _; omega) | (exfalso; omega) | (exfalso; simp_all; done)
                    rfl) | (obtain rfl : e = 8 := by unfold kindS at hf <;> (repeat' split at hf) <;> first | (show (_ : Nat) = _; omega) | (exfalso; omega) | (exfalso; simp_all; done)
                            rfl) | (exfalso; unfold kindS at hf <;> (repeat' split at hf) <;> first | (show (_ : Nat) = _; omega) | (exfalso; omega) | (exfalso; simp_all; done))
 intro h71
 have k10 : o.act ≠ 5 := by simpa using h71
 refine W_skip ?_
 refine xT ?_
 iterate 3 refine xO ?_
 refine xF [4] ?_
 refine W_ret (endAt_ret (by simp [Try.f42]; exact .mk) ?_ ?_)
 · first | rfl | (exfalso; unfold kindS at hf <;> (repeat' split at hf) <;> first | (show (_ : Nat) = _; omega) | (exfalso; omega) | (exfalso; simp_all; done))
 first | (obtain rfl : e = 1 := by unfold kindS at hf <;> (repeat' split at hf) <;> first | (show (_ : Nat) = _; omega) | (exfalso; omega) | (exfalso; simp_all; done)
          rfl) | (obtain rfl : e = 3 := by unfold kindS at hf <;> (repeat' split at hf) <;> first | (show (_ : Nat) = _; omega) | (exfalso; omega) | (exfalso; simp_all; done)
                  rfl) | (obtain rfl : e = 8 := by unfold kindS at hf <;> (repeat' split at hf) <;> first | (show (_ : Nat) = _; omega) | (exfalso; omega) | (exfalso; simp_all; done)
                          rfl) | (exfalso; unfold kindS at hf <;> (repeat' split at hf) <;> first | (show (_ : Nat) = _; omega) | (exfalso; omega) | (exfalso; simp_all; done))

open Go.Awp
theorem ct41 (g : Gl) (a : Abs) (ha : a.Ok) : CtAt Try.prog g 41 [eAbs a] (oAbs a) := by
 refine ctAt_of_W Try.func41 rfl rfl (Nat.le_of_ble_eq_true rfl) fun B S => ?_
 simp only [eAbs, List.map, argD_agg]
 refine xU ?_
 iterate 2 refine xO ?_
 refine xF [1,2] ?_
 refine W_seq ?_
 refine W_regD (by kernel_rfl) [] 4 [0,1,3,4,6,7,2,9,5,8,10,11,12,13,14] (by decide +kernel) ?_
 iterate 6 refine xO ?_
 refine xC (ct78 g _ ha.h1) ?_
 refine xO ?_
 refine run_inl0 rfl rfl rfl rfl (by simp; exact .mk) ⟨_, Try.func75, rfl, rfl⟩ (in75 g _ _ _ a.data ha.h2) (.inr ⟨_, rfl⟩) ?_
 refine xC (ct52 g _ ha.h3) ?_
 refine xO ?_ (h := by simp [splice]; exact .mk)
 refine xO ?_
 refine xO ?_ (h := by simp [splice]; exact .mk)
 refine xO ?_
 refine xO ?_ (h := by simp [splice]; exact .mk)
 refine xF [1,2] ?_
 refine W_seq (xU ?_)
 iterate 4 refine xO ?_
 refine xF [1,2,18,19] ?_
 refine W_block (W_rounds (fun m σ r => ∃ i : Nat, m = a.data.length - i ∧ i ≤ a.data.length ∧ σ = slots [(1, .ptr 0 0 0), (2, .ptr 1 0 0), (18, .d (vI a.data.length)), (19, .d (vI i))] ∧ r = [.var 26 [.hdr 2 0 a.gens.length, .hdr 4 0 a.data.length, .hdr 5 0 a.roots.length], .var 26 [.d (.v (.slice none 0 0)), .d (.v (.slice none 0 0)), .d (.v (.slice none 0 0))], .row 1 (a.gens.map vI), .dead, .row 1 (mixB i a.data), .row 3 (a.roots.map eRoot)]) a.data.length .refl ⟨0, by simp, by simp, rfl, by rw [mixB_zero]⟩ ?_)
 have q2 := ha.h2
 rintro m σ r ⟨i, rfl, hi, rfl, rfl⟩ _
 refine xU ?_
 refine xO ?_
 refine xF [1,2,18,19,20] ?_
 refine W_seq (W_cond rfl ?_ ?_)
 · intro h20
   have hi2 : i < a.data.length := by simpa using h20
   refine W_skip ?_
   rintro -
   refine W_seq (W_block ?_)
   refine xU ?_
   iterate 2 refine xO ?_
   refine xF [1,2,3,18,19] ?_
   refine W_regD (by kernel_rfl) [] 4 [0,1,2,3,4,5,6,7,8,9,10] (by decide +kernel) ?_
   iterate 6 refine xO ?_
   refine xO ?_ (h := by simp [hi2]; exact .mk)
   refine xO ?_ (h := by simp [-List.getElem?_map, mixB_get hi2]; exact .mk)
   refine xC (ct53 g _ (ha.h4 i hi2)) ?_
   refine xO ?_ (h := by simp [hi2]; exact .mk)
   refine xO ?_ (h := by simp [splice, -List.getElem?_map, mixB_get hi2, nrmL, nrm, putC]; exact .mk)
   refine xF [1,2,18,19] ?_
   refine W_reg rfl ?_
   iterate 2 refine xO ?_
   refine xE [1,2,18,19] ?_
   refine rounds_drop 6 [1,2,18,19] (by simp) (by simp) (by simp) ?_
   refine rounds_next (m' := a.data.length - (i+1)) (by omega) ⟨i+1, rfl, by omega, ?_, ?_⟩
   · rw [wrap64 (by omega) (by omega)]; rfl
   rw [← mixB_set hi2]; simp; rfl
 intro h20
 obtain rfl : i = a.data.length := by simp at h20; omega
 rw [mixB_all]
 refine W_exit (xT ?_)
 refine xO ?_
 refine xO ?_ (h := by simp [splice]; exact .mk)
 refine xF [2] ?_
 refine W_ret (xR (by simp [Try.f41]; exact .mk) ?_)
 simp [Try.f41, oAbs, ownR]

end Go.Proofs
