/- Contracts of the program's functions, each against a plain function over lists and numbers (it answers what that one answers, for arguments of at most 2^40 elements where a lemma says so), and plain facts about these. -/
import Derived.Test.YtokgokbgidgfeaaGreatAwpD
import Derived.Test.YtokgokbgidgfeaaGreatCA
import Derived.Test.YtokgokbgidgfeaaGreatCD
import Derived.Test.YtokgokbgidgfeaaGreatCE
set_option linter.all false
set_option maxHeartbeats 4000000
namespace Go.Proofs
open Go.Awp
theorem in224 (g : Gl) (o0 o1 o2 o3 o8 o9 : Awp.Obj) (a : Abs) (k : Nat) (gn off n : Int) (q : Bool) (ho : ∀ m, objsLt m [o0, o1, o2, o3, o8, o9] = true) (hk : k < a.data.length) (hd : (nth a.data k).length ≤ 2^40) (hq : reachS (nth a.data k).length off n = q) : ∀ B S, CallsA Tryz.prog g B S ⟨10, true⟩ 224 [.ptr 7 0 0, .agg [.d (vI k), .d (vI gn)], .d (vI off), .d (vI n)] [o0, o1, o2, o3, .row 1 (a.gens.map vI), .row 1 (a.data.map oB), .row 3 (a.roots.map eRoot), .var 151 [.hdr 4 0 a.gens.length, .hdr 5 0 a.data.length, (.hdr 6 0 a.roots.length), .d (vI 0), .d (vI 0), .d (.v (.slice none 0 0))], o8, o9]
    (fun x o => x = .tup [bif q then .d (snR 1 vB (((nth a.data k).drop off.toNat).take n.toNat)) else .d (.v (.slice none 0 0)), .d (.v (.bool q))] ∧ o = [o0, o1, o2, o3, .row 1 (a.gens.map vI), .row 1 (a.data.map oB), .row 3 (a.roots.map eRoot), .var 151 [.hdr 4 0 a.gens.length, .hdr 5 0 a.data.length, (.hdr 6 0 a.roots.length), .d (vI 0), .d (vI 0), .d (.v (.slice none 0 0))], o8, o9]) := by
 refine callsA_at Tryz.func224 rfl (Nat.le_of_ble_eq_true rfl) fun B S => ?_
 obtain ⟨z0, z1, z2, z3, z8, z9⟩ : o0.lt 10 = true ∧ o1.lt 10 = true ∧ o2.lt 10 = true ∧ o3.lt 10 = true ∧ o8.lt 10 = true ∧ o9.lt 10 = true := by simpa using ho 10
 refine xU ?_
 iterate 3 (refine xO ?_ (h := by simp [z0, z1, z2, z3, z8, z9]; exact .mk))
 refine xE [0,2,3,5] fun _ => ?_
 refine W_seq ?_
 refine W_regD (by kernel_rfl) [] 4 [0,1,2,3,4,5,6,7,8,9] (by decide +kernel) ?_
 iterate 7 (refine xO ?_ (h := by simp [z0, z1, z2, z3, z8, z9]; exact .mk))
 refine xO ?_ (h := by simp [z0, z1, z2, z3, z8, z9, hk]; exact .mk)
 refine xO ?_ (h := by simp [z0, z1, z2, z3, z8, z9, -List.getElem?_map, map_get hk]; exact .mk)
 refine xO ?_ (h := by simp [z0, z1, z2, z3, z8, z9]; exact .mk)
 refine xE [2,3,10] fun _ => ?_
 refine W_seq ?_
 refine xU ?_
 iterate 3 (refine xO ?_ (h := by simp [z0, z1, z2, z3, z8, z9]; exact .mk))
 iterate 4 (refine run_if rfl (by simp [z0, z1, z2, z3, z8, z9]; exact .mk) rfl (by simp <;> omega) (fun hb => by simp [z0, z1, z2, z3, z8, z9]; exact .mk) ?_)
 refine run_pick rfl (by simp [z0, z1, z2, z3, z8, z9]; exact .mk) rfl rfl (by simp) (by simp [z0, z1, z2, z3, z8, z9]; exact .mk) (by simp [z0, z1, z2, z3, z8, z9]; exact .mk) (by simp; exact .mk) ?_
 refine run_op1 rfl rfl rfl (by simp <;> omega) (by simp [z0, z1, z2, z3, z8, z9]; exact .mk) ?_
 iterate 2 (refine run_if rfl (by simp [z0, z1, z2, z3, z8, z9]; exact .mk) rfl (by simp <;> omega) (fun hb => by simp [z0, z1, z2, z3, z8, z9]; exact .mk) ?_)
 refine run_pick rfl (by simp [z0, z1, z2, z3, z8, z9]; exact .mk) rfl rfl (by simp) (by simp [z0, z1, z2, z3, z8, z9]; exact .mk) (by simp [z0, z1, z2, z3, z8, z9]; exact .mk) (by simp; exact .mk) ?_
 refine run_op1 rfl rfl rfl (by simp <;> omega) (by simp [z0, z1, z2, z3, z8, z9]; exact .mk) ?_
 iterate 6 (refine run_if rfl (by simp [z0, z1, z2, z3, z8, z9]; exact .mk) rfl (by simp <;> omega) (fun hb => by simp [z0, z1, z2, z3, z8, z9]; exact .mk) ?_)
 refine run_pick rfl (by simp [z0, z1, z2, z3, z8, z9]; exact .mk) rfl rfl (by simp) (by simp [z0, z1, z2, z3, z8, z9]; exact .mk) (by simp [z0, z1, z2, z3, z8, z9]; exact .mk) (by simp; exact .mk) ?_
 refine run_end [2,3,10,39] (by simp <;> omega) (by simp; exact .mk) ?_
 rintro -
 refine W_cond rfl ?_ ?_
 · intro h39
   rw [reach_eq hd, hq] at h39
   obtain rfl : q = false := by simpa using h39
   refine xU ?_
   iterate 2 (refine xO ?_ (h := by simp [z0, z1, z2, z3, z8, z9]; exact .mk))
   refine xE [8,9] fun _ => ?_
   refine W_ret ?_
   refine endAt_drop 10 (by simp [z0, z1, z2, z3, z8, z9, Tryz.f224]; exact .mk) ?_ ?_ (by simp) (by simp [z0, z1, z2, z3, z8, z9]) (by simp [z0, z1, z2, z3, z8, z9])
   · simp <;> (try rw [show (off + n).toNat - off.toNat = n.toNat from by omega])
   rfl
 intro h39
 rw [reach_eq hd, hq] at h39
 obtain rfl : q = true := by simpa using h39
 have hx : 0 ≤ off ∧ off ≤ (nth a.data k).length ∧ 0 ≤ n ∧ n ≤ (nth a.data k).length - off := by rw [reachS] at hq; simp at hq; omega
 refine W_skip ?_
 rintro -
 refine W_seq ?_
 have e1 : IntKind.i64.wrap (off + n) = off + n := wrap64 (by omega) (by omega)
 refine W_reg rfl ?_
 iterate 4 (refine xO ?_ (h := by simp [z0, z1, z2, z3, z8, z9]; exact .mk))
 refine xO ?_ (h := by simp [z0, z1, z2, z3, z8, z9, e1]; exact .mk)
 refine xO ?_ (h := by simp [z0, z1, z2, z3, z8, z9, optA, hx.1, show off ≤ off + n from by omega, show off + n ≤ ↑(nth a.data k).length from by omega]; exact .mk)
 iterate 2 (refine xO ?_ (h := by simp [z0, z1, z2, z3, z8, z9]; exact .mk))
 refine xE [8,9] fun _ => ?_
 refine W_ret ?_
 refine endAt_drop 10 (by simp [z0, z1, z2, z3, z8, z9, Tryz.f224]; exact .mk) ?_ ?_ (by simp) (by simp [z0, z1, z2, z3, z8, z9]) (by simp [z0, z1, z2, z3, z8, z9])
 · simp <;> (try rw [show (off + n).toNat - off.toNat = n.toNat from by omega])
 rfl

theorem in224h (g : Gl) (o0 o1 o2 o3 o8 o9 : Awp.Obj) (a : Abs) (k : Nat) (gn off n : Int) (q : Bool) (ho : ∀ m, objsLt m [o0, o1, o2, o3, o8, o9] = true) (hk : k < a.data.length) (hd : (nth a.data k).length ≤ 2^40) (hq : reachS (nth a.data k).length off n = q) : ∀ B S, CallsA Tryz.prog g B S ⟨11, true⟩ 224 [.ptr 7 0 0, .agg [.d (vI k), .d (vI gn)], .d (vI off), .d (vI n)] [o0, o1, o2, o3, .row 1 (a.gens.map vI), .hole k 10 (nth a.data k).length (a.data.map oB), .row 3 (a.roots.map eRoot), .var 151 [.hdr 4 0 a.gens.length, .hdr 5 0 a.data.length, (.hdr 6 0 a.roots.length), .d (vI 0), .d (vI 0), .d (.v (.slice none 0 0))], o8, o9, .row 1 ((nth a.data k).map vB)]
    (fun x o => x = .tup [bif q then .hdr 10 off.toNat n.toNat else .d (.v (.slice none 0 0)), .d (.v (.bool q))] ∧ o = [o0, o1, o2, o3, .row 1 (a.gens.map vI), .hole k 10 (nth a.data k).length (a.data.map oB), .row 3 (a.roots.map eRoot), .var 151 [.hdr 4 0 a.gens.length, .hdr 5 0 a.data.length, (.hdr 6 0 a.roots.length), .d (vI 0), .d (vI 0), .d (.v (.slice none 0 0))], o8, o9, .row 1 ((nth a.data k).map vB)]) := by
 refine callsA_at Tryz.func224 rfl (Nat.le_of_ble_eq_true rfl) fun B S => ?_
 obtain ⟨z0, z1, z2, z3, z8, z9⟩ : o0.lt 11 = true ∧ o1.lt 11 = true ∧ o2.lt 11 = true ∧ o3.lt 11 = true ∧ o8.lt 11 = true ∧ o9.lt 11 = true := by simpa using ho 11
 refine xU ?_
 iterate 3 (refine xO ?_ (h := by simp [z0, z1, z2, z3, z8, z9]; exact .mk))
 refine xE [0,2,3,5] fun _ => ?_
 refine W_seq ?_
 refine W_regD (by kernel_rfl) [] 4 [0,1,2,3,4,5,6,7,8,9] (by decide +kernel) ?_
 iterate 7 (refine xO ?_ (h := by simp [z0, z1, z2, z3, z8, z9]; exact .mk))
 refine xO ?_ (h := by simp [z0, z1, z2, z3, z8, z9, hk]; exact .mk)
 refine xO ?_ (h := by simp [z0, z1, z2, z3, z8, z9, -List.getElem?_map, map_get hk]; exact .mk)
 refine xO ?_ (h := by simp [z0, z1, z2, z3, z8, z9]; exact .mk)
 refine xE [2,3,10] fun _ => ?_
 refine W_seq ?_
 refine xU ?_
 iterate 3 (refine xO ?_ (h := by simp [z0, z1, z2, z3, z8, z9]; exact .mk))
 iterate 4 (refine run_if rfl (by simp [z0, z1, z2, z3, z8, z9]; exact .mk) rfl (by simp <;> omega) (fun hb => by simp [z0, z1, z2, z3, z8, z9]; exact .mk) ?_)
 refine run_pick rfl (by simp [z0, z1, z2, z3, z8, z9]; exact .mk) rfl rfl (by simp) (by simp [z0, z1, z2, z3, z8, z9]; exact .mk) (by simp [z0, z1, z2, z3, z8, z9]; exact .mk) (by simp; exact .mk) ?_
 refine run_op1 rfl rfl rfl (by simp <;> omega) (by simp [z0, z1, z2, z3, z8, z9]; exact .mk) ?_
 iterate 2 (refine run_if rfl (by simp [z0, z1, z2, z3, z8, z9]; exact .mk) rfl (by simp <;> omega) (fun hb => by simp [z0, z1, z2, z3, z8, z9]; exact .mk) ?_)
 refine run_pick rfl (by simp [z0, z1, z2, z3, z8, z9]; exact .mk) rfl rfl (by simp) (by simp [z0, z1, z2, z3, z8, z9]; exact .mk) (by simp [z0, z1, z2, z3, z8, z9]; exact .mk) (by simp; exact .mk) ?_
 refine run_op1 rfl rfl rfl (by simp <;> omega) (by simp [z0, z1, z2, z3, z8, z9]; exact .mk) ?_
 iterate 6 (refine run_if rfl (by simp [z0, z1, z2, z3, z8, z9]; exact .mk) rfl (by simp <;> omega) (fun hb => by simp [z0, z1, z2, z3, z8, z9]; exact .mk) ?_)
 refine run_pick rfl (by simp [z0, z1, z2, z3, z8, z9]; exact .mk) rfl rfl (by simp) (by simp [z0, z1, z2, z3, z8, z9]; exact .mk) (by simp [z0, z1, z2, z3, z8, z9]; exact .mk) (by simp; exact .mk) ?_
 refine run_end [2,3,10,39] (by simp <;> omega) (by simp; exact .mk) ?_
 rintro -
 refine W_cond rfl ?_ ?_
 · intro h39
   rw [reach_eq hd, hq] at h39
   obtain rfl : q = false := by simpa using h39
   refine xU ?_
   iterate 2 (refine xO ?_ (h := by simp [z0, z1, z2, z3, z8, z9]; exact .mk))
   refine xE [8,9] fun _ => ?_
   refine W_ret ?_
   refine endAt_drop 11 (by simp [z0, z1, z2, z3, z8, z9, Tryz.f224]; exact .mk) ?_ ?_ (by simp) (by simp [z0, z1, z2, z3, z8, z9]) (by simp [z0, z1, z2, z3, z8, z9])
   · simp <;> (try rw [show (off + n).toNat - off.toNat = n.toNat from by omega])
   rfl
 intro h39
 rw [reach_eq hd, hq] at h39
 obtain rfl : q = true := by simpa using h39
 have hx : 0 ≤ off ∧ off ≤ (nth a.data k).length ∧ 0 ≤ n ∧ n ≤ (nth a.data k).length - off := by rw [reachS] at hq; simp at hq; omega
 refine W_skip ?_
 rintro -
 refine W_seq ?_
 have e1 : IntKind.i64.wrap (off + n) = off + n := wrap64 (by omega) (by omega)
 refine W_reg rfl ?_
 iterate 4 (refine xO ?_ (h := by simp [z0, z1, z2, z3, z8, z9]; exact .mk))
 refine xO ?_ (h := by simp [z0, z1, z2, z3, z8, z9, e1]; exact .mk)
 refine xO ?_ (h := by simp [z0, z1, z2, z3, z8, z9, optA, hx.1, show off ≤ off + n from by omega, show off + n ≤ ↑(nth a.data k).length from by omega]; exact .mk)
 iterate 2 (refine xO ?_ (h := by simp [z0, z1, z2, z3, z8, z9]; exact .mk))
 refine xE [8,9] fun _ => ?_
 refine W_ret ?_
 refine endAt_drop 11 (by simp [z0, z1, z2, z3, z8, z9, Tryz.f224]; exact .mk) ?_ ?_ (by simp) (by simp [z0, z1, z2, z3, z8, z9]) (by simp [z0, z1, z2, z3, z8, z9])
 · simp <;> (try rw [show (off + n).toNat - off.toNat = n.toNat from by omega])
 rfl

open Go.Awp
theorem in192 (g : Gl) (o0 o1 o2 o3 o8 : Awp.Obj) (a : Abs) (o : Op) (ho : ∀ m, objsLt m [o0, o1, o2, o3, o8] = true) (ha : a.Ok) (k : Nat) (hix : o.ix = k) (hk : k < a.data.length) (hd : (nth a.data k).length ≤ 2^40) (hq : reachS (nth a.data k).length o.off o.n = true) : ∀ B S, CallsA Tryz.prog g B S ⟨9, true⟩ 192 [.ptr 7 0 0, .agg [.d (vI o.act), .d (vI o.ix), .d (vI o.gen), .d (vI o.n), .d (vI o.off), .d (rB o.b), .d (vS o.name)]] [o0, o1, o2, o3, .row 1 (a.gens.map vI), .row 1 (a.data.map oB), .row 3 (a.roots.map eRoot), .var 151 [.hdr 4 0 a.gens.length, .hdr 5 0 a.data.length, (.hdr 6 0 a.roots.length), .d (vI 0), .d (vI 0), .d (.v (.slice none 0 0))], o8]
    (fun x q => x = .d (vI 0) ∧ q = [o0, o1, o2, o3, .row 1 (a.gens.map vI), .row 1 (a.data.map oB), .row 3 (a.roots.map eRoot), .var 151 [.hdr 4 0 a.gens.length, .hdr 5 0 a.data.length, (.hdr 6 0 a.roots.length), .d (vI 0), .d (vI 0), .hdr 10 0 (readS a k o.off o.n).b.length], o8, .var 73 [.d (vI o.act), .d (vI k), .d (vI o.gen), .d (vI o.n), .d (vI o.off), .d (rB o.b), .d (vS o.name)], .row 1 ((readS a k o.off o.n).b.map vB)]) := by
 refine callsA_at Tryz.func192 rfl (Nat.le_of_ble_eq_true rfl) fun B S => ?_
 obtain ⟨z0, z1, z2, z3, z8⟩ : o0.lt 9 = true ∧ o1.lt 9 = true ∧ o2.lt 9 = true ∧ o3.lt 9 = true ∧ o8.lt 9 = true := by simpa using ho 9
 simp only [hix]
 refine xU ?_
 iterate 2 (refine xO ?_ (h := by simp [z0, z1, z2, z3, z8]; exact .mk))
 refine xE [0,3] fun _ => ?_
 refine W_seq ?_
 have hrr : readS a k o.off o.n = ⟨a, 0, 0, ((nth a.data k).drop o.off.toNat).take o.n.toNat, 0⟩ := by simp [readS, hq]
 refine W_reg rfl ?_
 iterate 7 (refine xO ?_ (h := by simp [z0, z1, z2, z3, z8]; exact .mk))
 refine run_inl0 rfl rfl rfl rfl (by simp [z0, z1, z2, z3, z8]; exact .mk) ⟨_, Tryz.func224, rfl, rfl⟩ (in224 g _ _ _ _ _ _ a k o.gen o.off o.n true (fun m => by have := ho m; simp at this; simp [this]) hk hd hq) (.inr ⟨[], by simp⟩) ?_
 iterate 5 (refine xO ?_ (h := by simp [z0, z1, z2, z3, z8]; exact .mk))
 refine xE [0,5,6] fun _ => ?_
 refine W_seq ?_
 refine xU ?_
 iterate 2 (refine xO ?_ (h := by simp [z0, z1, z2, z3, z8]; exact .mk))
 refine xE [0,5,19] fun _ => ?_
 refine W_cond rfl ?_ ?_
 · intro h19
   simp at h19
 intro h19
 refine W_skip ?_
 refine xT ?_
 iterate 2 (refine xO ?_ (h := by simp [z0, z1, z2, z3, z8]; exact .mk))
 refine run_call0 rfl rfl rfl rfl (by simp [z0, z1, z2, z3, z8]; exact .mk) (by simp [z0, z1, z2, z3, z8]; exact .mk) (ct79 g _ (by simp; omega)) (by simp [z0, z1, z2, z3, z8]) (by simp [z0, z1, z2, z3, z8]; exact .mk) ?_
 iterate 3 (refine xO ?_ (h := by simp [z0, z1, z2, z3, z8]; exact .mk))
 refine xO ?_ (h := by simp [z0, z1, z2, z3, z8, splice]; exact .mk)
 refine xE [] ?_
 refine xT ?_
 refine xO ?_ (h := by simp [z0, z1, z2, z3, z8]; exact .mk)
 refine xE [4] fun _ => ?_
 refine W_ret ?_
 refine endAt_ret (by simp [z0, z1, z2, z3, z8, Tryz.f192]; exact .mk) ?_ ?_
 · simp
 simp [hrr]

theorem in192f (g : Gl) (o0 o1 o2 o3 o8 : Awp.Obj) (a : Abs) (o : Op) (ho : ∀ m, objsLt m [o0, o1, o2, o3, o8] = true) (ha : a.Ok) (k : Nat) (hix : o.ix = k) (hk : k < a.data.length) (hd : (nth a.data k).length ≤ 2^40) (hq : reachS (nth a.data k).length o.off o.n = false) : ∀ B S, CallsA Tryz.prog g B S ⟨9, true⟩ 192 [.ptr 7 0 0, .agg [.d (vI o.act), .d (vI o.ix), .d (vI o.gen), .d (vI o.n), .d (vI o.off), .d (rB o.b), .d (vS o.name)]] [o0, o1, o2, o3, .row 1 (a.gens.map vI), .row 1 (a.data.map oB), .row 3 (a.roots.map eRoot), .var 151 [.hdr 4 0 a.gens.length, .hdr 5 0 a.data.length, (.hdr 6 0 a.roots.length), .d (vI 0), .d (vI 0), .d (.v (.slice none 0 0))], o8]
    (fun x q => x = .d (vI 1) ∧ q = [o0, o1, o2, o3, .row 1 (a.gens.map vI), .row 1 (a.data.map oB), .row 3 (a.roots.map eRoot), .var 151 [.hdr 4 0 a.gens.length, .hdr 5 0 a.data.length, (.hdr 6 0 a.roots.length), .d (vI 0), .d (vI 0), .d (.v (.slice none 0 0))], o8]) := by
 refine callsA_at Tryz.func192 rfl (Nat.le_of_ble_eq_true rfl) fun B S => ?_
 obtain ⟨z0, z1, z2, z3, z8⟩ : o0.lt 9 = true ∧ o1.lt 9 = true ∧ o2.lt 9 = true ∧ o3.lt 9 = true ∧ o8.lt 9 = true := by simpa using ho 9
 simp only [hix]
 refine xU ?_
 iterate 2 (refine xO ?_ (h := by simp [z0, z1, z2, z3, z8]; exact .mk))
 refine xE [0,3] ?_
 refine xT ?_
 iterate 7 (refine xO ?_ (h := by simp [z0, z1, z2, z3, z8]; exact .mk))
 refine run_inl0 rfl rfl rfl rfl (by simp [z0, z1, z2, z3, z8]; exact .mk) ⟨_, Tryz.func224, rfl, rfl⟩ (in224 g _ _ _ _ _ _ a k o.gen o.off o.n false (fun m => by have := ho m; simp at this; simp [this]) hk hd hq) (.inr ⟨[], by simp⟩) ?_
 iterate 5 (refine xO ?_ (h := by simp [z0, z1, z2, z3, z8]; exact .mk))
 refine xE [0,5,6] fun _ => ?_
 refine W_seq ?_
 refine xU ?_
 iterate 2 (refine xO ?_ (h := by simp [z0, z1, z2, z3, z8]; exact .mk))
 refine xE [0,5,19] fun _ => ?_
 refine W_cond rfl ?_ ?_
 · intro h19
   refine xU ?_
   refine xO ?_ (h := by simp [z0, z1, z2, z3, z8]; exact .mk)
   refine xE [4] fun _ => ?_
   refine W_ret ?_
   refine endAt_drop 9 (by simp [z0, z1, z2, z3, z8, Tryz.f192]; exact .mk) ?_ ?_ (by simp) (by simp [z0, z1, z2, z3, z8]) (by simp [z0, z1, z2, z3, z8])
   · simp
   simp
 intro h19
 simp at h19

theorem in193 (g : Gl) (o0 o1 o2 o3 o8 : Awp.Obj) (a : Abs) (o : Op) (ho : ∀ m, objsLt m [o0, o1, o2, o3, o8] = true) (ha : a.Ok) (k : Nat) (hix : o.ix = k) (hk : k < a.data.length) (hd : (nth a.data k).length ≤ 2^40) (fx : objsFix [o0, o1, o2, o3, o8] = true) (hob : o.b.length ≤ 2^40) (q : Bool) (hq : reachS (nth a.data k).length o.off o.b.length = q) : ∀ B S, CallsA Tryz.prog g B S ⟨9, false⟩ 193 [.ptr 7 0 0, .agg [.d (vI o.act), .d (vI o.ix), .d (vI o.gen), .d (vI o.n), .d (vI o.off), .d (rB o.b), .d (vS o.name)]] [o0, o1, o2, o3, .row 1 (a.gens.map vI), .row 1 (a.data.map oB), .row 3 (a.roots.map eRoot), .var 151 [.hdr 4 0 a.gens.length, .hdr 5 0 a.data.length, (.hdr 6 0 a.roots.length), .d (vI 0), .d (vI 0), .d (.v (.slice none 0 0))], o8]
    (fun x r => x = .d (vI (writeS a k o.off o.b).e) ∧ r = [o0, o1, o2, o3, .row 1 (a.gens.map vI), .row 1 ((writeS a k o.off o.b).a.data.map oB), .row 3 (a.roots.map eRoot), .var 151 [.hdr 4 0 a.gens.length, .hdr 5 0 a.data.length, (.hdr 6 0 a.roots.length), .d (vI 0), .d (vI 0), .d (.v (.slice none 0 0))], o8]) := by
 refine callsA_at Tryz.func193 rfl (Nat.le_of_ble_eq_true rfl) fun B S => ?_
 obtain ⟨z0, z1, z2, z3, z8⟩ : o0.lt 9 = true ∧ o1.lt 9 = true ∧ o2.lt 9 = true ∧ o3.lt 9 = true ∧ o8.lt 9 = true := by simpa using ho 9
 simp only [hix]
 simp only [objsFix, Bool.and_eq_true, and_true] at fx
 refine xU ?_
 iterate 2 (refine xO ?_ (h := by simp [z0, z1, z2, z3, z8]; exact .mk))
 refine xE [0,3] fun _ => ?_
 refine W_seq ?_
 refine W_weak (s2 := slots [(0, .ptr 7 0 0), (3, .ptr 9 0 0)]) (objs2 := [o0, o1, o2, o3, .row 1 (a.gens.map vI), .hole k 10 (nth a.data k).length (a.data.map oB), .row 3 (a.roots.map eRoot), .var 151 [.hdr 4 0 a.gens.length, .hdr 5 0 a.data.length, (.hdr 6 0 a.roots.length), .d (vI 0), .d (vI 0), .d (.v (.slice none 0 0))], o8, .var 73 [.d (vI o.act), .d (vI k), .d (vI o.gen), .d (vI o.n), .d (vI o.off), .d (rB o.b), .d (vS o.name)], .row 1 ((nth a.data k).map vB)]) (Weak.open (xs := a.data.map oB) (ys := (nth a.data k).map vB) 5 k rfl rfl (map_get (f := oB) hk) ?_ ?_ (by simp)) ?_
 · simp
 · simp [fx]
 refine W_reg rfl ?_
 iterate 8 (refine xO ?_ (h := by simp [z0, z1, z2, z3, z8]; exact .mk))
 refine run_inl0 rfl rfl rfl rfl (by simp [z0, z1, z2, z3, z8]; exact .mk) ⟨_, Tryz.func224, rfl, rfl⟩ (in224h g o0 o1 o2 o3 o8 (.var 73 [.d (vI o.act), .d (vI k), .d (vI o.gen), .d (vI o.n), .d (vI o.off), .d (rB o.b), .d (vS o.name)]) a k o.gen o.off o.b.length q (fun m => by have := ho m; simp at this; simp [this]) hk hd hq) (.inr ⟨[], by simp⟩) ?_
 iterate 5 (refine xO ?_ (h := by simp [z0, z1, z2, z3, z8]; exact .mk))
 refine xE [3,5,6] fun _ => ?_
 refine W_seq ?_
 refine xU ?_
 iterate 2 (refine xO ?_ (h := by simp [z0, z1, z2, z3, z8]; exact .mk))
 refine xE [3,5,20] fun _ => ?_
 refine W_cond rfl ?_ ?_
 · intro h20
   obtain rfl : q = false := by simpa using h20
   have hr : writeS a k o.off o.b = ⟨a, 0, 0, [], 1⟩ := by simp [writeS, hq]
   refine W_seq ?_
   refine W_weak (objs2 := [o0, o1, o2, o3, .row 1 (a.gens.map vI), .row 1 ((a.data.map oB).set k (.row .own 1 ((nth a.data k).map vB))), .row 3 (a.roots.map eRoot), .var 151 [.hdr 4 0 a.gens.length, .hdr 5 0 a.data.length, (.hdr 6 0 a.roots.length), .d (vI 0), .d (vI 0), .d (.v (.slice none 0 0))], o8, .var 73 [.d (vI o.act), .d (vI k), .d (vI o.gen), .d (vI o.n), .d (vI o.off), .d (rB o.b), .d (vS o.name)], .dead]) (Weak.close (i := k) (r' := 10) (k := 1) (xs := a.data.map oB) (ys := (nth a.data k).map vB) (len := (nth a.data k).length) 5 rfl rfl ?_) ?_
   · simp
   refine W_reg rfl ?_
   refine xO ?_ (h := by simp [z0, z1, z2, z3, z8]; exact .mk)
   refine xE [4] fun _ => ?_
   refine W_ret ?_
   refine endAt_drop 9 (by simp [z0, z1, z2, z3, z8, Tryz.f193]; exact .mk) ?_ ?_ (by simp) (by simp [z0, z1, z2, z3, z8]) (by simp [z0, z1, z2, z3, z8])
   · simp [hr]
   simp only [hr]; first | rw [set_oB_self hk]; rfl | rw [set_oB_splice]; rfl
 intro h20
 obtain rfl : q = true := by simpa using h20
 have hx : 0 ≤ o.off ∧ o.off ≤ (nth a.data k).length ∧ (o.b.length : Int) ≤ (nth a.data k).length - o.off := by rw [reachS] at hq; simp at hq; omega
 have hr : writeS a k o.off o.b = ⟨{ a with data := a.data.set k (Go.splice (nth a.data k) o.off.toNat o.b) }, 0, 0, [], 0⟩ := by simp [writeS, hq]
 refine W_skip ?_
 refine xT ?_
 iterate 3 (refine xO ?_ (h := by simp [z0, z1, z2, z3, z8]; exact .mk))
 refine xO ?_ (h := by simp [z0, z1, z2, z3, z8, copyA, show o.off.toNat + o.b.length ≤ (nth a.data k).length from by omega]; exact .mk)
 refine xE [] fun _ => ?_
 refine W_seq ?_
 refine W_weak (objs2 := [o0, o1, o2, o3, .row 1 (a.gens.map vI), .row 1 ((a.data.map oB).set k (.row .own 1 (Go.splice ((nth a.data k).map vB) o.off.toNat (o.b.map vB)))), .row 3 (a.roots.map eRoot), .var 151 [.hdr 4 0 a.gens.length, .hdr 5 0 a.data.length, (.hdr 6 0 a.roots.length), .d (vI 0), .d (vI 0), .d (.v (.slice none 0 0))], o8, .var 73 [.d (vI o.act), .d (vI k), .d (vI o.gen), .d (vI o.n), .d (vI o.off), .d (rB o.b), .d (vS o.name)], .dead]) (Weak.close (i := k) (r' := 10) (k := 1) (xs := a.data.map oB) (ys := Go.splice ((nth a.data k).map vB) o.off.toNat (o.b.map vB)) (len := (nth a.data k).length) 5 rfl rfl ?_) ?_
 · rw [splice_map, List.length_map, Go.length_splice _ _ _ (by omega)]
 refine W_reg rfl ?_
 refine xO ?_ (h := by simp [z0, z1, z2, z3, z8]; exact .mk)
 refine xE [4] fun _ => ?_
 refine W_ret ?_
 refine endAt_drop 9 (by simp [z0, z1, z2, z3, z8, Tryz.f193]; exact .mk) ?_ ?_ (by simp) (by simp [z0, z1, z2, z3, z8]) (by simp [z0, z1, z2, z3, z8])
 · simp [hr]
 simp only [hr]; first | rw [set_oB_self hk]; rfl | rw [set_oB_splice]; rfl

open Go.Awp
theorem in187s (g : Gl) (o0 o1 o2 o3 o8 : Awp.Obj) (a : Abs) (o : Op) (ho : ∀ m, objsLt m [o0, o1, o2, o3, o8] = true) (ha : a.Ok) (hact : o.act = 6) (hr : RootsOk a.roots) (hn : o.name.size ≤ 2^40) : ∀ B S, CallsA Tryz.prog g B S ⟨9, true⟩ 187 [.ptr 7 0 0, .agg [.d (vI o.act), .d (vI o.ix), .d (vI o.gen), .d (vI o.n), .d (vI o.off), .d (rB o.b), .d (vS o.name)]] [o0, o1, o2, o3, .row 1 (a.gens.map vI), .row 1 (a.data.map oB), .row 3 (a.roots.map eRoot), .var 151 [.hdr 4 0 a.gens.length, .hdr 5 0 a.data.length, (.hdr 6 0 a.roots.length), .d (vI 0), .d (vI 0), .d (.v (.slice none 0 0))], o8]
    (fun x r => x = .d (vI (setS a.roots o.name o.ix o.gen).2) ∧ r = [o0, o1, o2, o3, .row 1 (a.gens.map vI), .row 1 (a.data.map oB), .row 3 (a.roots.map eRoot), .var 151 [.hdr 4 0 a.gens.length, .hdr 5 0 a.data.length, .hdr 10 0 (setS a.roots o.name o.ix o.gen).1.length, .d (vI 0), .d (vI 0), .d (.v (.slice none 0 0))], o8, .var 73 [.d (vI o.act), .d (vI o.ix), .d (vI o.gen), .d (vI o.n), .d (vI o.off), .d (rB o.b), .d (vS o.name)], .row 3 ((setS a.roots o.name o.ix o.gen).1.map eRoot)]) := by
 refine callsA_at Tryz.func187 rfl (Nat.le_of_ble_eq_true rfl) fun B S => ?_
 obtain ⟨z0, z1, z2, z3, z8⟩ : o0.lt 9 = true ∧ o1.lt 9 = true ∧ o2.lt 9 = true ∧ o3.lt 9 = true ∧ o8.lt 9 = true := by simpa using ho 9
 refine xU ?_
 iterate 2 (refine xO ?_ (h := by simp [z0, z1, z2, z3, z8]; exact .mk))
 refine xE [0,3,4] ?_
 refine xT ?_
 iterate 6 (refine xO ?_ (h := by simp [z0, z1, z2, z3, z8]; exact .mk))
 refine xE [0,3,4,5] fun _ => ?_
 refine W_seq ?_
 refine xU ?_
 iterate 2 (refine xO ?_ (h := by simp [z0, z1, z2, z3, z8]; exact .mk))
 refine xE [0,3,4,5,12] fun _ => ?_
 refine W_block ?_
 refine xU ?_
 iterate 2 (refine xO ?_ (h := by simp [z0, z1, z2, z3, z8]; exact .mk))
 refine xE [0,3,4,5,12,13] fun _ => ?_
 refine W_cond rfl ?_ ?_
 · intro h13
   refine W_reg rfl ?_
   iterate 5 (refine xO ?_ (h := by simp [z0, z1, z2, z3, z8]; exact .mk))
   refine run_call0 rfl rfl rfl rfl (by simp [z0, z1, z2, z3, z8]; exact .mk) (by simp [z0, z1, z2, z3, z8, row_rows, Function.comp_def]; exact .mk) (ct220 g a.roots _ _ _ hr hn) (by simp [z0, z1, z2, z3, z8]) (by simp [z0, z1, z2, z3, z8]; exact .mk) ?_
   iterate 5 (refine xO ?_ (h := by simp [z0, z1, z2, z3, z8]; exact .mk))
   refine xE [0,4,5] ?_
   refine xT ?_
   iterate 5 (refine xO ?_ (h := by simp [z0, z1, z2, z3, z8]; exact .mk))
   refine xO ?_ (h := by simp [z0, z1, z2, z3, z8, splice]; exact .mk)
   refine xE [4] ?_
   refine xT ?_
   iterate 2 (refine xO ?_ (h := by simp [z0, z1, z2, z3, z8]; exact .mk))
   refine xE [4] fun _ => ?_
   refine W_ret ?_
   refine endAt_ret (by simp [z0, z1, z2, z3, z8, Tryz.f187]; exact .mk) ?_ ?_
   · simp
   simp
 intro h13
 simp [hact] at h13

theorem in187g (g : Gl) (o0 o1 o2 o3 o8 : Awp.Obj) (a : Abs) (o : Op) (ho : ∀ m, objsLt m [o0, o1, o2, o3, o8] = true) (ha : a.Ok) (hact : o.act = 7) (hr : RootsOk a.roots) (hn : o.name.size ≤ 2^40) : ∀ B S, CallsA Tryz.prog g B S ⟨9, true⟩ 187 [.ptr 7 0 0, .agg [.d (vI o.act), .d (vI o.ix), .d (vI o.gen), .d (vI o.n), .d (vI o.off), .d (rB o.b), .d (vS o.name)]] [o0, o1, o2, o3, .row 1 (a.gens.map vI), .row 1 (a.data.map oB), .row 3 (a.roots.map eRoot), .var 151 [.hdr 4 0 a.gens.length, .hdr 5 0 a.data.length, (.hdr 6 0 a.roots.length), .d (vI 0), .d (vI 0), .d (.v (.slice none 0 0))], o8]
    (fun x r => x = .d (vI (getS a.roots o.name).2.2) ∧ r = [o0, o1, o2, o3, .row 1 (a.gens.map vI), .row 1 (a.data.map oB), .row 3 (a.roots.map eRoot), .var 151 [.hdr 4 0 a.gens.length, .hdr 5 0 a.data.length, (.hdr 6 0 a.roots.length), .d (vI (getS a.roots o.name).1), .d (vI (getS a.roots o.name).2.1), .d (.v (.slice none 0 0))], o8]) := by
 refine callsA_at Tryz.func187 rfl (Nat.le_of_ble_eq_true rfl) fun B S => ?_
 obtain ⟨z0, z1, z2, z3, z8⟩ : o0.lt 9 = true ∧ o1.lt 9 = true ∧ o2.lt 9 = true ∧ o3.lt 9 = true ∧ o8.lt 9 = true := by simpa using ho 9
 refine xU ?_
 iterate 2 (refine xO ?_ (h := by simp [z0, z1, z2, z3, z8]; exact .mk))
 refine xE [0,3,4] ?_
 refine xT ?_
 iterate 6 (refine xO ?_ (h := by simp [z0, z1, z2, z3, z8]; exact .mk))
 refine xE [0,3,4,5] fun _ => ?_
 refine W_seq ?_
 refine xU ?_
 iterate 2 (refine xO ?_ (h := by simp [z0, z1, z2, z3, z8]; exact .mk))
 refine xE [0,3,4,5,12] fun _ => ?_
 refine W_block ?_
 refine xU ?_
 iterate 2 (refine xO ?_ (h := by simp [z0, z1, z2, z3, z8]; exact .mk))
 refine xE [0,3,4,5,12,13] fun _ => ?_
 refine W_cond rfl ?_ ?_
 · intro h13
   simp [hact] at h13
 intro h13
 refine xU ?_
 iterate 2 (refine xO ?_ (h := by simp [z0, z1, z2, z3, z8]; exact .mk))
 refine xE [0,3,4,5,12,24] fun _ => ?_
 refine W_cond rfl ?_ ?_
 · intro h24
   refine W_reg rfl ?_
   iterate 4 (refine xO ?_ (h := by simp [z0, z1, z2, z3, z8]; exact .mk))
   refine run_call0 rfl rfl rfl rfl (by simp [z0, z1, z2, z3, z8]; exact .mk) (by simp [z0, z1, z2, z3, z8, row_rows, Function.comp_def]; exact .mk) (ct221 g a.roots _ hr hn) (by simp [z0, z1, z2, z3, z8]) (by simp [z0, z1, z2, z3, z8]; exact .mk) ?_
   iterate 6 (refine xO ?_ (h := by simp [z0, z1, z2, z3, z8]; exact .mk))
   refine xO ?_ (h := by simp [z0, z1, z2, z3, z8, splice]; exact .mk)
   refine xO ?_ (h := by simp [z0, z1, z2, z3, z8]; exact .mk)
   refine xE [0,4,5] ?_
   refine xT ?_
   iterate 5 (refine xO ?_ (h := by simp [z0, z1, z2, z3, z8]; exact .mk))
   refine xO ?_ (h := by simp [z0, z1, z2, z3, z8, splice]; exact .mk)
   refine xE [4] ?_
   refine xT ?_
   iterate 2 (refine xO ?_ (h := by simp [z0, z1, z2, z3, z8]; exact .mk))
   refine xE [4] fun _ => ?_
   refine W_ret ?_
   refine endAt_drop 9 (by simp [z0, z1, z2, z3, z8, Tryz.f187]; exact .mk) ?_ ?_ (by simp) (by simp [z0, z1, z2, z3, z8]) (by simp [z0, z1, z2, z3, z8])
   · simp
   simp
 intro h24
 simp [hact] at h24

theorem in187d (g : Gl) (o0 o1 o2 o3 o8 : Awp.Obj) (a : Abs) (o : Op) (ho : ∀ m, objsLt m [o0, o1, o2, o3, o8] = true) (ha : a.Ok) (hact : o.act = 8) (hr : RootsOk a.roots) (hn : o.name.size ≤ 2^40) : ∀ B S, CallsA Tryz.prog g B S ⟨9, true⟩ 187 [.ptr 7 0 0, .agg [.d (vI o.act), .d (vI o.ix), .d (vI o.gen), .d (vI o.n), .d (vI o.off), .d (rB o.b), .d (vS o.name)]] [o0, o1, o2, o3, .row 1 (a.gens.map vI), .row 1 (a.data.map oB), .row 3 (a.roots.map eRoot), .var 151 [.hdr 4 0 a.gens.length, .hdr 5 0 a.data.length, (.hdr 6 0 a.roots.length), .d (vI 0), .d (vI 0), .d (.v (.slice none 0 0))], o8]
    (fun x r => x = .d (vI (dropS a.roots o.name).2) ∧ r = [o0, o1, o2, o3, .row 1 (a.gens.map vI), .row 1 (a.data.map oB), .row 3 (a.roots.map eRoot), .var 151 [.hdr 4 0 a.gens.length, .hdr 5 0 a.data.length, .hdr 10 0 (dropS a.roots o.name).1.length, .d (vI 0), .d (vI 0), .d (.v (.slice none 0 0))], o8, .var 73 [.d (vI o.act), .d (vI o.ix), .d (vI o.gen), .d (vI o.n), .d (vI o.off), .d (rB o.b), .d (vS o.name)], .row 3 ((dropS a.roots o.name).1.map eRoot)]) := by
 refine callsA_at Tryz.func187 rfl (Nat.le_of_ble_eq_true rfl) fun B S => ?_
 obtain ⟨z0, z1, z2, z3, z8⟩ : o0.lt 9 = true ∧ o1.lt 9 = true ∧ o2.lt 9 = true ∧ o3.lt 9 = true ∧ o8.lt 9 = true := by simpa using ho 9
 refine xU ?_
 iterate 2 (refine xO ?_ (h := by simp [z0, z1, z2, z3, z8]; exact .mk))
 refine xE [0,3,4] ?_
 refine xT ?_
 iterate 6 (refine xO ?_ (h := by simp [z0, z1, z2, z3, z8]; exact .mk))
 refine xE [0,3,4,5] fun _ => ?_
 refine W_seq ?_
 refine xU ?_
 iterate 2 (refine xO ?_ (h := by simp [z0, z1, z2, z3, z8]; exact .mk))
 refine xE [0,3,4,5,12] fun _ => ?_
 refine W_block ?_
 refine xU ?_
 iterate 2 (refine xO ?_ (h := by simp [z0, z1, z2, z3, z8]; exact .mk))
 refine xE [0,3,4,5,12,13] fun _ => ?_
 refine W_cond rfl ?_ ?_
 · intro h13
   simp [hact] at h13
 intro h13
 refine xU ?_
 iterate 2 (refine xO ?_ (h := by simp [z0, z1, z2, z3, z8]; exact .mk))
 refine xE [0,3,4,5,12,24] fun _ => ?_
 refine W_cond rfl ?_ ?_
 · intro h24
   simp [hact] at h24
 intro h24
 refine xU ?_
 iterate 2 (refine xO ?_ (h := by simp [z0, z1, z2, z3, z8]; exact .mk))
 refine xE [0,3,4,5,37] fun _ => ?_
 refine W_cond rfl ?_ ?_
 · intro h37
   refine W_reg rfl ?_
   iterate 3 (refine xO ?_ (h := by simp [z0, z1, z2, z3, z8]; exact .mk))
   refine run_call0 rfl rfl rfl rfl (by simp [z0, z1, z2, z3, z8]; exact .mk) (by simp [z0, z1, z2, z3, z8, row_rows, Function.comp_def]; exact .mk) (ct222 g a.roots _ hr hn) (by simp [z0, z1, z2, z3, z8]) (by simp [z0, z1, z2, z3, z8]; exact .mk) ?_
   iterate 5 (refine xO ?_ (h := by simp [z0, z1, z2, z3, z8]; exact .mk))
   refine xE [0,4,5] ?_
   refine xT ?_
   iterate 5 (refine xO ?_ (h := by simp [z0, z1, z2, z3, z8]; exact .mk))
   refine xO ?_ (h := by simp [z0, z1, z2, z3, z8, splice]; exact .mk)
   refine xE [4] ?_
   refine xT ?_
   iterate 2 (refine xO ?_ (h := by simp [z0, z1, z2, z3, z8]; exact .mk))
   refine xE [4] fun _ => ?_
   refine W_ret ?_
   refine endAt_ret (by simp [z0, z1, z2, z3, z8, Tryz.f187]; exact .mk) ?_ ?_
   · simp
   simp
 intro h37
 simp [hact] at h37

theorem in185 (g : Gl) (o0 o1 o2 o3 o8 : Awp.Obj) (a : Abs) (o : Op) (e : Nat) (ho : ∀ m, objsLt m [o0, o1, o2, o3, o8] = true) : ∀ B S, CallsA Tryz.prog g B S ⟨10, true⟩ 185 [.agg [.d (vI o.act), .d (vI o.ix), .d (vI o.gen), .d (vI o.n), .d (vI o.off), .d (rB o.b), .d (vS o.name)], .ptr 9 0 0] [o0, o1, o2, o3, .row 1 (a.gens.map vI), .row 1 (a.data.map oB), .row 3 (a.roots.map eRoot), .var 151 [.hdr 4 0 a.gens.length, .hdr 5 0 a.data.length, (.hdr 6 0 a.roots.length), .d (vI 0), .d (vI 0), .d (.v (.slice none 0 0))], o8, .var 51 [.d (vI e)]]
    (fun x r => x = .d (vI e) ∧ r = [o0, o1, o2, o3, .row 1 (a.gens.map vI), .row 1 (a.data.map oB), .row 3 (a.roots.map eRoot), .var 151 [.hdr 4 0 a.gens.length, .hdr 5 0 a.data.length, (.hdr 6 0 a.roots.length), .d (vI 0), .d (vI 0), .d (.v (.slice none 0 0))], o8, .var 51 [.d (vI e)]]) := by
 refine callsA_at Tryz.func185 rfl (Nat.le_of_ble_eq_true rfl) fun B S => ?_
 obtain ⟨z0, z1, z2, z3, z8⟩ : o0.lt 10 = true ∧ o1.lt 10 = true ∧ o2.lt 10 = true ∧ o3.lt 10 = true ∧ o8.lt 10 = true := by simpa using ho 10
 refine xU ?_
 iterate 2 (refine xO ?_ (h := by simp [z0, z1, z2, z3, z8]; exact .mk))
 refine xE [1] ?_
 refine xT ?_
 iterate 2 (refine xO ?_ (h := by simp [z0, z1, z2, z3, z8]; exact .mk))
 refine xE [3] fun _ => ?_
 refine W_ret ?_
 refine endAt_drop 10 (by simp [z0, z1, z2, z3, z8, Tryz.f185]; exact .mk) ?_ ?_ (by simp) (by simp [z0, z1, z2, z3, z8]) (by simp [z0, z1, z2, z3, z8])
 · simp
 simp

theorem in184 (g : Gl) (o0 o1 o2 o3 o8 : Awp.Obj) (a : Abs) (e : Nat) : ∀ B S, CallsA Tryz.prog g B S ⟨9, true⟩ 184 [.d (vI e)] [o0, o1, o2, o3, .row 1 (a.gens.map vI), .row 1 (a.data.map oB), .row 3 (a.roots.map eRoot), .var 151 [.hdr 4 0 a.gens.length, .hdr 5 0 a.data.length, (.hdr 6 0 a.roots.length), .d (vI 0), .d (vI 0), .d (.v (.slice none 0 0))], o8]
    (fun x r => x = .fn (.func 185) [] [.ptr 9 0 0] ∧ r = [o0, o1, o2, o3, .row 1 (a.gens.map vI), .row 1 (a.data.map oB), .row 3 (a.roots.map eRoot), .var 151 [.hdr 4 0 a.gens.length, .hdr 5 0 a.data.length, (.hdr 6 0 a.roots.length), .d (vI 0), .d (vI 0), .d (.v (.slice none 0 0))], o8, .var 51 [.d (vI e)]]) := by
 refine callsA_at Tryz.func184 rfl (Nat.le_of_ble_eq_true rfl) fun B S => ?_
 refine xU ?_
 iterate 2 refine xO ?_
 refine xE [1] ?_
 refine xT ?_
 iterate 2 refine xO ?_
 refine xE [2] fun _ => ?_
 refine W_ret ?_
 refine endAt_ret (by simp [Tryz.f184]; exact .mk) ?_ ?_
 · simp
 simp

open Go.Awp
theorem in134g (g : Gl) (o0 o1 o2 o3 : Awp.Obj) (a : Abs) (o : Op) (hgd : a.data.length = a.gens.length) (hn : o.name.size ≤ 2^40) (f : Nat) (hf : kindS a o = (f : Int)) : ∀ B S, CallsA Tryz.prog g B S ⟨8, true⟩ 134 [.ptr 7 0 0, .agg [.d (vI o.act), .d (vI o.ix), .d (vI o.gen), .d (vI o.n), .d (vI o.off), .d (rB o.b), .d (vS o.name)]] [o0, o1, o2, o3, .row 1 (a.gens.map vI), .row 1 (a.data.map oB), .row 3 (a.roots.map eRoot), .var 151 [.hdr 4 0 a.gens.length, .hdr 5 0 a.data.length, (.hdr 6 0 a.roots.length), .d (vI 0), .d (vI 0), .d (.v (.slice none 0 0))]]
    (fun x r => x = .fn (.func f) [.ptr 7 0 0] [] ∧ r = [o0, o1, o2, o3, .row 1 (a.gens.map vI), .row 1 (a.data.map oB), .row 3 (a.roots.map eRoot), .var 151 [.hdr 4 0 a.gens.length, .hdr 5 0 a.data.length, (.hdr 6 0 a.roots.length), .d (vI 0), .d (vI 0), .d (.v (.slice none 0 0))], .var 73 [.d (vI o.act), .d (vI o.ix), .d (vI o.gen), .d (vI o.n), .d (vI o.off), .d (rB o.b), .d (vS o.name)]]) := by
 refine callsA_at Tryz.func134 rfl (Nat.le_of_ble_eq_true rfl) fun B S => ?_
 unfold kindS at hf
 refine xU ?_
 iterate 2 refine xO ?_
 refine xE [0,3] ?_
 refine xT ?_
 refine xO ?_
 refine xE [0,3,5] fun _ => ?_
 refine W_seq ?_
 refine W_block ?_
 refine xU ?_
 iterate 4 refine xO ?_
 refine xE [0,3,5,6] fun _ => ?_
 refine W_cond rfl ?_ ?_
 · intro h6
   have k1 : o.act = 1 := by simpa using h6
   rw [if_pos k1] at hf
   refine xU ?_
   iterate 3 refine xO ?_
   refine xE [4] fun _ => ?_
   refine W_ret ?_
   refine endAt_ret (by simp [Tryz.f134]; exact .mk) ?_ ?_
   · simp
     first | (show (_ : Nat) = _; omega) | (exfalso; omega)
   first | rfl | omega
 intro h6
 have k1 : o.act ≠ 1 := by simpa using h6
 rw [if_neg k1] at hf
 refine W_seq ?_
 refine xU ?_
 iterate 4 refine xO ?_
 refine xE [0,3,5,12] fun _ => ?_
 refine W_cond rfl ?_ ?_
 · intro h12
   have k2 : o.act = 7 := by simpa using h12
   refine W_skip ?_
   rintro -
   refine W_cond rfl ?_ ?_
   · intro h12'
     have k3 : o.act = 7 ∨ o.act = 8 := by simp at h12'; omega
     rw [if_pos k3] at hf
     refine xU ?_
     iterate 3 refine xO ?_
     refine xE [4] fun _ => ?_
     refine W_ret ?_
     refine endAt_ret (by simp [Tryz.f134]; exact .mk) ?_ ?_
     · simp
       first | (show (_ : Nat) = _; omega) | (exfalso; omega)
     first | rfl | omega
   intro h12'
   have k3 : ¬ (o.act = 7 ∨ o.act = 8) := by simp at h12'; omega
   rw [if_neg k3] at hf
   refine W_seq ?_
   refine xU ?_
   iterate 4 refine xO ?_
   refine xE [0,3,5,21] fun _ => ?_
   refine W_cond rfl ?_ ?_
   · intro h21
     have k4 : o.act < 1 := by simpa using h21
     refine W_skip ?_
     rintro -
     refine W_cond rfl ?_ ?_
     · intro h21'
       have k4' : o.act < 1 ∨ 8 < o.act := by simp at h21'; omega
       rw [if_pos k4'] at hf
       refine xU ?_
       refine xO ?_
       refine run_inl0 rfl rfl rfl rfl (by simp; exact .mk) ⟨_, Tryz.func184, rfl, rfl⟩ (in184 g o0 o1 o2 o3 _ a 1) (.inr ⟨_, rfl⟩) ?_
       refine xO ?_
       refine xE [4] fun _ => ?_
       refine W_ret ?_
       refine endAt_ret (by simp [Tryz.f134]; exact .mk) ?_ ?_
       · simp
         first | (show (_ : Nat) = _; omega) | (exfalso; omega)
       first | rfl | omega
     intro h21'
     have k4' : ¬ (o.act < 1 ∨ 8 < o.act) := by simp at h21'; omega
     rw [if_neg k4'] at hf
     refine xU ?_
     iterate 4 refine xO ?_
     iterate 2 (refine run_if rfl (by simp; exact .mk) rfl (by simp <;> omega) (fun hb => by simp; exact .mk) ?_)
     refine run_call rfl (by simp; exact .mk) rfl rfl (by simp) (by simp; exact .mk) (by simp [row_rows, Function.comp_def]; exact .mk) (fun hb => ct188 g _ hn) (by simp) (by simp; exact .mk) (by simp) ?_
     refine run_if rfl (by simp; exact .mk) rfl (by simp <;> omega) (fun hb => by simp; exact .mk) ?_
     refine xP ?_
     refine run_op1 rfl rfl rfl (by simp <;> omega) (by simp; exact .mk) ?_
     refine run_end [0,3,5,30] (by simp <;> omega) (by simp; exact .mk) ?_
     rintro -
     refine W_cond rfl ?_ ?_
     · intro h30
       have k5 : o.act = 6 ∧ nameS o.name = false := by simpa using h30
       rw [if_pos k5] at hf
       refine xU ?_
       refine xO ?_
       refine run_inl0 rfl rfl rfl rfl (by simp; exact .mk) ⟨_, Tryz.func184, rfl, rfl⟩ (in184 g o0 o1 o2 o3 _ a 3) (.inr ⟨_, rfl⟩) ?_
       refine xO ?_
       refine xE [4] fun _ => ?_
       refine W_ret ?_
       refine endAt_ret (by simp [Tryz.f134]; exact .mk) ?_ ?_
       · simp
         first | (show (_ : Nat) = _; omega) | (exfalso; omega)
       first | rfl | omega
     intro h30
     have k5 : ¬ (o.act = 6 ∧ nameS o.name = false) := by simpa using h30
     rw [if_neg k5] at hf
     refine W_seq ?_
     refine W_regD (by kernel_rfl) [] 4 [0,1,2,3,4,5,6,7,8] (by decide +kernel) ?_
     iterate 6 refine xO ?_
     refine xC (ct189 g a _ _ hgd) ?_ (he := by simp [row_rows, Function.comp_def]; exact .mk)
     iterate 2 refine xO ?_
     refine xE [0,3,5,42] fun _ => ?_
     refine W_cond rfl ?_ ?_
     · intro h42
       have k6 : goodS a o.ix o.gen = false := by simpa using h42
       rw [if_pos k6] at hf
       refine xU ?_
       refine xO ?_
       refine run_inl0 rfl rfl rfl rfl (by simp; exact .mk) ⟨_, Tryz.func184, rfl, rfl⟩ (in184 g o0 o1 o2 o3 _ a 8) (.inr ⟨_, rfl⟩) ?_
       refine xO ?_
       refine xE [4] fun _ => ?_
       refine W_ret ?_
       refine endAt_ret (by simp [Tryz.f134]; exact .mk) ?_ ?_
       · simp
         first | (show (_ : Nat) = _; omega) | (exfalso; omega)
       first | rfl | omega
     intro h42
     have k6 : ¬ goodS a o.ix o.gen = false := by simpa using h42
     rw [if_neg k6] at hf
     refine xU ?_
     iterate 4 refine xO ?_
     refine xE [0,3,53] fun _ => ?_
     refine W_cond rfl ?_ ?_
     · intro h53
       have k7 : o.act = 2 := by simpa using h53
       rw [if_pos k7] at hf
       refine xU ?_
       iterate 3 refine xO ?_
       refine xE [4] fun _ => ?_
       refine W_ret ?_
       refine endAt_ret (by simp [Tryz.f134]; exact .mk) ?_ ?_
       · simp
         first | (show (_ : Nat) = _; omega) | (exfalso; omega)
       first | rfl | omega
     intro h53
     have k7 : o.act ≠ 2 := by simpa using h53
     rw [if_neg k7] at hf
     refine xU ?_
     iterate 4 refine xO ?_
     refine xE [0,3,59] fun _ => ?_
     refine W_cond rfl ?_ ?_
     · intro h59
       have k8 : o.act = 3 := by simpa using h59
       rw [if_pos k8] at hf
       refine xU ?_
       iterate 3 refine xO ?_
       refine xE [4] fun _ => ?_
       refine W_ret ?_
       refine endAt_ret (by simp [Tryz.f134]; exact .mk) ?_ ?_
       · simp
         first | (show (_ : Nat) = _; omega) | (exfalso; omega)
       first | rfl | omega
     intro h59
     have k8 : o.act ≠ 3 := by simpa using h59
     rw [if_neg k8] at hf
     refine xU ?_
     iterate 4 refine xO ?_
     refine xE [0,3,65] fun _ => ?_
     refine W_cond rfl ?_ ?_
     · intro h65
       have k9 : o.act = 4 := by simpa using h65
       rw [if_pos k9] at hf
       refine xU ?_
       iterate 3 refine xO ?_
       refine xE [4] fun _ => ?_
       refine W_ret ?_
       refine endAt_ret (by simp [Tryz.f134]; exact .mk) ?_ ?_
       · simp
         first | (show (_ : Nat) = _; omega) | (exfalso; omega)
       first | rfl | omega
     intro h65
     have k9 : o.act ≠ 4 := by simpa using h65
     rw [if_neg k9] at hf
     refine xU ?_
     iterate 4 refine xO ?_
     refine xE [0,71] fun _ => ?_
     refine W_cond rfl ?_ ?_
     · intro h71
       have k10 : o.act = 5 := by simpa using h71
       rw [if_pos k10] at hf
       refine xU ?_
       iterate 3 refine xO ?_
       refine xE [4] fun _ => ?_
       refine W_ret ?_
       refine endAt_ret (by simp [Tryz.f134]; exact .mk) ?_ ?_
       · simp
         first | (show (_ : Nat) = _; omega) | (exfalso; omega)
       first | rfl | omega
     intro h71
     have k10 : o.act ≠ 5 := by simpa using h71
     rw [if_neg k10] at hf
     refine W_skip ?_
     refine xT ?_
     iterate 3 refine xO ?_
     refine xE [4] fun _ => ?_
     refine W_ret ?_
     refine endAt_ret (by simp [Tryz.f134]; exact .mk) ?_ ?_
     · simp
       first | (show (_ : Nat) = _; omega) | (exfalso; omega)
     first | rfl | omega
   intro h21
   have k4 : ¬ o.act < 1 := by simpa using h21
   refine W_reg rfl ?_
   iterate 4 refine xO ?_
   refine xE [0,3,5,21] fun _ => ?_
   refine W_cond rfl ?_ ?_
   · intro h21'
     have k4' : o.act < 1 ∨ 8 < o.act := by simp at h21'; omega
     rw [if_pos k4'] at hf
     refine xU ?_
     refine xO ?_
     refine run_inl0 rfl rfl rfl rfl (by simp; exact .mk) ⟨_, Tryz.func184, rfl, rfl⟩ (in184 g o0 o1 o2 o3 _ a 1) (.inr ⟨_, rfl⟩) ?_
     refine xO ?_
     refine xE [4] fun _ => ?_
     refine W_ret ?_
     refine endAt_ret (by simp [Tryz.f134]; exact .mk) ?_ ?_
     · simp
       first | (show (_ : Nat) = _; omega) | (exfalso; omega)
     first | rfl | omega
   intro h21'
   have k4' : ¬ (o.act < 1 ∨ 8 < o.act) := by simp at h21'; omega
   rw [if_neg k4'] at hf
   refine xU ?_
   iterate 4 refine xO ?_
   iterate 2 (refine run_if rfl (by simp; exact .mk) rfl (by simp <;> omega) (fun hb => by simp; exact .mk) ?_)
   refine run_call rfl (by simp; exact .mk) rfl rfl (by simp) (by simp; exact .mk) (by simp [row_rows, Function.comp_def]; exact .mk) (fun hb => ct188 g _ hn) (by simp) (by simp; exact .mk) (by simp) ?_
   refine run_if rfl (by simp; exact .mk) rfl (by simp <;> omega) (fun hb => by simp; exact .mk) ?_
   refine xP ?_
   refine run_op1 rfl rfl rfl (by simp <;> omega) (by simp; exact .mk) ?_
   refine run_end [0,3,5,30] (by simp <;> omega) (by simp; exact .mk) ?_
   rintro -
   refine W_cond rfl ?_ ?_
   · intro h30
     have k5 : o.act = 6 ∧ nameS o.name = false := by simpa using h30
     rw [if_pos k5] at hf
     refine xU ?_
     refine xO ?_
     refine run_inl0 rfl rfl rfl rfl (by simp; exact .mk) ⟨_, Tryz.func184, rfl, rfl⟩ (in184 g o0 o1 o2 o3 _ a 3) (.inr ⟨_, rfl⟩) ?_
     refine xO ?_
     refine xE [4] fun _ => ?_
     refine W_ret ?_
     refine endAt_ret (by simp [Tryz.f134]; exact .mk) ?_ ?_
     · simp
       first | (show (_ : Nat) = _; omega) | (exfalso; omega)
     first | rfl | omega
   intro h30
   have k5 : ¬ (o.act = 6 ∧ nameS o.name = false) := by simpa using h30
   rw [if_neg k5] at hf
   refine W_seq ?_
   refine W_regD (by kernel_rfl) [] 4 [0,1,2,3,4,5,6,7,8] (by decide +kernel) ?_
   iterate 6 refine xO ?_
   refine xC (ct189 g a _ _ hgd) ?_ (he := by simp [row_rows, Function.comp_def]; exact .mk)
   iterate 2 refine xO ?_
   refine xE [0,3,5,42] fun _ => ?_
   refine W_cond rfl ?_ ?_
   · intro h42
     have k6 : goodS a o.ix o.gen = false := by simpa using h42
     rw [if_pos k6] at hf
     refine xU ?_
     refine xO ?_
     refine run_inl0 rfl rfl rfl rfl (by simp; exact .mk) ⟨_, Tryz.func184, rfl, rfl⟩ (in184 g o0 o1 o2 o3 _ a 8) (.inr ⟨_, rfl⟩) ?_
     refine xO ?_
     refine xE [4] fun _ => ?_
     refine W_ret ?_
     refine endAt_ret (by simp [Tryz.f134]; exact .mk) ?_ ?_
     · simp
       first | (show (_ : Nat) = _; omega) | (exfalso; omega)
     first | rfl | omega
   intro h42
   have k6 : ¬ goodS a o.ix o.gen = false := by simpa using h42
   rw [if_neg k6] at hf
   refine xU ?_
   iterate 4 refine xO ?_
   refine xE [0,3,53] fun _ => ?_
   refine W_cond rfl ?_ ?_
   · intro h53
     have k7 : o.act = 2 := by simpa using h53
     rw [if_pos k7] at hf
     refine xU ?_
     iterate 3 refine xO ?_
     refine xE [4] fun _ => ?_
     refine W_ret ?_
     refine endAt_ret (by simp [Tryz.f134]; exact .mk) ?_ ?_
     · simp
       first | (show (_ : Nat) = _; omega) | (exfalso; omega)
     first | rfl | omega
   intro h53
   have k7 : o.act ≠ 2 := by simpa using h53
   rw [if_neg k7] at hf
   refine xU ?_
   iterate 4 refine xO ?_
   refine xE [0,3,59] fun _ => ?_
   refine W_cond rfl ?_ ?_
   · intro h59
     have k8 : o.act = 3 := by simpa using h59
     rw [if_pos k8] at hf
     refine xU ?_
     iterate 3 refine xO ?_
     refine xE [4] fun _ => ?_
     refine W_ret ?_
     refine endAt_ret (by simp [Tryz.f134]; exact .mk) ?_ ?_
     · simp
       first | (show (_ : Nat) = _; omega) | (exfalso; omega)
     first | rfl | omega
   intro h59
   have k8 : o.act ≠ 3 := by simpa using h59
   rw [if_neg k8] at hf
   refine xU ?_
   iterate 4 refine xO ?_
   refine xE [0,3,65] fun _ => ?_
   refine W_cond rfl ?_ ?_
   · intro h65
     have k9 : o.act = 4 := by simpa using h65
     rw [if_pos k9] at hf
     refine xU ?_
     iterate 3 refine xO ?_
     refine xE [4] fun _ => ?_
     refine W_ret ?_
     refine endAt_ret (by simp [Tryz.f134]; exact .mk) ?_ ?_
     · simp
       first | (show (_ : Nat) = _; omega) | (exfalso; omega)
     first | rfl | omega
   intro h65
   have k9 : o.act ≠ 4 := by simpa using h65
   rw [if_neg k9] at hf
   refine xU ?_
   iterate 4 refine xO ?_
   refine xE [0,71] fun _ => ?_
   refine W_cond rfl ?_ ?_
   · intro h71
     have k10 : o.act = 5 := by simpa using h71
     rw [if_pos k10] at hf
     refine xU ?_
     iterate 3 refine xO ?_
     refine xE [4] fun _ => ?_
     refine W_ret ?_
     refine endAt_ret (by simp [Tryz.f134]; exact .mk) ?_ ?_
     · simp
       first | (show (_ : Nat) = _; omega) | (exfalso; omega)
     first | rfl | omega
   intro h71
   have k10 : o.act ≠ 5 := by simpa using h71
   rw [if_neg k10] at hf
   refine W_skip ?_
   refine xT ?_
   iterate 3 refine xO ?_
   refine xE [4] fun _ => ?_
   refine W_ret ?_
   refine endAt_ret (by simp [Tryz.f134]; exact .mk) ?_ ?_
   · simp
     first | (show (_ : Nat) = _; omega) | (exfalso; omega)
   first | rfl | omega
 intro h12
 have k2 : o.act ≠ 7 := by simpa using h12
 refine W_reg rfl ?_
 iterate 4 refine xO ?_
 refine xE [0,3,5,12] fun _ => ?_
 refine W_cond rfl ?_ ?_
 · intro h12'
   have k3 : o.act = 7 ∨ o.act = 8 := by simp at h12'; omega
   rw [if_pos k3] at hf
   refine xU ?_
   iterate 3 refine xO ?_
   refine xE [4] fun _ => ?_
   refine W_ret ?_
   refine endAt_ret (by simp [Tryz.f134]; exact .mk) ?_ ?_
   · simp
     first | (show (_ : Nat) = _; omega) | (exfalso; omega)
   first | rfl | omega
 intro h12'
 have k3 : ¬ (o.act = 7 ∨ o.act = 8) := by simp at h12'; omega
 rw [if_neg k3] at hf
 refine W_seq ?_
 refine xU ?_
 iterate 4 refine xO ?_
 refine xE [0,3,5,21] fun _ => ?_
 refine W_cond rfl ?_ ?_
 · intro h21
   have k4 : o.act < 1 := by simpa using h21
   refine W_skip ?_
   rintro -
   refine W_cond rfl ?_ ?_
   · intro h21'
     have k4' : o.act < 1 ∨ 8 < o.act := by simp at h21'; omega
     rw [if_pos k4'] at hf
     refine xU ?_
     refine xO ?_
     refine run_inl0 rfl rfl rfl rfl (by simp; exact .mk) ⟨_, Tryz.func184, rfl, rfl⟩ (in184 g o0 o1 o2 o3 _ a 1) (.inr ⟨_, rfl⟩) ?_
     refine xO ?_
     refine xE [4] fun _ => ?_
     refine W_ret ?_
     refine endAt_ret (by simp [Tryz.f134]; exact .mk) ?_ ?_
     · simp
       first | (show (_ : Nat) = _; omega) | (exfalso; omega)
     first | rfl | omega
   intro h21'
   have k4' : ¬ (o.act < 1 ∨ 8 < o.act) := by simp at h21'; omega
   rw [if_neg k4'] at hf
   refine xU ?_
   iterate 4 refine xO ?_
   iterate 2 (refine run_if rfl (by simp; exact .mk) rfl (by simp <;> omega) (fun hb => by simp; exact .mk) ?_)
   refine run_call rfl (by simp; exact .mk) rfl rfl (by simp) (by simp; exact .mk) (by simp [row_rows, Function.comp_def]; exact .mk) (fun hb => ct188 g _ hn) (by simp) (by simp; exact .mk) (by simp) ?_
   refine run_if rfl (by simp; exact .mk) rfl (by simp <;> omega) (fun hb => by simp; exact .mk) ?_
   refine xP ?_
   refine run_op1 rfl rfl rfl (by simp <;> omega) (by simp; exact .mk) ?_
   refine run_end [0,3,5,30] (by simp <;> omega) (by simp; exact .mk) ?_
   rintro -
   refine W_cond rfl ?_ ?_
   · intro h30
     have k5 : o.act = 6 ∧ nameS o.name = false := by simpa using h30
     rw [if_pos k5] at hf
     refine xU ?_
     refine xO ?_
     refine run_inl0 rfl rfl rfl rfl (by simp; exact .mk) ⟨_, Tryz.func184, rfl, rfl⟩ (in184 g o0 o1 o2 o3 _ a 3) (.inr ⟨_, rfl⟩) ?_
     refine xO ?_
     refine xE [4] fun _ => ?_
     refine W_ret ?_
     refine endAt_ret (by simp [Tryz.f134]; exact .mk) ?_ ?_
     · simp
       first | (show (_ : Nat) = _; omega) | (exfalso; omega)
     first | rfl | omega
   intro h30
   have k5 : ¬ (o.act = 6 ∧ nameS o.name = false) := by simpa using h30
   rw [if_neg k5] at hf
   refine W_seq ?_
   refine W_regD (by kernel_rfl) [] 4 [0,1,2,3,4,5,6,7,8] (by decide +kernel) ?_
   iterate 6 refine xO ?_
   refine xC (ct189 g a _ _ hgd) ?_ (he := by simp [row_rows, Function.comp_def]; exact .mk)
   iterate 2 refine xO ?_
   refine xE [0,3,5,42] fun _ => ?_
   refine W_cond rfl ?_ ?_
   · intro h42
     have k6 : goodS a o.ix o.gen = false := by simpa using h42
     rw [if_pos k6] at hf
     refine xU ?_
     refine xO ?_
     refine run_inl0 rfl rfl rfl rfl (by simp; exact .mk) ⟨_, Tryz.func184, rfl, rfl⟩ (in184 g o0 o1 o2 o3 _ a 8) (.inr ⟨_, rfl⟩) ?_
     refine xO ?_
     refine xE [4] fun _ => ?_
     refine W_ret ?_
     refine endAt_ret (by simp [Tryz.f134]; exact .mk) ?_ ?_
     · simp
       first | (show (_ : Nat) = _; omega) | (exfalso; omega)
     first | rfl | omega
   intro h42
   have k6 : ¬ goodS a o.ix o.gen = false := by simpa using h42
   rw [if_neg k6] at hf
   refine xU ?_
   iterate 4 refine xO ?_
   refine xE [0,3,53] fun _ => ?_
   refine W_cond rfl ?_ ?_
   · intro h53
     have k7 : o.act = 2 := by simpa using h53
     rw [if_pos k7] at hf
     refine xU ?_
     iterate 3 refine xO ?_
     refine xE [4] fun _ => ?_
     refine W_ret ?_
     refine endAt_ret (by simp [Tryz.f134]; exact .mk) ?_ ?_
     · simp
       first | (show (_ : Nat) = _; omega) | (exfalso; omega)
     first | rfl | omega
   intro h53
   have k7 : o.act ≠ 2 := by simpa using h53
   rw [if_neg k7] at hf
   refine xU ?_
   iterate 4 refine xO ?_
   refine xE [0,3,59] fun _ => ?_
   refine W_cond rfl ?_ ?_
   · intro h59
     have k8 : o.act = 3 := by simpa using h59
     rw [if_pos k8] at hf
     refine xU ?_
     iterate 3 refine xO ?_
     refine xE [4] fun _ => ?_
     refine W_ret ?_
     refine endAt_ret (by simp [Tryz.f134]; exact .mk) ?_ ?_
     · simp
       first | (show (_ : Nat) = _; omega) | (exfalso; omega)
     first | rfl | omega
   intro h59
   have k8 : o.act ≠ 3 := by simpa using h59
   rw [if_neg k8] at hf
   refine xU ?_
   iterate 4 refine xO ?_
   refine xE [0,3,65] fun _ => ?_
   refine W_cond rfl ?_ ?_
   · intro h65
     have k9 : o.act = 4 := by simpa using h65
     rw [if_pos k9] at hf
     refine xU ?_
     iterate 3 refine xO ?_
     refine xE [4] fun _ => ?_
     refine W_ret ?_
     refine endAt_ret (by simp [Tryz.f134]; exact .mk) ?_ ?_
     · simp
       first | (show (_ : Nat) = _; omega) | (exfalso; omega)
     first | rfl | omega
   intro h65
   have k9 : o.act ≠ 4 := by simpa using h65
   rw [if_neg k9] at hf
   refine xU ?_
   iterate 4 refine xO ?_
   refine xE [0,71] fun _ => ?_
   refine W_cond rfl ?_ ?_
   · intro h71
     have k10 : o.act = 5 := by simpa using h71
     rw [if_pos k10] at hf
     refine xU ?_
     iterate 3 refine xO ?_
     refine xE [4] fun _ => ?_
     refine W_ret ?_
     refine endAt_ret (by simp [Tryz.f134]; exact .mk) ?_ ?_
     · simp
       first | (show (_ : Nat) = _; omega) | (exfalso; omega)
     first | rfl | omega
   intro h71
   have k10 : o.act ≠ 5 := by simpa using h71
   rw [if_neg k10] at hf
   refine W_skip ?_
   refine xT ?_
   iterate 3 refine xO ?_
   refine xE [4] fun _ => ?_
   refine W_ret ?_
   refine endAt_ret (by simp [Tryz.f134]; exact .mk) ?_ ?_
   · simp
     first | (show (_ : Nat) = _; omega) | (exfalso; omega)
   first | rfl | omega
 intro h21
 have k4 : ¬ o.act < 1 := by simpa using h21
 refine W_reg rfl ?_
 iterate 4 refine xO ?_
 refine xE [0,3,5,21] fun _ => ?_
 refine W_cond rfl ?_ ?_
 · intro h21'
   have k4' : o.act < 1 ∨ 8 < o.act := by simp at h21'; omega
   rw [if_pos k4'] at hf
   refine xU ?_
   refine xO ?_
   refine run_inl0 rfl rfl rfl rfl (by simp; exact .mk) ⟨_, Tryz.func184, rfl, rfl⟩ (in184 g o0 o1 o2 o3 _ a 1) (.inr ⟨_, rfl⟩) ?_
   refine xO ?_
   refine xE [4] fun _ => ?_
   refine W_ret ?_
   refine endAt_ret (by simp [Tryz.f134]; exact .mk) ?_ ?_
   · simp
     first | (show (_ : Nat) = _; omega) | (exfalso; omega)
   first | rfl | omega
 intro h21'
 have k4' : ¬ (o.act < 1 ∨ 8 < o.act) := by simp at h21'; omega
 rw [if_neg k4'] at hf
 refine xU ?_
 iterate 4 refine xO ?_
 iterate 2 (refine run_if rfl (by simp; exact .mk) rfl (by simp <;> omega) (fun hb => by simp; exact .mk) ?_)
 refine run_call rfl (by simp; exact .mk) rfl rfl (by simp) (by simp; exact .mk) (by simp [row_rows, Function.comp_def]; exact .mk) (fun hb => ct188 g _ hn) (by simp) (by simp; exact .mk) (by simp) ?_
 refine run_if rfl (by simp; exact .mk) rfl (by simp <;> omega) (fun hb => by simp; exact .mk) ?_
 refine xP ?_
 refine run_op1 rfl rfl rfl (by simp <;> omega) (by simp; exact .mk) ?_
 refine run_end [0,3,5,30] (by simp <;> omega) (by simp; exact .mk) ?_
 rintro -
 refine W_cond rfl ?_ ?_
 · intro h30
   have k5 : o.act = 6 ∧ nameS o.name = false := by simpa using h30
   rw [if_pos k5] at hf
   refine xU ?_
   refine xO ?_
   refine run_inl0 rfl rfl rfl rfl (by simp; exact .mk) ⟨_, Tryz.func184, rfl, rfl⟩ (in184 g o0 o1 o2 o3 _ a 3) (.inr ⟨_, rfl⟩) ?_
   refine xO ?_
   refine xE [4] fun _ => ?_
   refine W_ret ?_
   refine endAt_ret (by simp [Tryz.f134]; exact .mk) ?_ ?_
   · simp
     first | (show (_ : Nat) = _; omega) | (exfalso; omega)
   first | rfl | omega
 intro h30
 have k5 : ¬ (o.act = 6 ∧ nameS o.name = false) := by simpa using h30
 rw [if_neg k5] at hf
 refine W_seq ?_
 refine W_regD (by kernel_rfl) [] 4 [0,1,2,3,4,5,6,7,8] (by decide +kernel) ?_
 iterate 6 refine xO ?_
 refine xC (ct189 g a _ _ hgd) ?_ (he := by simp [row_rows, Function.comp_def]; exact .mk)
 iterate 2 refine xO ?_
 refine xE [0,3,5,42] fun _ => ?_
 refine W_cond rfl ?_ ?_
 · intro h42
   have k6 : goodS a o.ix o.gen = false := by simpa using h42
   rw [if_pos k6] at hf
   refine xU ?_
   refine xO ?_
   refine run_inl0 rfl rfl rfl rfl (by simp; exact .mk) ⟨_, Tryz.func184, rfl, rfl⟩ (in184 g o0 o1 o2 o3 _ a 8) (.inr ⟨_, rfl⟩) ?_
   refine xO ?_
   refine xE [4] fun _ => ?_
   refine W_ret ?_
   refine endAt_ret (by simp [Tryz.f134]; exact .mk) ?_ ?_
   · simp
     first | (show (_ : Nat) = _; omega) | (exfalso; omega)
   first | rfl | omega
 intro h42
 have k6 : ¬ goodS a o.ix o.gen = false := by simpa using h42
 rw [if_neg k6] at hf
 refine xU ?_
 iterate 4 refine xO ?_
 refine xE [0,3,53] fun _ => ?_
 refine W_cond rfl ?_ ?_
 · intro h53
   have k7 : o.act = 2 := by simpa using h53
   rw [if_pos k7] at hf
   refine xU ?_
   iterate 3 refine xO ?_
   refine xE [4] fun _ => ?_
   refine W_ret ?_
   refine endAt_ret (by simp [Tryz.f134]; exact .mk) ?_ ?_
   · simp
     first | (show (_ : Nat) = _; omega) | (exfalso; omega)
   first | rfl | omega
 intro h53
 have k7 : o.act ≠ 2 := by simpa using h53
 rw [if_neg k7] at hf
 refine xU ?_
 iterate 4 refine xO ?_
 refine xE [0,3,59] fun _ => ?_
 refine W_cond rfl ?_ ?_
 · intro h59
   have k8 : o.act = 3 := by simpa using h59
   rw [if_pos k8] at hf
   refine xU ?_
   iterate 3 refine xO ?_
   refine xE [4] fun _ => ?_
   refine W_ret ?_
   refine endAt_ret (by simp [Tryz.f134]; exact .mk) ?_ ?_
   · simp
     first | (show (_ : Nat) = _; omega) | (exfalso; omega)
   first | rfl | omega
 intro h59
 have k8 : o.act ≠ 3 := by simpa using h59
 rw [if_neg k8] at hf
 refine xU ?_
 iterate 4 refine xO ?_
 refine xE [0,3,65] fun _ => ?_
 refine W_cond rfl ?_ ?_
 · intro h65
   have k9 : o.act = 4 := by simpa using h65
   rw [if_pos k9] at hf
   refine xU ?_
   iterate 3 refine xO ?_
   refine xE [4] fun _ => ?_
   refine W_ret ?_
   refine endAt_ret (by simp [Tryz.f134]; exact .mk) ?_ ?_
   · simp
     first | (show (_ : Nat) = _; omega) | (exfalso; omega)
   first | rfl | omega
 intro h65
 have k9 : o.act ≠ 4 := by simpa using h65
 rw [if_neg k9] at hf
 refine xU ?_
 iterate 4 refine xO ?_
 refine xE [0,71] fun _ => ?_
 refine W_cond rfl ?_ ?_
 · intro h71
   have k10 : o.act = 5 := by simpa using h71
   rw [if_pos k10] at hf
   refine xU ?_
   iterate 3 refine xO ?_
   refine xE [4] fun _ => ?_
   refine W_ret ?_
   refine endAt_ret (by simp [Tryz.f134]; exact .mk) ?_ ?_
   · simp
     first | (show (_ : Nat) = _; omega) | (exfalso; omega)
   first | rfl | omega
 intro h71
 have k10 : o.act ≠ 5 := by simpa using h71
 rw [if_neg k10] at hf
 refine W_skip ?_
 refine xT ?_
 iterate 3 refine xO ?_
 refine xE [4] fun _ => ?_
 refine W_ret ?_
 refine endAt_ret (by simp [Tryz.f134]; exact .mk) ?_ ?_
 · simp
   first | (show (_ : Nat) = _; omega) | (exfalso; omega)
 first | rfl | omega

open Go.Awp
theorem in134b (g : Gl) (o0 o1 o2 o3 : Awp.Obj) (a : Abs) (o : Op) (hgd : a.data.length = a.gens.length) (hn : o.name.size ≤ 2^40) (e : Nat) (he : 0 < e) (hf : kindS a o = -(e : Int)) : ∀ B S, CallsA Tryz.prog g B S ⟨8, true⟩ 134 [.ptr 7 0 0, .agg [.d (vI o.act), .d (vI o.ix), .d (vI o.gen), .d (vI o.n), .d (vI o.off), .d (rB o.b), .d (vS o.name)]] [o0, o1, o2, o3, .row 1 (a.gens.map vI), .row 1 (a.data.map oB), .row 3 (a.roots.map eRoot), .var 151 [.hdr 4 0 a.gens.length, .hdr 5 0 a.data.length, (.hdr 6 0 a.roots.length), .d (vI 0), .d (vI 0), .d (.v (.slice none 0 0))]]
    (fun x r => x = .fn (.func 185) [] [.ptr 9 0 0] ∧ r = [o0, o1, o2, o3, .row 1 (a.gens.map vI), .row 1 (a.data.map oB), .row 3 (a.roots.map eRoot), .var 151 [.hdr 4 0 a.gens.length, .hdr 5 0 a.data.length, (.hdr 6 0 a.roots.length), .d (vI 0), .d (vI 0), .d (.v (.slice none 0 0))], .var 73 [.d (vI o.act), .d (vI o.ix), .d (vI o.gen), .d (vI o.n), .d (vI o.off), .d (rB o.b), .d (vS o.name)], .var 51 [.d (vI e)]]) := by
 refine callsA_at Tryz.func134 rfl (Nat.le_of_ble_eq_true rfl) fun B S => ?_
 unfold kindS at hf
 refine xU ?_
 iterate 2 refine xO ?_
 refine xE [0,3] ?_
 refine xT ?_
 refine xO ?_
 refine xE [0,3,5] fun _ => ?_
 refine W_seq ?_
 refine W_block ?_
 refine xU ?_
 iterate 4 refine xO ?_
 refine xE [0,3,5,6] fun _ => ?_
 refine W_cond rfl ?_ ?_
 · intro h6
   have k1 : o.act = 1 := by simpa using h6
   rw [if_pos k1] at hf
   refine xU ?_
   iterate 3 refine xO ?_
   refine xE [4] fun _ => ?_
   refine W_ret ?_
   refine endAt_ret (by simp [Tryz.f134]; exact .mk) ?_ ?_
   · first | rfl | omega
   first | (obtain rfl : e = 1 := (by omega); rfl) | (obtain rfl : e = 3 := (by omega); rfl) | (obtain rfl : e = 8 := (by omega); rfl) | omega
 intro h6
 have k1 : o.act ≠ 1 := by simpa using h6
 rw [if_neg k1] at hf
 refine W_seq ?_
 refine xU ?_
 iterate 4 refine xO ?_
 refine xE [0,3,5,12] fun _ => ?_
 refine W_cond rfl ?_ ?_
 · intro h12
   have k2 : o.act = 7 := by simpa using h12
   refine W_skip ?_
   rintro -
   refine W_cond rfl ?_ ?_
   · intro h12'
     have k3 : o.act = 7 ∨ o.act = 8 := by simp at h12'; omega
     rw [if_pos k3] at hf
     refine xU ?_
     iterate 3 refine xO ?_
     refine xE [4] fun _ => ?_
     refine W_ret ?_
     refine endAt_ret (by simp [Tryz.f134]; exact .mk) ?_ ?_
     · first | rfl | omega
     first | (obtain rfl : e = 1 := (by omega); rfl) | (obtain rfl : e = 3 := (by omega); rfl) | (obtain rfl : e = 8 := (by omega); rfl) | omega
   intro h12'
   have k3 : ¬ (o.act = 7 ∨ o.act = 8) := by simp at h12'; omega
   rw [if_neg k3] at hf
   refine W_seq ?_
   refine xU ?_
   iterate 4 refine xO ?_
   refine xE [0,3,5,21] fun _ => ?_
   refine W_cond rfl ?_ ?_
   · intro h21
     have k4 : o.act < 1 := by simpa using h21
     refine W_skip ?_
     rintro -
     refine W_cond rfl ?_ ?_
     · intro h21'
       have k4' : o.act < 1 ∨ 8 < o.act := by simp at h21'; omega
       rw [if_pos k4'] at hf
       refine xU ?_
       refine xO ?_
       refine run_inl0 rfl rfl rfl rfl (by simp; exact .mk) ⟨_, Tryz.func184, rfl, rfl⟩ (in184 g o0 o1 o2 o3 _ a 1) (.inr ⟨_, rfl⟩) ?_
       refine xO ?_
       refine xE [4] fun _ => ?_
       refine W_ret ?_
       refine endAt_ret (by simp [Tryz.f134]; exact .mk) ?_ ?_
       · first | rfl | omega
       first | (obtain rfl : e = 1 := (by omega); rfl) | (obtain rfl : e = 3 := (by omega); rfl) | (obtain rfl : e = 8 := (by omega); rfl) | omega
     intro h21'
     have k4' : ¬ (o.act < 1 ∨ 8 < o.act) := by simp at h21'; omega
     rw [if_neg k4'] at hf
     refine xU ?_
     iterate 4 refine xO ?_
     iterate 2 (refine run_if rfl (by simp; exact .mk) rfl (by simp <;> omega) (fun hb => by simp; exact .mk) ?_)
     refine run_call rfl (by simp; exact .mk) rfl rfl (by simp) (by simp; exact .mk) (by simp [row_rows, Function.comp_def]; exact .mk) (fun hb => ct188 g _ hn) (by simp) (by simp; exact .mk) (by simp) ?_
     refine run_if rfl (by simp; exact .mk) rfl (by simp <;> omega) (fun hb => by simp; exact .mk) ?_
     refine xP ?_
     refine run_op1 rfl rfl rfl (by simp <;> omega) (by simp; exact .mk) ?_
     refine run_end [0,3,5,30] (by simp <;> omega) (by simp; exact .mk) ?_
     rintro -
     refine W_cond rfl ?_ ?_
     · intro h30
       have k5 : o.act = 6 ∧ nameS o.name = false := by simpa using h30
       rw [if_pos k5] at hf
       refine xU ?_
       refine xO ?_
       refine run_inl0 rfl rfl rfl rfl (by simp; exact .mk) ⟨_, Tryz.func184, rfl, rfl⟩ (in184 g o0 o1 o2 o3 _ a 3) (.inr ⟨_, rfl⟩) ?_
       refine xO ?_
       refine xE [4] fun _ => ?_
       refine W_ret ?_
       refine endAt_ret (by simp [Tryz.f134]; exact .mk) ?_ ?_
       · first | rfl | omega
       first | (obtain rfl : e = 1 := (by omega); rfl) | (obtain rfl : e = 3 := (by omega); rfl) | (obtain rfl : e = 8 := (by omega); rfl) | omega
     intro h30
     have k5 : ¬ (o.act = 6 ∧ nameS o.name = false) := by simpa using h30
     rw [if_neg k5] at hf
     refine W_seq ?_
     refine W_regD (by kernel_rfl) [] 4 [0,1,2,3,4,5,6,7,8] (by decide +kernel) ?_
     iterate 6 refine xO ?_
     refine xC (ct189 g a _ _ hgd) ?_ (he := by simp [row_rows, Function.comp_def]; exact .mk)
     iterate 2 refine xO ?_
     refine xE [0,3,5,42] fun _ => ?_
     refine W_cond rfl ?_ ?_
     · intro h42
       have k6 : goodS a o.ix o.gen = false := by simpa using h42
       rw [if_pos k6] at hf
       refine xU ?_
       refine xO ?_
       refine run_inl0 rfl rfl rfl rfl (by simp; exact .mk) ⟨_, Tryz.func184, rfl, rfl⟩ (in184 g o0 o1 o2 o3 _ a 8) (.inr ⟨_, rfl⟩) ?_
       refine xO ?_
       refine xE [4] fun _ => ?_
       refine W_ret ?_
       refine endAt_ret (by simp [Tryz.f134]; exact .mk) ?_ ?_
       · first | rfl | omega
       first | (obtain rfl : e = 1 := (by omega); rfl) | (obtain rfl : e = 3 := (by omega); rfl) | (obtain rfl : e = 8 := (by omega); rfl) | omega
     intro h42
     have k6 : ¬ goodS a o.ix o.gen = false := by simpa using h42
     rw [if_neg k6] at hf
     refine xU ?_
     iterate 4 refine xO ?_
     refine xE [0,3,53] fun _ => ?_
     refine W_cond rfl ?_ ?_
     · intro h53
       have k7 : o.act = 2 := by simpa using h53
       rw [if_pos k7] at hf
       refine xU ?_
       iterate 3 refine xO ?_
       refine xE [4] fun _ => ?_
       refine W_ret ?_
       refine endAt_ret (by simp [Tryz.f134]; exact .mk) ?_ ?_
       · first | rfl | omega
       first | (obtain rfl : e = 1 := (by omega); rfl) | (obtain rfl : e = 3 := (by omega); rfl) | (obtain rfl : e = 8 := (by omega); rfl) | omega
     intro h53
     have k7 : o.act ≠ 2 := by simpa using h53
     rw [if_neg k7] at hf
     refine xU ?_
     iterate 4 refine xO ?_
     refine xE [0,3,59] fun _ => ?_
     refine W_cond rfl ?_ ?_
     · intro h59
       have k8 : o.act = 3 := by simpa using h59
       rw [if_pos k8] at hf
       refine xU ?_
       iterate 3 refine xO ?_
       refine xE [4] fun _ => ?_
       refine W_ret ?_
       refine endAt_ret (by simp [Tryz.f134]; exact .mk) ?_ ?_
       · first | rfl | omega
       first | (obtain rfl : e = 1 := (by omega); rfl) | (obtain rfl : e = 3 := (by omega); rfl) | (obtain rfl : e = 8 := (by omega); rfl) | omega
     intro h59
     have k8 : o.act ≠ 3 := by simpa using h59
     rw [if_neg k8] at hf
     refine xU ?_
     iterate 4 refine xO ?_
     refine xE [0,3,65] fun _ => ?_
     refine W_cond rfl ?_ ?_
     · intro h65
       have k9 : o.act = 4 := by simpa using h65
       rw [if_pos k9] at hf
       refine xU ?_
       iterate 3 refine xO ?_
       refine xE [4] fun _ => ?_
       refine W_ret ?_
       refine endAt_ret (by simp [Tryz.f134]; exact .mk) ?_ ?_
       · first | rfl | omega
       first | (obtain rfl : e = 1 := (by omega); rfl) | (obtain rfl : e = 3 := (by omega); rfl) | (obtain rfl : e = 8 := (by omega); rfl) | omega
     intro h65
     have k9 : o.act ≠ 4 := by simpa using h65
     rw [if_neg k9] at hf
     refine xU ?_
     iterate 4 refine xO ?_
     refine xE [0,71] fun _ => ?_
     refine W_cond rfl ?_ ?_
     · intro h71
       have k10 : o.act = 5 := by simpa using h71
       rw [if_pos k10] at hf
       refine xU ?_
       iterate 3 refine xO ?_
       refine xE [4] fun _ => ?_
       refine W_ret ?_
       refine endAt_ret (by simp [Tryz.f134]; exact .mk) ?_ ?_
       · first | rfl | omega
       first | (obtain rfl : e = 1 := (by omega); rfl) | (obtain rfl : e = 3 := (by omega); rfl) | (obtain rfl : e = 8 := (by omega); rfl) | omega
     intro h71
     have k10 : o.act ≠ 5 := by simpa using h71
     rw [if_neg k10] at hf
     refine W_skip ?_
     refine xT ?_
     iterate 3 refine xO ?_
     refine xE [4] fun _ => ?_
     refine W_ret ?_
     refine endAt_ret (by simp [Tryz.f134]; exact .mk) ?_ ?_
     · first | rfl | omega
     first | (obtain rfl : e = 1 := (by omega); rfl) | (obtain rfl : e = 3 := (by omega); rfl) | (obtain rfl : e = 8 := (by omega); rfl) | omega
   intro h21
   have k4 : ¬ o.act < 1 := by simpa using h21
   refine W_reg rfl ?_
   iterate 4 refine xO ?_
   refine xE [0,3,5,21] fun _ => ?_
   refine W_cond rfl ?_ ?_
   · intro h21'
     have k4' : o.act < 1 ∨ 8 < o.act := by simp at h21'; omega
     rw [if_pos k4'] at hf
     refine xU ?_
     refine xO ?_
     refine run_inl0 rfl rfl rfl rfl (by simp; exact .mk) ⟨_, Tryz.func184, rfl, rfl⟩ (in184 g o0 o1 o2 o3 _ a 1) (.inr ⟨_, rfl⟩) ?_
     refine xO ?_
     refine xE [4] fun _ => ?_
     refine W_ret ?_
     refine endAt_ret (by simp [Tryz.f134]; exact .mk) ?_ ?_
     · first | rfl | omega
     first | (obtain rfl : e = 1 := (by omega); rfl) | (obtain rfl : e = 3 := (by omega); rfl) | (obtain rfl : e = 8 := (by omega); rfl) | omega
   intro h21'
   have k4' : ¬ (o.act < 1 ∨ 8 < o.act) := by simp at h21'; omega
   rw [if_neg k4'] at hf
   refine xU ?_
   iterate 4 refine xO ?_
   iterate 2 (refine run_if rfl (by simp; exact .mk) rfl (by simp <;> omega) (fun hb => by simp; exact .mk) ?_)
   refine run_call rfl (by simp; exact .mk) rfl rfl (by simp) (by simp; exact .mk) (by simp [row_rows, Function.comp_def]; exact .mk) (fun hb => ct188 g _ hn) (by simp) (by simp; exact .mk) (by simp) ?_
   refine run_if rfl (by simp; exact .mk) rfl (by simp <;> omega) (fun hb => by simp; exact .mk) ?_
   refine xP ?_
   refine run_op1 rfl rfl rfl (by simp <;> omega) (by simp; exact .mk) ?_
   refine run_end [0,3,5,30] (by simp <;> omega) (by simp; exact .mk) ?_
   rintro -
   refine W_cond rfl ?_ ?_
   · intro h30
     have k5 : o.act = 6 ∧ nameS o.name = false := by simpa using h30
     rw [if_pos k5] at hf
     refine xU ?_
     refine xO ?_
     refine run_inl0 rfl rfl rfl rfl (by simp; exact .mk) ⟨_, Tryz.func184, rfl, rfl⟩ (in184 g o0 o1 o2 o3 _ a 3) (.inr ⟨_, rfl⟩) ?_
     refine xO ?_
     refine xE [4] fun _ => ?_
     refine W_ret ?_
     refine endAt_ret (by simp [Tryz.f134]; exact .mk) ?_ ?_
     · first | rfl | omega
     first | (obtain rfl : e = 1 := (by omega); rfl) | (obtain rfl : e = 3 := (by omega); rfl) | (obtain rfl : e = 8 := (by omega); rfl) | omega
   intro h30
   have k5 : ¬ (o.act = 6 ∧ nameS o.name = false) := by simpa using h30
   rw [if_neg k5] at hf
   refine W_seq ?_
   refine W_regD (by kernel_rfl) [] 4 [0,1,2,3,4,5,6,7,8] (by decide +kernel) ?_
   iterate 6 refine xO ?_
   refine xC (ct189 g a _ _ hgd) ?_ (he := by simp [row_rows, Function.comp_def]; exact .mk)
   iterate 2 refine xO ?_
   refine xE [0,3,5,42] fun _ => ?_
   refine W_cond rfl ?_ ?_
   · intro h42
     have k6 : goodS a o.ix o.gen = false := by simpa using h42
     rw [if_pos k6] at hf
     refine xU ?_
     refine xO ?_
     refine run_inl0 rfl rfl rfl rfl (by simp; exact .mk) ⟨_, Tryz.func184, rfl, rfl⟩ (in184 g o0 o1 o2 o3 _ a 8) (.inr ⟨_, rfl⟩) ?_
     refine xO ?_
     refine xE [4] fun _ => ?_
     refine W_ret ?_
     refine endAt_ret (by simp [Tryz.f134]; exact .mk) ?_ ?_
     · first | rfl | omega
     first | (obtain rfl : e = 1 := (by omega); rfl) | (obtain rfl : e = 3 := (by omega); rfl) | (obtain rfl : e = 8 := (by omega); rfl) | omega
   intro h42
   have k6 : ¬ goodS a o.ix o.gen = false := by simpa using h42
   rw [if_neg k6] at hf
   refine xU ?_
   iterate 4 refine xO ?_
   refine xE [0,3,53] fun _ => ?_
   refine W_cond rfl ?_ ?_
   · intro h53
     have k7 : o.act = 2 := by simpa using h53
     rw [if_pos k7] at hf
     refine xU ?_
     iterate 3 refine xO ?_
     refine xE [4] fun _ => ?_
     refine W_ret ?_
     refine endAt_ret (by simp [Tryz.f134]; exact .mk) ?_ ?_
     · first | rfl | omega
     first | (obtain rfl : e = 1 := (by omega); rfl) | (obtain rfl : e = 3 := (by omega); rfl) | (obtain rfl : e = 8 := (by omega); rfl) | omega
   intro h53
   have k7 : o.act ≠ 2 := by simpa using h53
   rw [if_neg k7] at hf
   refine xU ?_
   iterate 4 refine xO ?_
   refine xE [0,3,59] fun _ => ?_
   refine W_cond rfl ?_ ?_
   · intro h59
     have k8 : o.act = 3 := by simpa using h59
     rw [if_pos k8] at hf
     refine xU ?_
     iterate 3 refine xO ?_
     refine xE [4] fun _ => ?_
     refine W_ret ?_
     refine endAt_ret (by simp [Tryz.f134]; exact .mk) ?_ ?_
     · first | rfl | omega
     first | (obtain rfl : e = 1 := (by omega); rfl) | (obtain rfl : e = 3 := (by omega); rfl) | (obtain rfl : e = 8 := (by omega); rfl) | omega
   intro h59
   have k8 : o.act ≠ 3 := by simpa using h59
   rw [if_neg k8] at hf
   refine xU ?_
   iterate 4 refine xO ?_
   refine xE [0,3,65] fun _ => ?_
   refine W_cond rfl ?_ ?_
   · intro h65
     have k9 : o.act = 4 := by simpa using h65
     rw [if_pos k9] at hf
     refine xU ?_
     iterate 3 refine xO ?_
     refine xE [4] fun _ => ?_
     refine W_ret ?_
     refine endAt_ret (by simp [Tryz.f134]; exact .mk) ?_ ?_
     · first | rfl | omega
     first | (obtain rfl : e = 1 := (by omega); rfl) | (obtain rfl : e = 3 := (by omega); rfl) | (obtain rfl : e = 8 := (by omega); rfl) | omega
   intro h65
   have k9 : o.act ≠ 4 := by simpa using h65
   rw [if_neg k9] at hf
   refine xU ?_
   iterate 4 refine xO ?_
   refine xE [0,71] fun _ => ?_
   refine W_cond rfl ?_ ?_
   · intro h71
     have k10 : o.act = 5 := by simpa using h71
     rw [if_pos k10] at hf
     refine xU ?_
     iterate 3 refine xO ?_
     refine xE [4] fun _ => ?_
     refine W_ret ?_
     refine endAt_ret (by simp [Tryz.f134]; exact .mk) ?_ ?_
     · first | rfl | omega
     first | (obtain rfl : e = 1 := (by omega); rfl) | (obtain rfl : e = 3 := (by omega); rfl) | (obtain rfl : e = 8 := (by omega); rfl) | omega
   intro h71
   have k10 : o.act ≠ 5 := by simpa using h71
   rw [if_neg k10] at hf
   refine W_skip ?_
   refine xT ?_
   iterate 3 refine xO ?_
   refine xE [4] fun _ => ?_
   refine W_ret ?_
   refine endAt_ret (by simp [Tryz.f134]; exact .mk) ?_ ?_
   · first | rfl | omega
   first | (obtain rfl : e = 1 := (by omega); rfl) | (obtain rfl : e = 3 := (by omega); rfl) | (obtain rfl : e = 8 := (by omega); rfl) | omega
 intro h12
 have k2 : o.act ≠ 7 := by simpa using h12
 refine W_reg rfl ?_
 iterate 4 refine xO ?_
 refine xE [0,3,5,12] fun _ => ?_
 refine W_cond rfl ?_ ?_
 · intro h12'
   have k3 : o.act = 7 ∨ o.act = 8 := by simp at h12'; omega
   rw [if_pos k3] at hf
   refine xU ?_
   iterate 3 refine xO ?_
   refine xE [4] fun _ => ?_
   refine W_ret ?_
   refine endAt_ret (by simp [Tryz.f134]; exact .mk) ?_ ?_
   · first | rfl | omega
   first | (obtain rfl : e = 1 := (by omega); rfl) | (obtain rfl : e = 3 := (by omega); rfl) | (obtain rfl : e = 8 := (by omega); rfl) | omega
 intro h12'
 have k3 : ¬ (o.act = 7 ∨ o.act = 8) := by simp at h12'; omega
 rw [if_neg k3] at hf
 refine W_seq ?_
 refine xU ?_
 iterate 4 refine xO ?_
 refine xE [0,3,5,21] fun _ => ?_
 refine W_cond rfl ?_ ?_
 · intro h21
   have k4 : o.act < 1 := by simpa using h21
   refine W_skip ?_
   rintro -
   refine W_cond rfl ?_ ?_
   · intro h21'
     have k4' : o.act < 1 ∨ 8 < o.act := by simp at h21'; omega
     rw [if_pos k4'] at hf
     refine xU ?_
     refine xO ?_
     refine run_inl0 rfl rfl rfl rfl (by simp; exact .mk) ⟨_, Tryz.func184, rfl, rfl⟩ (in184 g o0 o1 o2 o3 _ a 1) (.inr ⟨_, rfl⟩) ?_
     refine xO ?_
     refine xE [4] fun _ => ?_
     refine W_ret ?_
     refine endAt_ret (by simp [Tryz.f134]; exact .mk) ?_ ?_
     · first | rfl | omega
     first | (obtain rfl : e = 1 := (by omega); rfl) | (obtain rfl : e = 3 := (by omega); rfl) | (obtain rfl : e = 8 := (by omega); rfl) | omega
   intro h21'
   have k4' : ¬ (o.act < 1 ∨ 8 < o.act) := by simp at h21'; omega
   rw [if_neg k4'] at hf
   refine xU ?_
   iterate 4 refine xO ?_
   iterate 2 (refine run_if rfl (by simp; exact .mk) rfl (by simp <;> omega) (fun hb => by simp; exact .mk) ?_)
   refine run_call rfl (by simp; exact .mk) rfl rfl (by simp) (by simp; exact .mk) (by simp [row_rows, Function.comp_def]; exact .mk) (fun hb => ct188 g _ hn) (by simp) (by simp; exact .mk) (by simp) ?_
   refine run_if rfl (by simp; exact .mk) rfl (by simp <;> omega) (fun hb => by simp; exact .mk) ?_
   refine xP ?_
   refine run_op1 rfl rfl rfl (by simp <;> omega) (by simp; exact .mk) ?_
   refine run_end [0,3,5,30] (by simp <;> omega) (by simp; exact .mk) ?_
   rintro -
   refine W_cond rfl ?_ ?_
   · intro h30
     have k5 : o.act = 6 ∧ nameS o.name = false := by simpa using h30
     rw [if_pos k5] at hf
     refine xU ?_
     refine xO ?_
     refine run_inl0 rfl rfl rfl rfl (by simp; exact .mk) ⟨_, Tryz.func184, rfl, rfl⟩ (in184 g o0 o1 o2 o3 _ a 3) (.inr ⟨_, rfl⟩) ?_
     refine xO ?_
     refine xE [4] fun _ => ?_
     refine W_ret ?_
     refine endAt_ret (by simp [Tryz.f134]; exact .mk) ?_ ?_
     · first | rfl | omega
     first | (obtain rfl : e = 1 := (by omega); rfl) | (obtain rfl : e = 3 := (by omega); rfl) | (obtain rfl : e = 8 := (by omega); rfl) | omega
   intro h30
   have k5 : ¬ (o.act = 6 ∧ nameS o.name = false) := by simpa using h30
   rw [if_neg k5] at hf
   refine W_seq ?_
   refine W_regD (by kernel_rfl) [] 4 [0,1,2,3,4,5,6,7,8] (by decide +kernel) ?_
   iterate 6 refine xO ?_
   refine xC (ct189 g a _ _ hgd) ?_ (he := by simp [row_rows, Function.comp_def]; exact .mk)
   iterate 2 refine xO ?_
   refine xE [0,3,5,42] fun _ => ?_
   refine W_cond rfl ?_ ?_
   · intro h42
     have k6 : goodS a o.ix o.gen = false := by simpa using h42
     rw [if_pos k6] at hf
     refine xU ?_
     refine xO ?_
     refine run_inl0 rfl rfl rfl rfl (by simp; exact .mk) ⟨_, Tryz.func184, rfl, rfl⟩ (in184 g o0 o1 o2 o3 _ a 8) (.inr ⟨_, rfl⟩) ?_
     refine xO ?_
     refine xE [4] fun _ => ?_
     refine W_ret ?_
     refine endAt_ret (by simp [Tryz.f134]; exact .mk) ?_ ?_
     · first | rfl | omega
     first | (obtain rfl : e = 1 := (by omega); rfl) | (obtain rfl : e = 3 := (by omega); rfl) | (obtain rfl : e = 8 := (by omega); rfl) | omega
   intro h42
   have k6 : ¬ goodS a o.ix o.gen = false := by simpa using h42
   rw [if_neg k6] at hf
   refine xU ?_
   iterate 4 refine xO ?_
   refine xE [0,3,53] fun _ => ?_
   refine W_cond rfl ?_ ?_
   · intro h53
     have k7 : o.act = 2 := by simpa using h53
     rw [if_pos k7] at hf
     refine xU ?_
     iterate 3 refine xO ?_
     refine xE [4] fun _ => ?_
     refine W_ret ?_
     refine endAt_ret (by simp [Tryz.f134]; exact .mk) ?_ ?_
     · first | rfl | omega
     first | (obtain rfl : e = 1 := (by omega); rfl) | (obtain rfl : e = 3 := (by omega); rfl) | (obtain rfl : e = 8 := (by omega); rfl) | omega
   intro h53
   have k7 : o.act ≠ 2 := by simpa using h53
   rw [if_neg k7] at hf
   refine xU ?_
   iterate 4 refine xO ?_
   refine xE [0,3,59] fun _ => ?_
   refine W_cond rfl ?_ ?_
   · intro h59
     have k8 : o.act = 3 := by simpa using h59
     rw [if_pos k8] at hf
     refine xU ?_
     iterate 3 refine xO ?_
     refine xE [4] fun _ => ?_
     refine W_ret ?_
     refine endAt_ret (by simp [Tryz.f134]; exact .mk) ?_ ?_
     · first | rfl | omega
     first | (obtain rfl : e = 1 := (by omega); rfl) | (obtain rfl : e = 3 := (by omega); rfl) | (obtain rfl : e = 8 := (by omega); rfl) | omega
   intro h59
   have k8 : o.act ≠ 3 := by simpa using h59
   rw [if_neg k8] at hf
   refine xU ?_
   iterate 4 refine xO ?_
   refine xE [0,3,65] fun _ => ?_
   refine W_cond rfl ?_ ?_
   · intro h65
     have k9 : o.act = 4 := by simpa using h65
     rw [if_pos k9] at hf
     refine xU ?_
     iterate 3 refine xO ?_
     refine xE [4] fun _ => ?_
     refine W_ret ?_
     refine endAt_ret (by simp [Tryz.f134]; exact .mk) ?_ ?_
     · first | rfl | omega
     first | (obtain rfl : e = 1 := (by omega); rfl) | (obtain rfl : e = 3 := (by omega); rfl) | (obtain rfl : e = 8 := (by omega); rfl) | omega
   intro h65
   have k9 : o.act ≠ 4 := by simpa using h65
   rw [if_neg k9] at hf
   refine xU ?_
   iterate 4 refine xO ?_
   refine xE [0,71] fun _ => ?_
   refine W_cond rfl ?_ ?_
   · intro h71
     have k10 : o.act = 5 := by simpa using h71
     rw [if_pos k10] at hf
     refine xU ?_
     iterate 3 refine xO ?_
     refine xE [4] fun _ => ?_
     refine W_ret ?_
     refine endAt_ret (by simp [Tryz.f134]; exact .mk) ?_ ?_
     · first | rfl | omega
     first | (obtain rfl : e = 1 := (by omega); rfl) | (obtain rfl : e = 3 := (by omega); rfl) | (obtain rfl : e = 8 := (by omega); rfl) | omega
   intro h71
   have k10 : o.act ≠ 5 := by simpa using h71
   rw [if_neg k10] at hf
   refine W_skip ?_
   refine xT ?_
   iterate 3 refine xO ?_
   refine xE [4] fun _ => ?_
   refine W_ret ?_
   refine endAt_ret (by simp [Tryz.f134]; exact .mk) ?_ ?_
   · first | rfl | omega
   first | (obtain rfl : e = 1 := (by omega); rfl) | (obtain rfl : e = 3 := (by omega); rfl) | (obtain rfl : e = 8 := (by omega); rfl) | omega
 intro h21
 have k4 : ¬ o.act < 1 := by simpa using h21
 refine W_reg rfl ?_
 iterate 4 refine xO ?_
 refine xE [0,3,5,21] fun _ => ?_
 refine W_cond rfl ?_ ?_
 · intro h21'
   have k4' : o.act < 1 ∨ 8 < o.act := by simp at h21'; omega
   rw [if_pos k4'] at hf
   refine xU ?_
   refine xO ?_
   refine run_inl0 rfl rfl rfl rfl (by simp; exact .mk) ⟨_, Tryz.func184, rfl, rfl⟩ (in184 g o0 o1 o2 o3 _ a 1) (.inr ⟨_, rfl⟩) ?_
   refine xO ?_
   refine xE [4] fun _ => ?_
   refine W_ret ?_
   refine endAt_ret (by simp [Tryz.f134]; exact .mk) ?_ ?_
   · first | rfl | omega
   first | (obtain rfl : e = 1 := (by omega); rfl) | (obtain rfl : e = 3 := (by omega); rfl) | (obtain rfl : e = 8 := (by omega); rfl) | omega
 intro h21'
 have k4' : ¬ (o.act < 1 ∨ 8 < o.act) := by simp at h21'; omega
 rw [if_neg k4'] at hf
 refine xU ?_
 iterate 4 refine xO ?_
 iterate 2 (refine run_if rfl (by simp; exact .mk) rfl (by simp <;> omega) (fun hb => by simp; exact .mk) ?_)
 refine run_call rfl (by simp; exact .mk) rfl rfl (by simp) (by simp; exact .mk) (by simp [row_rows, Function.comp_def]; exact .mk) (fun hb => ct188 g _ hn) (by simp) (by simp; exact .mk) (by simp) ?_
 refine run_if rfl (by simp; exact .mk) rfl (by simp <;> omega) (fun hb => by simp; exact .mk) ?_
 refine xP ?_
 refine run_op1 rfl rfl rfl (by simp <;> omega) (by simp; exact .mk) ?_
 refine run_end [0,3,5,30] (by simp <;> omega) (by simp; exact .mk) ?_
 rintro -
 refine W_cond rfl ?_ ?_
 · intro h30
   have k5 : o.act = 6 ∧ nameS o.name = false := by simpa using h30
   rw [if_pos k5] at hf
   refine xU ?_
   refine xO ?_
   refine run_inl0 rfl rfl rfl rfl (by simp; exact .mk) ⟨_, Tryz.func184, rfl, rfl⟩ (in184 g o0 o1 o2 o3 _ a 3) (.inr ⟨_, rfl⟩) ?_
   refine xO ?_
   refine xE [4] fun _ => ?_
   refine W_ret ?_
   refine endAt_ret (by simp [Tryz.f134]; exact .mk) ?_ ?_
   · first | rfl | omega
   first | (obtain rfl : e = 1 := (by omega); rfl) | (obtain rfl : e = 3 := (by omega); rfl) | (obtain rfl : e = 8 := (by omega); rfl) | omega
 intro h30
 have k5 : ¬ (o.act = 6 ∧ nameS o.name = false) := by simpa using h30
 rw [if_neg k5] at hf
 refine W_seq ?_
 refine W_regD (by kernel_rfl) [] 4 [0,1,2,3,4,5,6,7,8] (by decide +kernel) ?_
 iterate 6 refine xO ?_
 refine xC (ct189 g a _ _ hgd) ?_ (he := by simp [row_rows, Function.comp_def]; exact .mk)
 iterate 2 refine xO ?_
 refine xE [0,3,5,42] fun _ => ?_
 refine W_cond rfl ?_ ?_
 · intro h42
   have k6 : goodS a o.ix o.gen = false := by simpa using h42
   rw [if_pos k6] at hf
   refine xU ?_
   refine xO ?_
   refine run_inl0 rfl rfl rfl rfl (by simp; exact .mk) ⟨_, Tryz.func184, rfl, rfl⟩ (in184 g o0 o1 o2 o3 _ a 8) (.inr ⟨_, rfl⟩) ?_
   refine xO ?_
   refine xE [4] fun _ => ?_
   refine W_ret ?_
   refine endAt_ret (by simp [Tryz.f134]; exact .mk) ?_ ?_
   · first | rfl | omega
   first | (obtain rfl : e = 1 := (by omega); rfl) | (obtain rfl : e = 3 := (by omega); rfl) | (obtain rfl : e = 8 := (by omega); rfl) | omega
 intro h42
 have k6 : ¬ goodS a o.ix o.gen = false := by simpa using h42
 rw [if_neg k6] at hf
 refine xU ?_
 iterate 4 refine xO ?_
 refine xE [0,3,53] fun _ => ?_
 refine W_cond rfl ?_ ?_
 · intro h53
   have k7 : o.act = 2 := by simpa using h53
   rw [if_pos k7] at hf
   refine xU ?_
   iterate 3 refine xO ?_
   refine xE [4] fun _ => ?_
   refine W_ret ?_
   refine endAt_ret (by simp [Tryz.f134]; exact .mk) ?_ ?_
   · first | rfl | omega
   first | (obtain rfl : e = 1 := (by omega); rfl) | (obtain rfl : e = 3 := (by omega); rfl) | (obtain rfl : e = 8 := (by omega); rfl) | omega
 intro h53
 have k7 : o.act ≠ 2 := by simpa using h53
 rw [if_neg k7] at hf
 refine xU ?_
 iterate 4 refine xO ?_
 refine xE [0,3,59] fun _ => ?_
 refine W_cond rfl ?_ ?_
 · intro h59
   have k8 : o.act = 3 := by simpa using h59
   rw [if_pos k8] at hf
   refine xU ?_
   iterate 3 refine xO ?_
   refine xE [4] fun _ => ?_
   refine W_ret ?_
   refine endAt_ret (by simp [Tryz.f134]; exact .mk) ?_ ?_
   · first | rfl | omega
   first | (obtain rfl : e = 1 := (by omega); rfl) | (obtain rfl : e = 3 := (by omega); rfl) | (obtain rfl : e = 8 := (by omega); rfl) | omega
 intro h59
 have k8 : o.act ≠ 3 := by simpa using h59
 rw [if_neg k8] at hf
 refine xU ?_
 iterate 4 refine xO ?_
 refine xE [0,3,65] fun _ => ?_
 refine W_cond rfl ?_ ?_
 · intro h65
   have k9 : o.act = 4 := by simpa using h65
   rw [if_pos k9] at hf
   refine xU ?_
   iterate 3 refine xO ?_
   refine xE [4] fun _ => ?_
   refine W_ret ?_
   refine endAt_ret (by simp [Tryz.f134]; exact .mk) ?_ ?_
   · first | rfl | omega
   first | (obtain rfl : e = 1 := (by omega); rfl) | (obtain rfl : e = 3 := (by omega); rfl) | (obtain rfl : e = 8 := (by omega); rfl) | omega
 intro h65
 have k9 : o.act ≠ 4 := by simpa using h65
 rw [if_neg k9] at hf
 refine xU ?_
 iterate 4 refine xO ?_
 refine xE [0,71] fun _ => ?_
 refine W_cond rfl ?_ ?_
 · intro h71
   have k10 : o.act = 5 := by simpa using h71
   rw [if_pos k10] at hf
   refine xU ?_
   iterate 3 refine xO ?_
   refine xE [4] fun _ => ?_
   refine W_ret ?_
   refine endAt_ret (by simp [Tryz.f134]; exact .mk) ?_ ?_
   · first | rfl | omega
   first | (obtain rfl : e = 1 := (by omega); rfl) | (obtain rfl : e = 3 := (by omega); rfl) | (obtain rfl : e = 8 := (by omega); rfl) | omega
 intro h71
 have k10 : o.act ≠ 5 := by simpa using h71
 rw [if_neg k10] at hf
 refine W_skip ?_
 refine xT ?_
 iterate 3 refine xO ?_
 refine xE [4] fun _ => ?_
 refine W_ret ?_
 refine endAt_ret (by simp [Tryz.f134]; exact .mk) ?_ ?_
 · first | rfl | omega
 first | (obtain rfl : e = 1 := (by omega); rfl) | (obtain rfl : e = 3 := (by omega); rfl) | (obtain rfl : e = 8 := (by omega); rfl) | omega

open Go.Awp
theorem ct133 (g : Gl) (a : Abs) (ha : a.Ok) : CtAt Tryz.prog g 133 [eAbs a] (oAbs a) := by
 refine ctAt_of_W Tryz.func133 rfl rfl (Nat.le_of_ble_eq_true rfl) fun B S => ?_
 simp only [eAbs, List.map, argD_agg]
 refine xU ?_
 iterate 2 refine xO ?_
 refine xE [1,2] fun _ => ?_
 refine W_seq ?_
 refine W_regD (by kernel_rfl) [] 4 [0,1,3,4,6,7,2,9,5,8,10,11,12,13,14] (by decide +kernel) ?_
 iterate 6 refine xO ?_
 refine xC (ct183 g _ ha.h1) ?_
 refine xO ?_
 refine run_inl0 rfl rfl rfl rfl (by simp; exact .mk) ⟨_, Tryz.func78, rfl, rfl⟩ (in78 g _ _ _ a.data ha.h2) (.inr ⟨_, rfl⟩) ?_
 refine xC (ct77 g _ ha.h3) ?_
 refine xO ?_ (h := by simp [splice]; exact .mk)
 refine xO ?_
 refine xO ?_ (h := by simp [splice]; exact .mk)
 refine xO ?_
 refine xO ?_ (h := by simp [splice]; exact .mk)
 refine xE [1,2] fun _ => ?_
 refine W_seq ?_
 refine xU ?_
 iterate 4 refine xO ?_
 refine xE [1,2,18,19] fun _ => ?_
 refine W_block ?_
 refine W_rounds (fun m σ r => ∃ i : Nat, m = a.data.length - i ∧ i ≤ a.data.length ∧ σ = slots [(1, .ptr 0 0 0), (2, .ptr 1 0 0), (18, .d (vI a.data.length)), (19, .d (vI i))] ∧ r = [.var 67 [.hdr 2 0 a.gens.length, .hdr 4 0 a.data.length, .hdr 5 0 a.roots.length], .var 67 [.d (.v (.slice none 0 0)), .d (.v (.slice none 0 0)), .d (.v (.slice none 0 0))], .row 1 (a.gens.map vI), .dead, .row 1 (mixB i a.data), .row 3 (a.roots.map eRoot)]) a.data.length .refl ⟨0, by simp, by simp, rfl, by rw [mixB_zero]⟩ ?_
 have q2 := ha.h2
 rintro m σ r ⟨i, rfl, hi, rfl, rfl⟩ _
 refine xU ?_
 refine xO ?_
 refine xE [1,2,18,19,20] fun _ => ?_
 refine W_seq ?_
 refine W_cond rfl ?_ ?_
 · intro h20
   have hi2 : i < a.data.length := by simpa using h20
   refine W_skip ?_
   rintro -
   refine W_seq ?_
   refine W_block ?_
   refine xU ?_
   iterate 2 refine xO ?_
   refine xE [1,2,3,18,19] fun _ => ?_
   refine W_regD (by kernel_rfl) [] 4 [0,1,2,3,4,5,6,7,8,9,10] (by decide +kernel) ?_
   iterate 6 refine xO ?_
   refine xO ?_ (h := by simp [hi2]; exact .mk)
   refine xO ?_ (h := by simp [-List.getElem?_map, mixB_get hi2]; exact .mk)
   refine xC (ct79 g _ (ha.h4 i hi2)) ?_
   refine xO ?_ (h := by simp [hi2]; exact .mk)
   refine xO ?_ (h := by simp [splice, -List.getElem?_map, mixB_get hi2, nrmL, nrm, putC]; exact .mk)
   refine xE [1,2,18,19] fun _ => ?_
   refine W_reg rfl ?_
   iterate 2 refine xO ?_
   refine xE [1,2,18,19] ?_
   refine rounds_drop 6 [1,2,18,19] (by simp) (by simp) (by simp) ?_
   refine rounds_next (m' := a.data.length - (i+1)) (by omega) ⟨i+1, rfl, by omega, ?_, ?_⟩
   · rw [wrap64 (by omega) (by omega)]; rfl
   rw [← mixB_set hi2]; simp; rfl
 intro h20
 obtain rfl : i = a.data.length := by simp at h20; omega
 rw [mixB_all]
 refine W_exit ?_
 refine xT ?_
 refine xO ?_
 refine xO ?_ (h := by simp [splice]; exact .mk)
 refine xE [2] fun _ => ?_
 refine W_ret ?_
 refine xR (by simp [Tryz.f133]; exact .mk) ?_
 simp [Tryz.f133, oAbs, ownR]

end Go.Proofs
