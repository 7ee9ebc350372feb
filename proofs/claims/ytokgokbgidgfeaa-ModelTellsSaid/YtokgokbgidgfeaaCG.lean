/- Contracts of the program's functions and plain facts, for arguments as each lemma says. -/
import Derived.Test.YtokgokbgidgfeaaAwpD
import Derived.Test.YtokgokbgidgfeaaAwpC
import Derived.Test.YtokgokbgidgfeaaCE
import Derived.Test.YtokgokbgidgfeaaCF
import Derived.Test.YtokgokbgidgfeaaCA
import Derived.Test.YtokgokbgidgfeaaCC
import Derived.Test.YtokgokbgidgfeaaCD
set_option linter.all false
set_option maxHeartbeats 4000000
namespace Go.Proofs
open Go.Awp
theorem ct14 (g : Gl) (a : Abs) (o : Op) (ha : a.Ok) (hn : o.name.size ≤ 2^40) (hob : o.b.length ≤ 2^40) : CtAt Try.prog g 14 [eAbs a, eOp o] (.tup [oAbs (doS a o).a, .agg [vI (doS a o).ix, vI (doS a o).gen, oB (doS a o).b], vI (doS a o).e]) := by
 refine ctAt_of_W Try.func14 rfl rfl (Nat.le_of_ble_eq_true rfl) fun B S => ?_
 simp only [eAbs, eOp, List.map, argD_agg]
 refine xU ?_
 iterate 5 refine xO ?_
 refine xF [2,3,4,5] ?_
 refine W_seq (xU ?_)
 refine xO ?_
 refine xC (ct25 g a ha) ?_ (hi := by simp [oAbs]; exact .mk)
 refine xO ?_
 refine xF [2,3,4,5,11] ?_
 refine W_cond rfl ?_ ?_
 · intro h11
   have hR : rightS a = false := by simpa using h11
   have hdo : doS a o = failS 1 := by simp [doS, hR]
   have hE : True := trivial
   refine xU ?_
   iterate 4 (refine xO ?_ (h := by simp [splice]; exact .mk))
   refine xO ?_
   refine xF [4,5,6] ?_
   refine W_ret (xR (by simp [Try.f14]; exact .mk) ?_)
   first | (simp [Try.f14, hdo, hE, failS, zAbs, oAbs, ownR]; done) | (simp [Try.f14, hdo, hE, failS, zAbs, oAbs, ownR, he0]; done) | (simp [Try.f14, hdo, hE, failS, zAbs, oAbs, ownR, he0, hE2]; done) | (exfalso; first | (simp at h24; done) | (simp at h24; omega))
 intro h11
 have hR : rightS a = true := by simpa using h11
 have hgd := (rightS_len hR).1
 refine W_skip ?_
 refine xT ?_
 refine xO ?_
 refine xC (ct41 g a ha) ?_ (hi := by simp [oAbs]; exact .mk)
 refine xO ?_ (h := by simp [splice]; exact .mk)
 iterate 2 refine xO ?_
 refine xF [3,4,5,7] ?_
 refine W_seq (W_seq ?_)
 rcases do_cases a o with hk | ⟨hk, hact⟩ | ⟨hk, hact⟩ | ⟨hk, hact⟩ | hk | hk | ⟨hk, hq⟩ | ⟨hk, hq⟩ | hk | ⟨e, he, hk⟩
 · skip
   have hE : effS a o = allocS a o.n := by simp [effS, hk]
   refine W_regD (by kernel_rfl) [4] 4 [0,1,3,2,4,5] (by decide +kernel) ?_
   iterate 3 refine xO ?_
   refine run_inl0 rfl rfl rfl rfl (by simp; exact .mk) ⟨_, Try.func42, rfl, rfl⟩ (in42g g (.var 26 [.d (rI a.gens), .d (rBB a.data), .d (rR a.roots)]) (.var 31 [.d (vI o.act), .d (vI o.ix), .d (vI o.gen), .d (vI o.n), .d (vI o.off), .d (rB o.b), .d (vS o.name)]) (.var 26 [.d (.v (.slice none 0 0)), .d (.v (.slice none 0 0)), .d (.v (.slice none 0 0))]) (.var 38 [.d (vI 0), .d (vI 0), .d (.v (.slice none 0 0))]) a o hgd hn 81 hk) (.inr ⟨_, rfl⟩) ?_
   refine run_inl0 rfl rfl rfl rfl (by simp; exact .mk) ⟨_, Try.func81, rfl, rfl⟩ (in81 g (.var 26 [.d (rI a.gens), .d (rBB a.data), .d (rR a.roots)]) (.var 31 [.d (vI o.act), .d (vI o.ix), .d (vI o.gen), .d (vI o.n), .d (vI o.off), .d (rB o.b), .d (vS o.name)]) (.var 26 [.d (.v (.slice none 0 0)), .d (.v (.slice none 0 0)), .d (.v (.slice none 0 0))]) (.var 38 [.d (vI 0), .d (vI 0), .d (.v (.slice none 0 0))]) (.var 31 [.d (vI o.act), .d (vI o.ix), .d (vI o.gen), .d (vI o.n), .d (vI o.off), .d (rB o.b), .d (vS o.name)]) a o (fun m => by simp) ha hgd) (.inl (by simp)) ?_
   refine xO ?_
   refine xG [4,5,7,8] ?_
   iterate 2 refine xO ?_
   refine xF [4,5,7,8,24] ?_
   refine W_cond rfl ?_ ?_
   · intro h24
     have hdo := doS_fail (o := o) hR (by rw [hE]; simpa using h24)
     refine xU ?_
     iterate 2 (refine xO ?_ (h := by simp [splice]; exact .mk))
     refine xO ?_
     iterate 2 (refine xO ?_ (h := by simp [splice]; exact .mk))
     refine xO ?_
     refine xF [4,5,6] ?_
     refine W_ret (xR (by simp [Try.f14]; exact .mk) ?_)
     first | (simp [Try.f14, hdo, hE, failS, zAbs, oAbs, ownR]; done) | (simp [Try.f14, hdo, hE, failS, zAbs, oAbs, ownR, he0]; done) | (simp [Try.f14, hdo, hE, failS, zAbs, oAbs, ownR, he0, hE2]; done) | (exfalso; first | (simp at h24; done) | (simp at h24; omega))
   intro h24
   have he0 : (effS a o).e = 0 := by rw [hE]; first | (simpa using h24; done) | exact hE2.2.2.2
   have hdo := doS_ok (o := o) hR he0
   rw [hE] at he0 hdo
   refine W_skip ?_
   rintro -
   refine W_seq ?_
   refine W_regD2 (hard := []) 7 8 (keepOk_lt (by decide)) (by kernel_rfl) 4 [0,1,2,3,4,5,6,7,8,9,10] [0,1,2,3,4,5,6,8,7,9,10] (by decide +kernel) (by decide +kernel) ?_ ?_
   · skip
     iterate 8 refine xO ?_
     iterate 2 (refine xO ?_ (h := by simp [splice]; exact .mk))
     refine xO ?_
     refine xF [4,5,6] ?_
     refine W_ret (xR (by simp [Try.f14]; exact .mk) ?_)
     first | (simp [Try.f14, hdo, hE, failS, zAbs, oAbs, ownR]; done) | (simp [Try.f14, hdo, hE, failS, zAbs, oAbs, ownR, he0]; done) | (simp [Try.f14, hdo, hE, failS, zAbs, oAbs, ownR, he0, hE2]; done) | (exfalso; first | (simp at h24; done) | (simp at h24; omega))
   skip
   iterate 7 refine xO ?_
   refine xO ?_ (h := by simp [splice]; exact .mk)
   refine xO ?_
   refine xO ?_ (h := by simp [splice]; exact .mk)
   refine xO ?_
   refine xF [4,5,6] ?_
   refine W_ret (xR (by simp [Try.f14]; exact .mk) ?_)
   first | (simp [Try.f14, hdo, hE, failS, zAbs, oAbs, ownR]; done) | (simp [Try.f14, hdo, hE, failS, zAbs, oAbs, ownR, he0]; done) | (simp [Try.f14, hdo, hE, failS, zAbs, oAbs, ownR, he0, hE2]; done) | (exfalso; first | (simp at h24; done) | (simp at h24; omega))
 · skip
   have hE : effS a o = rootS a o := by simp [effS, hk]
   have hE2 : rootS a o = ⟨{ a with roots := (setS a.roots o.name o.ix o.gen).1 }, 0, 0, [], (setS a.roots o.name o.ix o.gen).2⟩ := by simp [rootS, hact]
   rw [hE2] at hE
   refine W_regD (by kernel_rfl) [4] 4 [0,1,3,2,4,5] (by decide +kernel) ?_
   iterate 3 refine xO ?_
   refine run_inl0 rfl rfl rfl rfl (by simp; exact .mk) ⟨_, Try.func42, rfl, rfl⟩ (in42g g (.var 26 [.d (rI a.gens), .d (rBB a.data), .d (rR a.roots)]) (.var 31 [.d (vI o.act), .d (vI o.ix), .d (vI o.gen), .d (vI o.n), .d (vI o.off), .d (rB o.b), .d (vS o.name)]) (.var 26 [.d (.v (.slice none 0 0)), .d (.v (.slice none 0 0)), .d (.v (.slice none 0 0))]) (.var 38 [.d (vI 0), .d (vI 0), .d (.v (.slice none 0 0))]) a o hgd hn 82 hk) (.inr ⟨_, rfl⟩) ?_
   refine run_inl0 rfl rfl rfl rfl (by simp; exact .mk) ⟨_, Try.func82, rfl, rfl⟩ (in82s g (.var 26 [.d (rI a.gens), .d (rBB a.data), .d (rR a.roots)]) (.var 31 [.d (vI o.act), .d (vI o.ix), .d (vI o.gen), .d (vI o.n), .d (vI o.off), .d (rB o.b), .d (vS o.name)]) (.var 26 [.d (.v (.slice none 0 0)), .d (.v (.slice none 0 0)), .d (.v (.slice none 0 0))]) (.var 38 [.d (vI 0), .d (vI 0), .d (.v (.slice none 0 0))]) (.var 31 [.d (vI o.act), .d (vI o.ix), .d (vI o.gen), .d (vI o.n), .d (vI o.off), .d (rB o.b), .d (vS o.name)]) a o (fun m => by simp) ha hact ⟨ha.h3, ha.h5⟩ hn) (.inl (by simp)) ?_
   refine xO ?_
   refine xG [4,5,7,8] ?_
   iterate 2 refine xO ?_
   refine xF [4,5,7,8,24] ?_
   refine W_cond rfl ?_ ?_
   · intro h24
     have hdo := doS_fail (o := o) hR (by rw [hE]; simpa using h24)
     refine xU ?_
     iterate 2 (refine xO ?_ (h := by simp [splice]; exact .mk))
     refine xO ?_
     iterate 2 (refine xO ?_ (h := by simp [splice]; exact .mk))
     refine xO ?_
     refine xF [4,5,6] ?_
     refine W_ret (xR (by simp [Try.f14]; exact .mk) ?_)
     first | (simp [Try.f14, hdo, hE, failS, zAbs, oAbs, ownR]; done) | (simp [Try.f14, hdo, hE, failS, zAbs, oAbs, ownR, he0]; done) | (simp [Try.f14, hdo, hE, failS, zAbs, oAbs, ownR, he0, hE2]; done) | (exfalso; first | (simp at h24; done) | (simp at h24; omega))
   intro h24
   have he0 : (effS a o).e = 0 := by rw [hE]; first | (simpa using h24; done) | exact hE2.2.2.2
   have hdo := doS_ok (o := o) hR he0
   rw [hE] at he0 hdo
   refine W_skip ?_
   rintro -
   refine W_seq ?_
   refine W_regD2 (hard := []) 7 8 (keepOk_lt (by decide)) (by kernel_rfl) 4 [0,1,2,3,4,5,6,7,8,9,10] [0,1,2,3,4,5,6,8,7,9,10] (by decide +kernel) (by decide +kernel) ?_ ?_
   · skip
     iterate 8 refine xO ?_
     iterate 2 (refine xO ?_ (h := by simp [splice]; exact .mk))
     refine xO ?_
     refine xF [4,5,6] ?_
     refine W_ret (xR (by simp [Try.f14]; exact .mk) ?_)
     first | (simp [Try.f14, hdo, hE, failS, zAbs, oAbs, ownR]; done) | (simp [Try.f14, hdo, hE, failS, zAbs, oAbs, ownR, he0]; done) | (simp [Try.f14, hdo, hE, failS, zAbs, oAbs, ownR, he0, hE2]; done) | (exfalso; first | (simp at h24; done) | (simp at h24; omega))
   skip
   iterate 7 refine xO ?_
   refine xO ?_ (h := by simp [splice]; exact .mk)
   refine xO ?_
   refine xO ?_ (h := by simp [splice]; exact .mk)
   refine xO ?_
   refine xF [4,5,6] ?_
   refine W_ret (xR (by simp [Try.f14]; exact .mk) ?_)
   first | (simp [Try.f14, hdo, hE, failS, zAbs, oAbs, ownR]; done) | (simp [Try.f14, hdo, hE, failS, zAbs, oAbs, ownR, he0]; done) | (simp [Try.f14, hdo, hE, failS, zAbs, oAbs, ownR, he0, hE2]; done) | (exfalso; first | (simp at h24; done) | (simp at h24; omega))
 · skip
   have hE : effS a o = rootS a o := by simp [effS, hk]
   have hE2 : rootS a o = ⟨a, (getS a.roots o.name).1, (getS a.roots o.name).2.1, [], (getS a.roots o.name).2.2⟩ := by simp [rootS, hact]
   rw [hE2] at hE
   refine W_regD (by kernel_rfl) [4] 4 [0,1,3,2,4,5] (by decide +kernel) ?_
   iterate 3 refine xO ?_
   refine run_inl0 rfl rfl rfl rfl (by simp; exact .mk) ⟨_, Try.func42, rfl, rfl⟩ (in42g g (.var 26 [.d (rI a.gens), .d (rBB a.data), .d (rR a.roots)]) (.var 31 [.d (vI o.act), .d (vI o.ix), .d (vI o.gen), .d (vI o.n), .d (vI o.off), .d (rB o.b), .d (vS o.name)]) (.var 26 [.d (.v (.slice none 0 0)), .d (.v (.slice none 0 0)), .d (.v (.slice none 0 0))]) (.var 38 [.d (vI 0), .d (vI 0), .d (.v (.slice none 0 0))]) a o hgd hn 82 hk) (.inr ⟨_, rfl⟩) ?_
   refine run_inl0 rfl rfl rfl rfl (by simp; exact .mk) ⟨_, Try.func82, rfl, rfl⟩ (in82g g (.var 26 [.d (rI a.gens), .d (rBB a.data), .d (rR a.roots)]) (.var 31 [.d (vI o.act), .d (vI o.ix), .d (vI o.gen), .d (vI o.n), .d (vI o.off), .d (rB o.b), .d (vS o.name)]) (.var 26 [.d (.v (.slice none 0 0)), .d (.v (.slice none 0 0)), .d (.v (.slice none 0 0))]) (.var 38 [.d (vI 0), .d (vI 0), .d (.v (.slice none 0 0))]) (.var 31 [.d (vI o.act), .d (vI o.ix), .d (vI o.gen), .d (vI o.n), .d (vI o.off), .d (rB o.b), .d (vS o.name)]) a o (fun m => by simp) ha hact ⟨ha.h3, ha.h5⟩ hn) (.inl (by simp)) ?_
   refine xO ?_
   refine xG [4,5,7,8] ?_
   iterate 2 refine xO ?_
   refine xF [4,5,7,8,24] ?_
   refine W_cond rfl ?_ ?_
   · intro h24
     have hdo := doS_fail (o := o) hR (by rw [hE]; simpa using h24)
     refine xU ?_
     iterate 2 (refine xO ?_ (h := by simp [splice]; exact .mk))
     refine xO ?_
     iterate 2 (refine xO ?_ (h := by simp [splice]; exact .mk))
     refine xO ?_
     refine xF [4,5,6] ?_
     refine W_ret (xR (by simp [Try.f14]; exact .mk) ?_)
     first | (simp [Try.f14, hdo, hE, failS, zAbs, oAbs, ownR]; done) | (simp [Try.f14, hdo, hE, failS, zAbs, oAbs, ownR, he0]; done) | (simp [Try.f14, hdo, hE, failS, zAbs, oAbs, ownR, he0, hE2]; done) | (exfalso; first | (simp at h24; done) | (simp at h24; omega))
   intro h24
   have he0 : (effS a o).e = 0 := by rw [hE]; first | (simpa using h24; done) | exact hE2.2.2.2
   have hdo := doS_ok (o := o) hR he0
   rw [hE] at he0 hdo
   refine W_skip ?_
   rintro -
   refine W_seq ?_
   refine W_regD2 (hard := []) 7 8 (keepOk_lt (by decide)) (by kernel_rfl) 4 [0,1,2,3,4,5,6,7,8,9,10] [0,1,2,3,4,5,6,8,7,9,10] (by decide +kernel) (by decide +kernel) ?_ ?_
   · skip
     iterate 8 refine xO ?_
     iterate 2 (refine xO ?_ (h := by simp [splice]; exact .mk))
     refine xO ?_
     refine xF [4,5,6] ?_
     refine W_ret (xR (by simp [Try.f14]; exact .mk) ?_)
     first | (simp [Try.f14, hdo, hE, failS, zAbs, oAbs, ownR]; done) | (simp [Try.f14, hdo, hE, failS, zAbs, oAbs, ownR, he0]; done) | (simp [Try.f14, hdo, hE, failS, zAbs, oAbs, ownR, he0, hE2]; done) | (exfalso; first | (simp at h24; done) | (simp at h24; omega))
   skip
   iterate 7 refine xO ?_
   refine xO ?_ (h := by simp [splice]; exact .mk)
   refine xO ?_
   refine xO ?_ (h := by simp [splice]; exact .mk)
   refine xO ?_
   refine xF [4,5,6] ?_
   refine W_ret (xR (by simp [Try.f14]; exact .mk) ?_)
   first | (simp [Try.f14, hdo, hE, failS, zAbs, oAbs, ownR]; done) | (simp [Try.f14, hdo, hE, failS, zAbs, oAbs, ownR, he0]; done) | (simp [Try.f14, hdo, hE, failS, zAbs, oAbs, ownR, he0, hE2]; done) | (exfalso; first | (simp at h24; done) | (simp at h24; omega))
 · skip
   have hE : effS a o = rootS a o := by simp [effS, hk]
   have hE2 : rootS a o = ⟨{ a with roots := (dropS a.roots o.name).1 }, 0, 0, [], (dropS a.roots o.name).2⟩ := by simp [rootS, hact]
   rw [hE2] at hE
   refine W_regD (by kernel_rfl) [4] 4 [0,1,3,2,4,5] (by decide +kernel) ?_
   iterate 3 refine xO ?_
   refine run_inl0 rfl rfl rfl rfl (by simp; exact .mk) ⟨_, Try.func42, rfl, rfl⟩ (in42g g (.var 26 [.d (rI a.gens), .d (rBB a.data), .d (rR a.roots)]) (.var 31 [.d (vI o.act), .d (vI o.ix), .d (vI o.gen), .d (vI o.n), .d (vI o.off), .d (rB o.b), .d (vS o.name)]) (.var 26 [.d (.v (.slice none 0 0)), .d (.v (.slice none 0 0)), .d (.v (.slice none 0 0))]) (.var 38 [.d (vI 0), .d (vI 0), .d (.v (.slice none 0 0))]) a o hgd hn 82 hk) (.inr ⟨_, rfl⟩) ?_
   refine run_inl0 rfl rfl rfl rfl (by simp; exact .mk) ⟨_, Try.func82, rfl, rfl⟩ (in82d g (.var 26 [.d (rI a.gens), .d (rBB a.data), .d (rR a.roots)]) (.var 31 [.d (vI o.act), .d (vI o.ix), .d (vI o.gen), .d (vI o.n), .d (vI o.off), .d (rB o.b), .d (vS o.name)]) (.var 26 [.d (.v (.slice none 0 0)), .d (.v (.slice none 0 0)), .d (.v (.slice none 0 0))]) (.var 38 [.d (vI 0), .d (vI 0), .d (.v (.slice none 0 0))]) (.var 31 [.d (vI o.act), .d (vI o.ix), .d (vI o.gen), .d (vI o.n), .d (vI o.off), .d (rB o.b), .d (vS o.name)]) a o (fun m => by simp) ha hact ⟨ha.h3, ha.h5⟩ hn) (.inl (by simp)) ?_
   refine xO ?_
   refine xG [4,5,7,8] ?_
   iterate 2 refine xO ?_
   refine xF [4,5,7,8,24] ?_
   refine W_cond rfl ?_ ?_
   · intro h24
     have hdo := doS_fail (o := o) hR (by rw [hE]; simpa using h24)
     refine xU ?_
     iterate 2 (refine xO ?_ (h := by simp [splice]; exact .mk))
     refine xO ?_
     iterate 2 (refine xO ?_ (h := by simp [splice]; exact .mk))
     refine xO ?_
     refine xF [4,5,6] ?_
     refine W_ret (xR (by simp [Try.f14]; exact .mk) ?_)
     first | (simp [Try.f14, hdo, hE, failS, zAbs, oAbs, ownR]; done) | (simp [Try.f14, hdo, hE, failS, zAbs, oAbs, ownR, he0]; done) | (simp [Try.f14, hdo, hE, failS, zAbs, oAbs, ownR, he0, hE2]; done) | (exfalso; first | (simp at h24; done) | (simp at h24; omega))
   intro h24
   have he0 : (effS a o).e = 0 := by rw [hE]; first | (simpa using h24; done) | exact hE2.2.2.2
   have hdo := doS_ok (o := o) hR he0
   rw [hE] at he0 hdo
   refine W_skip ?_
   rintro -
   refine W_seq ?_
   refine W_regD2 (hard := []) 7 8 (keepOk_lt (by decide)) (by kernel_rfl) 4 [0,1,2,3,4,5,6,7,8,9,10] [0,1,2,3,4,5,6,8,7,9,10] (by decide +kernel) (by decide +kernel) ?_ ?_
   · skip
     iterate 8 refine xO ?_
     iterate 2 (refine xO ?_ (h := by simp [splice]; exact .mk))
     refine xO ?_
     refine xF [4,5,6] ?_
     refine W_ret (xR (by simp [Try.f14]; exact .mk) ?_)
     first | (simp [Try.f14, hdo, hE, failS, zAbs, oAbs, ownR]; done) | (simp [Try.f14, hdo, hE, failS, zAbs, oAbs, ownR, he0]; done) | (simp [Try.f14, hdo, hE, failS, zAbs, oAbs, ownR, he0, hE2]; done) | (exfalso; first | (simp at h24; done) | (simp at h24; omega))
   skip
   iterate 7 refine xO ?_
   refine xO ?_ (h := by simp [splice]; exact .mk)
   refine xO ?_
   refine xO ?_ (h := by simp [splice]; exact .mk)
   refine xO ?_
   refine xF [4,5,6] ?_
   refine W_ret (xR (by simp [Try.f14]; exact .mk) ?_)
   first | (simp [Try.f14, hdo, hE, failS, zAbs, oAbs, ownR]; done) | (simp [Try.f14, hdo, hE, failS, zAbs, oAbs, ownR, he0]; done) | (simp [Try.f14, hdo, hE, failS, zAbs, oAbs, ownR, he0, hE2]; done) | (exfalso; first | (simp at h24; done) | (simp at h24; omega))
 · skip
   obtain ⟨k, hix, hk2, hk3, hk4⟩ := goodS_nat (kindS_good (a := a) (o := o) (by omega))
   have hkd : k < a.data.length := by omega
   have hsl := rightS_slot hR hk2
   have hte : o.ix.toNat = k := by omega
   have hE : effS a o = freeS a k := by simp [effS, hk, hte]
   refine W_regD (by kernel_rfl) [4] 4 [0,1,3,2,4,5] (by decide +kernel) ?_
   iterate 3 refine xO ?_
   refine run_inl0 rfl rfl rfl rfl (by simp; exact .mk) ⟨_, Try.func42, rfl, rfl⟩ (in42g g (.var 26 [.d (rI a.gens), .d (rBB a.data), .d (rR a.roots)]) (.var 31 [.d (vI o.act), .d (vI o.ix), .d (vI o.gen), .d (vI o.n), .d (vI o.off), .d (rB o.b), .d (vS o.name)]) (.var 26 [.d (.v (.slice none 0 0)), .d (.v (.slice none 0 0)), .d (.v (.slice none 0 0))]) (.var 38 [.d (vI 0), .d (vI 0), .d (.v (.slice none 0 0))]) a o hgd hn 85 hk) (.inr ⟨_, rfl⟩) ?_
   refine run_inl0 rfl rfl rfl rfl (by simp; exact .mk) ⟨_, Try.func85, rfl, rfl⟩ (in85 g (.var 26 [.d (rI a.gens), .d (rBB a.data), .d (rR a.roots)]) (.var 31 [.d (vI o.act), .d (vI o.ix), .d (vI o.gen), .d (vI o.n), .d (vI o.off), .d (rB o.b), .d (vS o.name)]) (.var 26 [.d (.v (.slice none 0 0)), .d (.v (.slice none 0 0)), .d (.v (.slice none 0 0))]) (.var 38 [.d (vI 0), .d (vI 0), .d (.v (.slice none 0 0))]) (.var 31 [.d (vI o.act), .d (vI o.ix), .d (vI o.gen), .d (vI o.n), .d (vI o.off), .d (rB o.b), .d (vS o.name)]) a o (fun m => by simp) ha k hix hkd hk2 ⟨hsl.1, hsl.2.1⟩) (.inl (by simp)) ?_
   refine xO ?_
   refine xG [4,5,7,8] ?_
   iterate 2 refine xO ?_
   refine xF [4,5,7,8,24] ?_
   refine W_cond rfl ?_ ?_
   · intro h24
     have hdo := doS_fail (o := o) hR (by rw [hE]; simpa using h24)
     refine xU ?_
     iterate 2 (refine xO ?_ (h := by simp [splice]; exact .mk))
     refine xO ?_
     iterate 2 (refine xO ?_ (h := by simp [splice]; exact .mk))
     refine xO ?_
     refine xF [4,5,6] ?_
     refine W_ret (xR (by simp [Try.f14]; exact .mk) ?_)
     first | (simp [Try.f14, hdo, hE, failS, zAbs, oAbs, ownR]; done) | (simp [Try.f14, hdo, hE, failS, zAbs, oAbs, ownR, he0]; done) | (simp [Try.f14, hdo, hE, failS, zAbs, oAbs, ownR, he0, hE2]; done) | (exfalso; first | (simp at h24; done) | (simp at h24; omega))
   intro h24
   have he0 : (effS a o).e = 0 := by rw [hE]; first | (simpa using h24; done) | exact hE2.2.2.2
   have hdo := doS_ok (o := o) hR he0
   rw [hE] at he0 hdo
   refine W_skip ?_
   rintro -
   refine W_seq ?_
   refine W_regD2 (hard := []) 7 8 (keepOk_lt (by decide)) (by kernel_rfl) 4 [0,1,2,3,4,5,6,7,8,9,10] [0,1,2,3,4,5,6,8,7,9,10] (by decide +kernel) (by decide +kernel) ?_ ?_
   · skip
     iterate 8 refine xO ?_
     iterate 2 (refine xO ?_ (h := by simp [splice]; exact .mk))
     refine xO ?_
     refine xF [4,5,6] ?_
     refine W_ret (xR (by simp [Try.f14]; exact .mk) ?_)
     first | (simp [Try.f14, hdo, hE, failS, zAbs, oAbs, ownR]; done) | (simp [Try.f14, hdo, hE, failS, zAbs, oAbs, ownR, he0]; done) | (simp [Try.f14, hdo, hE, failS, zAbs, oAbs, ownR, he0, hE2]; done) | (exfalso; first | (simp at h24; done) | (simp at h24; omega))
   skip
   iterate 7 refine xO ?_
   refine xO ?_ (h := by simp [splice]; exact .mk)
   refine xO ?_
   refine xO ?_ (h := by simp [splice]; exact .mk)
   refine xO ?_
   refine xF [4,5,6] ?_
   refine W_ret (xR (by simp [Try.f14]; exact .mk) ?_)
   first | (simp [Try.f14, hdo, hE, failS, zAbs, oAbs, ownR]; done) | (simp [Try.f14, hdo, hE, failS, zAbs, oAbs, ownR, he0]; done) | (simp [Try.f14, hdo, hE, failS, zAbs, oAbs, ownR, he0, hE2]; done) | (exfalso; first | (simp at h24; done) | (simp at h24; omega))
 · skip
   obtain ⟨k, hix, hk2, hk3, hk4⟩ := goodS_nat (kindS_good (a := a) (o := o) (by omega))
   have hkd : k < a.data.length := by omega
   have hsl := rightS_slot hR hk2
   have hte : o.ix.toNat = k := by omega
   have hE : effS a o = resizeS a k o.n := by simp [effS, hk, hte]
   refine W_regD (by kernel_rfl) [4] 4 [0,1,3,2,4,5] (by decide +kernel) ?_
   iterate 3 refine xO ?_
   refine run_inl0 rfl rfl rfl rfl (by simp; exact .mk) ⟨_, Try.func42, rfl, rfl⟩ (in42g g (.var 26 [.d (rI a.gens), .d (rBB a.data), .d (rR a.roots)]) (.var 31 [.d (vI o.act), .d (vI o.ix), .d (vI o.gen), .d (vI o.n), .d (vI o.off), .d (rB o.b), .d (vS o.name)]) (.var 26 [.d (.v (.slice none 0 0)), .d (.v (.slice none 0 0)), .d (.v (.slice none 0 0))]) (.var 38 [.d (vI 0), .d (vI 0), .d (.v (.slice none 0 0))]) a o hgd hn 86 hk) (.inr ⟨_, rfl⟩) ?_
   refine run_inl0 rfl rfl rfl rfl (by simp; exact .mk) ⟨_, Try.func86, rfl, rfl⟩ (in86 g (.var 26 [.d (rI a.gens), .d (rBB a.data), .d (rR a.roots)]) (.var 31 [.d (vI o.act), .d (vI o.ix), .d (vI o.gen), .d (vI o.n), .d (vI o.off), .d (rB o.b), .d (vS o.name)]) (.var 26 [.d (.v (.slice none 0 0)), .d (.v (.slice none 0 0)), .d (.v (.slice none 0 0))]) (.var 38 [.d (vI 0), .d (vI 0), .d (.v (.slice none 0 0))]) (.var 31 [.d (vI o.act), .d (vI o.ix), .d (vI o.gen), .d (vI o.n), .d (vI o.off), .d (rB o.b), .d (vS o.name)]) a o (fun m => by simp) ha k hix hkd (by omega)) (.inl (by simp)) ?_
   refine xO ?_
   refine xG [4,5,7,8] ?_
   iterate 2 refine xO ?_
   refine xF [4,5,7,8,24] ?_
   refine W_cond rfl ?_ ?_
   · intro h24
     have hdo := doS_fail (o := o) hR (by rw [hE]; simpa using h24)
     refine xU ?_
     iterate 2 (refine xO ?_ (h := by simp [splice]; exact .mk))
     refine xO ?_
     iterate 2 (refine xO ?_ (h := by simp [splice]; exact .mk))
     refine xO ?_
     refine xF [4,5,6] ?_
     refine W_ret (xR (by simp [Try.f14]; exact .mk) ?_)
     first | (simp [Try.f14, hdo, hE, failS, zAbs, oAbs, ownR]; done) | (simp [Try.f14, hdo, hE, failS, zAbs, oAbs, ownR, he0]; done) | (simp [Try.f14, hdo, hE, failS, zAbs, oAbs, ownR, he0, hE2]; done) | (exfalso; first | (simp at h24; done) | (simp at h24; omega))
   intro h24
   have he0 : (effS a o).e = 0 := by rw [hE]; first | (simpa using h24; done) | exact hE2.2.2.2
   have hdo := doS_ok (o := o) hR he0
   rw [hE] at he0 hdo
   refine W_skip ?_
   rintro -
   refine W_seq ?_
   refine W_regD2 (hard := []) 7 8 (keepOk_lt (by decide)) (by kernel_rfl) 4 [0,1,2,3,4,5,6,7,8,9,10] [0,1,2,3,4,5,6,8,7,9,10] (by decide +kernel) (by decide +kernel) ?_ ?_
   · skip
     iterate 8 refine xO ?_
     iterate 2 (refine xO ?_ (h := by simp [splice]; exact .mk))
     refine xO ?_
     refine xF [4,5,6] ?_
     refine W_ret (xR (by simp [Try.f14]; exact .mk) ?_)
     first | (simp [Try.f14, hdo, hE, failS, zAbs, oAbs, ownR]; done) | (simp [Try.f14, hdo, hE, failS, zAbs, oAbs, ownR, he0]; done) | (simp [Try.f14, hdo, hE, failS, zAbs, oAbs, ownR, he0, hE2]; done) | (exfalso; first | (simp at h24; done) | (simp at h24; omega))
   skip
   iterate 7 refine xO ?_
   refine xO ?_ (h := by simp [splice]; exact .mk)
   refine xO ?_
   refine xO ?_ (h := by simp [splice]; exact .mk)
   refine xO ?_
   refine xF [4,5,6] ?_
   refine W_ret (xR (by simp [Try.f14]; exact .mk) ?_)
   first | (simp [Try.f14, hdo, hE, failS, zAbs, oAbs, ownR]; done) | (simp [Try.f14, hdo, hE, failS, zAbs, oAbs, ownR, he0]; done) | (simp [Try.f14, hdo, hE, failS, zAbs, oAbs, ownR, he0, hE2]; done) | (exfalso; first | (simp at h24; done) | (simp at h24; omega))
 · skip
   obtain ⟨k, hix, hk2, hk3, hk4⟩ := goodS_nat (kindS_good (a := a) (o := o) (by omega))
   have hkd : k < a.data.length := by omega
   have hsl := rightS_slot hR hk2
   have hte : o.ix.toNat = k := by omega
   rw [hte] at hq
   have hE : effS a o = readS a k o.off o.n := by simp [effS, hk, hte]
   have hE2 : (readS a k o.off o.n).a = a ∧ (readS a k o.off o.n).ix = 0 ∧ (readS a k o.off o.n).gen = 0 ∧ (readS a k o.off o.n).e = 0 := by simp [readS, hq]
   refine W_regD (by kernel_rfl) [4] 4 [0,1,3,2,4,5] (by decide +kernel) ?_
   iterate 3 refine xO ?_
   refine run_inl0 rfl rfl rfl rfl (by simp; exact .mk) ⟨_, Try.func42, rfl, rfl⟩ (in42g g (.var 26 [.d (rI a.gens), .d (rBB a.data), .d (rR a.roots)]) (.var 31 [.d (vI o.act), .d (vI o.ix), .d (vI o.gen), .d (vI o.n), .d (vI o.off), .d (rB o.b), .d (vS o.name)]) (.var 26 [.d (.v (.slice none 0 0)), .d (.v (.slice none 0 0)), .d (.v (.slice none 0 0))]) (.var 38 [.d (vI 0), .d (vI 0), .d (.v (.slice none 0 0))]) a o hgd hn 87 hk) (.inr ⟨_, rfl⟩) ?_
   refine run_inl0 rfl rfl rfl rfl (by simp; exact .mk) ⟨_, Try.func87, rfl, rfl⟩ (in87 g (.var 26 [.d (rI a.gens), .d (rBB a.data), .d (rR a.roots)]) (.var 31 [.d (vI o.act), .d (vI o.ix), .d (vI o.gen), .d (vI o.n), .d (vI o.off), .d (rB o.b), .d (vS o.name)]) (.var 26 [.d (.v (.slice none 0 0)), .d (.v (.slice none 0 0)), .d (.v (.slice none 0 0))]) (.var 38 [.d (vI 0), .d (vI 0), .d (.v (.slice none 0 0))]) (.var 31 [.d (vI o.act), .d (vI o.ix), .d (vI o.gen), .d (vI o.n), .d (vI o.off), .d (rB o.b), .d (vS o.name)]) a o (fun m => by simp) ha k hix hkd (by omega) hq) (.inl (by simp)) ?_
   refine xO ?_
   refine xG [4,5,7,8] ?_
   iterate 2 refine xO ?_
   refine xF [4,5,7,8,24] ?_
   refine W_cond rfl ?_ ?_
   · intro h24
     have hdo := doS_fail (o := o) hR (by rw [hE]; simpa using h24)
     refine xU ?_
     iterate 2 (refine xO ?_ (h := by simp [splice]; exact .mk))
     refine xO ?_
     iterate 2 (refine xO ?_ (h := by simp [splice]; exact .mk))
     refine xO ?_
     refine xF [4,5,6] ?_
     refine W_ret (xR (by simp [Try.f14]; exact .mk) ?_)
     first | (simp [Try.f14, hdo, hE, failS, zAbs, oAbs, ownR]; done) | (simp [Try.f14, hdo, hE, failS, zAbs, oAbs, ownR, he0]; done) | (simp [Try.f14, hdo, hE, failS, zAbs, oAbs, ownR, he0, hE2]; done) | (exfalso; first | (simp at h24; done) | (simp at h24; omega))
   intro h24
   have he0 : (effS a o).e = 0 := by rw [hE]; first | (simpa using h24; done) | exact hE2.2.2.2
   have hdo := doS_ok (o := o) hR he0
   rw [hE] at he0 hdo
   refine W_skip ?_
   rintro -
   refine W_seq ?_
   refine W_regD2 (hard := []) 7 8 (keepOk_lt (by decide)) (by kernel_rfl) 4 [0,1,2,3,4,5,6,7,8,9,10] [0,1,2,3,4,5,6,8,7,9,10] (by decide +kernel) (by decide +kernel) ?_ ?_
   · skip
     iterate 8 refine xO ?_
     iterate 2 (refine xO ?_ (h := by simp [splice]; exact .mk))
     refine xO ?_
     refine xF [4,5,6] ?_
     refine W_ret (xR (by simp [Try.f14]; exact .mk) ?_)
     first | (simp [Try.f14, hdo, hE, failS, zAbs, oAbs, ownR]; done) | (simp [Try.f14, hdo, hE, failS, zAbs, oAbs, ownR, he0]; done) | (simp [Try.f14, hdo, hE, failS, zAbs, oAbs, ownR, he0, hE2]; done) | (exfalso; first | (simp at h24; done) | (simp at h24; omega))
   skip
   iterate 7 refine xO ?_
   refine xO ?_ (h := by simp [splice]; exact .mk)
   refine xO ?_
   refine xO ?_ (h := by simp [splice]; exact .mk)
   refine xO ?_
   refine xF [4,5,6] ?_
   refine W_ret (xR (by simp [Try.f14]; exact .mk) ?_)
   first | (simp [Try.f14, hdo, hE, failS, zAbs, oAbs, ownR]; done) | (simp [Try.f14, hdo, hE, failS, zAbs, oAbs, ownR, he0]; done) | (simp [Try.f14, hdo, hE, failS, zAbs, oAbs, ownR, he0, hE2]; done) | (exfalso; first | (simp at h24; done) | (simp at h24; omega))
 · skip
   obtain ⟨k, hix, hk2, hk3, hk4⟩ := goodS_nat (kindS_good (a := a) (o := o) (by omega))
   have hkd : k < a.data.length := by omega
   have hsl := rightS_slot hR hk2
   have hte : o.ix.toNat = k := by omega
   rw [hte] at hq
   have hE : effS a o = ⟨a, 0, 0, [], 1⟩ := by simp [effS, hk, hte, readS, hq]
   refine W_regD (by kernel_rfl) [4] 4 [0,1,3,2,4,5] (by decide +kernel) ?_
   iterate 3 refine xO ?_
   refine run_inl0 rfl rfl rfl rfl (by simp; exact .mk) ⟨_, Try.func42, rfl, rfl⟩ (in42g g (.var 26 [.d (rI a.gens), .d (rBB a.data), .d (rR a.roots)]) (.var 31 [.d (vI o.act), .d (vI o.ix), .d (vI o.gen), .d (vI o.n), .d (vI o.off), .d (rB o.b), .d (vS o.name)]) (.var 26 [.d (.v (.slice none 0 0)), .d (.v (.slice none 0 0)), .d (.v (.slice none 0 0))]) (.var 38 [.d (vI 0), .d (vI 0), .d (.v (.slice none 0 0))]) a o hgd hn 87 hk) (.inr ⟨_, rfl⟩) ?_
   refine run_inl0 rfl rfl rfl rfl (by simp; exact .mk) ⟨_, Try.func87, rfl, rfl⟩ (in87f g (.var 26 [.d (rI a.gens), .d (rBB a.data), .d (rR a.roots)]) (.var 31 [.d (vI o.act), .d (vI o.ix), .d (vI o.gen), .d (vI o.n), .d (vI o.off), .d (rB o.b), .d (vS o.name)]) (.var 26 [.d (.v (.slice none 0 0)), .d (.v (.slice none 0 0)), .d (.v (.slice none 0 0))]) (.var 38 [.d (vI 0), .d (vI 0), .d (.v (.slice none 0 0))]) (.var 31 [.d (vI o.act), .d (vI o.ix), .d (vI o.gen), .d (vI o.n), .d (vI o.off), .d (rB o.b), .d (vS o.name)]) a o (fun m => by simp) ha k hix hkd (by omega) hq) (.inl (by simp)) ?_
   refine xO ?_
   refine xG [4,5,7,8] ?_
   iterate 2 refine xO ?_
   refine xF [4,5,7,8,24] ?_
   refine W_cond rfl ?_ ?_
   · intro h24
     have hdo := doS_fail (o := o) hR (by rw [hE]; simpa using h24)
     refine xU ?_
     iterate 2 (refine xO ?_ (h := by simp [splice]; exact .mk))
     refine xO ?_
     iterate 2 (refine xO ?_ (h := by simp [splice]; exact .mk))
     refine xO ?_
     refine xF [4,5,6] ?_
     refine W_ret (xR (by simp [Try.f14]; exact .mk) ?_)
     first | (simp [Try.f14, hdo, hE, failS, zAbs, oAbs, ownR]; done) | (simp [Try.f14, hdo, hE, failS, zAbs, oAbs, ownR, he0]; done) | (simp [Try.f14, hdo, hE, failS, zAbs, oAbs, ownR, he0, hE2]; done) | (exfalso; first | (simp at h24; done) | (simp at h24; omega))
   intro h24
   have he0 : (effS a o).e = 0 := by rw [hE]; first | (simpa using h24; done) | exact hE2.2.2.2
   have hdo := doS_ok (o := o) hR he0
   rw [hE] at he0 hdo
   refine W_skip ?_
   rintro -
   refine W_seq ?_
   refine W_regD2 (hard := []) 7 8 (keepOk_lt (by decide)) (by kernel_rfl) 4 [0,1,2,3,4,5,6,7,8,9,10] [0,1,2,3,4,5,6,8,7,9,10] (by decide +kernel) (by decide +kernel) ?_ ?_
   · skip
     iterate 8 refine xO ?_
     iterate 2 (refine xO ?_ (h := by simp [splice]; exact .mk))
     refine xO ?_
     refine xF [4,5,6] ?_
     refine W_ret (xR (by simp [Try.f14]; exact .mk) ?_)
     first | (simp [Try.f14, hdo, hE, failS, zAbs, oAbs, ownR]; done) | (simp [Try.f14, hdo, hE, failS, zAbs, oAbs, ownR, he0]; done) | (simp [Try.f14, hdo, hE, failS, zAbs, oAbs, ownR, he0, hE2]; done) | (exfalso; first | (simp at h24; done) | (simp at h24; omega))
   skip
   iterate 7 refine xO ?_
   refine xO ?_ (h := by simp [splice]; exact .mk)
   refine xO ?_
   refine xO ?_ (h := by simp [splice]; exact .mk)
   refine xO ?_
   refine xF [4,5,6] ?_
   refine W_ret (xR (by simp [Try.f14]; exact .mk) ?_)
   first | (simp [Try.f14, hdo, hE, failS, zAbs, oAbs, ownR]; done) | (simp [Try.f14, hdo, hE, failS, zAbs, oAbs, ownR, he0]; done) | (simp [Try.f14, hdo, hE, failS, zAbs, oAbs, ownR, he0, hE2]; done) | (exfalso; first | (simp at h24; done) | (simp at h24; omega))
 · skip
   obtain ⟨k, hix, hk2, hk3, hk4⟩ := goodS_nat (kindS_good (a := a) (o := o) (by omega))
   have hkd : k < a.data.length := by omega
   have hsl := rightS_slot hR hk2
   have hte : o.ix.toNat = k := by omega
   have hE : effS a o = writeS a k o.off o.b := by simp [effS, hk, hte]
   refine W_regDK rfl (by kernel_rfl) [1004] 4 [0,1,3,2,4,5] (by decide +kernel) ?_
   iterate 3 refine xO ?_
   refine run_inl0 rfl rfl rfl rfl (by simp; exact .mk) ⟨_, Try.func42, rfl, rfl⟩ (in42g g (.var 26 [.d (rI a.gens), .d (rBB a.data), .d (rR a.roots)]) (.var 31 [.d (vI o.act), .d (vI o.ix), .d (vI o.gen), .d (vI o.n), .d (vI o.off), .d (rB o.b), .d (vS o.name)]) (.var 26 [.d (.v (.slice none 0 0)), .d (.v (.slice none 0 0)), .d (.v (.slice none 0 0))]) (.var 38 [.d (vI 0), .d (vI 0), .d (.v (.slice none 0 0))]) a o hgd hn 88 hk) (.inr ⟨_, rfl⟩) ?_
   refine run_inlK rfl rfl rfl rfl (by simp; exact .mk) ⟨_, Try.func88, rfl, rfl⟩ (fixS_put (by simp) (fixS_put (by simp) (fixS_put (by simp) (fixS_put (by simp) (fixS_slots (by simp)))))) (in88 g (.var 26 [.d (rI a.gens), .d (rBB a.data), .d (rR a.roots)]) (.var 31 [.d (vI o.act), .d (vI o.ix), .d (vI o.gen), .d (vI o.n), .d (vI o.off), .d (rB o.b), .d (vS o.name)]) (.var 26 [.d (.v (.slice none 0 0)), .d (.v (.slice none 0 0)), .d (.v (.slice none 0 0))]) (.var 38 [.d (vI 0), .d (vI 0), .d (.v (.slice none 0 0))]) (.var 31 [.d (vI o.act), .d (vI o.ix), .d (vI o.gen), .d (vI o.n), .d (vI o.off), .d (rB o.b), .d (vS o.name)]) a o (fun m => by simp) ha k hix hkd (by omega) (by simp) hob _ rfl) (by simp) (by decide) ?_
   refine xO ?_
   refine xG [4,5,7,8] ?_
   iterate 2 refine xO ?_
   refine xF [4,5,7,8,24] ?_
   refine W_cond rfl ?_ ?_
   · intro h24
     have hdo := doS_fail (o := o) hR (by rw [hE]; simpa using h24)
     refine xU ?_
     iterate 2 (refine xO ?_ (h := by simp [splice]; exact .mk))
     refine xO ?_
     iterate 2 (refine xO ?_ (h := by simp [splice]; exact .mk))
     refine xO ?_
     refine xF [4,5,6] ?_
     refine W_ret (xR (by simp [Try.f14]; exact .mk) ?_)
     first | (simp [Try.f14, hdo, hE, failS, zAbs, oAbs, ownR]; done) | (simp [Try.f14, hdo, hE, failS, zAbs, oAbs, ownR, he0]; done) | (simp [Try.f14, hdo, hE, failS, zAbs, oAbs, ownR, he0, hE2]; done) | (exfalso; first | (simp at h24; done) | (simp at h24; omega))
   intro h24
   have he0 : (effS a o).e = 0 := by rw [hE]; first | (simpa using h24; done) | exact hE2.2.2.2
   have hdo := doS_ok (o := o) hR he0
   rw [hE] at he0 hdo
   refine W_skip ?_
   rintro -
   refine W_seq ?_
   refine W_regD2 (hard := []) 7 8 (keepOk_lt (by decide)) (by kernel_rfl) 4 [0,1,2,3,4,5,6,7,8,9,10] [0,1,2,3,4,5,6,8,7,9,10] (by decide +kernel) (by decide +kernel) ?_ ?_
   · skip
     iterate 8 refine xO ?_
     iterate 2 (refine xO ?_ (h := by simp [splice]; exact .mk))
     refine xO ?_
     refine xF [4,5,6] ?_
     refine W_ret (xR (by simp [Try.f14]; exact .mk) ?_)
     first | (simp [Try.f14, hdo, hE, failS, zAbs, oAbs, ownR]; done) | (simp [Try.f14, hdo, hE, failS, zAbs, oAbs, ownR, he0]; done) | (simp [Try.f14, hdo, hE, failS, zAbs, oAbs, ownR, he0, hE2]; done) | (exfalso; first | (simp at h24; done) | (simp at h24; omega))
   skip
   iterate 7 refine xO ?_
   refine xO ?_ (h := by simp [splice]; exact .mk)
   refine xO ?_
   refine xO ?_ (h := by simp [splice]; exact .mk)
   refine xO ?_
   refine xF [4,5,6] ?_
   refine W_ret (xR (by simp [Try.f14]; exact .mk) ?_)
   first | (simp [Try.f14, hdo, hE, failS, zAbs, oAbs, ownR]; done) | (simp [Try.f14, hdo, hE, failS, zAbs, oAbs, ownR, he0]; done) | (simp [Try.f14, hdo, hE, failS, zAbs, oAbs, ownR, he0, hE2]; done) | (exfalso; first | (simp at h24; done) | (simp at h24; omega))
 skip
 have hE : effS a o = ⟨a, 0, 0, [], e⟩ := by
  have h1 : kindS a o ≠ 81 ∧ kindS a o ≠ 82 ∧ kindS a o ≠ 85 ∧ kindS a o ≠ 86 ∧ kindS a o ≠ 87 ∧ kindS a o ≠ 88 := by omega
  unfold effS
  rw [if_neg h1.1, if_neg h1.2.1, if_neg h1.2.2.1, if_neg h1.2.2.2.1, if_neg h1.2.2.2.2.1, if_neg h1.2.2.2.2.2, hk]
  simp
 refine W_regD (by kernel_rfl) [4] 4 [0,1,3,2,4,5] (by decide +kernel) ?_
 iterate 3 refine xO ?_
 refine run_inl0 rfl rfl rfl rfl (by simp; exact .mk) ⟨_, Try.func42, rfl, rfl⟩ (in42b g (.var 26 [.d (rI a.gens), .d (rBB a.data), .d (rR a.roots)]) (.var 31 [.d (vI o.act), .d (vI o.ix), .d (vI o.gen), .d (vI o.n), .d (vI o.off), .d (rB o.b), .d (vS o.name)]) (.var 26 [.d (.v (.slice none 0 0)), .d (.v (.slice none 0 0)), .d (.v (.slice none 0 0))]) (.var 38 [.d (vI 0), .d (vI 0), .d (.v (.slice none 0 0))]) a o hgd hn e he hk) (.inr ⟨_, rfl⟩) ?_
 refine run_inl0 rfl rfl rfl rfl (by simp; exact .mk) ⟨_, Try.func80, rfl, rfl⟩ (in80 g (.var 26 [.d (rI a.gens), .d (rBB a.data), .d (rR a.roots)]) (.var 31 [.d (vI o.act), .d (vI o.ix), .d (vI o.gen), .d (vI o.n), .d (vI o.off), .d (rB o.b), .d (vS o.name)]) (.var 26 [.d (.v (.slice none 0 0)), .d (.v (.slice none 0 0)), .d (.v (.slice none 0 0))]) (.var 38 [.d (vI 0), .d (vI 0), .d (.v (.slice none 0 0))]) (.var 31 [.d (vI o.act), .d (vI o.ix), .d (vI o.gen), .d (vI o.n), .d (vI o.off), .d (rB o.b), .d (vS o.name)]) a o e (fun m => by simp)) (.inl (by simp)) ?_
 refine xO ?_
 refine xG [4,5,7,8] ?_
 iterate 2 refine xO ?_
 refine xF [4,5,7,8,24] ?_
 refine W_cond rfl ?_ ?_
 · intro h24
   have hdo := doS_fail (o := o) hR (by rw [hE]; simpa using h24)
   refine xU ?_
   iterate 2 (refine xO ?_ (h := by simp [splice]; exact .mk))
   refine xO ?_
   iterate 2 (refine xO ?_ (h := by simp [splice]; exact .mk))
   refine xO ?_
   refine xF [4,5,6] ?_
   refine W_ret (xR (by simp [Try.f14]; exact .mk) ?_)
   first | (simp [Try.f14, hdo, hE, failS, zAbs, oAbs, ownR]; done) | (simp [Try.f14, hdo, hE, failS, zAbs, oAbs, ownR, he0]; done) | (simp [Try.f14, hdo, hE, failS, zAbs, oAbs, ownR, he0, hE2]; done) | (exfalso; first | (simp at h24; done) | (simp at h24; omega))
 intro h24
 have he0 : (effS a o).e = 0 := by rw [hE]; first | (simpa using h24; done) | exact hE2.2.2.2
 have hdo := doS_ok (o := o) hR he0
 rw [hE] at he0 hdo
 refine W_skip ?_
 rintro -
 refine W_seq ?_
 refine W_regD2 (hard := []) 7 8 (keepOk_lt (by decide)) (by kernel_rfl) 4 [0,1,2,3,4,5,6,7,8,9,10] [0,1,2,3,4,5,6,8,7,9,10] (by decide +kernel) (by decide +kernel) ?_ ?_
 · skip
   iterate 8 refine xO ?_
   iterate 2 (refine xO ?_ (h := by simp [splice]; exact .mk))
   refine xO ?_
   refine xF [4,5,6] ?_
   refine W_ret (xR (by simp [Try.f14]; exact .mk) ?_)
   first | (simp [Try.f14, hdo, hE, failS, zAbs, oAbs, ownR]; done) | (simp [Try.f14, hdo, hE, failS, zAbs, oAbs, ownR, he0]; done) | (simp [Try.f14, hdo, hE, failS, zAbs, oAbs, ownR, he0, hE2]; done) | (exfalso; first | (simp at h24; done) | (simp at h24; omega))
 skip
 iterate 7 refine xO ?_
 refine xO ?_ (h := by simp [splice]; exact .mk)
 refine xO ?_
 refine xO ?_ (h := by simp [splice]; exact .mk)
 refine xO ?_
 refine xF [4,5,6] ?_
 refine W_ret (xR (by simp [Try.f14]; exact .mk) ?_)
 first | (simp [Try.f14, hdo, hE, failS, zAbs, oAbs, ownR]; done) | (simp [Try.f14, hdo, hE, failS, zAbs, oAbs, ownR, he0]; done) | (simp [Try.f14, hdo, hE, failS, zAbs, oAbs, ownR, he0, hE2]; done) | (exfalso; first | (simp at h24; done) | (simp at h24; omega))

open Go.Awp
theorem ct40 (g : Gl) : CtAt Try.prog g 40 [] (oAbs A0) := by
 refine ctAt_of_W Try.func40 rfl rfl (Nat.le_of_ble_eq_true rfl) fun B S => ?_
 refine W_seq ?_
 refine W_reg rfl ?_
 refine xO ?_ (h := by simp; exact .mk)
 refine run_end [0] (by simp) (by simp; exact .mk) ?_
 rintro -
 refine W_seq ?_
 refine W_regDS (hard := []) [0,1,2] (keepOk_lt (by decide)) (by kernel_rfl) 4 [[0,1,2,3,4], [0,2,1,3,4], [1,0,2,3,4], [1,2,0,3,4], [2,0,1,3,4], [2,1,0,3,4]] (by decide +kernel) ⟨?_, ?_, ?_, ?_, ?_, ?_, trivial⟩
 · skip
   iterate 3 (refine xO ?_ (h := by simp; exact .mk))
   iterate 2 (refine xO ?_ (h := by simp [splice]; exact .mk))
   refine run_end [0] (by simp) (by simp; exact .mk) ?_
   rintro -
   refine W_ret (end_ret (by simp [Try.f40]; exact .mk) (by simp; exact .mk) ?_ (by simp))
   simp [Try.f40, oAbs, A0, ownR, eRoot, zRoot]
 · skip
   iterate 3 (refine xO ?_ (h := by simp; exact .mk))
   iterate 2 (refine xO ?_ (h := by simp [splice]; exact .mk))
   refine run_end [0] (by simp) (by simp; exact .mk) ?_
   rintro -
   refine W_ret (end_ret (by simp [Try.f40]; exact .mk) (by simp; exact .mk) ?_ (by simp))
   simp [Try.f40, oAbs, A0, ownR, eRoot, zRoot]
 · skip
   iterate 3 (refine xO ?_ (h := by simp; exact .mk))
   iterate 2 (refine xO ?_ (h := by simp [splice]; exact .mk))
   refine run_end [0] (by simp) (by simp; exact .mk) ?_
   rintro -
   refine W_ret (end_ret (by simp [Try.f40]; exact .mk) (by simp; exact .mk) ?_ (by simp))
   simp [Try.f40, oAbs, A0, ownR, eRoot, zRoot]
 · skip
   iterate 3 (refine xO ?_ (h := by simp; exact .mk))
   iterate 2 (refine xO ?_ (h := by simp [splice]; exact .mk))
   refine run_end [0] (by simp) (by simp; exact .mk) ?_
   rintro -
   refine W_ret (end_ret (by simp [Try.f40]; exact .mk) (by simp; exact .mk) ?_ (by simp))
   simp [Try.f40, oAbs, A0, ownR, eRoot, zRoot]
 · skip
   iterate 3 (refine xO ?_ (h := by simp; exact .mk))
   iterate 2 (refine xO ?_ (h := by simp [splice]; exact .mk))
   refine run_end [0] (by simp) (by simp; exact .mk) ?_
   rintro -
   refine W_ret (end_ret (by simp [Try.f40]; exact .mk) (by simp; exact .mk) ?_ (by simp))
   simp [Try.f40, oAbs, A0, ownR, eRoot, zRoot]
 skip
 iterate 3 (refine xO ?_ (h := by simp; exact .mk))
 iterate 2 (refine xO ?_ (h := by simp [splice]; exact .mk))
 refine run_end [0] (by simp) (by simp; exact .mk) ?_
 rintro -
 refine W_ret (end_ret (by simp [Try.f40]; exact .mk) (by simp; exact .mk) ?_ (by simp))
 simp [Try.f40, oAbs, A0, ownR, eRoot, zRoot]

theorem ct10 (g : Gl) (a : Abs) : CtAt Try.prog g 10 [eAbs a] (.v (.bool (fewS a))) := by
 refine ctAt_of_W Try.func10 rfl rfl (Nat.le_of_ble_eq_true rfl) fun B S => ?_
 simp only [eAbs, List.map, argD_agg]
 refine W_seq ?_
 refine W_reg rfl ?_
 iterate 2 (refine xO ?_ (h := by simp; exact .mk))
 refine run_end [1] (by simp) (by simp; exact .mk) ?_
 rintro -
 refine W_seq (W_seq ?_)
 refine W_reg rfl ?_
 refine xO ?_ (h := by simp; exact .mk)
 refine run_end [1,3] (by simp) (by simp; exact .mk) ?_
 rintro -
 refine W_block (W_rounds (fun m σ r => ∃ i : Nat, m = 100 - i ∧ i ≤ min a.data.length 100 ∧ (∀ j, j < i → decide (((nth a.data j).length : Int) ≤ 4096) = true) ∧ σ = slots [(1, .ptr 0 0 0), (3, .d (vI i))] ∧ r = [.var 26 [.d (rI a.gens), .d (rBB a.data), .d (rR a.roots)]]) 100 .refl ⟨0, by simp, by simp, by simp, rfl, rfl⟩ ?_)
 rintro m σ r ⟨i, rfl, hi, hinv, rfl, rfl⟩ _
 refine W_seq (W_seq ?_)
 refine W_reg rfl ?_
 iterate 2 (refine xO ?_ (h := by simp; exact .mk))
 refine xO ?_ (h := by simp [eRoot]; exact .mk)
 iterate 3 (refine xO ?_ (h := by simp; exact .mk))
 iterate 2 (refine run_if rfl (by simp; exact .mk) rfl (by simp <;> omega) (fun hb => by simp; exact .mk) ?_)
 refine run_pick rfl (by simp; exact .mk) rfl rfl (by simp) (by simp; exact .mk) (by simp; exact .mk) (by simp; exact .mk) ?_
 refine run_end [1,3,13] (by simp <;> omega) (by simp; exact .mk) ?_
 rintro -
 refine W_cond rfl ?_ ?_
 · intro h13
   have h1 : i < a.data.length ∧ i < 100 := by simp at h13; omega
   have h2 := h1.1
   refine W_skip ?_
   rintro -
   refine W_seq (W_block ?_)
   refine W_seq ?_
   refine W_reg rfl ?_
   refine xO ?_ (h := by simp; exact .mk)
   refine xO ?_ (h := by simp [eRoot]; exact .mk)
   refine xO ?_ (h := by simp; exact .mk)
   refine xO ?_ (h := by simp [eRoot, h2]; exact .mk)
   refine xO ?_ (h := by simp [eRoot]; exact .mk)
   iterate 2 (refine xO ?_ (h := by simp; exact .mk))
   refine run_end [1,3,22] (by simp) (by simp; exact .mk) ?_
   rintro -
   refine W_cond rfl ?_ ?_
   · intro h22
     have hr : fewS a = false := by
      have : (List.range (min a.data.length 100)).all (fun i => decide (((nth a.data i).length : Int) ≤ 4096)) = false := all_bad (i := i) (by omega) (by simpa using h22)
      simp [fewS, this]
     refine W_seq ?_
     refine W_reg rfl ?_
     refine xO ?_ (h := by simp; exact .mk)
     refine run_end [2] (by simp) (by simp; exact .mk) ?_
     rintro -
     refine W_ret (end_ret (by simp [Try.f10]; exact .mk) (by simp; exact .mk) ?_ (by simp))
     simp [Try.f10, hr, Bool.and_assoc]
   intro h22
   refine W_skip ?_
   rintro -
   refine W_reg rfl ?_
   iterate 3 (refine xO ?_ (h := by simp; exact .mk))
   refine run_end [1,3] (by simp) (by simp; exact .mk) ?_
   refine rounds_kill [1,3] ?_
   refine rounds_next (m' := 100 - (i+1)) (by omega) ⟨i+1, rfl, by omega, ?_, ?_, rfl⟩
   · intro j hj
     rcases Nat.lt_succ_iff_lt_or_eq.1 hj with hj | rfl
     · exact hinv j hj
     simpa using h22
   rw [wrap64 (by omega) (by omega)]; rfl
 intro h13
 have hi2 : i = min a.data.length 100 := by simp at h13; omega
 have hA : (List.range (min a.data.length 100)).all (fun i => decide (((nth a.data i).length : Int) ≤ 4096)) = true := all_good (fun j hj => hinv j (by omega))
 clear hinv hi hi2 h13
 refine W_exit ?_
 rintro -
 refine W_seq (W_seq ?_)
 refine W_reg rfl ?_
 refine xO ?_ (h := by simp; exact .mk)
 refine run_end [1,4] (by simp) (by simp; exact .mk) ?_
 rintro -
 refine W_block (W_rounds (fun m σ r => ∃ i : Nat, m = 100 - i ∧ i ≤ min a.roots.length 100 ∧ (∀ j, j < i → decide (((nth a.roots j).name.size : Int) ≤ 1024) = true) ∧ σ = slots [(1, .ptr 0 0 0), (4, .d (vI i))] ∧ r = [.var 26 [.d (rI a.gens), .d (rBB a.data), .d (rR a.roots)]]) 100 .refl ⟨0, by simp, by simp, by simp, rfl, rfl⟩ ?_)
 rintro m σ r ⟨i, rfl, hi, hinv, rfl, rfl⟩ _
 refine W_seq (W_seq ?_)
 refine W_reg rfl ?_
 iterate 2 (refine xO ?_ (h := by simp; exact .mk))
 refine xO ?_ (h := by simp [eRoot]; exact .mk)
 iterate 3 (refine xO ?_ (h := by simp; exact .mk))
 iterate 2 (refine run_if rfl (by simp; exact .mk) rfl (by simp <;> omega) (fun hb => by simp; exact .mk) ?_)
 refine run_pick rfl (by simp; exact .mk) rfl rfl (by simp) (by simp; exact .mk) (by simp; exact .mk) (by simp; exact .mk) ?_
 refine run_end [1,4,31] (by simp <;> omega) (by simp; exact .mk) ?_
 rintro -
 refine W_cond rfl ?_ ?_
 · intro h31
   have h1 : i < a.roots.length ∧ i < 100 := by simp at h31; omega
   have h2 := h1.1
   refine W_skip ?_
   rintro -
   refine W_seq (W_block ?_)
   refine W_seq ?_
   refine W_reg rfl ?_
   refine xO ?_ (h := by simp; exact .mk)
   refine xO ?_ (h := by simp [eRoot]; exact .mk)
   refine xO ?_ (h := by simp; exact .mk)
   refine xO ?_ (h := by simp [eRoot, *]; exact .mk)
   refine xO ?_ (h := by simp; exact .mk)
   refine xO ?_ (h := by simp [eRoot]; exact .mk)
   iterate 2 (refine xO ?_ (h := by simp; exact .mk))
   refine run_end [1,4,41] (by simp) (by simp; exact .mk) ?_
   rintro -
   refine W_cond rfl ?_ ?_
   · intro h41
     have hr : fewS a = false := by
      have : (List.range (min a.roots.length 100)).all (fun i => decide (((nth a.roots i).name.size : Int) ≤ 1024)) = false := all_bad (i := i) (by omega) (by simpa using h41)
      simp [fewS, hA, this]
     refine W_seq ?_
     refine W_reg rfl ?_
     refine xO ?_ (h := by simp; exact .mk)
     refine run_end [2] (by simp) (by simp; exact .mk) ?_
     rintro -
     refine W_ret (end_ret (by simp [Try.f10]; exact .mk) (by simp; exact .mk) ?_ (by simp))
     simp [Try.f10, hr, Bool.and_assoc]
   intro h41
   refine W_skip ?_
   rintro -
   refine W_reg rfl ?_
   iterate 3 (refine xO ?_ (h := by simp; exact .mk))
   refine run_end [1,4] (by simp) (by simp; exact .mk) ?_
   refine rounds_kill [1,4] ?_
   refine rounds_next (m' := 100 - (i+1)) (by omega) ⟨i+1, rfl, by omega, ?_, ?_, rfl⟩
   · intro j hj
     rcases Nat.lt_succ_iff_lt_or_eq.1 hj with hj | rfl
     · exact hinv j hj
     simpa using h41
   rw [wrap64 (by omega) (by omega)]; rfl
 intro h31
 have hi2 : i = min a.roots.length 100 := by simp at h31; omega
 have hB : (List.range (min a.roots.length 100)).all (fun i => decide (((nth a.roots i).name.size : Int) ≤ 1024)) = true := all_good (fun j hj => hinv j (by omega))
 have hr : fewS a = (decide ((a.data.length : Int) ≤ 60) && (decide ((a.gens.length : Int) ≤ 60) && decide ((a.roots.length : Int) ≤ 60))) := by simp [fewS, hA, hB]
 refine W_exit ?_
 rintro -
 refine W_seq ?_
 refine W_reg rfl ?_
 refine xO ?_ (h := by simp; exact .mk)
 refine xO ?_ (h := by simp [eRoot]; exact .mk)
 iterate 3 (refine xO ?_ (h := by simp; exact .mk))
 refine run_if rfl (by simp; exact .mk) rfl (by simp <;> omega) (fun hb => by simp; exact .mk) ?_
 refine run_if rfl (by simp; exact .mk) rfl (by simp <;> omega) (fun hb => by simp [eRoot]; exact .mk) ?_
 iterate 2 (refine run_if rfl (by simp; exact .mk) rfl (by simp <;> omega) (fun hb => by simp; exact .mk) ?_)
 refine run_pick rfl (by simp; exact .mk) rfl rfl (by simp) (by simp; exact .mk) (by simp; exact .mk) (by simp; exact .mk) ?_
 refine run_op1 rfl rfl rfl (by simp <;> omega) (by simp; exact .mk) ?_
 refine run_if rfl (by simp; exact .mk) rfl (by simp <;> omega) (fun hb => by simp; exact .mk) ?_
 refine run_if rfl (by simp; exact .mk) rfl (by simp <;> omega) (fun hb => by simp [eRoot]; exact .mk) ?_
 iterate 2 (refine run_if rfl (by simp; exact .mk) rfl (by simp <;> omega) (fun hb => by simp; exact .mk) ?_)
 refine run_pick rfl (by simp; exact .mk) rfl rfl (by simp) (by simp; exact .mk) (by simp; exact .mk) (by simp; exact .mk) ?_
 refine run_op1 rfl rfl rfl (by simp <;> omega) (by simp; exact .mk) ?_
 refine run_end [2] (by simp <;> omega) (by simp; exact .mk) ?_
 rintro -
 refine W_ret (end_ret (by simp [Try.f10]; exact .mk) (by simp; exact .mk) ?_ (by simp))
 simp [Try.f10, hr, Bool.and_assoc]

open Go.Awp
theorem ct9 (g : Gl) : CtAt Try.prog g 9 [] (.v (.bool true)) := by
 refine ctAt_of_W Try.func9 rfl rfl (Nat.le_of_ble_eq_true rfl) fun B S => ?_
  
 refine W_seq ?_
 refine W_reg rfl ?_
 refine xO ?_ (h := by simp; exact .mk)
 refine run_end [] (by simp) (by simp; exact .mk) ?_
 rintro -
 refine W_seq ?_
 refine W_reg rfl ?_
 refine xC (ct40 g) ?_ (he := by simp [row_rows, Function.comp_def]; exact .mk) (hi := by simp [oAbs]; exact .mk)
 refine xO ?_ (h := by simp [splice]; exact .mk)
 refine run_call0 rfl rfl rfl rfl (by simp; exact .mk) (by simp [row_rows, Function.comp_def]; exact .mk) (by have := ct14 g A0 (O 1 4 0 []) (by exact ⟨by decide, by decide, by decide, by decide, by decide⟩) (by decide) (by decide); rw [d1] at this; exact this) (by simp) (by simp [oAbs]; exact .mk) ?_
 iterate 6 (refine xO ?_ (h := by simp; exact .mk))
 iterate 2 (refine xO ?_ (h := by simp [splice]; exact .mk))
 refine xO ?_ (h := by simp; exact .mk)
 refine run_end [1,2,3] (by simp) (by simp; exact .mk) ?_
 rintro -
 refine W_seq ?_
 refine W_reg rfl ?_
 iterate 2 (refine xO ?_ (h := by simp; exact .mk))
 refine xO ?_ (h := by simp [splice]; exact .mk)
 refine run_call0 rfl rfl rfl rfl (by simp; exact .mk) (by simp [row_rows, Function.comp_def]; exact .mk) (by have := ct14 g A1 (O 5 0 1 [7]) (by exact ⟨by decide, by decide, by decide, by decide, by decide⟩) (by decide) (by decide); rw [d2] at this; exact this) (by simp) (by simp [oAbs]; exact .mk) ?_
 iterate 6 (refine xO ?_ (h := by simp; exact .mk))
 iterate 2 (refine xO ?_ (h := by simp [splice]; exact .mk))
 refine xO ?_ (h := by simp; exact .mk)
 refine run_end [2,3,4,6] (by simp) (by simp; exact .mk) ?_
 rintro -
 refine W_seq ?_
 refine W_reg rfl ?_
 refine xO ?_ (h := by simp; exact .mk)
 refine xO ?_ (h := by simp [splice]; exact .mk)
 refine run_call0 rfl rfl rfl rfl (by simp; exact .mk) (by simp [row_rows, Function.comp_def]; exact .mk) (by have := ct14 g A2 (O 4 4 0 []) (by exact ⟨by decide, by decide, by decide, by decide, by decide⟩) (by decide) (by decide); rw [d3] at this; exact this) (by simp) (by simp [oAbs]; exact .mk) ?_
 iterate 6 (refine xO ?_ (h := by simp; exact .mk))
 iterate 2 (refine xO ?_ (h := by simp [splice]; exact .mk))
 refine xO ?_ (h := by simp; exact .mk)
 refine run_end [2,3,4,6,8,9] (by simp) (by simp; exact .mk) ?_
 rintro -
 refine W_seq ?_
 refine W_reg rfl ?_
 refine xO ?_ (h := by simp; exact .mk)
 refine xO ?_ (h := by simp [splice]; exact .mk)
 refine run_call0 rfl rfl rfl rfl (by simp; exact .mk) (by simp [row_rows, Function.comp_def]; exact .mk) (by have := ct14 g A2 (O 2 0 0 []) (by exact ⟨by decide, by decide, by decide, by decide, by decide⟩) (by decide) (by decide); rw [d4] at this; exact this) (by simp) (by simp [oAbs]; exact .mk) ?_
 iterate 6 (refine xO ?_ (h := by simp; exact .mk))
 iterate 2 (refine xO ?_ (h := by simp [splice]; exact .mk))
 refine xO ?_ (h := by simp; exact .mk)
 refine run_end [2,3,6,8,9,10,12] (by simp) (by simp; exact .mk) ?_
 rintro -
 refine W_seq ?_
 refine W_reg rfl ?_
 refine xO ?_ (h := by simp; exact .mk)
 refine xO ?_ (h := by simp [splice]; exact .mk)
 refine run_call0 rfl rfl rfl rfl (by simp; exact .mk) (by simp [row_rows, Function.comp_def]; exact .mk) (by have := ct14 g A3 (O 4 0 0 []) (by exact ⟨by decide, by decide, by decide, by decide, by decide⟩) (by decide) (by decide); rw [d5] at this; exact this) (by simp) (by simp [oAbs]; exact .mk) ?_
 iterate 6 (refine xO ?_ (h := by simp; exact .mk))
 iterate 2 (refine xO ?_ (h := by simp [splice]; exact .mk))
 refine xO ?_ (h := by simp; exact .mk)
 refine run_end [2,3,6,8,9,10,12,15] (by simp) (by simp; exact .mk) ?_
 rintro -
 refine W_seq ?_
 refine W_reg rfl ?_
 refine xO ?_ (h := by simp; exact .mk)
 refine xO ?_ (h := by simp [splice]; exact .mk)
 refine run_call0 rfl rfl rfl rfl (by simp; exact .mk) (by simp [row_rows, Function.comp_def]; exact .mk) (by have := ct14 g A3 (O 1 1 0 []) (by exact ⟨by decide, by decide, by decide, by decide, by decide⟩) (by decide) (by decide); rw [d6] at this; exact this) (by simp) (by simp [oAbs]; exact .mk) ?_
 iterate 6 (refine xO ?_ (h := by simp; exact .mk))
 iterate 2 (refine xO ?_ (h := by simp [splice]; exact .mk))
 refine xO ?_ (h := by simp; exact .mk)
 refine run_end [2,3,6,8,9,12,15,17,18] (by simp) (by simp; exact .mk) ?_
 rintro -
 refine W_seq ?_
 refine W_reg rfl ?_
 iterate 3 (refine xO ?_ (h := by simp; exact .mk))
 iterate 2 (refine run_if rfl (by simp; exact .mk) rfl (by simp <;> omega) (fun hb => by simp; exact .mk) ?_)
 refine run_if rfl (by simp; exact .mk) rfl (by simp <;> omega) (fun hb => by simp [splice]; exact .mk) ?_
 refine run_if rfl (by simp; exact .mk) rfl (by simp <;> omega) (fun hb => by simp; exact .mk) ?_
 refine run_pick rfl (by simp; exact .mk) rfl rfl (by simp) (by simp; exact .mk) (by simp; exact .mk) (by simp; exact .mk) ?_
 refine run_op1 rfl rfl rfl (by simp <;> omega) (by simp; exact .mk) ?_
 iterate 2 (refine run_if rfl (by simp; exact .mk) rfl (by simp <;> omega) (fun hb => by simp; exact .mk) ?_)
 refine run_pick rfl (by simp; exact .mk) rfl rfl (by simp) (by simp; exact .mk) (by simp; exact .mk) (by simp; exact .mk) ?_
 refine run_op1 rfl rfl rfl (by simp <;> omega) (by simp; exact .mk) ?_
 iterate 2 (refine run_if rfl (by simp; exact .mk) rfl (by simp <;> omega) (fun hb => by simp; exact .mk) ?_)
 refine run_pick rfl (by simp; exact .mk) rfl rfl (by simp) (by simp; exact .mk) (by simp; exact .mk) (by simp; exact .mk) ?_
 refine run_op1 rfl rfl rfl (by simp <;> omega) (by simp; exact .mk) ?_
 iterate 2 (refine run_if rfl (by simp; exact .mk) rfl (by simp <;> omega) (fun hb => by simp; exact .mk) ?_)
 refine run_if rfl (by simp; exact .mk) rfl (by simp <;> omega) (fun hb => by simp [conv_h4]; exact .mk) ?_
 refine run_if rfl (by simp; exact .mk) rfl (by simp <;> omega) (fun hb => by simp; exact .mk) ?_
 refine run_pick rfl (by simp; exact .mk) rfl rfl (by simp) (by simp; exact .mk) (by simp; exact .mk) (by simp; exact .mk) ?_
 refine run_op1 rfl rfl rfl (by simp <;> omega) (by simp; exact .mk) ?_
 iterate 2 (refine run_if rfl (by simp; exact .mk) rfl (by simp <;> omega) (fun hb => by simp; exact .mk) ?_)
 refine run_pick rfl (by simp; exact .mk) rfl rfl (by simp) (by simp; exact .mk) (by simp; exact .mk) (by simp; exact .mk) ?_
 refine run_op1 rfl rfl rfl (by simp <;> omega) (by simp; exact .mk) ?_
 iterate 2 (refine run_if rfl (by simp; exact .mk) rfl (by simp <;> omega) (fun hb => by simp; exact .mk) ?_)
 refine run_pick rfl (by simp; exact .mk) rfl rfl (by simp) (by simp; exact .mk) (by simp; exact .mk) (by simp; exact .mk) ?_
 refine run_op1 rfl rfl rfl (by simp <;> omega) (by simp; exact .mk) ?_
 iterate 2 (refine run_if rfl (by simp; exact .mk) rfl (by simp <;> omega) (fun hb => by simp; exact .mk) ?_)
 refine run_pick rfl (by simp; exact .mk) rfl rfl (by simp) (by simp; exact .mk) (by simp; exact .mk) (by simp; exact .mk) ?_
 refine run_op1 rfl rfl rfl (by simp <;> omega) (by simp; exact .mk) ?_
 iterate 2 (refine run_if rfl (by simp; exact .mk) rfl (by simp <;> omega) (fun hb => by simp; exact .mk) ?_)
 refine run_if rfl (by simp; exact .mk) rfl (by simp <;> omega) (fun hb => by simp [splice]; exact .mk) ?_
 refine run_if rfl (by simp; exact .mk) rfl (by simp <;> omega) (fun hb => by simp; exact .mk) ?_
 refine run_pick rfl (by simp; exact .mk) rfl rfl (by simp) (by simp; exact .mk) (by simp; exact .mk) (by simp; exact .mk) ?_
 refine run_op1 rfl rfl rfl (by simp <;> omega) (by simp; exact .mk) ?_
 refine run_end [0] (by simp <;> omega) (by simp; exact .mk) ?_
 rintro -
 refine W_ret (end_ret (by simp [Try.f9]; exact .mk) (by simp; exact .mk) ?_ (by simp))
 simp [Try.f9, failS]

set_option maxRecDepth 4000
open Go.Awp
theorem ct4 (g : Gl) (s : Stt) (a b : Abs) : CtAt Try.prog g 4 [eStt s, eAbs a, eAbs b] (.v (.bool true)) := by
 refine ctAt_of_W Try.func4 rfl rfl (Nat.le_of_ble_eq_true rfl) fun B S => ?_
 simp only [eStt, eAbs, List.map, argD_agg, argD_v]
 refine xU ?_
 iterate 4 refine xO ?_
 refine xG [3,4,5] ?_
 refine xC (ct9 g) ?_ (he := by simp [row_rows, Function.comp_def]; exact .mk) (hi := by simp [oAbs]; exact .mk)
 refine xO ?_
 refine xG [3,4,5,7] ?_
 refine xO ?_ (h := by simp [eSlot]; exact .mk)
 refine xC (ct22 g s) ?_ (he := by simp [row_rows, Function.comp_def]; exact .mk) (hi := by simp [oAbs]; exact .mk)
 refine xO ?_
 refine xG [3,4,5,7,8] ?_
 refine xO ?_ (h := by simp [eSlot]; exact .mk)
 refine xC (ct10 g a) ?_ (he := by simp [row_rows, Function.comp_def]; exact .mk) (hi := by simp [oAbs]; exact .mk)
 refine xO ?_
 refine run_if rfl (by simp; exact .mk) rfl (by simp <;> first | omega | grind) (fun hb => by simp [eSlot]; exact .mk) ?_
 refine run_call rfl (by simp; exact .mk) rfl rfl (by simp) (by simp; exact .mk) (by simp [row_rows, Function.comp_def]; exact .mk) (fun hb => ct10 g b) (by simp) (by simp [oAbs]; exact .mk) (by simp) ?_
 refine xP ?_
 refine xB ?_
 refine xF [3,4,5,7,8,9] ?_
 refine W_seq (xU ?_)
 iterate 3 refine xO ?_
 iterate 2 refine xI ?_
 refine xP ?_
 refine xF [3,4,5,7,27] ?_
 refine W_cond rfl ?_ ?_
 · intro h27
   refine xU ?_
   iterate 2 refine xO ?_
   refine xF [6] ?_
   refine W_ret (xR (by simp [Try.f4]; exact .mk) ?_)
   simp [Try.f4]
 intro h27
 have hF : fewStt s = true ∧ fewS a = true ∧ fewS b = true := by simp at h27; grind
 have hs := fewStt_ok hF.1
 have ha := few_ok hF.2.1
 have hb := few_ok hF.2.2
 have ho := ofS_ok hs
 obtain ⟨A, hA⟩ : ∃ A, A = ofS s := ⟨_, rfl⟩
 have c23 := ct23 g s hs
 have c24 := ct24 g s hs
 rw [← hA] at ho c23 c24
 have c16 := ct16 g A A ho
 rw [sameAbs_refl] at c16
 have c27 := ct27 g a a ha
 rw [sameAbs_refl] at c27
 refine W_skip ?_
 refine xT ?_
 refine xO ?_ (h := by simp [eSlot]; exact .mk)
 refine xC (c23) ?_ (he := by simp [row_rows, Function.comp_def]; exact .mk) (hi := by simp [oAbs]; exact .mk)
 refine xO ?_
 refine xO ?_ (h := by simp [splice]; exact .mk)
 refine xG [3,4,5,7,10] ?_
 refine xO ?_ (h := by simp [eSlot]; exact .mk)
 refine xC (c24) ?_ (he := by simp [row_rows, Function.comp_def]; exact .mk) (hi := by simp [oAbs]; exact .mk)
 refine xO ?_
 refine xO ?_ (h := by simp [splice]; exact .mk)
 refine xG [3,4,5,7,10,11] ?_
 iterate 2 (refine xO ?_ (h := by simp [eSlot]; exact .mk))
 refine xC (c16) ?_ (he := by simp [row_rows, Function.comp_def]; exact .mk) (hi := by simp [oAbs]; exact .mk)
 refine xO ?_
 refine xF [3,4,5,7,10,11,12] ?_
 refine W_seq ?_
 have c20 := in20 g [.var 52 [.d (vI s.sh.pages), .d (vI s.sh.slots), .d (vI s.sh.roots), .d (vI s.sh.room), .d (vI s.mode), .d (vI s.base), .d (rSl s.slots), .d (rR s.roots), .d (rBB s.data)], .var 26 [.d (rI a.gens), .d (rBB a.data), .d (rR a.roots)], .var 26 [.d (rI b.gens), .d (rBB b.data), .d (rR b.roots)]] [.var 26 [.hdr 3 0 A.gens.length, .hdr 4 0 A.data.length, .hdr 5 0 A.roots.length], .row 1 (A.gens.map vI), .row 1 (A.data.map oB), .row 3 (A.roots.map eRoot), .var 26 [.hdr 7 0 A.gens.length, .hdr 8 0 A.data.length, .hdr 9 0 A.roots.length]] A ho (by simp) (by simp [eRoot]) (by simp) (by simp)
 simp only [List.cons_append, List.nil_append, List.length_cons, List.length_nil, Nat.zero_add, Nat.reduceAdd] at c20
 refine W_regK rfl [1001] rfl ?_
 refine xO ?_ (h := by simp [eSlot]; exact .mk)
 refine run_inlK rfl rfl rfl rfl (by simp; exact .mk) ⟨_, Try.func20, rfl, rfl⟩ (fixS_put (by simp) (fixS_slots (by simp))) (by simpa using c20) (by simp) (by decide) ?_
 refine xF [3,4,5,7,11,12] ?_
 refine W_seq ?_
 have hq : sttS s = true → rightS A = true := fun h => by rw [hA]; exact of_right h
 have c28 := ct28 g s hs
 have c25 := ct25 g A ho
 rcases Bool.eq_false_or_eq_true (sttS s) with hQ | hQ
 · skip
   rw [hQ] at c28
   rw [hq hQ] at c25
   refine W_regD (by kernel_rfl) [] 12 [0,1,2,3,4,5,7,6,8,9,10,11,13,12,14,15,16,17,18,19,21,22,20,23,24,25,26,27,28,29,30,31,32,33,34,35,36,37,38,39,40,41] (by decide +kernel) ?_
   iterate 2 refine xO ?_
   refine xI ?_
   refine xP ?_
   refine xB ?_
   iterate 2 (refine run_if rfl (by simp; exact .mk) rfl (by simp <;> first | omega | grind) (fun hb => by simp [eSlot]; exact .mk) ?_)
   refine run_call rfl (by simp; exact .mk) rfl rfl (by simp) (by simp; exact .mk) (by simp [row_rows, Function.comp_def]; exact .mk) (fun hb => c23) (by simp) (by simp [oAbs]; exact .mk) (by simp) ?_
   refine run_call rfl (by simp; exact .mk) rfl rfl (by simp) (by simp; exact .mk) (by simp [row_rows, Function.comp_def]; exact .mk) (fun hb => c16) (by simp) (by simp [oAbs]; exact .mk) (by simp) ?_
   refine xP ?_
   refine xB ?_
   iterate 2 (refine run_if rfl (by simp; exact .mk) rfl (by simp <;> first | omega | grind) (fun hb => by simp [eSlot]; exact .mk) ?_)
   refine run_call rfl (by simp; exact .mk) rfl rfl (by simp) (by simp; exact .mk) (by simp [row_rows, Function.comp_def]; exact .mk) (fun hb => ct25 g a ha) (by simp) (by simp [oAbs]; exact .mk) (by simp) ?_
   refine run_call rfl (by simp; exact .mk) rfl rfl (by simp) (by simp; exact .mk) (by simp [row_rows, Function.comp_def]; exact .mk) (fun hb => ct26 g a ha) (by simp) (by simp [oAbs]; exact .mk) (by simp) ?_
   refine xI ?_
   refine xP ?_
   refine xB ?_
   iterate 4 (refine run_if rfl (by simp; exact .mk) rfl (by simp <;> first | omega | grind) (fun hb => by simp [eSlot]; exact .mk) ?_)
   refine run_call rfl (by simp; exact .mk) rfl rfl (by simp) (by simp; exact .mk) (by simp [row_rows, Function.comp_def]; exact .mk) (fun hb => ct27 g a b ha) (by simp) (by simp [oAbs]; exact .mk) (by simp) ?_
   refine run_call rfl (by simp; exact .mk) rfl rfl (by simp) (by simp; exact .mk) (by simp [row_rows, Function.comp_def]; exact .mk) (fun hb => ct16 g a b ha) (by simp) (by simp [oAbs]; exact .mk) (by simp) ?_
   refine xI ?_
   refine xP ?_
   refine xB ?_
   iterate 2 (refine run_if rfl (by simp; exact .mk) rfl (by simp <;> first | omega | grind) (fun hb => by simp [eSlot]; exact .mk) ?_)
   refine run_call rfl (by simp; exact .mk) rfl rfl (by simp) (by simp; exact .mk) (by simp [row_rows, Function.comp_def]; exact .mk) (fun hb => c27) (by simp) (by simp [oAbs]; exact .mk) (by simp) ?_
   refine xP ?_
   refine xB ?_
   refine run_if rfl (by simp; exact .mk) rfl (by simp <;> first | omega | grind) (fun hb => by simp [eSlot]; exact .mk) ?_
   refine run_call rfl (by simp; exact .mk) rfl rfl (by simp) (by simp; exact .mk) (by simp [row_rows, Function.comp_def]; exact .mk) (fun hb => c28) (by simp) (by simp [oAbs]; exact .mk) (by simp) ?_
   iterate 2 refine xI ?_
   refine run_if rfl (by simp; exact .mk) rfl (by simp <;> first | omega | grind) (fun hb => by simp [eSlot]; exact .mk) ?_
   refine run_call rfl (by simp; exact .mk) rfl rfl (by simp) (by simp; exact .mk) (by simp [row_rows, Function.comp_def]; exact .mk) (fun hb => c23) (by simp) (by simp [oAbs]; exact .mk) (by simp) ?_
   refine run_call rfl (by simp; exact .mk) rfl rfl (by simp) (by simp; exact .mk) (by simp [row_rows, Function.comp_def]; exact .mk) (fun hb => c25) (by simp) (by simp [oAbs]; exact .mk) (by simp) ?_
   iterate 2 refine xP ?_
   refine xB ?_
   refine xF [6] ?_
   refine W_ret (xR (by simp [Try.f4]; exact .mk) ?_)
   simp [Try.f4]
 skip
 rw [hQ] at c28
 refine W_regD (by kernel_rfl) [] 12 [0,1,2,3,4,5,7,6,8,9,10,11,13,12,14,15,16,17,18,19,21,22,20,23,24,25,26,27,28,29,30,31,32,33,34,35,36,37,38,39,40,41] (by decide +kernel) ?_
 iterate 2 refine xO ?_
 refine xI ?_
 refine xP ?_
 refine xB ?_
 iterate 2 (refine run_if rfl (by simp; exact .mk) rfl (by simp <;> first | omega | grind) (fun hb => by simp [eSlot]; exact .mk) ?_)
 refine run_call rfl (by simp; exact .mk) rfl rfl (by simp) (by simp; exact .mk) (by simp [row_rows, Function.comp_def]; exact .mk) (fun hb => c23) (by simp) (by simp [oAbs]; exact .mk) (by simp) ?_
 refine run_call rfl (by simp; exact .mk) rfl rfl (by simp) (by simp; exact .mk) (by simp [row_rows, Function.comp_def]; exact .mk) (fun hb => c16) (by simp) (by simp [oAbs]; exact .mk) (by simp) ?_
 refine xP ?_
 refine xB ?_
 iterate 2 (refine run_if rfl (by simp; exact .mk) rfl (by simp <;> first | omega | grind) (fun hb => by simp [eSlot]; exact .mk) ?_)
 refine run_call rfl (by simp; exact .mk) rfl rfl (by simp) (by simp; exact .mk) (by simp [row_rows, Function.comp_def]; exact .mk) (fun hb => ct25 g a ha) (by simp) (by simp [oAbs]; exact .mk) (by simp) ?_
 refine run_call rfl (by simp; exact .mk) rfl rfl (by simp) (by simp; exact .mk) (by simp [row_rows, Function.comp_def]; exact .mk) (fun hb => ct26 g a ha) (by simp) (by simp [oAbs]; exact .mk) (by simp) ?_
 refine xI ?_
 refine xP ?_
 refine xB ?_
 iterate 4 (refine run_if rfl (by simp; exact .mk) rfl (by simp <;> first | omega | grind) (fun hb => by simp [eSlot]; exact .mk) ?_)
 refine run_call rfl (by simp; exact .mk) rfl rfl (by simp) (by simp; exact .mk) (by simp [row_rows, Function.comp_def]; exact .mk) (fun hb => ct27 g a b ha) (by simp) (by simp [oAbs]; exact .mk) (by simp) ?_
 refine run_call rfl (by simp; exact .mk) rfl rfl (by simp) (by simp; exact .mk) (by simp [row_rows, Function.comp_def]; exact .mk) (fun hb => ct16 g a b ha) (by simp) (by simp [oAbs]; exact .mk) (by simp) ?_
 refine xI ?_
 refine xP ?_
 refine xB ?_
 iterate 2 (refine run_if rfl (by simp; exact .mk) rfl (by simp <;> first | omega | grind) (fun hb => by simp [eSlot]; exact .mk) ?_)
 refine run_call rfl (by simp; exact .mk) rfl rfl (by simp) (by simp; exact .mk) (by simp [row_rows, Function.comp_def]; exact .mk) (fun hb => c27) (by simp) (by simp [oAbs]; exact .mk) (by simp) ?_
 refine xP ?_
 refine xB ?_
 refine run_if rfl (by simp; exact .mk) rfl (by simp <;> first | omega | grind) (fun hb => by simp [eSlot]; exact .mk) ?_
 refine run_call rfl (by simp; exact .mk) rfl rfl (by simp) (by simp; exact .mk) (by simp [row_rows, Function.comp_def]; exact .mk) (fun hb => c28) (by simp) (by simp [oAbs]; exact .mk) (by simp) ?_
 iterate 2 refine xI ?_
 iterate 3 (refine run_not (av := .d (.v (.bool false))) rfl (by simp; exact .mk) rfl ?_)
 iterate 2 refine xP ?_
 refine xB ?_
 refine xF [6] ?_
 refine W_ret (xR (by simp [Try.f4]; exact .mk) ?_)
 simp [Try.f4]

end Go.Proofs
