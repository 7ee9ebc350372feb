/- Contracts of the program's functions, each against a plain function over lists and numbers (it answers what that one answers, for arguments of at most 2^40 elements where a lemma says so), and plain facts about these. -/
import Derived.Test.YtokgokbgidgfeaaGreatAwpD
import Derived.Test.YtokgokbgidgfeaaGreatAwpC
import Derived.Test.YtokgokbgidgfeaaGreatCG
import Derived.Test.YtokgokbgidgfeaaGreatCH
import Derived.Test.YtokgokbgidgfeaaGreatCC
import Derived.Test.YtokgokbgidgfeaaGreatCE
import Derived.Test.YtokgokbgidgfeaaGreatCD
set_option linter.all false
set_option maxHeartbeats 4000000
namespace Go.Proofs
open Go.Awp
theorem ct74 (g : Gl) (a : Abs) (o : Op) (ha : a.Ok) (hn : o.name.size ≤ 2^40) (hob : o.b.length ≤ 2^40) : CtAt Tryz.prog g 74 [eAbs a, eOp o] (.tup [oAbs (doS a o).a, .agg [vI (doS a o).ix, vI (doS a o).gen, oB (doS a o).b], vI (doS a o).e]) := by
 refine ctAt_of_W Tryz.func74 rfl rfl (Nat.le_of_ble_eq_true rfl) fun B S => ?_
 simp only [eAbs, eOp, List.map, argD_agg]
 refine xU ?_
 iterate 5 refine xO ?_
 refine xE [2,3,4,5] fun _ => ?_
 refine W_seq ?_
 refine xU ?_
 refine xO ?_
 refine xC (ct132 g a ha) ?_ (hi := by simp [oAbs]; exact .mk)
 refine xO ?_
 refine xE [2,3,4,5,11] fun _ => ?_
 refine W_cond rfl ?_ ?_
 · intro h11
   have hR : rightS a = false := by simpa using h11
   have hdo : doS a o = failS 1 := by simp [doS, hR]
   have hE : True := trivial
   refine xU ?_
   iterate 4 (refine xO ?_ (h := by simp [splice]; exact .mk))
   refine xO ?_
   refine xE [4,5,6] fun _ => ?_
   refine W_ret ?_
   refine xR (by simp [Tryz.f74]; exact .mk) ?_
   first | (simp [Tryz.f74, hdo, hE, failS, zAbs, oAbs, ownR]; done) | (simp [Tryz.f74, hdo, hE, failS, zAbs, oAbs, ownR, he0]; done) | (simp [Tryz.f74, hdo, hE, failS, zAbs, oAbs, ownR, he0, hE2]; done) | (exfalso; first | (simp at h24; done) | (simp at h24; omega))
 intro h11
 have hR : rightS a = true := by simpa using h11
 have hgd := (rightS_len hR).1
 refine W_skip ?_
 refine xT ?_
 refine xO ?_
 refine xC (ct133 g a ha) ?_ (hi := by simp [oAbs]; exact .mk)
 refine xO ?_ (h := by simp [splice]; exact .mk)
 iterate 2 refine xO ?_
 refine xE [3,4,5,7] fun _ => ?_
 refine W_seq ?_
 refine W_seq ?_
 rcases do_cases a o with hk | ⟨hk, hact⟩ | ⟨hk, hact⟩ | ⟨hk, hact⟩ | hk | hk | ⟨hk, hq⟩ | ⟨hk, hq⟩ | hk | ⟨e, he, hk⟩
 · skip
   have hE : effS a o = allocS a o.n := by simp [effS, hk]
   refine W_regD (by kernel_rfl) [4] 4 [0,1,3,2,4,5] (by decide +kernel) ?_
   iterate 3 refine xO ?_
   refine run_inl0 rfl rfl rfl rfl (by simp; exact .mk) ⟨_, Tryz.func134, rfl, rfl⟩ (in134g g (.var 67 [.d (rI a.gens), .d (rBB a.data), .d (rR a.roots)]) (.var 73 [.d (vI o.act), .d (vI o.ix), .d (vI o.gen), .d (vI o.n), .d (vI o.off), .d (rB o.b), .d (vS o.name)]) (.var 67 [.d (.v (.slice none 0 0)), .d (.v (.slice none 0 0)), .d (.v (.slice none 0 0))]) (.var 77 [.d (vI 0), .d (vI 0), .d (.v (.slice none 0 0))]) a o hgd hn 186 hk) (.inr ⟨_, rfl⟩) ?_
   refine run_inl0 rfl rfl rfl rfl (by simp; exact .mk) ⟨_, Tryz.func186, rfl, rfl⟩ (in186 g (.var 67 [.d (rI a.gens), .d (rBB a.data), .d (rR a.roots)]) (.var 73 [.d (vI o.act), .d (vI o.ix), .d (vI o.gen), .d (vI o.n), .d (vI o.off), .d (rB o.b), .d (vS o.name)]) (.var 67 [.d (.v (.slice none 0 0)), .d (.v (.slice none 0 0)), .d (.v (.slice none 0 0))]) (.var 77 [.d (vI 0), .d (vI 0), .d (.v (.slice none 0 0))]) (.var 73 [.d (vI o.act), .d (vI o.ix), .d (vI o.gen), .d (vI o.n), .d (vI o.off), .d (rB o.b), .d (vS o.name)]) a o (fun m => by simp) ha hgd) (.inl (by simp)) ?_
   refine xO ?_
   refine xE [4,5,7,8] ?_
   refine xT ?_
   iterate 2 refine xO ?_
   refine xE [4,5,7,8,24] fun _ => ?_
   refine W_cond rfl ?_ ?_
   · intro h24
     have hdo := doS_fail (o := o) hR (by rw [hE]; simpa using h24)
     refine xU ?_
     iterate 2 (refine xO ?_ (h := by simp [splice]; exact .mk))
     refine xO ?_
     iterate 2 (refine xO ?_ (h := by simp [splice]; exact .mk))
     refine xO ?_
     refine xE [4,5,6] fun _ => ?_
     refine W_ret ?_
     refine xR (by simp [Tryz.f74]; exact .mk) ?_
     first | (simp [Tryz.f74, hdo, hE, failS, zAbs, oAbs, ownR]; done) | (simp [Tryz.f74, hdo, hE, failS, zAbs, oAbs, ownR, he0]; done) | (simp [Tryz.f74, hdo, hE, failS, zAbs, oAbs, ownR, he0, hE2]; done) | (exfalso; first | (simp at h24; done) | (simp at h24; omega))
   intro h24
   have he0 : (effS a o).e = 0 := by rw [hE]; first | (simpa using h24; done) | exact hE2.2.2.2
   have hdo := doS_ok (o := o) hR he0
   rw [hE] at he0 hdo
   refine W_skip ?_
   rintro -
   refine W_seq ?_
   refine W_regD2 (hard := []) 7 8 (keepOk_lt (by decide)) (by kernel_rfl) 4 [0,1,2,3,4,5,6,7,8,9,10] [0,1,2,3,4,5,6,8,7,9,10] (by decide +kernel) (by decide +kernel) ?_ ?_
   · skip
     iterate 8 refine xO ?_
     iterate 2 (refine xO ?_ (h := by simp [splice]; exact .mk))
     refine xO ?_
     refine xE [4,5,6] fun _ => ?_
     refine W_ret ?_
     refine xR (by simp [Tryz.f74]; exact .mk) ?_
     first | (simp [Tryz.f74, hdo, hE, failS, zAbs, oAbs, ownR]; done) | (simp [Tryz.f74, hdo, hE, failS, zAbs, oAbs, ownR, he0]; done) | (simp [Tryz.f74, hdo, hE, failS, zAbs, oAbs, ownR, he0, hE2]; done) | (exfalso; first | (simp at h24; done) | (simp at h24; omega))
   skip
   iterate 7 refine xO ?_
   refine xO ?_ (h := by simp [splice]; exact .mk)
   refine xO ?_
   refine xO ?_ (h := by simp [splice]; exact .mk)
   refine xO ?_
   refine xE [4,5,6] fun _ => ?_
   refine W_ret ?_
   refine xR (by simp [Tryz.f74]; exact .mk) ?_
   first | (simp [Tryz.f74, hdo, hE, failS, zAbs, oAbs, ownR]; done) | (simp [Tryz.f74, hdo, hE, failS, zAbs, oAbs, ownR, he0]; done) | (simp [Tryz.f74, hdo, hE, failS, zAbs, oAbs, ownR, he0, hE2]; done) | (exfalso; first | (simp at h24; done) | (simp at h24; omega))
 · skip
   have hE : effS a o = rootS a o := by simp [effS, hk]
   have hE2 : rootS a o = ⟨{ a with roots := (setS a.roots o.name o.ix o.gen).1 }, 0, 0, [], (setS a.roots o.name o.ix o.gen).2⟩ := by simp [rootS, hact]
   rw [hE2] at hE
   refine W_regD (by kernel_rfl) [4] 4 [0,1,3,2,4,5] (by decide +kernel) ?_
   iterate 3 refine xO ?_
   refine run_inl0 rfl rfl rfl rfl (by simp; exact .mk) ⟨_, Tryz.func134, rfl, rfl⟩ (in134g g (.var 67 [.d (rI a.gens), .d (rBB a.data), .d (rR a.roots)]) (.var 73 [.d (vI o.act), .d (vI o.ix), .d (vI o.gen), .d (vI o.n), .d (vI o.off), .d (rB o.b), .d (vS o.name)]) (.var 67 [.d (.v (.slice none 0 0)), .d (.v (.slice none 0 0)), .d (.v (.slice none 0 0))]) (.var 77 [.d (vI 0), .d (vI 0), .d (.v (.slice none 0 0))]) a o hgd hn 187 hk) (.inr ⟨_, rfl⟩) ?_
   refine run_inl0 rfl rfl rfl rfl (by simp; exact .mk) ⟨_, Tryz.func187, rfl, rfl⟩ (in187s g (.var 67 [.d (rI a.gens), .d (rBB a.data), .d (rR a.roots)]) (.var 73 [.d (vI o.act), .d (vI o.ix), .d (vI o.gen), .d (vI o.n), .d (vI o.off), .d (rB o.b), .d (vS o.name)]) (.var 67 [.d (.v (.slice none 0 0)), .d (.v (.slice none 0 0)), .d (.v (.slice none 0 0))]) (.var 77 [.d (vI 0), .d (vI 0), .d (.v (.slice none 0 0))]) (.var 73 [.d (vI o.act), .d (vI o.ix), .d (vI o.gen), .d (vI o.n), .d (vI o.off), .d (rB o.b), .d (vS o.name)]) a o (fun m => by simp) ha hact ⟨ha.h3, ha.h5⟩ hn) (.inl (by simp)) ?_
   refine xO ?_
   refine xE [4,5,7,8] ?_
   refine xT ?_
   iterate 2 refine xO ?_
   refine xE [4,5,7,8,24] fun _ => ?_
   refine W_cond rfl ?_ ?_
   · intro h24
     have hdo := doS_fail (o := o) hR (by rw [hE]; simpa using h24)
     refine xU ?_
     iterate 2 (refine xO ?_ (h := by simp [splice]; exact .mk))
     refine xO ?_
     iterate 2 (refine xO ?_ (h := by simp [splice]; exact .mk))
     refine xO ?_
     refine xE [4,5,6] fun _ => ?_
     refine W_ret ?_
     refine xR (by simp [Tryz.f74]; exact .mk) ?_
     first | (simp [Tryz.f74, hdo, hE, failS, zAbs, oAbs, ownR]; done) | (simp [Tryz.f74, hdo, hE, failS, zAbs, oAbs, ownR, he0]; done) | (simp [Tryz.f74, hdo, hE, failS, zAbs, oAbs, ownR, he0, hE2]; done) | (exfalso; first | (simp at h24; done) | (simp at h24; omega))
   intro h24
   have he0 : (effS a o).e = 0 := by rw [hE]; first | (simpa using h24; done) | exact hE2.2.2.2
   have hdo := doS_ok (o := o) hR he0
   rw [hE] at he0 hdo
   refine W_skip ?_
   rintro -
   refine W_seq ?_
   refine W_regD2 (hard := []) 7 8 (keepOk_lt (by decide)) (by kernel_rfl) 4 [0,1,2,3,4,5,6,7,8,9,10] [0,1,2,3,4,5,6,8,7,9,10] (by decide +kernel) (by decide +kernel) ?_ ?_
   · skip
     iterate 8 refine xO ?_
     iterate 2 (refine xO ?_ (h := by simp [splice]; exact .mk))
     refine xO ?_
     refine xE [4,5,6] fun _ => ?_
     refine W_ret ?_
     refine xR (by simp [Tryz.f74]; exact .mk) ?_
     first | (simp [Tryz.f74, hdo, hE, failS, zAbs, oAbs, ownR]; done) | (simp [Tryz.f74, hdo, hE, failS, zAbs, oAbs, ownR, he0]; done) | (simp [Tryz.f74, hdo, hE, failS, zAbs, oAbs, ownR, he0, hE2]; done) | (exfalso; first | (simp at h24; done) | (simp at h24; omega))
   skip
   iterate 7 refine xO ?_
   refine xO ?_ (h := by simp [splice]; exact .mk)
   refine xO ?_
   refine xO ?_ (h := by simp [splice]; exact .mk)
   refine xO ?_
   refine xE [4,5,6] fun _ => ?_
   refine W_ret ?_
   refine xR (by simp [Tryz.f74]; exact .mk) ?_
   first | (simp [Tryz.f74, hdo, hE, failS, zAbs, oAbs, ownR]; done) | (simp [Tryz.f74, hdo, hE, failS, zAbs, oAbs, ownR, he0]; done) | (simp [Tryz.f74, hdo, hE, failS, zAbs, oAbs, ownR, he0, hE2]; done) | (exfalso; first | (simp at h24; done) | (simp at h24; omega))
 · skip
   have hE : effS a o = rootS a o := by simp [effS, hk]
   have hE2 : rootS a o = ⟨a, (getS a.roots o.name).1, (getS a.roots o.name).2.1, [], (getS a.roots o.name).2.2⟩ := by simp [rootS, hact]
   rw [hE2] at hE
   refine W_regD (by kernel_rfl) [4] 4 [0,1,3,2,4,5] (by decide +kernel) ?_
   iterate 3 refine xO ?_
   refine run_inl0 rfl rfl rfl rfl (by simp; exact .mk) ⟨_, Tryz.func134, rfl, rfl⟩ (in134g g (.var 67 [.d (rI a.gens), .d (rBB a.data), .d (rR a.roots)]) (.var 73 [.d (vI o.act), .d (vI o.ix), .d (vI o.gen), .d (vI o.n), .d (vI o.off), .d (rB o.b), .d (vS o.name)]) (.var 67 [.d (.v (.slice none 0 0)), .d (.v (.slice none 0 0)), .d (.v (.slice none 0 0))]) (.var 77 [.d (vI 0), .d (vI 0), .d (.v (.slice none 0 0))]) a o hgd hn 187 hk) (.inr ⟨_, rfl⟩) ?_
   refine run_inl0 rfl rfl rfl rfl (by simp; exact .mk) ⟨_, Tryz.func187, rfl, rfl⟩ (in187g g (.var 67 [.d (rI a.gens), .d (rBB a.data), .d (rR a.roots)]) (.var 73 [.d (vI o.act), .d (vI o.ix), .d (vI o.gen), .d (vI o.n), .d (vI o.off), .d (rB o.b), .d (vS o.name)]) (.var 67 [.d (.v (.slice none 0 0)), .d (.v (.slice none 0 0)), .d (.v (.slice none 0 0))]) (.var 77 [.d (vI 0), .d (vI 0), .d (.v (.slice none 0 0))]) (.var 73 [.d (vI o.act), .d (vI o.ix), .d (vI o.gen), .d (vI o.n), .d (vI o.off), .d (rB o.b), .d (vS o.name)]) a o (fun m => by simp) ha hact ⟨ha.h3, ha.h5⟩ hn) (.inl (by simp)) ?_
   refine xO ?_
   refine xE [4,5,7,8] ?_
   refine xT ?_
   iterate 2 refine xO ?_
   refine xE [4,5,7,8,24] fun _ => ?_
   refine W_cond rfl ?_ ?_
   · intro h24
     have hdo := doS_fail (o := o) hR (by rw [hE]; simpa using h24)
     refine xU ?_
     iterate 2 (refine xO ?_ (h := by simp [splice]; exact .mk))
     refine xO ?_
     iterate 2 (refine xO ?_ (h := by simp [splice]; exact .mk))
     refine xO ?_
     refine xE [4,5,6] fun _ => ?_
     refine W_ret ?_
     refine xR (by simp [Tryz.f74]; exact .mk) ?_
     first | (simp [Tryz.f74, hdo, hE, failS, zAbs, oAbs, ownR]; done) | (simp [Tryz.f74, hdo, hE, failS, zAbs, oAbs, ownR, he0]; done) | (simp [Tryz.f74, hdo, hE, failS, zAbs, oAbs, ownR, he0, hE2]; done) | (exfalso; first | (simp at h24; done) | (simp at h24; omega))
   intro h24
   have he0 : (effS a o).e = 0 := by rw [hE]; first | (simpa using h24; done) | exact hE2.2.2.2
   have hdo := doS_ok (o := o) hR he0
   rw [hE] at he0 hdo
   refine W_skip ?_
   rintro -
   refine W_seq ?_
   refine W_regD2 (hard := []) 7 8 (keepOk_lt (by decide)) (by kernel_rfl) 4 [0,1,2,3,4,5,6,7,8,9,10] [0,1,2,3,4,5,6,8,7,9,10] (by decide +kernel) (by decide +kernel) ?_ ?_
   · skip
     iterate 8 refine xO ?_
     iterate 2 (refine xO ?_ (h := by simp [splice]; exact .mk))
     refine xO ?_
     refine xE [4,5,6] fun _ => ?_
     refine W_ret ?_
     refine xR (by simp [Tryz.f74]; exact .mk) ?_
     first | (simp [Tryz.f74, hdo, hE, failS, zAbs, oAbs, ownR]; done) | (simp [Tryz.f74, hdo, hE, failS, zAbs, oAbs, ownR, he0]; done) | (simp [Tryz.f74, hdo, hE, failS, zAbs, oAbs, ownR, he0, hE2]; done) | (exfalso; first | (simp at h24; done) | (simp at h24; omega))
   skip
   iterate 7 refine xO ?_
   refine xO ?_ (h := by simp [splice]; exact .mk)
   refine xO ?_
   refine xO ?_ (h := by simp [splice]; exact .mk)
   refine xO ?_
   refine xE [4,5,6] fun _ => ?_
   refine W_ret ?_
   refine xR (by simp [Tryz.f74]; exact .mk) ?_
   first | (simp [Tryz.f74, hdo, hE, failS, zAbs, oAbs, ownR]; done) | (simp [Tryz.f74, hdo, hE, failS, zAbs, oAbs, ownR, he0]; done) | (simp [Tryz.f74, hdo, hE, failS, zAbs, oAbs, ownR, he0, hE2]; done) | (exfalso; first | (simp at h24; done) | (simp at h24; omega))
 · skip
   have hE : effS a o = rootS a o := by simp [effS, hk]
   have hE2 : rootS a o = ⟨{ a with roots := (dropS a.roots o.name).1 }, 0, 0, [], (dropS a.roots o.name).2⟩ := by simp [rootS, hact]
   rw [hE2] at hE
   refine W_regD (by kernel_rfl) [4] 4 [0,1,3,2,4,5] (by decide +kernel) ?_
   iterate 3 refine xO ?_
   refine run_inl0 rfl rfl rfl rfl (by simp; exact .mk) ⟨_, Tryz.func134, rfl, rfl⟩ (in134g g (.var 67 [.d (rI a.gens), .d (rBB a.data), .d (rR a.roots)]) (.var 73 [.d (vI o.act), .d (vI o.ix), .d (vI o.gen), .d (vI o.n), .d (vI o.off), .d (rB o.b), .d (vS o.name)]) (.var 67 [.d (.v (.slice none 0 0)), .d (.v (.slice none 0 0)), .d (.v (.slice none 0 0))]) (.var 77 [.d (vI 0), .d (vI 0), .d (.v (.slice none 0 0))]) a o hgd hn 187 hk) (.inr ⟨_, rfl⟩) ?_
   refine run_inl0 rfl rfl rfl rfl (by simp; exact .mk) ⟨_, Tryz.func187, rfl, rfl⟩ (in187d g (.var 67 [.d (rI a.gens), .d (rBB a.data), .d (rR a.roots)]) (.var 73 [.d (vI o.act), .d (vI o.ix), .d (vI o.gen), .d (vI o.n), .d (vI o.off), .d (rB o.b), .d (vS o.name)]) (.var 67 [.d (.v (.slice none 0 0)), .d (.v (.slice none 0 0)), .d (.v (.slice none 0 0))]) (.var 77 [.d (vI 0), .d (vI 0), .d (.v (.slice none 0 0))]) (.var 73 [.d (vI o.act), .d (vI o.ix), .d (vI o.gen), .d (vI o.n), .d (vI o.off), .d (rB o.b), .d (vS o.name)]) a o (fun m => by simp) ha hact ⟨ha.h3, ha.h5⟩ hn) (.inl (by simp)) ?_
   refine xO ?_
   refine xE [4,5,7,8] ?_
   refine xT ?_
   iterate 2 refine xO ?_
   refine xE [4,5,7,8,24] fun _ => ?_
   refine W_cond rfl ?_ ?_
   · intro h24
     have hdo := doS_fail (o := o) hR (by rw [hE]; simpa using h24)
     refine xU ?_
     iterate 2 (refine xO ?_ (h := by simp [splice]; exact .mk))
     refine xO ?_
     iterate 2 (refine xO ?_ (h := by simp [splice]; exact .mk))
     refine xO ?_
     refine xE [4,5,6] fun _ => ?_
     refine W_ret ?_
     refine xR (by simp [Tryz.f74]; exact .mk) ?_
     first | (simp [Tryz.f74, hdo, hE, failS, zAbs, oAbs, ownR]; done) | (simp [Tryz.f74, hdo, hE, failS, zAbs, oAbs, ownR, he0]; done) | (simp [Tryz.f74, hdo, hE, failS, zAbs, oAbs, ownR, he0, hE2]; done) | (exfalso; first | (simp at h24; done) | (simp at h24; omega))
   intro h24
   have he0 : (effS a o).e = 0 := by rw [hE]; first | (simpa using h24; done) | exact hE2.2.2.2
   have hdo := doS_ok (o := o) hR he0
   rw [hE] at he0 hdo
   refine W_skip ?_
   rintro -
   refine W_seq ?_
   refine W_regD2 (hard := []) 7 8 (keepOk_lt (by decide)) (by kernel_rfl) 4 [0,1,2,3,4,5,6,7,8,9,10] [0,1,2,3,4,5,6,8,7,9,10] (by decide +kernel) (by decide +kernel) ?_ ?_
   · skip
     iterate 8 refine xO ?_
     iterate 2 (refine xO ?_ (h := by simp [splice]; exact .mk))
     refine xO ?_
     refine xE [4,5,6] fun _ => ?_
     refine W_ret ?_
     refine xR (by simp [Tryz.f74]; exact .mk) ?_
     first | (simp [Tryz.f74, hdo, hE, failS, zAbs, oAbs, ownR]; done) | (simp [Tryz.f74, hdo, hE, failS, zAbs, oAbs, ownR, he0]; done) | (simp [Tryz.f74, hdo, hE, failS, zAbs, oAbs, ownR, he0, hE2]; done) | (exfalso; first | (simp at h24; done) | (simp at h24; omega))
   skip
   iterate 7 refine xO ?_
   refine xO ?_ (h := by simp [splice]; exact .mk)
   refine xO ?_
   refine xO ?_ (h := by simp [splice]; exact .mk)
   refine xO ?_
   refine xE [4,5,6] fun _ => ?_
   refine W_ret ?_
   refine xR (by simp [Tryz.f74]; exact .mk) ?_
   first | (simp [Tryz.f74, hdo, hE, failS, zAbs, oAbs, ownR]; done) | (simp [Tryz.f74, hdo, hE, failS, zAbs, oAbs, ownR, he0]; done) | (simp [Tryz.f74, hdo, hE, failS, zAbs, oAbs, ownR, he0, hE2]; done) | (exfalso; first | (simp at h24; done) | (simp at h24; omega))
 · skip
   obtain ⟨k, hix, hk2, hk3, hk4⟩ := goodS_nat (kindS_good (a := a) (o := o) (by omega))
   have hkd : k < a.data.length := by omega
   have hsl := rightS_slot hR hk2
   have hte : o.ix.toNat = k := by omega
   have hE : effS a o = freeS a k := by simp [effS, hk, hte]
   refine W_regD (by kernel_rfl) [4] 4 [0,1,3,2,4,5] (by decide +kernel) ?_
   iterate 3 refine xO ?_
   refine run_inl0 rfl rfl rfl rfl (by simp; exact .mk) ⟨_, Tryz.func134, rfl, rfl⟩ (in134g g (.var 67 [.d (rI a.gens), .d (rBB a.data), .d (rR a.roots)]) (.var 73 [.d (vI o.act), .d (vI o.ix), .d (vI o.gen), .d (vI o.n), .d (vI o.off), .d (rB o.b), .d (vS o.name)]) (.var 67 [.d (.v (.slice none 0 0)), .d (.v (.slice none 0 0)), .d (.v (.slice none 0 0))]) (.var 77 [.d (vI 0), .d (vI 0), .d (.v (.slice none 0 0))]) a o hgd hn 190 hk) (.inr ⟨_, rfl⟩) ?_
   refine run_inl0 rfl rfl rfl rfl (by simp; exact .mk) ⟨_, Tryz.func190, rfl, rfl⟩ (in190 g (.var 67 [.d (rI a.gens), .d (rBB a.data), .d (rR a.roots)]) (.var 73 [.d (vI o.act), .d (vI o.ix), .d (vI o.gen), .d (vI o.n), .d (vI o.off), .d (rB o.b), .d (vS o.name)]) (.var 67 [.d (.v (.slice none 0 0)), .d (.v (.slice none 0 0)), .d (.v (.slice none 0 0))]) (.var 77 [.d (vI 0), .d (vI 0), .d (.v (.slice none 0 0))]) (.var 73 [.d (vI o.act), .d (vI o.ix), .d (vI o.gen), .d (vI o.n), .d (vI o.off), .d (rB o.b), .d (vS o.name)]) a o (fun m => by simp) ha k hix hkd hk2 ⟨hsl.1, hsl.2.1⟩) (.inl (by simp)) ?_
   refine xO ?_
   refine xE [4,5,7,8] ?_
   refine xT ?_
   iterate 2 refine xO ?_
   refine xE [4,5,7,8,24] fun _ => ?_
   refine W_cond rfl ?_ ?_
   · intro h24
     have hdo := doS_fail (o := o) hR (by rw [hE]; simpa using h24)
     refine xU ?_
     iterate 2 (refine xO ?_ (h := by simp [splice]; exact .mk))
     refine xO ?_
     iterate 2 (refine xO ?_ (h := by simp [splice]; exact .mk))
     refine xO ?_
     refine xE [4,5,6] fun _ => ?_
     refine W_ret ?_
     refine xR (by simp [Tryz.f74]; exact .mk) ?_
     first | (simp [Tryz.f74, hdo, hE, failS, zAbs, oAbs, ownR]; done) | (simp [Tryz.f74, hdo, hE, failS, zAbs, oAbs, ownR, he0]; done) | (simp [Tryz.f74, hdo, hE, failS, zAbs, oAbs, ownR, he0, hE2]; done) | (exfalso; first | (simp at h24; done) | (simp at h24; omega))
   intro h24
   have he0 : (effS a o).e = 0 := by rw [hE]; first | (simpa using h24; done) | exact hE2.2.2.2
   have hdo := doS_ok (o := o) hR he0
   rw [hE] at he0 hdo
   refine W_skip ?_
   rintro -
   refine W_seq ?_
   refine W_regD2 (hard := []) 7 8 (keepOk_lt (by decide)) (by kernel_rfl) 4 [0,1,2,3,4,5,6,7,8,9,10] [0,1,2,3,4,5,6,8,7,9,10] (by decide +kernel) (by decide +kernel) ?_ ?_
   · skip
     iterate 8 refine xO ?_
     iterate 2 (refine xO ?_ (h := by simp [splice]; exact .mk))
     refine xO ?_
     refine xE [4,5,6] fun _ => ?_
     refine W_ret ?_
     refine xR (by simp [Tryz.f74]; exact .mk) ?_
     first | (simp [Tryz.f74, hdo, hE, failS, zAbs, oAbs, ownR]; done) | (simp [Tryz.f74, hdo, hE, failS, zAbs, oAbs, ownR, he0]; done) | (simp [Tryz.f74, hdo, hE, failS, zAbs, oAbs, ownR, he0, hE2]; done) | (exfalso; first | (simp at h24; done) | (simp at h24; omega))
   skip
   iterate 7 refine xO ?_
   refine xO ?_ (h := by simp [splice]; exact .mk)
   refine xO ?_
   refine xO ?_ (h := by simp [splice]; exact .mk)
   refine xO ?_
   refine xE [4,5,6] fun _ => ?_
   refine W_ret ?_
   refine xR (by simp [Tryz.f74]; exact .mk) ?_
   first | (simp [Tryz.f74, hdo, hE, failS, zAbs, oAbs, ownR]; done) | (simp [Tryz.f74, hdo, hE, failS, zAbs, oAbs, ownR, he0]; done) | (simp [Tryz.f74, hdo, hE, failS, zAbs, oAbs, ownR, he0, hE2]; done) | (exfalso; first | (simp at h24; done) | (simp at h24; omega))
 · skip
   obtain ⟨k, hix, hk2, hk3, hk4⟩ := goodS_nat (kindS_good (a := a) (o := o) (by omega))
   have hkd : k < a.data.length := by omega
   have hsl := rightS_slot hR hk2
   have hte : o.ix.toNat = k := by omega
   have hE : effS a o = resizeS a k o.n := by simp [effS, hk, hte]
   refine W_regD (by kernel_rfl) [4] 4 [0,1,3,2,4,5] (by decide +kernel) ?_
   iterate 3 refine xO ?_
   refine run_inl0 rfl rfl rfl rfl (by simp; exact .mk) ⟨_, Tryz.func134, rfl, rfl⟩ (in134g g (.var 67 [.d (rI a.gens), .d (rBB a.data), .d (rR a.roots)]) (.var 73 [.d (vI o.act), .d (vI o.ix), .d (vI o.gen), .d (vI o.n), .d (vI o.off), .d (rB o.b), .d (vS o.name)]) (.var 67 [.d (.v (.slice none 0 0)), .d (.v (.slice none 0 0)), .d (.v (.slice none 0 0))]) (.var 77 [.d (vI 0), .d (vI 0), .d (.v (.slice none 0 0))]) a o hgd hn 191 hk) (.inr ⟨_, rfl⟩) ?_
   refine run_inl0 rfl rfl rfl rfl (by simp; exact .mk) ⟨_, Tryz.func191, rfl, rfl⟩ (in191 g (.var 67 [.d (rI a.gens), .d (rBB a.data), .d (rR a.roots)]) (.var 73 [.d (vI o.act), .d (vI o.ix), .d (vI o.gen), .d (vI o.n), .d (vI o.off), .d (rB o.b), .d (vS o.name)]) (.var 67 [.d (.v (.slice none 0 0)), .d (.v (.slice none 0 0)), .d (.v (.slice none 0 0))]) (.var 77 [.d (vI 0), .d (vI 0), .d (.v (.slice none 0 0))]) (.var 73 [.d (vI o.act), .d (vI o.ix), .d (vI o.gen), .d (vI o.n), .d (vI o.off), .d (rB o.b), .d (vS o.name)]) a o (fun m => by simp) ha k hix hkd (by omega)) (.inl (by simp)) ?_
   refine xO ?_
   refine xE [4,5,7,8] ?_
   refine xT ?_
   iterate 2 refine xO ?_
   refine xE [4,5,7,8,24] fun _ => ?_
   refine W_cond rfl ?_ ?_
   · intro h24
     have hdo := doS_fail (o := o) hR (by rw [hE]; simpa using h24)
     refine xU ?_
     iterate 2 (refine xO ?_ (h := by simp [splice]; exact .mk))
     refine xO ?_
     iterate 2 (refine xO ?_ (h := by simp [splice]; exact .mk))
     refine xO ?_
     refine xE [4,5,6] fun _ => ?_
     refine W_ret ?_
     refine xR (by simp [Tryz.f74]; exact .mk) ?_
     first | (simp [Tryz.f74, hdo, hE, failS, zAbs, oAbs, ownR]; done) | (simp [Tryz.f74, hdo, hE, failS, zAbs, oAbs, ownR, he0]; done) | (simp [Tryz.f74, hdo, hE, failS, zAbs, oAbs, ownR, he0, hE2]; done) | (exfalso; first | (simp at h24; done) | (simp at h24; omega))
   intro h24
   have he0 : (effS a o).e = 0 := by rw [hE]; first | (simpa using h24; done) | exact hE2.2.2.2
   have hdo := doS_ok (o := o) hR he0
   rw [hE] at he0 hdo
   refine W_skip ?_
   rintro -
   refine W_seq ?_
   refine W_regD2 (hard := []) 7 8 (keepOk_lt (by decide)) (by kernel_rfl) 4 [0,1,2,3,4,5,6,7,8,9,10] [0,1,2,3,4,5,6,8,7,9,10] (by decide +kernel) (by decide +kernel) ?_ ?_
   · skip
     iterate 8 refine xO ?_
     iterate 2 (refine xO ?_ (h := by simp [splice]; exact .mk))
     refine xO ?_
     refine xE [4,5,6] fun _ => ?_
     refine W_ret ?_
     refine xR (by simp [Tryz.f74]; exact .mk) ?_
     first | (simp [Tryz.f74, hdo, hE, failS, zAbs, oAbs, ownR]; done) | (simp [Tryz.f74, hdo, hE, failS, zAbs, oAbs, ownR, he0]; done) | (simp [Tryz.f74, hdo, hE, failS, zAbs, oAbs, ownR, he0, hE2]; done) | (exfalso; first | (simp at h24; done) | (simp at h24; omega))
   skip
   iterate 7 refine xO ?_
   refine xO ?_ (h := by simp [splice]; exact .mk)
   refine xO ?_
   refine xO ?_ (h := by simp [splice]; exact .mk)
   refine xO ?_
   refine xE [4,5,6] fun _ => ?_
   refine W_ret ?_
   refine xR (by simp [Tryz.f74]; exact .mk) ?_
   first | (simp [Tryz.f74, hdo, hE, failS, zAbs, oAbs, ownR]; done) | (simp [Tryz.f74, hdo, hE, failS, zAbs, oAbs, ownR, he0]; done) | (simp [Tryz.f74, hdo, hE, failS, zAbs, oAbs, ownR, he0, hE2]; done) | (exfalso; first | (simp at h24; done) | (simp at h24; omega))
 · skip
   obtain ⟨k, hix, hk2, hk3, hk4⟩ := goodS_nat (kindS_good (a := a) (o := o) (by omega))
   have hkd : k < a.data.length := by omega
   have hsl := rightS_slot hR hk2
   have hte : o.ix.toNat = k := by omega
   rw [hte] at hq
   have hE : effS a o = readS a k o.off o.n := by simp [effS, hk, hte]
   have hE2 : (readS a k o.off o.n).a = a ∧ (readS a k o.off o.n).ix = 0 ∧ (readS a k o.off o.n).gen = 0 ∧ (readS a k o.off o.n).e = 0 := by simp [readS, hq]
   refine W_regD (by kernel_rfl) [4] 4 [0,1,3,2,4,5] (by decide +kernel) ?_
   iterate 3 refine xO ?_
   refine run_inl0 rfl rfl rfl rfl (by simp; exact .mk) ⟨_, Tryz.func134, rfl, rfl⟩ (in134g g (.var 67 [.d (rI a.gens), .d (rBB a.data), .d (rR a.roots)]) (.var 73 [.d (vI o.act), .d (vI o.ix), .d (vI o.gen), .d (vI o.n), .d (vI o.off), .d (rB o.b), .d (vS o.name)]) (.var 67 [.d (.v (.slice none 0 0)), .d (.v (.slice none 0 0)), .d (.v (.slice none 0 0))]) (.var 77 [.d (vI 0), .d (vI 0), .d (.v (.slice none 0 0))]) a o hgd hn 192 hk) (.inr ⟨_, rfl⟩) ?_
   refine run_inl0 rfl rfl rfl rfl (by simp; exact .mk) ⟨_, Tryz.func192, rfl, rfl⟩ (in192 g (.var 67 [.d (rI a.gens), .d (rBB a.data), .d (rR a.roots)]) (.var 73 [.d (vI o.act), .d (vI o.ix), .d (vI o.gen), .d (vI o.n), .d (vI o.off), .d (rB o.b), .d (vS o.name)]) (.var 67 [.d (.v (.slice none 0 0)), .d (.v (.slice none 0 0)), .d (.v (.slice none 0 0))]) (.var 77 [.d (vI 0), .d (vI 0), .d (.v (.slice none 0 0))]) (.var 73 [.d (vI o.act), .d (vI o.ix), .d (vI o.gen), .d (vI o.n), .d (vI o.off), .d (rB o.b), .d (vS o.name)]) a o (fun m => by simp) ha k hix hkd (by omega) hq) (.inl (by simp)) ?_
   refine xO ?_
   refine xE [4,5,7,8] ?_
   refine xT ?_
   iterate 2 refine xO ?_
   refine xE [4,5,7,8,24] fun _ => ?_
   refine W_cond rfl ?_ ?_
   · intro h24
     have hdo := doS_fail (o := o) hR (by rw [hE]; simpa using h24)
     refine xU ?_
     iterate 2 (refine xO ?_ (h := by simp [splice]; exact .mk))
     refine xO ?_
     iterate 2 (refine xO ?_ (h := by simp [splice]; exact .mk))
     refine xO ?_
     refine xE [4,5,6] fun _ => ?_
     refine W_ret ?_
     refine xR (by simp [Tryz.f74]; exact .mk) ?_
     first | (simp [Tryz.f74, hdo, hE, failS, zAbs, oAbs, ownR]; done) | (simp [Tryz.f74, hdo, hE, failS, zAbs, oAbs, ownR, he0]; done) | (simp [Tryz.f74, hdo, hE, failS, zAbs, oAbs, ownR, he0, hE2]; done) | (exfalso; first | (simp at h24; done) | (simp at h24; omega))
   intro h24
   have he0 : (effS a o).e = 0 := by rw [hE]; first | (simpa using h24; done) | exact hE2.2.2.2
   have hdo := doS_ok (o := o) hR he0
   rw [hE] at he0 hdo
   refine W_skip ?_
   rintro -
   refine W_seq ?_
   refine W_regD2 (hard := []) 7 8 (keepOk_lt (by decide)) (by kernel_rfl) 4 [0,1,2,3,4,5,6,7,8,9,10] [0,1,2,3,4,5,6,8,7,9,10] (by decide +kernel) (by decide +kernel) ?_ ?_
   · skip
     iterate 8 refine xO ?_
     iterate 2 (refine xO ?_ (h := by simp [splice]; exact .mk))
     refine xO ?_
     refine xE [4,5,6] fun _ => ?_
     refine W_ret ?_
     refine xR (by simp [Tryz.f74]; exact .mk) ?_
     first | (simp [Tryz.f74, hdo, hE, failS, zAbs, oAbs, ownR]; done) | (simp [Tryz.f74, hdo, hE, failS, zAbs, oAbs, ownR, he0]; done) | (simp [Tryz.f74, hdo, hE, failS, zAbs, oAbs, ownR, he0, hE2]; done) | (exfalso; first | (simp at h24; done) | (simp at h24; omega))
   skip
   iterate 7 refine xO ?_
   refine xO ?_ (h := by simp [splice]; exact .mk)
   refine xO ?_
   refine xO ?_ (h := by simp [splice]; exact .mk)
   refine xO ?_
   refine xE [4,5,6] fun _ => ?_
   refine W_ret ?_
   refine xR (by simp [Tryz.f74]; exact .mk) ?_
   first | (simp [Tryz.f74, hdo, hE, failS, zAbs, oAbs, ownR]; done) | (simp [Tryz.f74, hdo, hE, failS, zAbs, oAbs, ownR, he0]; done) | (simp [Tryz.f74, hdo, hE, failS, zAbs, oAbs, ownR, he0, hE2]; done) | (exfalso; first | (simp at h24; done) | (simp at h24; omega))
 · skip
   obtain ⟨k, hix, hk2, hk3, hk4⟩ := goodS_nat (kindS_good (a := a) (o := o) (by omega))
   have hkd : k < a.data.length := by omega
   have hsl := rightS_slot hR hk2
   have hte : o.ix.toNat = k := by omega
   rw [hte] at hq
   have hE : effS a o = ⟨a, 0, 0, [], 1⟩ := by simp [effS, hk, hte, readS, hq]
   refine W_regD (by kernel_rfl) [4] 4 [0,1,3,2,4,5] (by decide +kernel) ?_
   iterate 3 refine xO ?_
   refine run_inl0 rfl rfl rfl rfl (by simp; exact .mk) ⟨_, Tryz.func134, rfl, rfl⟩ (in134g g (.var 67 [.d (rI a.gens), .d (rBB a.data), .d (rR a.roots)]) (.var 73 [.d (vI o.act), .d (vI o.ix), .d (vI o.gen), .d (vI o.n), .d (vI o.off), .d (rB o.b), .d (vS o.name)]) (.var 67 [.d (.v (.slice none 0 0)), .d (.v (.slice none 0 0)), .d (.v (.slice none 0 0))]) (.var 77 [.d (vI 0), .d (vI 0), .d (.v (.slice none 0 0))]) a o hgd hn 192 hk) (.inr ⟨_, rfl⟩) ?_
   refine run_inl0 rfl rfl rfl rfl (by simp; exact .mk) ⟨_, Tryz.func192, rfl, rfl⟩ (in192f g (.var 67 [.d (rI a.gens), .d (rBB a.data), .d (rR a.roots)]) (.var 73 [.d (vI o.act), .d (vI o.ix), .d (vI o.gen), .d (vI o.n), .d (vI o.off), .d (rB o.b), .d (vS o.name)]) (.var 67 [.d (.v (.slice none 0 0)), .d (.v (.slice none 0 0)), .d (.v (.slice none 0 0))]) (.var 77 [.d (vI 0), .d (vI 0), .d (.v (.slice none 0 0))]) (.var 73 [.d (vI o.act), .d (vI o.ix), .d (vI o.gen), .d (vI o.n), .d (vI o.off), .d (rB o.b), .d (vS o.name)]) a o (fun m => by simp) ha k hix hkd (by omega) hq) (.inl (by simp)) ?_
   refine xO ?_
   refine xE [4,5,7,8] ?_
   refine xT ?_
   iterate 2 refine xO ?_
   refine xE [4,5,7,8,24] fun _ => ?_
   refine W_cond rfl ?_ ?_
   · intro h24
     have hdo := doS_fail (o := o) hR (by rw [hE]; simpa using h24)
     refine xU ?_
     iterate 2 (refine xO ?_ (h := by simp [splice]; exact .mk))
     refine xO ?_
     iterate 2 (refine xO ?_ (h := by simp [splice]; exact .mk))
     refine xO ?_
     refine xE [4,5,6] fun _ => ?_
     refine W_ret ?_
     refine xR (by simp [Tryz.f74]; exact .mk) ?_
     first | (simp [Tryz.f74, hdo, hE, failS, zAbs, oAbs, ownR]; done) | (simp [Tryz.f74, hdo, hE, failS, zAbs, oAbs, ownR, he0]; done) | (simp [Tryz.f74, hdo, hE, failS, zAbs, oAbs, ownR, he0, hE2]; done) | (exfalso; first | (simp at h24; done) | (simp at h24; omega))
   intro h24
   have he0 : (effS a o).e = 0 := by rw [hE]; first | (simpa using h24; done) | exact hE2.2.2.2
   have hdo := doS_ok (o := o) hR he0
   rw [hE] at he0 hdo
   refine W_skip ?_
   rintro -
   refine W_seq ?_
   refine W_regD2 (hard := []) 7 8 (keepOk_lt (by decide)) (by kernel_rfl) 4 [0,1,2,3,4,5,6,7,8,9,10] [0,1,2,3,4,5,6,8,7,9,10] (by decide +kernel) (by decide +kernel) ?_ ?_
   · skip
     iterate 8 refine xO ?_
     iterate 2 (refine xO ?_ (h := by simp [splice]; exact .mk))
     refine xO ?_
     refine xE [4,5,6] fun _ => ?_
     refine W_ret ?_
     refine xR (by simp [Tryz.f74]; exact .mk) ?_
     first | (simp [Tryz.f74, hdo, hE, failS, zAbs, oAbs, ownR]; done) | (simp [Tryz.f74, hdo, hE, failS, zAbs, oAbs, ownR, he0]; done) | (simp [Tryz.f74, hdo, hE, failS, zAbs, oAbs, ownR, he0, hE2]; done) | (exfalso; first | (simp at h24; done) | (simp at h24; omega))
   skip
   iterate 7 refine xO ?_
   refine xO ?_ (h := by simp [splice]; exact .mk)
   refine xO ?_
   refine xO ?_ (h := by simp [splice]; exact .mk)
   refine xO ?_
   refine xE [4,5,6] fun _ => ?_
   refine W_ret ?_
   refine xR (by simp [Tryz.f74]; exact .mk) ?_
   first | (simp [Tryz.f74, hdo, hE, failS, zAbs, oAbs, ownR]; done) | (simp [Tryz.f74, hdo, hE, failS, zAbs, oAbs, ownR, he0]; done) | (simp [Tryz.f74, hdo, hE, failS, zAbs, oAbs, ownR, he0, hE2]; done) | (exfalso; first | (simp at h24; done) | (simp at h24; omega))
 · skip
   obtain ⟨k, hix, hk2, hk3, hk4⟩ := goodS_nat (kindS_good (a := a) (o := o) (by omega))
   have hkd : k < a.data.length := by omega
   have hsl := rightS_slot hR hk2
   have hte : o.ix.toNat = k := by omega
   have hE : effS a o = writeS a k o.off o.b := by simp [effS, hk, hte]
   refine W_regDK rfl (by kernel_rfl) [1004] 4 [0,1,3,2,4,5] (by decide +kernel) ?_
   iterate 3 refine xO ?_
   refine run_inl0 rfl rfl rfl rfl (by simp; exact .mk) ⟨_, Tryz.func134, rfl, rfl⟩ (in134g g (.var 67 [.d (rI a.gens), .d (rBB a.data), .d (rR a.roots)]) (.var 73 [.d (vI o.act), .d (vI o.ix), .d (vI o.gen), .d (vI o.n), .d (vI o.off), .d (rB o.b), .d (vS o.name)]) (.var 67 [.d (.v (.slice none 0 0)), .d (.v (.slice none 0 0)), .d (.v (.slice none 0 0))]) (.var 77 [.d (vI 0), .d (vI 0), .d (.v (.slice none 0 0))]) a o hgd hn 193 hk) (.inr ⟨_, rfl⟩) ?_
   refine run_inlK rfl rfl rfl rfl (by simp; exact .mk) ⟨_, Tryz.func193, rfl, rfl⟩ (fixS_put (by simp) (fixS_put (by simp) (fixS_put (by simp) (fixS_put (by simp) (fixS_slots (by simp)))))) (in193 g (.var 67 [.d (rI a.gens), .d (rBB a.data), .d (rR a.roots)]) (.var 73 [.d (vI o.act), .d (vI o.ix), .d (vI o.gen), .d (vI o.n), .d (vI o.off), .d (rB o.b), .d (vS o.name)]) (.var 67 [.d (.v (.slice none 0 0)), .d (.v (.slice none 0 0)), .d (.v (.slice none 0 0))]) (.var 77 [.d (vI 0), .d (vI 0), .d (.v (.slice none 0 0))]) (.var 73 [.d (vI o.act), .d (vI o.ix), .d (vI o.gen), .d (vI o.n), .d (vI o.off), .d (rB o.b), .d (vS o.name)]) a o (fun m => by simp) ha k hix hkd (by omega) (by simp) hob _ rfl) (by simp) (by decide) ?_
   refine xO ?_
   refine xE [4,5,7,8] ?_
   refine xT ?_
   iterate 2 refine xO ?_
   refine xE [4,5,7,8,24] fun _ => ?_
   refine W_cond rfl ?_ ?_
   · intro h24
     have hdo := doS_fail (o := o) hR (by rw [hE]; simpa using h24)
     refine xU ?_
     iterate 2 (refine xO ?_ (h := by simp [splice]; exact .mk))
     refine xO ?_
     iterate 2 (refine xO ?_ (h := by simp [splice]; exact .mk))
     refine xO ?_
     refine xE [4,5,6] fun _ => ?_
     refine W_ret ?_
     refine xR (by simp [Tryz.f74]; exact .mk) ?_
     first | (simp [Tryz.f74, hdo, hE, failS, zAbs, oAbs, ownR]; done) | (simp [Tryz.f74, hdo, hE, failS, zAbs, oAbs, ownR, he0]; done) | (simp [Tryz.f74, hdo, hE, failS, zAbs, oAbs, ownR, he0, hE2]; done) | (exfalso; first | (simp at h24; done) | (simp at h24; omega))
   intro h24
   have he0 : (effS a o).e = 0 := by rw [hE]; first | (simpa using h24; done) | exact hE2.2.2.2
   have hdo := doS_ok (o := o) hR he0
   rw [hE] at he0 hdo
   refine W_skip ?_
   rintro -
   refine W_seq ?_
   refine W_regD2 (hard := []) 7 8 (keepOk_lt (by decide)) (by kernel_rfl) 4 [0,1,2,3,4,5,6,7,8,9,10] [0,1,2,3,4,5,6,8,7,9,10] (by decide +kernel) (by decide +kernel) ?_ ?_
   · skip
     iterate 8 refine xO ?_
     iterate 2 (refine xO ?_ (h := by simp [splice]; exact .mk))
     refine xO ?_
     refine xE [4,5,6] fun _ => ?_
     refine W_ret ?_
     refine xR (by simp [Tryz.f74]; exact .mk) ?_
     first | (simp [Tryz.f74, hdo, hE, failS, zAbs, oAbs, ownR]; done) | (simp [Tryz.f74, hdo, hE, failS, zAbs, oAbs, ownR, he0]; done) | (simp [Tryz.f74, hdo, hE, failS, zAbs, oAbs, ownR, he0, hE2]; done) | (exfalso; first | (simp at h24; done) | (simp at h24; omega))
   skip
   iterate 7 refine xO ?_
   refine xO ?_ (h := by simp [splice]; exact .mk)
   refine xO ?_
   refine xO ?_ (h := by simp [splice]; exact .mk)
   refine xO ?_
   refine xE [4,5,6] fun _ => ?_
   refine W_ret ?_
   refine xR (by simp [Tryz.f74]; exact .mk) ?_
   first | (simp [Tryz.f74, hdo, hE, failS, zAbs, oAbs, ownR]; done) | (simp [Tryz.f74, hdo, hE, failS, zAbs, oAbs, ownR, he0]; done) | (simp [Tryz.f74, hdo, hE, failS, zAbs, oAbs, ownR, he0, hE2]; done) | (exfalso; first | (simp at h24; done) | (simp at h24; omega))
 skip
 have hE : effS a o = ⟨a, 0, 0, [], e⟩ := by
  have h1 : kindS a o ≠ 186 ∧ kindS a o ≠ 187 ∧ kindS a o ≠ 190 ∧ kindS a o ≠ 191 ∧ kindS a o ≠ 192 ∧ kindS a o ≠ 193 := by omega
  unfold effS
  rw [if_neg h1.1, if_neg h1.2.1, if_neg h1.2.2.1, if_neg h1.2.2.2.1, if_neg h1.2.2.2.2.1, if_neg h1.2.2.2.2.2, hk]
  simp
 refine W_regD (by kernel_rfl) [4] 4 [0,1,3,2,4,5] (by decide +kernel) ?_
 iterate 3 refine xO ?_
 refine run_inl0 rfl rfl rfl rfl (by simp; exact .mk) ⟨_, Tryz.func134, rfl, rfl⟩ (in134b g (.var 67 [.d (rI a.gens), .d (rBB a.data), .d (rR a.roots)]) (.var 73 [.d (vI o.act), .d (vI o.ix), .d (vI o.gen), .d (vI o.n), .d (vI o.off), .d (rB o.b), .d (vS o.name)]) (.var 67 [.d (.v (.slice none 0 0)), .d (.v (.slice none 0 0)), .d (.v (.slice none 0 0))]) (.var 77 [.d (vI 0), .d (vI 0), .d (.v (.slice none 0 0))]) a o hgd hn e he hk) (.inr ⟨_, rfl⟩) ?_
 refine run_inl0 rfl rfl rfl rfl (by simp; exact .mk) ⟨_, Tryz.func185, rfl, rfl⟩ (in185 g (.var 67 [.d (rI a.gens), .d (rBB a.data), .d (rR a.roots)]) (.var 73 [.d (vI o.act), .d (vI o.ix), .d (vI o.gen), .d (vI o.n), .d (vI o.off), .d (rB o.b), .d (vS o.name)]) (.var 67 [.d (.v (.slice none 0 0)), .d (.v (.slice none 0 0)), .d (.v (.slice none 0 0))]) (.var 77 [.d (vI 0), .d (vI 0), .d (.v (.slice none 0 0))]) (.var 73 [.d (vI o.act), .d (vI o.ix), .d (vI o.gen), .d (vI o.n), .d (vI o.off), .d (rB o.b), .d (vS o.name)]) a o e (fun m => by simp)) (.inl (by simp)) ?_
 refine xO ?_
 refine xE [4,5,7,8] ?_
 refine xT ?_
 iterate 2 refine xO ?_
 refine xE [4,5,7,8,24] fun _ => ?_
 refine W_cond rfl ?_ ?_
 · intro h24
   have hdo := doS_fail (o := o) hR (by rw [hE]; simpa using h24)
   refine xU ?_
   iterate 2 (refine xO ?_ (h := by simp [splice]; exact .mk))
   refine xO ?_
   iterate 2 (refine xO ?_ (h := by simp [splice]; exact .mk))
   refine xO ?_
   refine xE [4,5,6] fun _ => ?_
   refine W_ret ?_
   refine xR (by simp [Tryz.f74]; exact .mk) ?_
   first | (simp [Tryz.f74, hdo, hE, failS, zAbs, oAbs, ownR]; done) | (simp [Tryz.f74, hdo, hE, failS, zAbs, oAbs, ownR, he0]; done) | (simp [Tryz.f74, hdo, hE, failS, zAbs, oAbs, ownR, he0, hE2]; done) | (exfalso; first | (simp at h24; done) | (simp at h24; omega))
 intro h24
 have he0 : (effS a o).e = 0 := by rw [hE]; first | (simpa using h24; done) | exact hE2.2.2.2
 have hdo := doS_ok (o := o) hR he0
 rw [hE] at he0 hdo
 refine W_skip ?_
 rintro -
 refine W_seq ?_
 refine W_regD2 (hard := []) 7 8 (keepOk_lt (by decide)) (by kernel_rfl) 4 [0,1,2,3,4,5,6,7,8,9,10] [0,1,2,3,4,5,6,8,7,9,10] (by decide +kernel) (by decide +kernel) ?_ ?_
 · skip
   iterate 8 refine xO ?_
   iterate 2 (refine xO ?_ (h := by simp [splice]; exact .mk))
   refine xO ?_
   refine xE [4,5,6] fun _ => ?_
   refine W_ret ?_
   refine xR (by simp [Tryz.f74]; exact .mk) ?_
   first | (simp [Tryz.f74, hdo, hE, failS, zAbs, oAbs, ownR]; done) | (simp [Tryz.f74, hdo, hE, failS, zAbs, oAbs, ownR, he0]; done) | (simp [Tryz.f74, hdo, hE, failS, zAbs, oAbs, ownR, he0, hE2]; done) | (exfalso; first | (simp at h24; done) | (simp at h24; omega))
 skip
 iterate 7 refine xO ?_
 refine xO ?_ (h := by simp [splice]; exact .mk)
 refine xO ?_
 refine xO ?_ (h := by simp [splice]; exact .mk)
 refine xO ?_
 refine xE [4,5,6] fun _ => ?_
 refine W_ret ?_
 refine xR (by simp [Tryz.f74]; exact .mk) ?_
 first | (simp [Tryz.f74, hdo, hE, failS, zAbs, oAbs, ownR]; done) | (simp [Tryz.f74, hdo, hE, failS, zAbs, oAbs, ownR, he0]; done) | (simp [Tryz.f74, hdo, hE, failS, zAbs, oAbs, ownR, he0, hE2]; done) | (exfalso; first | (simp at h24; done) | (simp at h24; omega))

set_option maxRecDepth 4000
open Go.Awp
theorem ct129 (g : Gl) (s : Stt) (o : Op) (hs : s.Ok) (hR : sttS s = true) (hn : o.name.size ≤ 2^40) (hob : o.b.length ≤ 2^40) : CtAt Tryz.prog g 129 [eStt s, eOp o] (oEfo (doF s o)) := by
 refine ctAt_of_W Tryz.func129 rfl rfl (Nat.le_of_ble_eq_true rfl) fun B S => ?_
 simp only [eStt, eOp, List.map, argD_agg, argD_v]
 have c60 := ct60 g s hs
 obtain ⟨Q, hQ⟩ : ∃ Q, Q = ofS s := ⟨_, rfl⟩
 rw [← hQ] at c60
 have hQo : Q.Ok := by rw [hQ]; exact ofS_ok hs
 have c74 := ct74 g Q o hQo hn hob
 obtain ⟨R, hR0⟩ : ∃ R, R = doS Q o := ⟨_, rfl⟩
 rw [← hR0] at c74
 have hRe : doS (ofS s) o = R := by rw [hR0, hQ]
 refine xU ?_
 iterate 5 refine xO ?_
 refine xE [2,3,4,5] fun _ => ?_
 refine W_seq ?_
 refine W_regDTK (hard := []) [1,3,8,9] (keepOk_lt (by decide)) (by kernel_rfl) 4 [0,2,1,3,4,5,6,7,8,9,10,11,12] [[0,2,1,3,4,5,6,7,9,8,10,11,12], [0,2,1,8,3,4,5,6,7,9,10,11,12], [0,2,1,8,9,3,4,5,6,7,10,11,12], [0,2,1,9,3,4,5,6,7,8,10,11,12], [0,2,1,9,8,3,4,5,6,7,10,11,12], [0,2,8,1,3,4,5,6,7,9,10,11,12], [0,2,8,1,9,3,4,5,6,7,10,11,12], [0,2,8,9,1,3,4,5,6,7,10,11,12], [0,2,9,1,3,4,5,6,7,8,10,11,12], [0,2,9,1,8,3,4,5,6,7,10,11,12], [0,2,9,8,1,3,4,5,6,7,10,11,12]] (by decide +kernel) ?_
 iterate 2 refine xO ?_
 refine xC (c60) ?_ (he := by simp [row_rows, Function.comp_def]; exact .mk) (hi := by simp [oStt, oAbs]; exact .mk)
 refine xC (c74) ?_ (he := by simp [row_rows, Function.comp_def]; exact .mk) (hi := by simp [oStt, oAbs]; exact .mk)
 iterate 6 refine xO ?_
 iterate 2 (refine xO ?_ (h := by simp [splice]; exact .mk))
 refine xO ?_
 refine xE [2,3,4,5,7,8,9] ?_
 refine ⟨_, rfl, ⟨?_, ?_, ?_, ?_, ?_, ?_, ?_, ?_, ?_, ?_, ?_, trivial⟩, ?_⟩
 · skip
   iterate 2 refine xO ?_
   refine xC (c60) ?_ (he := by simp [row_rows, Function.comp_def]; exact .mk) (hi := by simp [oStt, oAbs]; exact .mk)
   refine xC (c74) ?_ (he := by simp [row_rows, Function.comp_def]; exact .mk) (hi := by simp [oStt, oAbs]; exact .mk)
   iterate 6 refine xO ?_
   iterate 2 (refine xO ?_ (h := by simp [splice]; exact .mk))
   refine xO ?_
   refine xE [2,3,4,5,7,8,9] ?_
   exact Weak.perm [0,1,2,3,4,5,6,7,8,9,10,12,11] [0,1,2,3,4,5,6,7,8,9,10,12,11] rfl rfl rfl
 · skip
   iterate 2 refine xO ?_
   refine xC (c60) ?_ (he := by simp [row_rows, Function.comp_def]; exact .mk) (hi := by simp [oStt, oAbs]; exact .mk)
   refine xO ?_
   refine xC (c74) ?_ (he := by simp [row_rows, Function.comp_def]; exact .mk) (hi := by simp [oStt, oAbs]; exact .mk)
   iterate 5 refine xO ?_
   iterate 2 (refine xO ?_ (h := by simp [splice]; exact .mk))
   refine xO ?_
   refine xE [2,3,4,5,7,8,9] ?_
   exact Weak.perm [0,1,2,3,4,5,6,11,7,8,9,10,12] [0,1,2,3,4,5,6,8,9,10,11,7,12] rfl rfl rfl
 · skip
   iterate 2 refine xO ?_
   refine xC (c60) ?_ (he := by simp [row_rows, Function.comp_def]; exact .mk) (hi := by simp [oStt, oAbs]; exact .mk)
   iterate 2 refine xO ?_
   refine xC (c74) ?_ (he := by simp [row_rows, Function.comp_def]; exact .mk) (hi := by simp [oStt, oAbs]; exact .mk)
   iterate 4 refine xO ?_
   iterate 2 (refine xO ?_ (h := by simp [splice]; exact .mk))
   refine xO ?_
   refine xE [2,3,4,5,7,8,9] ?_
   exact Weak.perm [0,1,2,3,4,5,6,11,12,7,8,9,10] [0,1,2,3,4,5,6,9,10,11,12,7,8] rfl rfl rfl
 · skip
   iterate 2 refine xO ?_
   refine xC (c60) ?_ (he := by simp [row_rows, Function.comp_def]; exact .mk) (hi := by simp [oStt, oAbs]; exact .mk)
   refine xO ?_
   refine xC (c74) ?_ (he := by simp [row_rows, Function.comp_def]; exact .mk) (hi := by simp [oStt, oAbs]; exact .mk)
   iterate 5 refine xO ?_
   iterate 2 (refine xO ?_ (h := by simp [splice]; exact .mk))
   refine xO ?_
   refine xE [2,3,4,5,7,8,9] ?_
   exact Weak.perm [0,1,2,3,4,5,6,12,7,8,9,10,11] [0,1,2,3,4,5,6,8,9,10,11,12,7] rfl rfl rfl
 · skip
   iterate 2 refine xO ?_
   refine xC (c60) ?_ (he := by simp [row_rows, Function.comp_def]; exact .mk) (hi := by simp [oStt, oAbs]; exact .mk)
   iterate 2 refine xO ?_
   refine xC (c74) ?_ (he := by simp [row_rows, Function.comp_def]; exact .mk) (hi := by simp [oStt, oAbs]; exact .mk)
   iterate 4 refine xO ?_
   iterate 2 (refine xO ?_ (h := by simp [splice]; exact .mk))
   refine xO ?_
   refine xE [2,3,4,5,7,8,9] ?_
   exact Weak.perm [0,1,2,3,4,5,6,12,11,7,8,9,10] [0,1,2,3,4,5,6,9,10,11,12,8,7] rfl rfl rfl
 · skip
   iterate 3 refine xO ?_
   refine xC (c60) ?_ (he := by simp [row_rows, Function.comp_def]; exact .mk) (hi := by simp [oStt, oAbs]; exact .mk)
   refine xC (c74) ?_ (he := by simp [row_rows, Function.comp_def]; exact .mk) (hi := by simp [oStt, oAbs]; exact .mk)
   iterate 5 refine xO ?_
   iterate 2 (refine xO ?_ (h := by simp [splice]; exact .mk))
   refine xO ?_
   refine xE [2,3,4,5,7,8,9] ?_
   exact Weak.perm [0,1,2,3,11,4,5,6,7,8,9,10,12] [0,1,2,3,5,6,7,8,9,10,11,4,12] rfl rfl rfl
 · skip
   iterate 3 refine xO ?_
   refine xC (c60) ?_ (he := by simp [row_rows, Function.comp_def]; exact .mk) (hi := by simp [oStt, oAbs]; exact .mk)
   refine xO ?_
   refine xC (c74) ?_ (he := by simp [row_rows, Function.comp_def]; exact .mk) (hi := by simp [oStt, oAbs]; exact .mk)
   iterate 4 refine xO ?_
   iterate 2 (refine xO ?_ (h := by simp [splice]; exact .mk))
   refine xO ?_
   refine xE [2,3,4,5,7,8,9] ?_
   exact Weak.perm [0,1,2,3,11,4,5,6,12,7,8,9,10] [0,1,2,3,5,6,7,9,10,11,12,4,8] rfl rfl rfl
 · skip
   iterate 4 refine xO ?_
   refine xC (c60) ?_ (he := by simp [row_rows, Function.comp_def]; exact .mk) (hi := by simp [oStt, oAbs]; exact .mk)
   refine xC (c74) ?_ (he := by simp [row_rows, Function.comp_def]; exact .mk) (hi := by simp [oStt, oAbs]; exact .mk)
   iterate 4 refine xO ?_
   iterate 2 (refine xO ?_ (h := by simp [splice]; exact .mk))
   refine xO ?_
   refine xE [2,3,4,5,7,8,9] ?_
   exact Weak.perm [0,1,2,3,11,12,4,5,6,7,8,9,10] [0,1,2,3,6,7,8,9,10,11,12,4,5] rfl rfl rfl
 · skip
   iterate 3 refine xO ?_
   refine xC (c60) ?_ (he := by simp [row_rows, Function.comp_def]; exact .mk) (hi := by simp [oStt, oAbs]; exact .mk)
   refine xC (c74) ?_ (he := by simp [row_rows, Function.comp_def]; exact .mk) (hi := by simp [oStt, oAbs]; exact .mk)
   iterate 5 refine xO ?_
   iterate 2 (refine xO ?_ (h := by simp [splice]; exact .mk))
   refine xO ?_
   refine xE [2,3,4,5,7,8,9] ?_
   exact Weak.perm [0,1,2,3,12,4,5,6,7,8,9,10,11] [0,1,2,3,5,6,7,8,9,10,11,12,4] rfl rfl rfl
 · skip
   iterate 3 refine xO ?_
   refine xC (c60) ?_ (he := by simp [row_rows, Function.comp_def]; exact .mk) (hi := by simp [oStt, oAbs]; exact .mk)
   refine xO ?_
   refine xC (c74) ?_ (he := by simp [row_rows, Function.comp_def]; exact .mk) (hi := by simp [oStt, oAbs]; exact .mk)
   iterate 4 refine xO ?_
   iterate 2 (refine xO ?_ (h := by simp [splice]; exact .mk))
   refine xO ?_
   refine xE [2,3,4,5,7,8,9] ?_
   exact Weak.perm [0,1,2,3,12,4,5,6,11,7,8,9,10] [0,1,2,3,5,6,7,9,10,11,12,8,4] rfl rfl rfl
 · skip
   iterate 4 refine xO ?_
   refine xC (c60) ?_ (he := by simp [row_rows, Function.comp_def]; exact .mk) (hi := by simp [oStt, oAbs]; exact .mk)
   refine xC (c74) ?_ (he := by simp [row_rows, Function.comp_def]; exact .mk) (hi := by simp [oStt, oAbs]; exact .mk)
   iterate 4 refine xO ?_
   iterate 2 (refine xO ?_ (h := by simp [splice]; exact .mk))
   refine xO ?_
   refine xE [2,3,4,5,7,8,9] ?_
   exact Weak.perm [0,1,2,3,12,11,4,5,6,7,8,9,10] [0,1,2,3,6,7,8,9,10,11,12,5,4] rfl rfl rfl
 rintro -
 refine W_seq ?_
 refine xU ?_
 iterate 2 refine xO ?_
 refine xE [2,3,4,5,7,8,9,22] fun _ => ?_
 refine W_cond rfl ?_ ?_
 · intro h22
   have he : R.e ≠ 0 := by simpa using h22
   have hd := doF_bad (s := s) (o := o) (by rw [hRe]; exact he)
   rw [hRe] at hd
   refine xU ?_
   iterate 2 (refine xO ?_ (h := by simp [splice]; exact .mk))
   refine xO ?_
   iterate 2 (refine xO ?_ (h := by simp [splice]; exact .mk))
   refine xO ?_
   refine xE [4,5,6] fun _ => ?_
   refine W_ret ?_
   refine end_ret (by simp [Tryz.f129]; exact .mk) (by simp; exact .mk) ?_ (by simp [noSn_oEfo])
   first | (simp [Tryz.f129, hd, oEfo, failO, zStt, oStt, ownR]; done) | (simp [Tryz.f129, hd, hX, oEfo, oStt, ownR, rootsAt, dataAt]; done)
 intro h22
 have he : R.e = 0 := by simpa using h22
 have h0 : (doS (ofS s) o).e = 0 := by rw [hRe]; exact he
 refine W_skip ?_
 refine xT ?_
 iterate 3 refine xO ?_
 refine xO ?_ (h := by simp [splice]; exact .mk)
 iterate 2 refine xO ?_
 refine xE [3,4,5,8,10] ?_
 refine xT ?_
 iterate 3 refine xO ?_
 refine xE [3,4,5,8,10,11] fun _ => ?_
 refine W_seq ?_
 refine xU ?_
 iterate 2 refine xO ?_
 refine xE [4,5,8,10,11,34] fun _ => ?_
 refine W_block ?_
 refine xU ?_
 iterate 2 refine xO ?_
 refine xE [4,5,8,10,11,34,35] fun _ => ?_
 refine W_cond rfl ?_ ?_
 · intro h35
   have k1 : o.act = 1 := by simpa using h35
   obtain ⟨X, hX⟩ : ∃ X, X = (putS s o.n).1 := ⟨_, rfl⟩
   obtain ⟨e, he2⟩ : ∃ e : Int, e = (putS s o.n).2.2 := ⟨_, rfl⟩
   have hA : actO s (doS (ofS s) o).a o = (X, e) := by rw [hX, he2]; simp [actO, hRe, k1]
   have hcall := in172 g s hs Q R.a R.ix R.gen R.b o X e hX he2
   have hent : Enters Tryz.prog 172 := ⟨_, Tryz.func172, rfl, rfl⟩
   refine W_reg rfl ?_
   iterate 3 refine xO ?_
   refine xE [4,5,8,11] fun _ => ?_
   refine W_seq ?_
   refine W_regK rfl [1001] rfl ?_
   refine xO ?_
   refine run_inlK rfl rfl rfl rfl (by simp; exact .mk) hent (fixS_put (by simp) (fixS_slots (by simp))) (hcall) (by simp) (by decide) ?_
   iterate 4 refine xO ?_
   refine xO ?_ (h := by simp [splice]; exact .mk)
   refine xO ?_
   refine xE [4,5,8,9,12] fun _ => ?_
   refine W_seq ?_
   refine xU ?_
   iterate 2 refine xO ?_
   refine xE [4,5,8,9,12,62] fun _ => ?_
   refine W_cond rfl ?_ ?_
   · intro h62
     have hd := doF_err h0 hA (by simpa using h62)
     refine xU ?_
     iterate 2 (refine xO ?_ (h := by simp [splice]; exact .mk))
     refine xO ?_
     iterate 2 (refine xO ?_ (h := by simp [splice]; exact .mk))
     refine xO ?_
     refine xE [4,5,6] fun _ => ?_
     refine W_ret ?_
     refine end_ret (by simp [Tryz.f129]; exact .mk) (by simp; exact .mk) ?_ (by simp [noSn_oEfo])
     first | (simp [Tryz.f129, hd, oEfo, failO, zStt, oStt, ownR]; done) | (simp [Tryz.f129, hd, hX, oEfo, oStt, ownR, rootsAt, dataAt]; done)
   intro h62
   have he3 : e = 0 := by simpa using h62
   have hd := doF_ok h0 (by rw [hA, he3])
   rw [hRe] at hd
   refine W_skip ?_
   rintro -
   refine W_seq ?_
   refine W_regD2 (hard := []) 1 2 (keepOk_lt (by decide)) (by kernel_rfl) 4 [0,1,2,3,4] [0,2,1,3,4] (by decide +kernel) (by decide +kernel) ?_ ?_
   · skip
     iterate 2 refine xO ?_
     iterate 2 (refine xO ?_ (h := by simp [splice]; exact .mk))
     refine xO ?_
     refine xE [4,5,6] fun _ => ?_
     refine W_ret ?_
     refine end_ret (by simp [Tryz.f129]; exact .mk) (by simp; exact .mk) ?_ (by simp [noSn_oEfo])
     first | (simp [Tryz.f129, hd, oEfo, failO, zStt, oStt, ownR]; done) | (simp [Tryz.f129, hd, hX, oEfo, oStt, ownR, rootsAt, dataAt]; done)
   skip
   refine xO ?_
   refine xO ?_ (h := by simp [splice]; exact .mk)
   refine xO ?_
   refine xO ?_ (h := by simp [splice]; exact .mk)
   refine xO ?_
   refine xE [4,5,6] fun _ => ?_
   refine W_ret ?_
   refine end_ret (by simp [Tryz.f129]; exact .mk) (by simp; exact .mk) ?_ (by simp [noSn_oEfo])
   first | (simp [Tryz.f129, hd, oEfo, failO, zStt, oStt, ownR]; done) | (simp [Tryz.f129, hd, hX, oEfo, oStt, ownR, rootsAt, dataAt]; done)
 intro h35
 have k1 : o.act ≠ 1 := by simpa using h35
 refine xU ?_
 iterate 2 refine xO ?_
 refine xE [4,5,8,10,11,34,39] fun _ => ?_
 refine W_cond rfl ?_ ?_
 · intro h39
   have k2 : o.act = 2 := by simpa using h39
   obtain ⟨X, hX⟩ : ∃ X, X = (takeS s o.ix).1 := ⟨_, rfl⟩
   obtain ⟨e, he2⟩ : ∃ e : Int, e = (takeS s o.ix).2 := ⟨_, rfl⟩
   have hA : actO s (doS (ofS s) o).a o = (X, e) := by rw [hX, he2]; simp [actO, hRe, k1, k2]
   have hcall := in173 g s hs Q R.a R.ix R.gen R.b o X e hX he2
   have hent : Enters Tryz.prog 173 := ⟨_, Tryz.func173, rfl, rfl⟩
   refine W_reg rfl ?_
   iterate 3 refine xO ?_
   refine xE [4,5,8,11] fun _ => ?_
   refine W_seq ?_
   refine W_regK rfl [1001] rfl ?_
   refine xO ?_
   refine run_inlK rfl rfl rfl rfl (by simp; exact .mk) hent (fixS_put (by simp) (fixS_slots (by simp))) (hcall) (by simp) (by decide) ?_
   iterate 4 refine xO ?_
   refine xO ?_ (h := by simp [splice]; exact .mk)
   refine xO ?_
   refine xE [4,5,8,9,12] fun _ => ?_
   refine W_seq ?_
   refine xU ?_
   iterate 2 refine xO ?_
   refine xE [4,5,8,9,12,62] fun _ => ?_
   refine W_cond rfl ?_ ?_
   · intro h62
     have hd := doF_err h0 hA (by simpa using h62)
     refine xU ?_
     iterate 2 (refine xO ?_ (h := by simp [splice]; exact .mk))
     refine xO ?_
     iterate 2 (refine xO ?_ (h := by simp [splice]; exact .mk))
     refine xO ?_
     refine xE [4,5,6] fun _ => ?_
     refine W_ret ?_
     refine end_ret (by simp [Tryz.f129]; exact .mk) (by simp; exact .mk) ?_ (by simp [noSn_oEfo])
     first | (simp [Tryz.f129, hd, oEfo, failO, zStt, oStt, ownR]; done) | (simp [Tryz.f129, hd, hX, oEfo, oStt, ownR, rootsAt, dataAt]; done)
   intro h62
   have he3 : e = 0 := by simpa using h62
   have hd := doF_ok h0 (by rw [hA, he3])
   rw [hRe] at hd
   refine W_skip ?_
   rintro -
   refine W_seq ?_
   refine W_regD2 (hard := []) 1 2 (keepOk_lt (by decide)) (by kernel_rfl) 4 [0,1,2,3,4] [0,2,1,3,4] (by decide +kernel) (by decide +kernel) ?_ ?_
   · skip
     iterate 2 refine xO ?_
     iterate 2 (refine xO ?_ (h := by simp [splice]; exact .mk))
     refine xO ?_
     refine xE [4,5,6] fun _ => ?_
     refine W_ret ?_
     refine end_ret (by simp [Tryz.f129]; exact .mk) (by simp; exact .mk) ?_ (by simp [noSn_oEfo])
     first | (simp [Tryz.f129, hd, oEfo, failO, zStt, oStt, ownR]; done) | (simp [Tryz.f129, hd, hX, oEfo, oStt, ownR, rootsAt, dataAt]; done)
   skip
   refine xO ?_
   refine xO ?_ (h := by simp [splice]; exact .mk)
   refine xO ?_
   refine xO ?_ (h := by simp [splice]; exact .mk)
   refine xO ?_
   refine xE [4,5,6] fun _ => ?_
   refine W_ret ?_
   refine end_ret (by simp [Tryz.f129]; exact .mk) (by simp; exact .mk) ?_ (by simp [noSn_oEfo])
   first | (simp [Tryz.f129, hd, oEfo, failO, zStt, oStt, ownR]; done) | (simp [Tryz.f129, hd, hX, oEfo, oStt, ownR, rootsAt, dataAt]; done)
 intro h39
 have k2 : o.act ≠ 2 := by simpa using h39
 refine xU ?_
 iterate 2 refine xO ?_
 refine xE [4,5,8,10,11,34,43] fun _ => ?_
 refine W_cond rfl ?_ ?_
 · intro h43
   have k3 : o.act = 3 := by simpa using h43
   obtain ⟨X, hX⟩ : ∃ X, X = (rszS s o.ix o.n).1 := ⟨_, rfl⟩
   obtain ⟨e, he2⟩ : ∃ e : Int, e = (rszS s o.ix o.n).2 := ⟨_, rfl⟩
   have hA : actO s (doS (ofS s) o).a o = (X, e) := by rw [hX, he2]; simp [actO, hRe, k1, k2, k3]
   have hcall := in174 g s hs Q R.a R.ix R.gen R.b o X e hX he2
   have hent : Enters Tryz.prog 174 := ⟨_, Tryz.func174, rfl, rfl⟩
   refine W_reg rfl ?_
   iterate 3 refine xO ?_
   refine xE [4,5,8,11] fun _ => ?_
   refine W_seq ?_
   refine W_regK rfl [1001] rfl ?_
   refine xO ?_
   refine run_inlK rfl rfl rfl rfl (by simp; exact .mk) hent (fixS_put (by simp) (fixS_slots (by simp))) (hcall) (by simp) (by decide) ?_
   iterate 4 refine xO ?_
   refine xO ?_ (h := by simp [splice]; exact .mk)
   refine xO ?_
   refine xE [4,5,8,9,12] fun _ => ?_
   refine W_seq ?_
   refine xU ?_
   iterate 2 refine xO ?_
   refine xE [4,5,8,9,12,62] fun _ => ?_
   refine W_cond rfl ?_ ?_
   · intro h62
     have hd := doF_err h0 hA (by simpa using h62)
     refine xU ?_
     iterate 2 (refine xO ?_ (h := by simp [splice]; exact .mk))
     refine xO ?_
     iterate 2 (refine xO ?_ (h := by simp [splice]; exact .mk))
     refine xO ?_
     refine xE [4,5,6] fun _ => ?_
     refine W_ret ?_
     refine end_ret (by simp [Tryz.f129]; exact .mk) (by simp; exact .mk) ?_ (by simp [noSn_oEfo])
     first | (simp [Tryz.f129, hd, oEfo, failO, zStt, oStt, ownR]; done) | (simp [Tryz.f129, hd, hX, oEfo, oStt, ownR, rootsAt, dataAt]; done)
   intro h62
   have he3 : e = 0 := by simpa using h62
   have hd := doF_ok h0 (by rw [hA, he3])
   rw [hRe] at hd
   refine W_skip ?_
   rintro -
   refine W_seq ?_
   refine W_regD2 (hard := []) 1 2 (keepOk_lt (by decide)) (by kernel_rfl) 4 [0,1,2,3,4] [0,2,1,3,4] (by decide +kernel) (by decide +kernel) ?_ ?_
   · skip
     iterate 2 refine xO ?_
     iterate 2 (refine xO ?_ (h := by simp [splice]; exact .mk))
     refine xO ?_
     refine xE [4,5,6] fun _ => ?_
     refine W_ret ?_
     refine end_ret (by simp [Tryz.f129]; exact .mk) (by simp; exact .mk) ?_ (by simp [noSn_oEfo])
     first | (simp [Tryz.f129, hd, oEfo, failO, zStt, oStt, ownR]; done) | (simp [Tryz.f129, hd, hX, oEfo, oStt, ownR, rootsAt, dataAt]; done)
   skip
   refine xO ?_
   refine xO ?_ (h := by simp [splice]; exact .mk)
   refine xO ?_
   refine xO ?_ (h := by simp [splice]; exact .mk)
   refine xO ?_
   refine xE [4,5,6] fun _ => ?_
   refine W_ret ?_
   refine end_ret (by simp [Tryz.f129]; exact .mk) (by simp; exact .mk) ?_ (by simp [noSn_oEfo])
   first | (simp [Tryz.f129, hd, oEfo, failO, zStt, oStt, ownR]; done) | (simp [Tryz.f129, hd, hX, oEfo, oStt, ownR, rootsAt, dataAt]; done)
 intro h43
 have k3 : o.act ≠ 3 := by simpa using h43
 refine xU ?_
 iterate 2 refine xO ?_
 refine xE [4,5,8,10,11,34,47] fun _ => ?_
 refine W_cond rfl ?_ ?_
 · intro h47
   have k5 : o.act = 5 := by simpa using h47
   obtain ⟨k, hix, hk, hk2⟩ := write_at hR h0 k5
   rw [hRe] at hk2
   obtain ⟨X, hX⟩ : ∃ X, X = (dataAt s k (nth R.a.data k)) := ⟨_, rfl⟩
   obtain ⟨e, he2⟩ : ∃ e : Int, e = 0 := ⟨_, rfl⟩
   have hA : actO s (doS (ofS s) o).a o = (X, e) := by rw [hX, he2]; simp [actO, hRe, k1, k2, k3, k5, hix]
   have hcall := in175 g s hs Q R.a R.ix R.gen R.b o e he2 k hix hk hk2
   have hent : Enters Tryz.prog 175 := ⟨_, Tryz.func175, rfl, rfl⟩
   refine W_reg rfl ?_
   iterate 3 refine xO ?_
   refine xE [4,5,8,11] fun _ => ?_
   refine W_seq ?_
   refine W_regK rfl [1001] rfl ?_
   refine xO ?_
   refine run_inlK rfl rfl rfl rfl (by simp; exact .mk) hent (fixS_put (by simp) (fixS_slots (by simp))) (hcall) (by simp) (by decide) ?_
   iterate 4 refine xO ?_
   refine xO ?_ (h := by simp [splice]; exact .mk)
   refine xO ?_
   refine xE [4,5,8,9,12] fun _ => ?_
   refine W_seq ?_
   refine xU ?_
   iterate 2 refine xO ?_
   refine xE [4,5,8,9,12,62] fun _ => ?_
   refine W_cond rfl ?_ ?_
   · intro h62
     have hd := doF_err h0 hA (by simpa using h62)
     refine xU ?_
     iterate 2 (refine xO ?_ (h := by simp [splice]; exact .mk))
     refine xO ?_
     iterate 2 (refine xO ?_ (h := by simp [splice]; exact .mk))
     refine xO ?_
     refine xE [4,5,6] fun _ => ?_
     refine W_ret ?_
     refine end_ret (by simp [Tryz.f129]; exact .mk) (by simp; exact .mk) ?_ (by simp [noSn_oEfo])
     first | (simp [Tryz.f129, hd, oEfo, failO, zStt, oStt, ownR]; done) | (simp [Tryz.f129, hd, hX, oEfo, oStt, ownR, rootsAt, dataAt]; done)
   intro h62
   have he3 : e = 0 := by simpa using h62
   have hd := doF_ok h0 (by rw [hA, he3])
   rw [hRe] at hd
   refine W_skip ?_
   rintro -
   refine W_seq ?_
   refine W_regD2 (hard := []) 1 2 (keepOk_lt (by decide)) (by kernel_rfl) 4 [0,1,2,3,4] [0,2,1,3,4] (by decide +kernel) (by decide +kernel) ?_ ?_
   · skip
     iterate 2 refine xO ?_
     iterate 2 (refine xO ?_ (h := by simp [splice]; exact .mk))
     refine xO ?_
     refine xE [4,5,6] fun _ => ?_
     refine W_ret ?_
     refine end_ret (by simp [Tryz.f129]; exact .mk) (by simp; exact .mk) ?_ (by simp [noSn_oEfo])
     first | (simp [Tryz.f129, hd, oEfo, failO, zStt, oStt, ownR]; done) | (simp [Tryz.f129, hd, hX, oEfo, oStt, ownR, rootsAt, dataAt]; done)
   skip
   refine xO ?_
   refine xO ?_ (h := by simp [splice]; exact .mk)
   refine xO ?_
   refine xO ?_ (h := by simp [splice]; exact .mk)
   refine xO ?_
   refine xE [4,5,6] fun _ => ?_
   refine W_ret ?_
   refine end_ret (by simp [Tryz.f129]; exact .mk) (by simp; exact .mk) ?_ (by simp [noSn_oEfo])
   first | (simp [Tryz.f129, hd, oEfo, failO, zStt, oStt, ownR]; done) | (simp [Tryz.f129, hd, hX, oEfo, oStt, ownR, rootsAt, dataAt]; done)
 intro h47
 have k5 : o.act ≠ 5 := by simpa using h47
 refine W_seq ?_
 refine xU ?_
 iterate 2 refine xO ?_
 refine xE [4,5,8,10,11,34,51] fun _ => ?_
 refine W_cond rfl ?_ ?_
 · intro h51
   have k6 : o.act = 6 := by simpa using h51
   refine W_skip ?_
   rintro -
   refine W_cond rfl ?_ ?_
   · intro h51'
     have k7 : o.act = 6 ∨ o.act = 8 := by first | exact .inl k6 | exact .inr (by simpa using h51')
     obtain ⟨X, hX⟩ : ∃ X, X = (rootsAt s R.a.roots) := ⟨_, rfl⟩
     obtain ⟨e, he2⟩ : ∃ e : Int, e = 0 := ⟨_, rfl⟩
     have hA : actO s (doS (ofS s) o).a o = (X, e) := by rw [hX, he2]; simp [actO, hRe, k1, k2, k3, k5, k7]
     have hcall := in176 g s hs Q R.a R.ix R.gen R.b o e he2
     have hent : Enters Tryz.prog 176 := ⟨_, Tryz.func176, rfl, rfl⟩
     refine W_reg rfl ?_
     iterate 3 refine xO ?_
     refine xE [4,5,8,11] fun _ => ?_
     refine W_seq ?_
     refine W_regK rfl [1001] rfl ?_
     refine xO ?_
     refine run_inlK rfl rfl rfl rfl (by simp; exact .mk) hent (fixS_put (by simp) (fixS_slots (by simp))) (hcall) (by simp) (by decide) ?_
     iterate 4 refine xO ?_
     refine xO ?_ (h := by simp [splice]; exact .mk)
     refine xO ?_
     refine xE [4,5,8,9,12] fun _ => ?_
     refine W_seq ?_
     refine xU ?_
     iterate 2 refine xO ?_
     refine xE [4,5,8,9,12,62] fun _ => ?_
     refine W_cond rfl ?_ ?_
     · intro h62
       have hd := doF_err h0 hA (by simpa using h62)
       refine xU ?_
       iterate 2 (refine xO ?_ (h := by simp [splice]; exact .mk))
       refine xO ?_
       iterate 2 (refine xO ?_ (h := by simp [splice]; exact .mk))
       refine xO ?_
       refine xE [4,5,6] fun _ => ?_
       refine W_ret ?_
       refine end_ret (by simp [Tryz.f129]; exact .mk) (by simp; exact .mk) ?_ (by simp [noSn_oEfo])
       first | (simp [Tryz.f129, hd, oEfo, failO, zStt, oStt, ownR]; done) | (simp [Tryz.f129, hd, hX, oEfo, oStt, ownR, rootsAt, dataAt]; done)
     intro h62
     have he3 : e = 0 := by simpa using h62
     have hd := doF_ok h0 (by rw [hA, he3])
     rw [hRe] at hd
     refine W_skip ?_
     rintro -
     refine W_seq ?_
     refine W_regD2 (hard := []) 1 2 (keepOk_lt (by decide)) (by kernel_rfl) 4 [0,1,2,3,4] [0,2,1,3,4] (by decide +kernel) (by decide +kernel) ?_ ?_
     · skip
       iterate 2 refine xO ?_
       iterate 2 (refine xO ?_ (h := by simp [splice]; exact .mk))
       refine xO ?_
       refine xE [4,5,6] fun _ => ?_
       refine W_ret ?_
       refine end_ret (by simp [Tryz.f129]; exact .mk) (by simp; exact .mk) ?_ (by simp [noSn_oEfo])
       first | (simp [Tryz.f129, hd, oEfo, failO, zStt, oStt, ownR]; done) | (simp [Tryz.f129, hd, hX, oEfo, oStt, ownR, rootsAt, dataAt]; done)
     skip
     refine xO ?_
     refine xO ?_ (h := by simp [splice]; exact .mk)
     refine xO ?_
     refine xO ?_ (h := by simp [splice]; exact .mk)
     refine xO ?_
     refine xE [4,5,6] fun _ => ?_
     refine W_ret ?_
     refine end_ret (by simp [Tryz.f129]; exact .mk) (by simp; exact .mk) ?_ (by simp [noSn_oEfo])
     first | (simp [Tryz.f129, hd, oEfo, failO, zStt, oStt, ownR]; done) | (simp [Tryz.f129, hd, hX, oEfo, oStt, ownR, rootsAt, dataAt]; done)
   intro hq
   cases h51.symm.trans hq
 intro h51
 have k6 : o.act ≠ 6 := by simpa using h51
 refine W_reg rfl ?_
 iterate 2 refine xO ?_
 refine xE [4,5,8,10,11,51] fun _ => ?_
 refine W_cond rfl ?_ ?_
 · intro h51'
   have k7 : o.act = 6 ∨ o.act = 8 := by first | exact .inl k6 | exact .inr (by simpa using h51')
   obtain ⟨X, hX⟩ : ∃ X, X = (rootsAt s R.a.roots) := ⟨_, rfl⟩
   obtain ⟨e, he2⟩ : ∃ e : Int, e = 0 := ⟨_, rfl⟩
   have hA : actO s (doS (ofS s) o).a o = (X, e) := by rw [hX, he2]; simp [actO, hRe, k1, k2, k3, k5, k7]
   have hcall := in176 g s hs Q R.a R.ix R.gen R.b o e he2
   have hent : Enters Tryz.prog 176 := ⟨_, Tryz.func176, rfl, rfl⟩
   refine W_reg rfl ?_
   iterate 3 refine xO ?_
   refine xE [4,5,8,11] fun _ => ?_
   refine W_seq ?_
   refine W_regK rfl [1001] rfl ?_
   refine xO ?_
   refine run_inlK rfl rfl rfl rfl (by simp; exact .mk) hent (fixS_put (by simp) (fixS_slots (by simp))) (hcall) (by simp) (by decide) ?_
   iterate 4 refine xO ?_
   refine xO ?_ (h := by simp [splice]; exact .mk)
   refine xO ?_
   refine xE [4,5,8,9,12] fun _ => ?_
   refine W_seq ?_
   refine xU ?_
   iterate 2 refine xO ?_
   refine xE [4,5,8,9,12,62] fun _ => ?_
   refine W_cond rfl ?_ ?_
   · intro h62
     have hd := doF_err h0 hA (by simpa using h62)
     refine xU ?_
     iterate 2 (refine xO ?_ (h := by simp [splice]; exact .mk))
     refine xO ?_
     iterate 2 (refine xO ?_ (h := by simp [splice]; exact .mk))
     refine xO ?_
     refine xE [4,5,6] fun _ => ?_
     refine W_ret ?_
     refine end_ret (by simp [Tryz.f129]; exact .mk) (by simp; exact .mk) ?_ (by simp [noSn_oEfo])
     first | (simp [Tryz.f129, hd, oEfo, failO, zStt, oStt, ownR]; done) | (simp [Tryz.f129, hd, hX, oEfo, oStt, ownR, rootsAt, dataAt]; done)
   intro h62
   have he3 : e = 0 := by simpa using h62
   have hd := doF_ok h0 (by rw [hA, he3])
   rw [hRe] at hd
   refine W_skip ?_
   rintro -
   refine W_seq ?_
   refine W_regD2 (hard := []) 1 2 (keepOk_lt (by decide)) (by kernel_rfl) 4 [0,1,2,3,4] [0,2,1,3,4] (by decide +kernel) (by decide +kernel) ?_ ?_
   · skip
     iterate 2 refine xO ?_
     iterate 2 (refine xO ?_ (h := by simp [splice]; exact .mk))
     refine xO ?_
     refine xE [4,5,6] fun _ => ?_
     refine W_ret ?_
     refine end_ret (by simp [Tryz.f129]; exact .mk) (by simp; exact .mk) ?_ (by simp [noSn_oEfo])
     first | (simp [Tryz.f129, hd, oEfo, failO, zStt, oStt, ownR]; done) | (simp [Tryz.f129, hd, hX, oEfo, oStt, ownR, rootsAt, dataAt]; done)
   skip
   refine xO ?_
   refine xO ?_ (h := by simp [splice]; exact .mk)
   refine xO ?_
   refine xO ?_ (h := by simp [splice]; exact .mk)
   refine xO ?_
   refine xE [4,5,6] fun _ => ?_
   refine W_ret ?_
   refine end_ret (by simp [Tryz.f129]; exact .mk) (by simp; exact .mk) ?_ (by simp [noSn_oEfo])
   first | (simp [Tryz.f129, hd, oEfo, failO, zStt, oStt, ownR]; done) | (simp [Tryz.f129, hd, hX, oEfo, oStt, ownR, rootsAt, dataAt]; done)
 intro h51'
 have k7 : ¬ (o.act = 6 ∨ o.act = 8) := fun q => q.elim k6 (by simpa using h51')
 obtain ⟨X, hX⟩ : ∃ X, X = s := ⟨_, rfl⟩
 obtain ⟨e, he2⟩ : ∃ e : Int, e = 0 := ⟨_, rfl⟩
 have hA : actO s (doS (ofS s) o).a o = (X, e) := by rw [hX, he2]; simp [actO, hRe, k1, k2, k3, k5, k7]
 have hcall := in171 g s hs Q R.a R.ix R.gen R.b o e he2
 have hent : Enters Tryz.prog 171 := ⟨_, Tryz.func171, rfl, rfl⟩
 refine W_skip ?_
 rintro -
 refine W_seq ?_
 refine W_regK rfl [1001] rfl ?_
 refine xO ?_
 refine run_inlK rfl rfl rfl rfl (by simp; exact .mk) hent (fixS_put (by simp) (fixS_slots (by simp))) (hcall) (by simp) (by decide) ?_
 iterate 4 refine xO ?_
 refine xO ?_ (h := by simp [splice]; exact .mk)
 refine xO ?_
 refine xE [4,5,8,9,12] fun _ => ?_
 refine W_seq ?_
 refine xU ?_
 iterate 2 refine xO ?_
 refine xE [4,5,8,9,12,62] fun _ => ?_
 refine W_cond rfl ?_ ?_
 · intro h62
   have hd := doF_err h0 hA (by simpa using h62)
   refine xU ?_
   iterate 2 (refine xO ?_ (h := by simp [splice]; exact .mk))
   refine xO ?_
   iterate 2 (refine xO ?_ (h := by simp [splice]; exact .mk))
   refine xO ?_
   refine xE [4,5,6] fun _ => ?_
   refine W_ret ?_
   refine end_ret (by simp [Tryz.f129]; exact .mk) (by simp; exact .mk) ?_ (by simp [noSn_oEfo])
   first | (simp [Tryz.f129, hd, oEfo, failO, zStt, oStt, ownR]; done) | (simp [Tryz.f129, hd, hX, oEfo, oStt, ownR, rootsAt, dataAt]; done)
 intro h62
 have he3 : e = 0 := by simpa using h62
 have hd := doF_ok h0 (by rw [hA, he3])
 rw [hRe] at hd
 refine W_skip ?_
 rintro -
 refine W_seq ?_
 refine W_regD2 (hard := []) 1 2 (keepOk_lt (by decide)) (by kernel_rfl) 4 [0,1,2,3,4] [0,2,1,3,4] (by decide +kernel) (by decide +kernel) ?_ ?_
 · skip
   iterate 2 refine xO ?_
   iterate 2 (refine xO ?_ (h := by simp [splice]; exact .mk))
   refine xO ?_
   refine xE [4,5,6] fun _ => ?_
   refine W_ret ?_
   refine end_ret (by simp [Tryz.f129]; exact .mk) (by simp; exact .mk) ?_ (by simp [noSn_oEfo])
   first | (simp [Tryz.f129, hd, oEfo, failO, zStt, oStt, ownR]; done) | (simp [Tryz.f129, hd, hX, oEfo, oStt, ownR, rootsAt, dataAt]; done)
 skip
 refine xO ?_
 refine xO ?_ (h := by simp [splice]; exact .mk)
 refine xO ?_
 refine xO ?_ (h := by simp [splice]; exact .mk)
 refine xO ?_
 refine xE [4,5,6] fun _ => ?_
 refine W_ret ?_
 refine end_ret (by simp [Tryz.f129]; exact .mk) (by simp; exact .mk) ?_ (by simp [noSn_oEfo])
 first | (simp [Tryz.f129, hd, oEfo, failO, zStt, oStt, ownR]; done) | (simp [Tryz.f129, hd, hX, oEfo, oStt, ownR, rootsAt, dataAt]; done)

open Go.Awp
theorem ct71 (g : Gl) (s : Stt) (l : List Op) (hs : s.Ok) (hl : l.length ≤ 2^40) (hn : ∀ i, i < l.length → (nth l i).name.size ≤ 2^40) (hob : ∀ i, i < l.length → (nth l i).b.length ≤ 2^40) : CtAt Tryz.prog g 71 [eStt s, rows 7 eOp l] (.tup [oStt (txS s l).1, oRep (txS s l).2.1, vI (txS s l).2.2.1, vI (txS s l).2.2.2]) := by
 refine ctAt_of_W Tryz.func71 rfl rfl (Nat.le_of_ble_eq_true rfl) fun B S => ?_
 simp only [eStt, List.map, argD_agg, argD_v]
 refine xU ?_
 iterate 5 refine xO ?_
 refine xE [1,2,4] fun _ => ?_
 refine W_seq ?_
 refine xU ?_
 refine xO ?_
 refine xC (ct32 g s hs) ?_ (he := by simp [row_rows, Function.comp_def]; exact .mk) (hi := by simp [oStt, oEfo]; exact .mk)
 refine xO ?_
 refine xE [1,2,4,17] fun _ => ?_
 refine W_cond rfl ?_ ?_
 · intro h17
   have hR : sttS s = false := by simpa using h17
   have hd := txS_bad (l := l) hR
   refine xU ?_
   iterate 2 (refine xO ?_ (h := by simp [splice]; exact .mk))
   iterate 3 refine xO ?_
   refine xE [4,5,6,7] fun _ => ?_
   refine W_ret ?_
   refine end_ret (by simp [Tryz.f71]; exact .mk) (by simp; exact .mk) ?_ (by simp [oStt])
   first | (simp [Tryz.f71, hd, zStt, oStt, ownR]; done) | (simp [Tryz.f71, hd, zStt, oStt, ownR, eRep])
 intro h17
 have hR : sttS s = true := by simpa using h17
 refine W_skip ?_
 refine xT ?_
 refine xO ?_
 refine xC (ct24 g s hs) ?_ (he := by simp [row_rows, Function.comp_def]; exact .mk) (hi := by simp [oStt, oEfo]; exact .mk)
 refine xO ?_
 refine xO ?_ (h := by simp [splice]; exact .mk)
 refine xE [1,4,8] ?_
 refine xT ?_
 refine xO ?_
 refine xE [1,4,8,9] fun _ => ?_
 refine W_seq ?_
 refine xU ?_
 iterate 3 refine xO ?_
 refine xE [1,4,8,9,21,22,23] fun _ => ?_
 refine W_block ?_
 refine W_rounds (fun m σ o => ∃ (i : Nat) (x : Stt) (out : List Rep), m = l.length - i ∧ i ≤ l.length ∧ TxI s l i x out ∧ σ = slots [(1, .d (rows 7 eOp l)), (4, .ptr 1 0 0), (8, .ptr 5 0 0), (9, .hdr 6 0 out.length), (21, .d (rows 7 eOp l)), (22, .d (vI l.length)), (23, .d (vI i))] ∧ o = [.var 28 [.d (vI s.sh.pages), .d (vI s.sh.slots), .d (vI s.sh.roots), .d (vI s.sh.room), .d (vI s.mode), .d (vI s.base), .d (rSl s.slots), .d (rR s.roots), .d (rBB s.data)], .var 28 [.d (vI 0), .d (vI 0), .d (vI 0), .d (vI 0), .d (vI 0), .d (vI 0), .d (.v (.slice none 0 0)), .d (.v (.slice none 0 0)), .d (.v (.slice none 0 0))], .row 5 (x.slots.map eSlot), .row 3 (x.roots.map eRoot), .row 1 (x.data.map oB), .var 28 [.d (vI x.sh.pages), .d (vI x.sh.slots), .d (vI x.sh.roots), .d (vI x.sh.room), .d (vI x.mode), .d (vI x.base), .hdr 2 0 x.slots.length, .hdr 3 0 x.roots.length, .hdr 4 0 x.data.length], .row 3 (out.map eRep)]) l.length
  (Weak.trans (Weak.nilRow 9 3 rfl) (Weak.kills [1,4,8,9,21,22,23] rfl) (fun _ _ _ h1 h2 => by rw [← h1.len]; exact h2)) ⟨0, s, [], by simp, by simp, txI0 hR hs, by simp, by simp [ownR]⟩ ?_
 rintro m σ o ⟨i, x, out, rfl, hi, hI, rfl, rfl⟩ _
 have hlen := hI.len
 refine xU ?_
 refine xO ?_
 refine xE [1,4,8,9,21,22,23,24] fun _ => ?_
 refine W_seq ?_
 refine W_cond rfl ?_ ?_
 · intro h24
   have hi2 : i < l.length := by simpa using h24
   refine W_skip ?_
   rintro -
   refine W_seq ?_
   refine W_block ?_
   refine xU ?_
   refine xO ?_
   refine xO ?_ (h := by simp [hi2]; exact .mk)
   refine xO ?_ (h := by simp [-List.getElem?_map, map_get hi2, eOp]; exact .mk)
   iterate 2 refine xO ?_
   refine xO ?_ (h := by simp [splice]; exact .mk)
   refine xE [1,4,8,9,10,11,21,22,23] fun _ => ?_
   refine W_seq ?_
   have cdo := ct129 g x (nth l i) hI.ok hI.right (hn i hi2) (hob i hi2)
   obtain ⟨E, hE⟩ : ∃ E, E = doF x (nth l i) := ⟨_, rfl⟩
   rw [← hE] at cdo
   refine W_reg rfl ?_
   iterate 2 refine xO ?_
   refine xC (cdo) ?_ (he := by simp [row_rows, Function.comp_def]; exact .mk) (hi := by simp [oStt, oEfo]; exact .mk)
   iterate 6 refine xO ?_
   iterate 2 (refine xO ?_ (h := by simp [splice]; exact .mk))
   refine xO ?_
   refine xE [1,4,8,9,10,12,13,14,21,22,23] fun _ => ?_
   refine W_seq ?_
   refine xU ?_
   iterate 2 refine xO ?_
   refine xE [1,4,8,9,10,12,13,14,21,22,23,36] fun _ => ?_
   refine W_cond rfl ?_ ?_
   · intro h36
     have he : E.e ≠ 0 := by simpa using h36
     have hd := txI_bad hI hi2 (by rw [← hE]; exact he)
     rw [← hE] at hd
     refine xU ?_
     refine xO ?_ (h := by simp [splice]; exact .mk)
     iterate 2 refine xO ?_
     refine xO ?_ (h := by simp [splice]; exact .mk)
     iterate 3 refine xO ?_
     refine xE [4,5,6,7] fun _ => ?_
     refine W_ret ?_
     refine end_ret (by simp [Tryz.f71]; exact .mk) (by simp; exact .mk) ?_ (by simp [oStt])
     first | (simp [Tryz.f71, hd, zStt, oStt, ownR]; done) | (simp [Tryz.f71, hd, zStt, oStt, ownR, eRep])
   intro h36
   have he : E.e = 0 := by simpa using h36
   have hI2 := txI_next hI hi2 (by rw [← hE]; exact he)
   rw [← hE] at hI2
   have e1 : (out.length + 1) * 40 ≤ 140737488355328 := by omega
   have e2 : out.length ≤ 140737488355327 := by omega
   refine W_skip ?_
   rintro -
   refine W_regDT (hard := []) [0,3,4] (keepOk_lt (by decide)) (by kernel_rfl) 4 [[0,1,2,3,4,5,6], [1,2,3,0,4,5,6], [1,2,3,4,0,5,6]] (by decide +kernel) ⟨?_, ?_, ?_, trivial⟩
   · skip
     iterate 4 refine xO ?_
     refine xO ?_ (h := by simp [rows, e1, e2, D.noOwn]; exact .mk)
     refine xO ?_ (h := by simp [splice]; exact .mk)
     refine xO ?_
     refine xE [1,4,8,9,21,22,23] fun _ => ?_
     refine W_reg rfl ?_
     iterate 2 refine xO ?_
     refine xE [1,4,8,9,21,22,23] ?_
     refine rounds_kill [1,4,8,9,21,22,23] ?_
     refine rounds_kills [1,4,8,9,21,22,23] rfl ?_
     refine rounds_swap 2 8 3 (by decide) (by simp) (by decide) rfl rfl ?_
     refine rounds_swap 6 15 1 (by decide) (by simp) (by decide) rfl rfl ?_
     refine rounds_drop 7 [1,4,8,9,21,22,23] (by decide) (by rfl) (by rfl) ?_
     refine rounds_next (m' := l.length - (i+1)) (by omega) ⟨i+1, E.s, out ++ [repOf E], rfl, by omega, hI2, ?_, ?_⟩
     · rw [wrap64 (by omega) (by omega)]; simp; try rfl
     simp [eRep, repOf]; try rfl
   · skip
     iterate 4 refine xO ?_
     refine xO ?_ (h := by simp [rows, e1, e2, D.noOwn]; exact .mk)
     refine xO ?_ (h := by simp [splice]; exact .mk)
     refine xO ?_
     refine xE [1,4,8,9,21,22,23] fun _ => ?_
     refine W_reg rfl ?_
     iterate 2 refine xO ?_
     refine xE [1,4,8,9,21,22,23] ?_
     refine rounds_kill [1,4,8,9,21,22,23] ?_
     refine rounds_kills [1,4,8,9,21,22,23] rfl ?_
     refine rounds_swap 2 8 3 (by decide) (by simp) (by decide) rfl rfl ?_
     refine rounds_swap 6 15 1 (by decide) (by simp) (by decide) rfl rfl ?_
     refine rounds_drop 7 [1,4,8,9,21,22,23] (by decide) (by rfl) (by rfl) ?_
     refine rounds_next (m' := l.length - (i+1)) (by omega) ⟨i+1, E.s, out ++ [repOf E], rfl, by omega, hI2, ?_, ?_⟩
     · rw [wrap64 (by omega) (by omega)]; simp; try rfl
     simp [eRep, repOf]; try rfl
   skip
   iterate 3 refine xO ?_
   refine xO ?_ (h := by simp [rows, e1, e2, D.noOwn]; exact .mk)
   refine xO ?_
   refine xO ?_ (h := by simp [splice]; exact .mk)
   refine xO ?_
   refine xE [1,4,8,9,21,22,23] fun _ => ?_
   refine W_reg rfl ?_
   iterate 2 refine xO ?_
   refine xE [1,4,8,9,21,22,23] ?_
   refine rounds_kill [1,4,8,9,21,22,23] ?_
   refine rounds_kills [1,4,8,9,21,22,23] rfl ?_
   refine rounds_swap 2 8 3 (by decide) (by simp) (by decide) rfl rfl ?_
   refine rounds_swap 6 15 1 (by decide) (by simp) (by decide) rfl rfl ?_
   refine rounds_drop 7 [1,4,8,9,21,22,23] (by decide) (by rfl) (by rfl) ?_
   refine rounds_next (m' := l.length - (i+1)) (by omega) ⟨i+1, E.s, out ++ [repOf E], rfl, by omega, hI2, ?_, ?_⟩
   · rw [wrap64 (by omega) (by omega)]; simp; try rfl
   simp [eRep, repOf]; try rfl
 intro h24
 obtain rfl : i = l.length := by simp at h24; omega
 have hd := txI_end hI
 refine W_exit ?_
 refine xT ?_
 iterate 4 refine xO ?_
 refine xO ?_ (h := by simp [splice]; exact .mk)
 iterate 3 refine xO ?_
 refine xE [4,5,6,7] fun _ => ?_
 refine W_ret ?_
 refine end_ret (by simp [Tryz.f71]; exact .mk) (by simp; exact .mk) ?_ (by simp [oStt])
 first | (simp [Tryz.f71, hd, zStt, oStt, ownR]; done) | (simp [Tryz.f71, hd, zStt, oStt, ownR, eRep])

open Go.Awp
theorem ct65 (g : Gl) (s : Stt) (o : Op) (hs : s.Ok) (hn : o.name.size ≤ 2^40) (hob : o.b.length ≤ 2^40) : CtAt Tryz.prog g 65 [eStt s, eOp o] (oEfo (doO s o)) := by
 refine ctAt_of_W Tryz.func65 rfl rfl (Nat.le_of_ble_eq_true rfl) fun B S => ?_
 simp only [eStt, eOp, List.map, argD_agg, argD_v]
 refine xU ?_
 iterate 5 (refine xO ?_ (h := by simp [noRo_oEfo]; exact .mk))
 refine xE [2,3,4,5] fun _ => ?_
 refine W_seq ?_
 refine xU ?_
 refine xO ?_ (h := by simp [noRo_oEfo]; exact .mk)
 refine run_call0 rfl rfl rfl rfl (by simp [noRo_oEfo]; exact .mk) (by simp [noRo_oEfo, row_rows, Function.comp_def]; exact .mk) (ct32 g s hs) (by simp [noRo_oEfo]) (by simp [noRo_oEfo, oStt, oEfo]; exact .mk) ?_
 refine xO ?_ (h := by simp [noRo_oEfo]; exact .mk)
 refine xE [2,3,4,5,9] fun _ => ?_
 refine W_cond rfl ?_ ?_
 · intro h9
   have hR : sttS s = false := by simpa using h9
   have hd : doO s o = failO 1 := by unfold doO; rw [if_pos hR]
   refine xU ?_
   iterate 4 (refine xO ?_ (h := by simp [noRo_oEfo, splice]; exact .mk))
   refine xO ?_ (h := by simp [noRo_oEfo]; exact .mk)
   refine xE [4,5,6] fun _ => ?_
   refine W_ret ?_
   refine end_ret (by simp [noRo_oEfo, Tryz.f65]; exact .mk) (by simp [noRo_oEfo]; exact .mk) ?_ (by simp [noRo_oEfo, noSn_oEfo])
   simp [Tryz.f65, hd, oEfo, failO, zStt, oStt, ownR]
 intro h9
 have hR : sttS s = true := by simpa using h9
 have hd : doO s o = doF s o := by unfold doO; rw [if_neg (by simp [hR])]
 refine W_skip ?_
 refine xT ?_
 iterate 2 (refine xO ?_ (h := by simp [noRo_oEfo]; exact .mk))
 refine run_call0 rfl rfl rfl rfl (by simp [noRo_oEfo]; exact .mk) (by simp [noRo_oEfo, row_rows, Function.comp_def]; exact .mk) (ct129 g s o hs hR hn hob) (by simp [noRo_oEfo]) (by simp [noRo_oEfo, oStt, oEfo]; exact .mk) ?_
 iterate 3 (refine xO ?_ (h := by simp [noRo_oEfo]; exact .mk))
 iterate 2 (refine xO ?_ (h := by simp [noRo_oEfo, splice]; exact .mk))
 refine xO ?_ (h := by simp [noRo_oEfo]; exact .mk)
 refine xE [4,5,6] fun _ => ?_
 refine W_ret ?_
 refine end_ret (by simp [noRo_oEfo, Tryz.f65]; exact .mk) (by simp [noRo_oEfo]; exact .mk) ?_ (by simp [noRo_oEfo, noSn_oEfo])
 simp [Tryz.f65, hd, oEfo, failO, zStt, oStt, ownR]

open Go.Awp
theorem ct62 (g : Gl) : CtAt Tryz.prog g 62 [] (.v (.bool true)) := by
 refine ctAt_of_W Tryz.func62 rfl rfl (Nat.le_of_ble_eq_true rfl) fun B S => ?_
 obtain ⟨A, B, C, r1, r2, f1, f2, f3, f4, f5⟩ := ops_facts
 have hA : A.Ok := by have := doO_Ok (o := O 1 121 0 []) stT_ok; rwa [f1] at this
 have hB : B.Ok := by have := doO_Ok (o := O 1 1 0 []) hA; rwa [f3] at this
 have c1 := ct53 g sh1 2
 have c2 := ct65 g stT (O 1 121 0 []) stT_ok (by decide) (by decide)
 have c3 := ct65 g A (O 1 1 0 []) hA (by decide) (by decide)
 have c4 := ct71 g stT [O 1 121 0 [], O 1 1 0 []] stT_ok (fewOps_ok (by decide +kernel)).1 (fewOps_ok (by decide +kernel)).2.1 (fewOps_ok (by decide +kernel)).2.2
 have c5 := ct71 g stT [O 1 1 0 [], O 5 0 0 [7]] stT_ok (fewOps_ok (by decide +kernel)).1 (fewOps_ok (by decide +kernel)).2.1 (fewOps_ok (by decide +kernel)).2.2
 have c6 := ct35 g A hA
 rw [new_T] at c1
 rw [f1] at c2
 rw [f3] at c3
 rw [f4] at c4
 rw [f5] at c5
 rw [f2] at c6
 obtain ⟨T, hT⟩ : ∃ T, T = stT := ⟨_, rfl⟩
 rw [← hT] at c1 c2 c4 c5
 refine xU ?_
 refine xO ?_
 refine xE [] ?_
 refine xT ?_
 refine xO ?_ (h := by simp [splice]; exact .mk)
 refine xC (c1) ?_ (he := by simp [row_rows, Function.comp_def, roed_row, roed_v]; exact .mk) (hi := by simp [oStt, oEfo]; exact .mk)
 iterate 4 refine xO ?_
 refine xO ?_ (h := by simp [splice]; exact .mk)
 refine xO ?_
 refine xE [1,2] ?_
 refine xT ?_
 refine xO ?_ (h := by simp [eSlot]; exact .mk)
 refine xO ?_ (h := by simp [splice]; exact .mk)
 refine xC (c2) ?_ (he := by simp [row_rows, Function.comp_def, roed_row, roed_v]; exact .mk) (hi := by simp [oStt, oEfo]; exact .mk)
 iterate 6 refine xO ?_
 iterate 2 (refine xO ?_ (h := by simp [splice]; exact .mk))
 refine xO ?_
 refine xE [1,2,3,4,5] ?_
 refine xT ?_
 refine xO ?_ (h := by simp [eSlot]; exact .mk)
 refine xO ?_ (h := by simp [splice]; exact .mk)
 refine xC (c3) ?_ (he := by simp [row_rows, Function.comp_def, roed_row, roed_v]; exact .mk) (hi := by simp [oStt, oEfo]; exact .mk)
 iterate 6 refine xO ?_
 iterate 2 (refine xO ?_ (h := by simp [splice]; exact .mk))
 refine xO ?_
 refine xE [1,2,3,4,5,8] ?_
 refine xT ?_
 refine xO ?_ (h := by simp [eSlot]; exact .mk)
 iterate 2 (refine xO ?_ (h := by simp [splice]; exact .mk))
 refine xO ?_
 refine xC (c4) ?_ (he := by simp [row_rows, Function.comp_def, roed_row, roed_v]; exact .mk) (hi := by simp [oStt, oEfo]; exact .mk)
 iterate 6 refine xO ?_
 refine xO ?_ (h := by simp [splice]; exact .mk)
 iterate 3 refine xO ?_
 refine xE [1,2,3,4,5,8,11,12] ?_
 refine xT ?_
 refine xO ?_ (h := by simp [eSlot]; exact .mk)
 refine xO ?_ (h := by simp [splice]; exact .mk)
 refine xO ?_
 refine xO ?_ (h := by simp [splice]; exact .mk)
 refine xO ?_
 refine xC (c5) ?_ (he := by simp [row_rows, Function.comp_def, roed_row, roed_v]; exact .mk) (hi := by simp [oStt, oEfo]; exact .mk)
 iterate 6 refine xO ?_
 refine xO ?_ (h := by simp [splice]; exact .mk)
 iterate 3 refine xO ?_
 refine xE [2,3,4,5,8,11,12,14,15,16] ?_
 refine xT ?_
 iterate 3 refine xO ?_
 iterate 2 refine xI ?_
 refine xP ?_
 refine xB ?_
 refine xI ?_
 refine run_if rfl (by simp; exact .mk) rfl (by simp <;> first | omega | grind) (fun hb => by simp [eSlot]; exact .mk) ?_
 refine run_if rfl (by simp; exact .mk) rfl (by simp <;> first | omega | grind) (fun hb => by simp [splice]; exact .mk) ?_
 refine xI ?_
 refine xP ?_
 refine xB ?_
 refine run_if rfl (by simp; exact .mk) rfl (by simp <;> first | omega | grind) (fun hb => by simp [eSlot]; exact .mk) ?_
 refine run_call rfl (by simp; exact .mk) rfl rfl (by simp) (by simp; exact .mk) (by simp [row_rows, Function.comp_def, roed_row, roed_v]; exact .mk) (fun hb => c6) (by simp) (by simp [oStt, oEfo]; exact .mk) (by simp) ?_
 refine xI ?_
 refine xP ?_
 refine xB ?_
 iterate 2 refine xI ?_
 refine xP ?_
 refine xB ?_
 iterate 2 refine xI ?_
 refine xP ?_
 refine xB ?_
 iterate 2 refine xI ?_
 refine xP ?_
 refine xB ?_
 iterate 3 refine xI ?_
 refine xP ?_
 refine xB ?_
 iterate 2 refine xI ?_
 refine xP ?_
 refine xB ?_
 iterate 2 refine xI ?_
 refine xP ?_
 refine xB ?_
 refine xE [0] fun _ => ?_
 refine W_ret ?_
 refine xR (by simp [Tryz.f62]; exact .mk) ?_
 simp [Tryz.f62]

end Go.Proofs
