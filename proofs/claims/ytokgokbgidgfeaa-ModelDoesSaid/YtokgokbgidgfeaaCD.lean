/- Contracts of the program's functions and plain facts, for arguments as each lemma says. -/
import Derived.Test.YtokgokbgidgfeaaAwpD
import Derived.Test.YtokgokbgidgfeaaCC
import Derived.Test.YtokgokbgidgfeaaCA
import Derived.Test.YtokgokbgidgfeaaCB
set_option linter.all false
set_option maxHeartbeats 4000000
set_option maxRecDepth 4000
namespace Go.Proofs
open Go.Awp
theorem ct17 (g : Gl) (a : Abs) (o : Op) (ha : a.Ok) (hob : o.b.length ≤ 2^40) : CtAt Try.prog g 17 [eAbs a, eOp o] (.tup [oAbs (doS a o).a, .agg [vI (doS a o).ix, vI (doS a o).gen, oB (doS a o).b], vI (doS a o).e]) := by
 refine ctAt_of_W Try.func17 rfl rfl (Nat.le_of_ble_eq_true rfl) fun B S => ?_
 simp only [eAbs, eOp, List.map, argD_agg]
 refine xU ?_
 iterate 5 refine xO ?_
 refine xG [2,3,4,5] ?_
 refine xO ?_
 refine xC (ct26 g a ha) ?_ (hi := by simp [oAbs]; exact .mk)
 refine xO ?_
 refine xF [2,3,4,5,7] ?_
 refine W_seq (xU ?_)
 iterate 3 refine xO ?_
 iterate 3 refine xI ?_
 refine xP ?_
 refine xB ?_
 iterate 3 refine xI ?_
 refine xP ?_
 refine xF [2,3,4,5,24] ?_
 refine W_cond rfl ?_ ?_
 · intro h24
   have hdo := do_bad (a := a) (o := o) (by cases hq : rightS a <;> simp [hq] at h24 ⊢; omega)
   refine xU ?_
   iterate 4 (refine xO ?_ (h := by simp [splice]; exact .mk))
   refine xO ?_
   refine xF [4,5,6] ?_
   refine W_ret (xR (by simp [Try.f17]; exact .mk) ?_)
   first | (simp [Try.f17, hdo, failS, zAbs, oAbs, ownR]; done) | (simp [Try.f17, hdo, failS, zAbs, oAbs, ownR, he]; done) | (simp [Try.f17, hdo, failS, zAbs, oAbs, ownR, freeS]; done) | (simp [Try.f17, hdo, failS, zAbs, oAbs, ownR, Go.splice, List.map_set]; done)
 intro h24
 have hR1 : rightS a = true ∧ 1 ≤ o.act ∧ o.act ≤ 8 := by cases hq : rightS a <;> simp [hq] at h24 ⊢; omega
 have hR := hR1.1
 have hac := hR1.2
 have hgd := (rightS_len hR).1
 refine W_skip ?_
 refine xT ?_
 refine xO ?_
 refine xC (ct12 g a ha) ?_ (hi := by simp [oAbs]; exact .mk)
 refine xO ?_
 refine xO ?_ (h := by simp [splice]; exact .mk)
 refine xF [2,3,4,5,8] ?_
 refine W_seq (xU ?_)
 iterate 3 refine xO ?_
 refine xF [2,3,4,5,8,31] ?_
 refine W_cond rfl ?_ ?_
 · intro h31
   have hact : o.act = 1 := by simpa using h31
   refine W_seq ?_
   rcases Classical.em ((allocS a o.n).e = 0) with he | he
   · skip
     obtain ⟨k, hx, hz, hal⟩ := alloc_ok he
     have hE : effS a o = allocS a o.n := eff_1 hact
     have hdo := (doS_ok (o := o) hR (by rw [hE]; exact he)).trans hE
     rw [hal] at hdo
     refine W_reg rfl ?_
     iterate 3 refine xO ?_
     refine run_inl0 rfl rfl rfl rfl (by simp; exact .mk) ⟨_, Try.func46, rfl, rfl⟩ (in46 g (.var 26 [.d (rI a.gens), .d (rBB a.data), .d (rR a.roots)]) (.var 31 [.d (vI o.act), .d (vI o.ix), .d (vI o.gen), .d (vI o.n), .d (vI o.off), .d (rB o.b), .d (vS o.name)]) (.var 26 [.d (.v (.slice none 0 0)), .d (.v (.slice none 0 0)), .d (.v (.slice none 0 0))]) (.var 38 [.d (vI 0), .d (vI 0), .d (.v (.slice none 0 0))]) (.var 26 [.hdr 4 0 a.gens.length, .hdr 5 0 a.data.length, .hdr 6 0 a.roots.length]) a (by simp) ha hgd o.n k hx hz) (.inl (by simp)) ?_
     iterate 3 refine xO ?_
     iterate 2 (refine xO ?_ (h := by simp [splice]; exact .mk))
     refine xO ?_
     refine xF [4,5,6] ?_
     refine W_ret (xR (by simp [Try.f17]; exact .mk) ?_)
     first | (simp [Try.f17, hdo, failS, zAbs, oAbs, ownR]; done) | (simp [Try.f17, hdo, failS, zAbs, oAbs, ownR, he]; done) | (simp [Try.f17, hdo, failS, zAbs, oAbs, ownR, freeS]; done) | (simp [Try.f17, hdo, failS, zAbs, oAbs, ownR, Go.splice, List.map_set]; done)
   skip
   have hE : effS a o = allocS a o.n := eff_1 hact
   have hdo := doS_fail (o := o) hR (by rw [hE]; exact he)
   rw [hE] at hdo
   refine W_reg rfl ?_
   iterate 3 refine xO ?_
   refine run_inl0 rfl rfl rfl rfl (by simp; exact .mk) ⟨_, Try.func46, rfl, rfl⟩ (in46f g (.var 26 [.d (rI a.gens), .d (rBB a.data), .d (rR a.roots)]) (.var 31 [.d (vI o.act), .d (vI o.ix), .d (vI o.gen), .d (vI o.n), .d (vI o.off), .d (rB o.b), .d (vS o.name)]) (.var 26 [.d (.v (.slice none 0 0)), .d (.v (.slice none 0 0)), .d (.v (.slice none 0 0))]) (.var 38 [.d (vI 0), .d (vI 0), .d (.v (.slice none 0 0))]) (.var 26 [.hdr 4 0 a.gens.length, .hdr 5 0 a.data.length, .hdr 6 0 a.roots.length]) a (by simp) ha hgd o.n he) (.inl (by simp)) ?_
   iterate 3 refine xO ?_
   iterate 2 (refine xO ?_ (h := by simp [splice]; exact .mk))
   refine xO ?_
   refine xF [4,5,6] ?_
   refine W_ret (xR (by simp [Try.f17]; exact .mk) ?_)
   first | (simp [Try.f17, hdo, failS, zAbs, oAbs, ownR]; done) | (simp [Try.f17, hdo, failS, zAbs, oAbs, ownR, he]; done) | (simp [Try.f17, hdo, failS, zAbs, oAbs, ownR, freeS]; done) | (simp [Try.f17, hdo, failS, zAbs, oAbs, ownR, Go.splice, List.map_set]; done)
 intro h31
 have k1 : o.act ≠ 1 := by simpa using h31
 refine W_skip ?_
 rintro -
 refine W_seq (xU ?_)
 iterate 4 refine xO ?_
 iterate 3 refine xI ?_
 refine xP ?_
 refine xF [2,3,4,5,8,46] ?_
 refine W_cond rfl ?_ ?_
 · intro h46
   have hor : o.act = 7 ∨ o.act = 8 := by simp at h46; omega
   refine W_seq ?_
   have hact : (o.act = 7 ∧ (getS a.roots o.name).2.2 = 0) ∨ (o.act = 7 ∧ (getS a.roots o.name).2.2 ≠ 0) ∨ (o.act = 8 ∧ (dropS a.roots o.name).2 = 0) ∨ (o.act = 8 ∧ (dropS a.roots o.name).2 ≠ 0) := by have := Classical.em ((getS a.roots o.name).2.2 = 0); have := Classical.em ((dropS a.roots o.name).2 = 0); grind
   rcases hact with ⟨hact, he⟩ | ⟨hact, he⟩ | ⟨hact, he⟩ | ⟨hact, he⟩
   · skip
     have hE : effS a o = rootS a o := eff_root (.inl hact)
     have hE2 : rootS a o = ⟨a, (getS a.roots o.name).1, (getS a.roots o.name).2.1, [], (getS a.roots o.name).2.2⟩ := by simp [rootS, hact]
     rw [hE2] at hE
     have hdo := (doS_ok (o := o) hR (by rw [hE]; exact he)).trans hE
     refine W_reg rfl ?_
     iterate 2 refine xO ?_
     refine run_inl0 rfl rfl rfl rfl (by simp; exact .mk) ⟨_, Try.func47, rfl, rfl⟩ (in47g g (.var 26 [.d (rI a.gens), .d (rBB a.data), .d (rR a.roots)]) (.var 31 [.d (vI o.act), .d (vI o.ix), .d (vI o.gen), .d (vI o.n), .d (vI o.off), .d (rB o.b), .d (vS o.name)]) (.var 26 [.d (.v (.slice none 0 0)), .d (.v (.slice none 0 0)), .d (.v (.slice none 0 0))]) (.var 38 [.d (vI 0), .d (vI 0), .d (.v (.slice none 0 0))]) (.var 26 [.hdr 4 0 a.gens.length, .hdr 5 0 a.data.length, .hdr 6 0 a.roots.length]) a (by simp) ha hgd o hact ⟨ha.h3, ha.h5⟩ he) (.inl (by simp)) ?_
     iterate 3 refine xO ?_
     iterate 2 (refine xO ?_ (h := by simp [splice]; exact .mk))
     refine xO ?_
     refine xF [4,5,6] ?_
     refine W_ret (xR (by simp [Try.f17]; exact .mk) ?_)
     first | (simp [Try.f17, hdo, failS, zAbs, oAbs, ownR]; done) | (simp [Try.f17, hdo, failS, zAbs, oAbs, ownR, he]; done) | (simp [Try.f17, hdo, failS, zAbs, oAbs, ownR, freeS]; done) | (simp [Try.f17, hdo, failS, zAbs, oAbs, ownR, Go.splice, List.map_set]; done)
   · skip
     have hE : effS a o = rootS a o := eff_root (.inl hact)
     have hE2 : rootS a o = ⟨a, (getS a.roots o.name).1, (getS a.roots o.name).2.1, [], (getS a.roots o.name).2.2⟩ := by simp [rootS, hact]
     rw [hE2] at hE
     have hdo := doS_fail (o := o) hR (by rw [hE]; exact he)
     rw [hE] at hdo
     refine W_reg rfl ?_
     iterate 2 refine xO ?_
     refine run_inl0 rfl rfl rfl rfl (by simp; exact .mk) ⟨_, Try.func47, rfl, rfl⟩ (in47gf g (.var 26 [.d (rI a.gens), .d (rBB a.data), .d (rR a.roots)]) (.var 31 [.d (vI o.act), .d (vI o.ix), .d (vI o.gen), .d (vI o.n), .d (vI o.off), .d (rB o.b), .d (vS o.name)]) (.var 26 [.d (.v (.slice none 0 0)), .d (.v (.slice none 0 0)), .d (.v (.slice none 0 0))]) (.var 38 [.d (vI 0), .d (vI 0), .d (.v (.slice none 0 0))]) (.var 26 [.hdr 4 0 a.gens.length, .hdr 5 0 a.data.length, .hdr 6 0 a.roots.length]) a (by simp) ha hgd o hact ⟨ha.h3, ha.h5⟩ he) (.inl (by simp)) ?_
     iterate 3 refine xO ?_
     iterate 2 (refine xO ?_ (h := by simp [splice]; exact .mk))
     refine xO ?_
     refine xF [4,5,6] ?_
     refine W_ret (xR (by simp [Try.f17]; exact .mk) ?_)
     first | (simp [Try.f17, hdo, failS, zAbs, oAbs, ownR]; done) | (simp [Try.f17, hdo, failS, zAbs, oAbs, ownR, he]; done) | (simp [Try.f17, hdo, failS, zAbs, oAbs, ownR, freeS]; done) | (simp [Try.f17, hdo, failS, zAbs, oAbs, ownR, Go.splice, List.map_set]; done)
   · skip
     have hE : effS a o = rootS a o := eff_root (.inr (.inl hact))
     have hE2 : rootS a o = ⟨{ a with roots := (dropS a.roots o.name).1 }, 0, 0, [], (dropS a.roots o.name).2⟩ := by simp [rootS, hact]
     rw [hE2] at hE
     have hdo := (doS_ok (o := o) hR (by rw [hE]; exact he)).trans hE
     refine W_reg rfl ?_
     iterate 2 refine xO ?_
     refine run_inl0 rfl rfl rfl rfl (by simp; exact .mk) ⟨_, Try.func47, rfl, rfl⟩ (in47d g (.var 26 [.d (rI a.gens), .d (rBB a.data), .d (rR a.roots)]) (.var 31 [.d (vI o.act), .d (vI o.ix), .d (vI o.gen), .d (vI o.n), .d (vI o.off), .d (rB o.b), .d (vS o.name)]) (.var 26 [.d (.v (.slice none 0 0)), .d (.v (.slice none 0 0)), .d (.v (.slice none 0 0))]) (.var 38 [.d (vI 0), .d (vI 0), .d (.v (.slice none 0 0))]) (.var 26 [.hdr 4 0 a.gens.length, .hdr 5 0 a.data.length, .hdr 6 0 a.roots.length]) a (by simp) ha hgd o hact ⟨ha.h3, ha.h5⟩ he) (.inr ⟨_, rfl⟩) ?_
     iterate 3 refine xO ?_
     iterate 2 (refine xO ?_ (h := by simp [splice]; exact .mk))
     refine xO ?_
     refine xF [4,5,6] ?_
     refine W_ret (xR (by simp [Try.f17]; exact .mk) ?_)
     first | (simp [Try.f17, hdo, failS, zAbs, oAbs, ownR]; done) | (simp [Try.f17, hdo, failS, zAbs, oAbs, ownR, he]; done) | (simp [Try.f17, hdo, failS, zAbs, oAbs, ownR, freeS]; done) | (simp [Try.f17, hdo, failS, zAbs, oAbs, ownR, Go.splice, List.map_set]; done)
   skip
   have hE : effS a o = rootS a o := eff_root (.inr (.inl hact))
   have hE2 : rootS a o = ⟨{ a with roots := (dropS a.roots o.name).1 }, 0, 0, [], (dropS a.roots o.name).2⟩ := by simp [rootS, hact]
   rw [hE2] at hE
   have hdo := doS_fail (o := o) hR (by rw [hE]; exact he)
   rw [hE] at hdo
   refine W_reg rfl ?_
   iterate 2 refine xO ?_
   refine run_inl0 rfl rfl rfl rfl (by simp; exact .mk) ⟨_, Try.func47, rfl, rfl⟩ (in47df g (.var 26 [.d (rI a.gens), .d (rBB a.data), .d (rR a.roots)]) (.var 31 [.d (vI o.act), .d (vI o.ix), .d (vI o.gen), .d (vI o.n), .d (vI o.off), .d (rB o.b), .d (vS o.name)]) (.var 26 [.d (.v (.slice none 0 0)), .d (.v (.slice none 0 0)), .d (.v (.slice none 0 0))]) (.var 38 [.d (vI 0), .d (vI 0), .d (.v (.slice none 0 0))]) (.var 26 [.hdr 4 0 a.gens.length, .hdr 5 0 a.data.length, .hdr 6 0 a.roots.length]) a (by simp) ha hgd o hact ⟨ha.h3, ha.h5⟩ he) (.inl (by simp)) ?_
   iterate 3 refine xO ?_
   iterate 2 (refine xO ?_ (h := by simp [splice]; exact .mk))
   refine xO ?_
   refine xF [4,5,6] ?_
   refine W_ret (xR (by simp [Try.f17]; exact .mk) ?_)
   first | (simp [Try.f17, hdo, failS, zAbs, oAbs, ownR]; done) | (simp [Try.f17, hdo, failS, zAbs, oAbs, ownR, he]; done) | (simp [Try.f17, hdo, failS, zAbs, oAbs, ownR, freeS]; done) | (simp [Try.f17, hdo, failS, zAbs, oAbs, ownR, Go.splice, List.map_set]; done)
 intro h46
 have k2 : ¬ (o.act = 7 ∨ o.act = 8) := by simp at h46; omega
 refine W_skip ?_
 refine xT ?_
 iterate 2 refine xO ?_
 refine xC (ct48 g o.name) ?_ (hi := by simp [oAbs]; exact .mk)
 refine xO ?_
 refine xF [2,3,4,5,8,9] ?_
 refine W_seq (xU ?_)
 iterate 4 refine xO ?_
 iterate 2 refine xI ?_
 refine xP ?_
 refine xF [2,3,4,5,8,62] ?_
 refine W_cond rfl ?_ ?_
 · intro h62
   have hdo := do_name hR (by simp at h62; exact h62.1) (by simp at h62; exact h62.2)
   refine xU ?_
   iterate 4 (refine xO ?_ (h := by simp [splice]; exact .mk))
   refine xO ?_
   refine xF [4,5,6] ?_
   refine W_ret (xR (by simp [Try.f17]; exact .mk) ?_)
   first | (simp [Try.f17, hdo, failS, zAbs, oAbs, ownR]; done) | (simp [Try.f17, hdo, failS, zAbs, oAbs, ownR, he]; done) | (simp [Try.f17, hdo, failS, zAbs, oAbs, ownR, freeS]; done) | (simp [Try.f17, hdo, failS, zAbs, oAbs, ownR, Go.splice, List.map_set]; done)
 intro h62
 have k3 : ¬ (o.act = 6 ∧ nameS o.name = false) := by simp at h62; grind
 refine W_skip ?_
 refine xT ?_
 iterate 3 refine xO ?_
 refine xC (ct49 g a ha hgd o.ix o.gen) ?_ (hi := by simp [oAbs]; exact .mk)
 refine xO ?_
 refine xF [3,4,5,8,10] ?_
 refine W_seq (xU ?_)
 iterate 2 refine xO ?_
 refine xF [3,4,5,8,70] ?_
 refine W_cond rfl ?_ ?_
 · intro h70
   have hdo := do_good hR hac k1 k2 k3 (by simpa using h70)
   refine xU ?_
   iterate 4 (refine xO ?_ (h := by simp [splice]; exact .mk))
   refine xO ?_
   refine xF [4,5,6] ?_
   refine W_ret (xR (by simp [Try.f17]; exact .mk) ?_)
   first | (simp [Try.f17, hdo, failS, zAbs, oAbs, ownR]; done) | (simp [Try.f17, hdo, failS, zAbs, oAbs, ownR, he]; done) | (simp [Try.f17, hdo, failS, zAbs, oAbs, ownR, freeS]; done) | (simp [Try.f17, hdo, failS, zAbs, oAbs, ownR, Go.splice, List.map_set]; done)
 intro h70
 have hg : goodS a o.ix o.gen = true := by simpa using h70
 refine W_skip ?_
 rintro -
 refine W_seq (xU ?_)
 iterate 3 refine xO ?_
 refine xF [3,4,5,8,75] ?_
 refine W_cond rfl ?_ ?_
 · intro h75
   have hact : o.act = 6 := by simpa using h75
   have hnm : nameS o.name = true := by cases q : nameS o.name <;> simp_all
   refine W_seq ?_
   rcases Classical.em ((setS a.roots o.name o.ix o.gen).2 = 0) with he | he
   · skip
     have hE : effS a o = rootS a o := eff_root (.inr (.inr ⟨hact, hnm, hg⟩))
     have hE2 : rootS a o = ⟨{ a with roots := (setS a.roots o.name o.ix o.gen).1 }, 0, 0, [], (setS a.roots o.name o.ix o.gen).2⟩ := by simp [rootS, hact]
     rw [hE2] at hE
     have hdo := (doS_ok (o := o) hR (by rw [hE]; exact he)).trans hE
     refine W_reg rfl ?_
     iterate 2 refine xO ?_
     refine run_inl0 rfl rfl rfl rfl (by simp; exact .mk) ⟨_, Try.func47, rfl, rfl⟩ (in47s g (.var 26 [.d (rI a.gens), .d (rBB a.data), .d (rR a.roots)]) (.var 31 [.d (vI o.act), .d (vI o.ix), .d (vI o.gen), .d (vI o.n), .d (vI o.off), .d (rB o.b), .d (vS o.name)]) (.var 26 [.d (.v (.slice none 0 0)), .d (.v (.slice none 0 0)), .d (.v (.slice none 0 0))]) (.var 38 [.d (vI 0), .d (vI 0), .d (.v (.slice none 0 0))]) (.var 26 [.hdr 4 0 a.gens.length, .hdr 5 0 a.data.length, .hdr 6 0 a.roots.length]) a (by simp) ha hgd o hact ⟨ha.h3, ha.h5⟩ he) (.inr ⟨_, rfl⟩) ?_
     iterate 3 refine xO ?_
     iterate 2 (refine xO ?_ (h := by simp [splice]; exact .mk))
     refine xO ?_
     refine xF [4,5,6] ?_
     refine W_ret (xR (by simp [Try.f17]; exact .mk) ?_)
     first | (simp [Try.f17, hdo, failS, zAbs, oAbs, ownR]; done) | (simp [Try.f17, hdo, failS, zAbs, oAbs, ownR, he]; done) | (simp [Try.f17, hdo, failS, zAbs, oAbs, ownR, freeS]; done) | (simp [Try.f17, hdo, failS, zAbs, oAbs, ownR, Go.splice, List.map_set]; done)
   skip
   have hE : effS a o = rootS a o := eff_root (.inr (.inr ⟨hact, hnm, hg⟩))
   have hE2 : rootS a o = ⟨{ a with roots := (setS a.roots o.name o.ix o.gen).1 }, 0, 0, [], (setS a.roots o.name o.ix o.gen).2⟩ := by simp [rootS, hact]
   rw [hE2] at hE
   have hdo := doS_fail (o := o) hR (by rw [hE]; exact he)
   rw [hE] at hdo
   refine W_reg rfl ?_
   iterate 2 refine xO ?_
   refine run_inl0 rfl rfl rfl rfl (by simp; exact .mk) ⟨_, Try.func47, rfl, rfl⟩ (in47sf g (.var 26 [.d (rI a.gens), .d (rBB a.data), .d (rR a.roots)]) (.var 31 [.d (vI o.act), .d (vI o.ix), .d (vI o.gen), .d (vI o.n), .d (vI o.off), .d (rB o.b), .d (vS o.name)]) (.var 26 [.d (.v (.slice none 0 0)), .d (.v (.slice none 0 0)), .d (.v (.slice none 0 0))]) (.var 38 [.d (vI 0), .d (vI 0), .d (.v (.slice none 0 0))]) (.var 26 [.hdr 4 0 a.gens.length, .hdr 5 0 a.data.length, .hdr 6 0 a.roots.length]) a (by simp) ha hgd o hact ⟨ha.h3, ha.h5⟩ he) (.inl (by simp)) ?_
   iterate 3 refine xO ?_
   iterate 2 (refine xO ?_ (h := by simp [splice]; exact .mk))
   refine xO ?_
   refine xF [4,5,6] ?_
   refine W_ret (xR (by simp [Try.f17]; exact .mk) ?_)
   first | (simp [Try.f17, hdo, failS, zAbs, oAbs, ownR]; done) | (simp [Try.f17, hdo, failS, zAbs, oAbs, ownR, he]; done) | (simp [Try.f17, hdo, failS, zAbs, oAbs, ownR, freeS]; done) | (simp [Try.f17, hdo, failS, zAbs, oAbs, ownR, Go.splice, List.map_set]; done)
 intro h75
 have k4 : o.act ≠ 6 := by simpa using h75
 refine W_skip ?_
 rintro -
 refine W_seq ?_
 obtain ⟨k, hix, hk2, hk3, hk4⟩ := goodS_nat hg
 have hkd : k < a.data.length := by omega
 have hsl := rightS_slot hR hk2
 have hd : (nth a.data k).length ≤ 2^40 := by omega
 have hfo : (o.act = 2) ∨ (o.act = 3 ∧ sizedS o.n = true) ∨ (o.act = 3 ∧ sizedS o.n = false) ∨ (o.act = 4 ∧ reachS (nth a.data k).length o.off o.n = true) ∨ (o.act = 4 ∧ reachS (nth a.data k).length o.off o.n = false) ∨ (o.act = 5 ∧ reachS (nth a.data k).length o.off o.b.length = true) ∨ (o.act = 5 ∧ reachS (nth a.data k).length o.off o.b.length = false) := by cases sizedS o.n <;> cases reachS (nth a.data k).length o.off o.n <;> cases reachS (nth a.data k).length o.off o.b.length <;> simp <;> omega
 rcases hfo with hact | ⟨hact, hq⟩ | ⟨hact, hq⟩ | ⟨hact, hq⟩ | ⟨hact, hq⟩ | ⟨hact, hq⟩ | ⟨hact, hq⟩
 · skip
   have hE : effS a o = freeS a k := eff_2 hg hix hact
   have hdo := (doS_ok (o := o) hR (by rw [hE]; exact rfl)).trans hE
   refine W_reg rfl ?_
   iterate 2 refine xO ?_
   refine run_inl0 rfl rfl rfl rfl (by simp; exact .mk) ⟨_, Try.func50, rfl, rfl⟩ (in50a g (.var 26 [.d (rI a.gens), .d (rBB a.data), .d (rR a.roots)]) (.var 31 [.d (vI o.act), .d (vI o.ix), .d (vI o.gen), .d (vI o.n), .d (vI o.off), .d (rB o.b), .d (vS o.name)]) (.var 26 [.d (.v (.slice none 0 0)), .d (.v (.slice none 0 0)), .d (.v (.slice none 0 0))]) (.var 38 [.d (vI 0), .d (vI 0), .d (.v (.slice none 0 0))]) (.var 26 [.hdr 4 0 a.gens.length, .hdr 5 0 a.data.length, .hdr 6 0 a.roots.length]) a (by simp) ha hgd o k hix hkd hd hact hk2 ⟨hsl.1, hsl.2.1⟩) (.inl (by simp)) ?_
   iterate 3 refine xO ?_
   iterate 2 (refine xO ?_ (h := by simp [splice]; exact .mk))
   refine xO ?_
   refine xF [4,5,6] ?_
   refine W_ret (xR (by simp [Try.f17]; exact .mk) ?_)
   first | (simp [Try.f17, hdo, failS, zAbs, oAbs, ownR]; done) | (simp [Try.f17, hdo, failS, zAbs, oAbs, ownR, he]; done) | (simp [Try.f17, hdo, failS, zAbs, oAbs, ownR, freeS]; done) | (simp [Try.f17, hdo, failS, zAbs, oAbs, ownR, Go.splice, List.map_set]; done)
 · skip
   have hE : effS a o = ⟨{ a with data := a.data.set k ((nth a.data k).take o.n.toNat ++ List.replicate (o.n.toNat - (nth a.data k).length) 0) }, 0, 0, [], 0⟩ := (eff_3 hg hix hact).trans (by simp [resizeS, hq])
   have hdo := (doS_ok (o := o) hR (by rw [hE])).trans hE
   refine W_reg rfl ?_
   iterate 2 refine xO ?_
   refine run_inl0 rfl rfl rfl rfl (by simp; exact .mk) ⟨_, Try.func50, rfl, rfl⟩ (in50b g (.var 26 [.d (rI a.gens), .d (rBB a.data), .d (rR a.roots)]) (.var 31 [.d (vI o.act), .d (vI o.ix), .d (vI o.gen), .d (vI o.n), .d (vI o.off), .d (rB o.b), .d (vS o.name)]) (.var 26 [.d (.v (.slice none 0 0)), .d (.v (.slice none 0 0)), .d (.v (.slice none 0 0))]) (.var 38 [.d (vI 0), .d (vI 0), .d (.v (.slice none 0 0))]) (.var 26 [.hdr 4 0 a.gens.length, .hdr 5 0 a.data.length, .hdr 6 0 a.roots.length]) a (by simp) ha hgd o k hix hkd hd hact hq) (.inl (by simp)) ?_
   iterate 3 refine xO ?_
   iterate 2 (refine xO ?_ (h := by simp [splice]; exact .mk))
   refine xO ?_
   refine xF [4,5,6] ?_
   refine W_ret (xR (by simp [Try.f17]; exact .mk) ?_)
   first | (simp [Try.f17, hdo, failS, zAbs, oAbs, ownR]; done) | (simp [Try.f17, hdo, failS, zAbs, oAbs, ownR, he]; done) | (simp [Try.f17, hdo, failS, zAbs, oAbs, ownR, freeS]; done) | (simp [Try.f17, hdo, failS, zAbs, oAbs, ownR, Go.splice, List.map_set]; done)
 · skip
   have hE : effS a o = ⟨a, 0, 0, [], 1⟩ := (eff_3 hg hix hact).trans (by simp [resizeS, hq])
   have hdo := doS_fail (o := o) hR (by rw [hE]; exact by show (1 : Int) ≠ 0; decide)
   rw [hE] at hdo
   refine W_reg rfl ?_
   iterate 2 refine xO ?_
   refine run_inl0 rfl rfl rfl rfl (by simp; exact .mk) ⟨_, Try.func50, rfl, rfl⟩ (in50bf g (.var 26 [.d (rI a.gens), .d (rBB a.data), .d (rR a.roots)]) (.var 31 [.d (vI o.act), .d (vI o.ix), .d (vI o.gen), .d (vI o.n), .d (vI o.off), .d (rB o.b), .d (vS o.name)]) (.var 26 [.d (.v (.slice none 0 0)), .d (.v (.slice none 0 0)), .d (.v (.slice none 0 0))]) (.var 38 [.d (vI 0), .d (vI 0), .d (.v (.slice none 0 0))]) (.var 26 [.hdr 4 0 a.gens.length, .hdr 5 0 a.data.length, .hdr 6 0 a.roots.length]) a (by simp) ha hgd o k hix hkd hd hact hq) (.inl (by simp)) ?_
   iterate 3 refine xO ?_
   iterate 2 (refine xO ?_ (h := by simp [splice]; exact .mk))
   refine xO ?_
   refine xF [4,5,6] ?_
   refine W_ret (xR (by simp [Try.f17]; exact .mk) ?_)
   first | (simp [Try.f17, hdo, failS, zAbs, oAbs, ownR]; done) | (simp [Try.f17, hdo, failS, zAbs, oAbs, ownR, he]; done) | (simp [Try.f17, hdo, failS, zAbs, oAbs, ownR, freeS]; done) | (simp [Try.f17, hdo, failS, zAbs, oAbs, ownR, Go.splice, List.map_set]; done)
 · skip
   have hE : effS a o = ⟨a, 0, 0, (((nth a.data k).drop o.off.toNat).take o.n.toNat), 0⟩ := (eff_4 hg hix hact).trans (by simp [readS, hq])
   have hdo := (doS_ok (o := o) hR (by rw [hE])).trans hE
   refine W_reg rfl ?_
   iterate 2 refine xO ?_
   refine run_inl0 rfl rfl rfl rfl (by simp; exact .mk) ⟨_, Try.func50, rfl, rfl⟩ (in50c g (.var 26 [.d (rI a.gens), .d (rBB a.data), .d (rR a.roots)]) (.var 31 [.d (vI o.act), .d (vI o.ix), .d (vI o.gen), .d (vI o.n), .d (vI o.off), .d (rB o.b), .d (vS o.name)]) (.var 26 [.d (.v (.slice none 0 0)), .d (.v (.slice none 0 0)), .d (.v (.slice none 0 0))]) (.var 38 [.d (vI 0), .d (vI 0), .d (.v (.slice none 0 0))]) (.var 26 [.hdr 4 0 a.gens.length, .hdr 5 0 a.data.length, .hdr 6 0 a.roots.length]) a (by simp) ha hgd o k hix hkd hd hact hq) (.inr ⟨_, rfl⟩) ?_
   iterate 3 refine xO ?_
   iterate 2 (refine xO ?_ (h := by simp [splice]; exact .mk))
   refine xO ?_
   refine xF [4,5,6] ?_
   refine W_ret (xR (by simp [Try.f17]; exact .mk) ?_)
   first | (simp [Try.f17, hdo, failS, zAbs, oAbs, ownR]; done) | (simp [Try.f17, hdo, failS, zAbs, oAbs, ownR, he]; done) | (simp [Try.f17, hdo, failS, zAbs, oAbs, ownR, freeS]; done) | (simp [Try.f17, hdo, failS, zAbs, oAbs, ownR, Go.splice, List.map_set]; done)
 · skip
   have hE : effS a o = ⟨a, 0, 0, [], 1⟩ := (eff_4 hg hix hact).trans (by simp [readS, hq])
   have hdo := doS_fail (o := o) hR (by rw [hE]; exact by show (1 : Int) ≠ 0; decide)
   rw [hE] at hdo
   refine W_reg rfl ?_
   iterate 2 refine xO ?_
   refine run_inl0 rfl rfl rfl rfl (by simp; exact .mk) ⟨_, Try.func50, rfl, rfl⟩ (in50cf g (.var 26 [.d (rI a.gens), .d (rBB a.data), .d (rR a.roots)]) (.var 31 [.d (vI o.act), .d (vI o.ix), .d (vI o.gen), .d (vI o.n), .d (vI o.off), .d (rB o.b), .d (vS o.name)]) (.var 26 [.d (.v (.slice none 0 0)), .d (.v (.slice none 0 0)), .d (.v (.slice none 0 0))]) (.var 38 [.d (vI 0), .d (vI 0), .d (.v (.slice none 0 0))]) (.var 26 [.hdr 4 0 a.gens.length, .hdr 5 0 a.data.length, .hdr 6 0 a.roots.length]) a (by simp) ha hgd o k hix hkd hd hact hq) (.inl (by simp)) ?_
   iterate 3 refine xO ?_
   iterate 2 (refine xO ?_ (h := by simp [splice]; exact .mk))
   refine xO ?_
   refine xF [4,5,6] ?_
   refine W_ret (xR (by simp [Try.f17]; exact .mk) ?_)
   first | (simp [Try.f17, hdo, failS, zAbs, oAbs, ownR]; done) | (simp [Try.f17, hdo, failS, zAbs, oAbs, ownR, he]; done) | (simp [Try.f17, hdo, failS, zAbs, oAbs, ownR, freeS]; done) | (simp [Try.f17, hdo, failS, zAbs, oAbs, ownR, Go.splice, List.map_set]; done)
 · skip
   have hE : effS a o = ⟨{ a with data := a.data.set k (Go.splice (nth a.data k) o.off.toNat o.b) }, 0, 0, [], 0⟩ := (eff_5 hg hix hact).trans (by simp [writeS, hq])
   have hdo := (doS_ok (o := o) hR (by rw [hE])).trans hE
   refine W_regK rfl [1002] rfl ?_
   iterate 2 refine xO ?_
   refine run_inlK rfl rfl rfl rfl (by simp; exact .mk) ⟨_, Try.func50, rfl, rfl⟩ (fixS_put (by simp) (fixS_put (by simp) (fixS_slots (by simp)))) (in50w g (.var 26 [.d (rI a.gens), .d (rBB a.data), .d (rR a.roots)]) (.var 31 [.d (vI o.act), .d (vI o.ix), .d (vI o.gen), .d (vI o.n), .d (vI o.off), .d (rB o.b), .d (vS o.name)]) (.var 26 [.d (.v (.slice none 0 0)), .d (.v (.slice none 0 0)), .d (.v (.slice none 0 0))]) (.var 38 [.d (vI 0), .d (vI 0), .d (.v (.slice none 0 0))]) (.var 26 [.hdr 4 0 a.gens.length, .hdr 5 0 a.data.length, .hdr 6 0 a.roots.length]) a (by simp) ha hgd o k hix hkd hd hact (by simp) hob hq) (by simp) (by decide) ?_
   iterate 3 refine xO ?_
   iterate 2 (refine xO ?_ (h := by simp [splice]; exact .mk))
   refine xO ?_
   refine xF [4,5,6] ?_
   refine W_ret (xR (by simp [Try.f17]; exact .mk) ?_)
   first | (simp [Try.f17, hdo, failS, zAbs, oAbs, ownR]; done) | (simp [Try.f17, hdo, failS, zAbs, oAbs, ownR, he]; done) | (simp [Try.f17, hdo, failS, zAbs, oAbs, ownR, freeS]; done) | (simp [Try.f17, hdo, failS, zAbs, oAbs, ownR, Go.splice, List.map_set]; done)
 skip
 have hE : effS a o = ⟨a, 0, 0, [], 1⟩ := (eff_5 hg hix hact).trans (by simp [writeS, hq])
 have hdo := doS_fail (o := o) hR (by rw [hE]; exact by show (1 : Int) ≠ 0; decide)
 rw [hE] at hdo
 refine W_regK rfl [1002] rfl ?_
 iterate 2 refine xO ?_
 refine run_inlK rfl rfl rfl rfl (by simp; exact .mk) ⟨_, Try.func50, rfl, rfl⟩ (fixS_put (by simp) (fixS_put (by simp) (fixS_slots (by simp)))) (in50wf g (.var 26 [.d (rI a.gens), .d (rBB a.data), .d (rR a.roots)]) (.var 31 [.d (vI o.act), .d (vI o.ix), .d (vI o.gen), .d (vI o.n), .d (vI o.off), .d (rB o.b), .d (vS o.name)]) (.var 26 [.d (.v (.slice none 0 0)), .d (.v (.slice none 0 0)), .d (.v (.slice none 0 0))]) (.var 38 [.d (vI 0), .d (vI 0), .d (.v (.slice none 0 0))]) (.var 26 [.hdr 4 0 a.gens.length, .hdr 5 0 a.data.length, .hdr 6 0 a.roots.length]) a (by simp) ha hgd o k hix hkd hd hact (by simp) hob hq) (by simp) (by decide) ?_
 iterate 3 refine xO ?_
 iterate 2 (refine xO ?_ (h := by simp [splice]; exact .mk))
 refine xO ?_
 refine xF [4,5,6] ?_
 refine W_ret (xR (by simp [Try.f17]; exact .mk) ?_)
 first | (simp [Try.f17, hdo, failS, zAbs, oAbs, ownR]; done) | (simp [Try.f17, hdo, failS, zAbs, oAbs, ownR, he]; done) | (simp [Try.f17, hdo, failS, zAbs, oAbs, ownR, freeS]; done) | (simp [Try.f17, hdo, failS, zAbs, oAbs, ownR, Go.splice, List.map_set]; done)

open Go.Awp
theorem in81 (g : Gl) (o0 o1 o2 o3 o8 : Awp.Obj) (a : Abs) (o : Op) (ho : ∀ m, objsLt m [o0, o1, o2, o3, o8] = true) (ha : a.Ok) (hgd : a.data.length = a.gens.length) : ∀ B S, CallsA Try.prog g B S ⟨9, true⟩ 81 [.ptr 7 0 0, .agg [.d (vI o.act), .d (vI o.ix), .d (vI o.gen), .d (vI o.n), .d (vI o.off), .d (rB o.b), .d (vS o.name)]] [o0, o1, o2, o3, .row 1 (a.gens.map vI), .row 1 (a.data.map oB), .row 3 (a.roots.map eRoot), .var 79 [.hdr 4 0 a.gens.length, .hdr 5 0 a.data.length, (.hdr 6 0 a.roots.length), .d (vI 0), .d (vI 0), .d (.v (.slice none 0 0))], o8]
    (fun x q => x = .d (vI (allocS a o.n).e) ∧ q = [o0, o1, o2, o3, .row 1 (a.gens.map vI), .row 1 ((allocS a o.n).a.data.map oB), .row 3 (a.roots.map eRoot), .var 79 [.hdr 4 0 a.gens.length, .hdr 5 0 a.data.length, (.hdr 6 0 a.roots.length), .d (vI (allocS a o.n).ix), .d (vI (allocS a o.n).gen), .d (.v (.slice none 0 0))], o8]) := by
 refine callsA_at Try.func81 rfl (Nat.le_of_ble_eq_true rfl) fun B S => ?_
 obtain ⟨z0, z1, z2, z3, z8⟩ : o0.lt 9 = true ∧ o1.lt 9 = true ∧ o2.lt 9 = true ∧ o3.lt 9 = true ∧ o8.lt 9 = true := by simpa using ho 9
 refine xU ?_
 iterate 2 (refine xO ?_ (h := by simp [z0, z1, z2, z3, z8]; exact .mk))
 refine xF [0,3] ?_
 refine W_seq (xU ?_)
 iterate 2 (refine xO ?_ (h := by simp [z0, z1, z2, z3, z8]; exact .mk))
 refine run_call0 rfl rfl rfl rfl (by simp [z0, z1, z2, z3, z8]; exact .mk) (by simp [z0, z1, z2, z3, z8]; exact .mk) (ct115 g _) (by simp [z0, z1, z2, z3, z8]) (by simp [z0, z1, z2, z3, z8]; exact .mk) ?_
 refine xO ?_ (h := by simp [z0, z1, z2, z3, z8]; exact .mk)
 refine xF [0,3,10] ?_
 refine W_cond rfl ?_ ?_
 · intro h10
   have hs : sizedS o.n = false := by simp at h10; simp [sizedS]; omega
   have hr : allocS a o.n = ⟨a, 0, 0, [], 1⟩ := by simp [allocS, hs]
   refine xU ?_
   refine xO ?_ (h := by simp [z0, z1, z2, z3, z8]; exact .mk)
   refine xF [4] ?_
   refine W_ret (endAt_drop 9 (by simp [z0, z1, z2, z3, z8, Try.f81]; exact .mk) ?_ ?_ (by simp) (by simp [z0, z1, z2, z3, z8]) (by simp [z0, z1, z2, z3, z8]))
   · simp [hr]
   simp [hr, List.map_set, ownR, nrmL]; try rfl
 intro h10
 have hs : sizedS o.n = true := by simp at h10; simp [sizedS]; omega
 have hn : 1 ≤ o.n ∧ o.n ≤ 2048 := by simpa [sizedS] using hs
 refine W_skip ?_
 rintro -
 refine W_seq (xU ?_)
 iterate 7 (refine xO ?_ (h := by simp [z0, z1, z2, z3, z8]; exact .mk))
 refine xF [0,3,15,16,17] ?_
 refine W_block (W_rounds (fun m σ q => ∃ i : Nat, m = a.gens.length - i ∧ i ≤ a.gens.length ∧ (∀ j, j < i → openS a j = false) ∧ σ = slots [(0, .ptr 7 0 0), (3, .ptr 9 0 0), (15, .hdr 4 0 a.gens.length), (16, .d (vI a.gens.length)), (17, .d (vI i))] ∧ q = [o0, o1, o2, o3, .row 1 (a.gens.map vI), .row 1 (a.data.map oB), .row 3 (a.roots.map eRoot), .var 79 [.hdr 4 0 a.gens.length, .hdr 5 0 a.data.length, (.hdr 6 0 a.roots.length), .d (vI 0), .d (vI 0), .d (.v (.slice none 0 0))], o8, .var 31 [.d (vI o.act), .d (vI o.ix), .d (vI o.gen), .d (vI o.n), .d (vI o.off), .d (rB o.b), .d (vS o.name)]]) a.gens.length .refl ⟨0, by simp, by simp, by simp, rfl, rfl⟩ ?_)
 have q1 := ha.h1
 rintro m σ q ⟨i, rfl, hi, hinv, rfl, rfl⟩ _
 refine xU ?_
 refine xO ?_ (h := by simp [z0, z1, z2, z3, z8]; exact .mk)
 refine xF [0,3,15,16,17,18] ?_
 refine W_seq (W_cond rfl ?_ ?_)
 · intro h18
   have hi2 : i < a.gens.length := by simpa using h18
   have hi3 : i < a.data.length := by omega
   refine W_skip ?_
   rintro -
   refine W_seq (W_block ?_)
   refine xU ?_
   refine xO ?_ (h := by simp [z0, z1, z2, z3, z8]; exact .mk)
   refine xO ?_ (h := by simp [z0, z1, z2, z3, z8, hi2]; exact .mk)
   refine xO ?_ (h := by simp [z0, z1, z2, z3, z8, -List.getElem?_map, map_get hi2]; exact .mk)
   iterate 2 (refine xO ?_ (h := by simp [z0, z1, z2, z3, z8]; exact .mk))
   refine xG [0,3,5,6,15,16,17] ?_
   iterate 6 (refine xO ?_ (h := by simp [z0, z1, z2, z3, z8]; exact .mk))
   refine xO ?_ (h := by simp [z0, z1, z2, z3, z8, hi3]; exact .mk)
   refine xO ?_ (h := by simp [z0, z1, z2, z3, z8, -List.getElem?_map, map_get hi3]; exact .mk)
   iterate 3 (refine xO ?_ (h := by simp [z0, z1, z2, z3, z8]; exact .mk))
   iterate 2 (refine run_if rfl (by simp [z0, z1, z2, z3, z8]; exact .mk) rfl (by simp <;> omega) (fun hb => by simp [z0, z1, z2, z3, z8]; exact .mk) ?_)
   refine run_pick rfl (by simp [z0, z1, z2, z3, z8]; exact .mk) rfl rfl (by simp) (by simp [z0, z1, z2, z3, z8]; exact .mk) (by simp [z0, z1, z2, z3, z8]; exact .mk) (by simp; exact .mk) ?_
   refine run_end [0,3,5,6,15,16,17,35] (by simp <;> omega) (by simp; exact .mk) ?_
   rintro -
   refine W_cond rfl ?_ ?_
   · intro h35
     have hr : allocS a o.n = ⟨{ a with data := a.data.set i (List.replicate o.n.toNat 0) }, i, nth a.gens i, [], 0⟩ := by
      have : openS a i = true := by simp [openS] at *; exact h35
      simp [allocS, hs, allocIx_at hi2 hinv this]
     refine W_seq ?_
     have e1 : 0 ≤ o.n := by omega
     have e2 : o.n ≤ 140737488355328 := by omega
     refine W_regD (by kernel_rfl) [] 4 [0,1,2,3,4,5,6,7,8,9,10] (by decide +kernel) ?_
     iterate 8 (refine xO ?_ (h := by simp [z0, z1, z2, z3, z8]; exact .mk))
     refine xO ?_ (h := by simp [z0, z1, z2, z3, z8, e1, e2]; exact .mk)
     refine xO ?_ (h := by simp [z0, z1, z2, z3, z8, hi3]; exact .mk)
     refine xO ?_ (h := by simp [z0, z1, z2, z3, z8, splice, -List.getElem?_map, map_get hi3, nrmL, nrm, putC]; exact .mk)
     refine xG [0,5,6] ?_
     iterate 3 (refine xO ?_ (h := by simp [z0, z1, z2, z3, z8]; exact .mk))
     refine xO ?_ (h := by simp [z0, z1, z2, z3, z8, splice]; exact .mk)
     iterate 3 (refine xO ?_ (h := by simp [z0, z1, z2, z3, z8]; exact .mk))
     refine xO ?_ (h := by simp [z0, z1, z2, z3, z8, splice]; exact .mk)
     refine xG [] ?_
     refine xO ?_ (h := by simp [z0, z1, z2, z3, z8]; exact .mk)
     refine xF [4] ?_
     refine W_ret (endAt_drop 9 (by simp [z0, z1, z2, z3, z8, Try.f81]; exact .mk) ?_ ?_ (by simp) (by simp [z0, z1, z2, z3, z8]) (by simp [z0, z1, z2, z3, z8]))
     · simp [hr]
     simp [hr, List.map_set, ownR, nrmL]; try rfl
   intro h35
   refine W_skip ?_
   rintro -
   refine W_reg rfl ?_
   iterate 2 (refine xO ?_ (h := by simp [z0, z1, z2, z3, z8]; exact .mk))
   refine xE [0,3,15,16,17] ?_
   refine rounds_kill [0,3,15,16,17] ?_
   refine rounds_next (m' := a.gens.length - (i+1)) (by omega) ⟨i+1, rfl, by omega, ?_, ?_, rfl⟩
   · intro j hj
     rcases Nat.lt_succ_iff_lt_or_eq.1 hj with hj | rfl
     · exact hinv j hj
     simp [openS] at *; exact h35
   rw [wrap64 (by omega) (by omega)]; rfl
 intro h18
 have hr : allocS a o.n = ⟨a, 0, 0, [], 9⟩ := by simp [allocS, hs, allocIx_none (fun j hj => hinv j (by simp at h18; omega))]
 refine W_exit (xT ?_)
 refine xO ?_ (h := by simp [z0, z1, z2, z3, z8]; exact .mk)
 refine xF [4] ?_
 refine W_ret (endAt_drop 9 (by simp [z0, z1, z2, z3, z8, Try.f81]; exact .mk) ?_ ?_ (by simp) (by simp [z0, z1, z2, z3, z8]) (by simp [z0, z1, z2, z3, z8]))
 · simp [hr]
 simp [hr, List.map_set, ownR, nrmL]; try rfl

theorem in85 (g : Gl) (o0 o1 o2 o3 o8 : Awp.Obj) (a : Abs) (o : Op) (ho : ∀ m, objsLt m [o0, o1, o2, o3, o8] = true) (ha : a.Ok) (k : Nat) (hix : o.ix = k) (hk : k < a.data.length) (hk2 : k < a.gens.length) (hgn : 0 ≤ nth a.gens k ∧ nth a.gens k ≤ 65535) : ∀ B S, CallsA Try.prog g B S ⟨9, true⟩ 85 [.ptr 7 0 0, .agg [.d (vI o.act), .d (vI o.ix), .d (vI o.gen), .d (vI o.n), .d (vI o.off), .d (rB o.b), .d (vS o.name)]] [o0, o1, o2, o3, .row 1 (a.gens.map vI), .row 1 (a.data.map oB), .row 3 (a.roots.map eRoot), .var 79 [.hdr 4 0 a.gens.length, .hdr 5 0 a.data.length, (.hdr 6 0 a.roots.length), .d (vI 0), .d (vI 0), .d (.v (.slice none 0 0))], o8]
    (fun x q => x = .d (vI (freeS a k).e) ∧ q = [o0, o1, o2, o3, .row 1 ((freeS a k).a.gens.map vI), .row 1 ((freeS a k).a.data.map oB), .row 3 (a.roots.map eRoot), .var 79 [.hdr 4 0 a.gens.length, .hdr 5 0 a.data.length, (.hdr 6 0 a.roots.length), .d (vI 0), .d (vI 0), .d (.v (.slice none 0 0))], o8]) := by
 refine callsA_at Try.func85 rfl (Nat.le_of_ble_eq_true rfl) fun B S => ?_
 obtain ⟨z0, z1, z2, z3, z8⟩ : o0.lt 9 = true ∧ o1.lt 9 = true ∧ o2.lt 9 = true ∧ o3.lt 9 = true ∧ o8.lt 9 = true := by simpa using ho 9
 simp only [hix]
 refine xU ?_
 iterate 2 (refine xO ?_ (h := by simp [z0, z1, z2, z3, z8]; exact .mk))
 refine xG [0,3] ?_
 iterate 4 (refine xO ?_ (h := by simp [z0, z1, z2, z3, z8]; exact .mk))
 refine xF [0,5] ?_
 refine W_seq ?_
 have e1 : IntKind.i64.wrap (nth a.gens k + 1) = nth a.gens k + 1 := wrap64 (by omega) (by omega)
 have em : (if 65535 < nth a.gens k + 1 then (65535 : Int) else nth a.gens k + 1) = min (nth a.gens k + 1) 65535 := by omega
 refine W_regD (by kernel_rfl) [] 4 [0,1,2,3,4,5,6,7,8,9,10,11,12,13,14,15,16,17,18,19,20,22,21,23,24,25] (by decide +kernel) ?_
 iterate 18 (refine xO ?_ (h := by simp [z0, z1, z2, z3, z8]; exact .mk))
 refine xO ?_ (h := by simp [z0, z1, z2, z3, z8, hk2]; exact .mk)
 refine xO ?_ (h := by simp [z0, z1, z2, z3, z8, -List.getElem?_map, map_get hk2]; exact .mk)
 refine xO ?_ (h := by simp [z0, z1, z2, z3, z8, e1]; exact .mk)
 refine xO ?_ (h := by simp [z0, z1, z2, z3, z8, hk]; exact .mk)
 refine xO ?_ (h := by simp [z0, z1, z2, z3, z8, minA]; exact .mk)
 refine xO ?_ (h := by simp [z0, z1, z2, z3, z8, splice, -List.getElem?_map, map_get hk, nrmL, nrm, putC]; exact .mk)
 refine xO ?_ (h := by simp [z0, z1, z2, z3, z8, hk2]; exact .mk)
 refine xO ?_ (h := by simp [z0, z1, z2, z3, z8, splice, -List.getElem?_map, map_get hk2, nrmL, nrm, putC]; exact .mk)
 refine xG [] ?_
 refine xO ?_ (h := by simp [z0, z1, z2, z3, z8]; exact .mk)
 refine xF [4] ?_
 refine W_ret (endAt_drop 9 (by simp [z0, z1, z2, z3, z8, Try.f85]; exact .mk) ?_ ?_ (by simp) (by simp [z0, z1, z2, z3, z8]) (by simp [z0, z1, z2, z3, z8]))
 · simp [freeS]
 simp [freeS, em, List.map_set, ownR, nrmL]; try rfl

theorem in86 (g : Gl) (o0 o1 o2 o3 o8 : Awp.Obj) (a : Abs) (o : Op) (ho : ∀ m, objsLt m [o0, o1, o2, o3, o8] = true) (ha : a.Ok) (k : Nat) (hix : o.ix = k) (hk : k < a.data.length) (hd : (nth a.data k).length ≤ 2^40) : ∀ B S, CallsA Try.prog g B S ⟨9, true⟩ 86 [.ptr 7 0 0, .agg [.d (vI o.act), .d (vI o.ix), .d (vI o.gen), .d (vI o.n), .d (vI o.off), .d (rB o.b), .d (vS o.name)]] [o0, o1, o2, o3, .row 1 (a.gens.map vI), .row 1 (a.data.map oB), .row 3 (a.roots.map eRoot), .var 79 [.hdr 4 0 a.gens.length, .hdr 5 0 a.data.length, (.hdr 6 0 a.roots.length), .d (vI 0), .d (vI 0), .d (.v (.slice none 0 0))], o8]
    (fun x q => x = .d (vI (resizeS a k o.n).e) ∧ q = [o0, o1, o2, o3, .row 1 (a.gens.map vI), .row 1 ((resizeS a k o.n).a.data.map oB), .row 3 (a.roots.map eRoot), .var 79 [.hdr 4 0 a.gens.length, .hdr 5 0 a.data.length, (.hdr 6 0 a.roots.length), .d (vI 0), .d (vI 0), .d (.v (.slice none 0 0))], o8]) := by
 refine callsA_at Try.func86 rfl (Nat.le_of_ble_eq_true rfl) fun B S => ?_
 obtain ⟨z0, z1, z2, z3, z8⟩ : o0.lt 9 = true ∧ o1.lt 9 = true ∧ o2.lt 9 = true ∧ o3.lt 9 = true ∧ o8.lt 9 = true := by simpa using ho 9
 simp only [hix]
 refine xU ?_
 iterate 2 (refine xO ?_ (h := by simp [z0, z1, z2, z3, z8]; exact .mk))
 refine xF [0,3] ?_
 refine W_seq (xU ?_)
 iterate 2 (refine xO ?_ (h := by simp [z0, z1, z2, z3, z8]; exact .mk))
 refine run_call0 rfl rfl rfl rfl (by simp [z0, z1, z2, z3, z8]; exact .mk) (by simp [z0, z1, z2, z3, z8]; exact .mk) (ct115 g _) (by simp [z0, z1, z2, z3, z8]) (by simp [z0, z1, z2, z3, z8]; exact .mk) ?_
 refine xO ?_ (h := by simp [z0, z1, z2, z3, z8]; exact .mk)
 refine xF [0,3,9] ?_
 refine W_cond rfl ?_ ?_
 · intro h9
   have hs : sizedS o.n = false := by simp at h9; simp [sizedS]; omega
   have hr : resizeS a k o.n = ⟨a, 0, 0, [], 1⟩ := by simp [resizeS, hs]
   refine xU ?_
   refine xO ?_ (h := by simp [z0, z1, z2, z3, z8]; exact .mk)
   refine xF [4] ?_
   refine W_ret (endAt_drop 9 (by simp [z0, z1, z2, z3, z8, Try.f86]; exact .mk) ?_ ?_ (by simp) (by simp [z0, z1, z2, z3, z8]) (by simp [z0, z1, z2, z3, z8]))
   · simp [resizeS, hs]
   simp [resizeS, hs, List.map_set, ownR, nrmL]
 intro h9
 have hs : sizedS o.n = true := by simp at h9; simp [sizedS]; omega
 have hn : 1 ≤ o.n ∧ o.n ≤ 2048 := by simpa [sizedS] using hs
 have e1 : 0 ≤ o.n := by omega
 have e2 : o.n ≤ 140737488355328 := by omega
 refine W_skip ?_
 refine xT ?_
 iterate 2 (refine xO ?_ (h := by simp [z0, z1, z2, z3, z8]; exact .mk))
 refine xO ?_ (h := by simp [z0, z1, z2, z3, z8, e1, e2]; exact .mk)
 refine xO ?_ (h := by simp [z0, z1, z2, z3, z8]; exact .mk)
 refine xF [0,3,5] ?_
 refine W_seq ?_
 refine W_regD (by kernel_rfl) [] 4 [0,1,2,3,4,5,6,7,8,9,10,11] (by decide +kernel) ?_
 iterate 9 (refine xO ?_ (h := by simp [z0, z1, z2, z3, z8]; exact .mk))
 refine xO ?_ (h := by simp [z0, z1, z2, z3, z8, hk]; exact .mk)
 refine xO ?_ (h := by simp [z0, z1, z2, z3, z8, -List.getElem?_map, map_get hk]; exact .mk)
 refine xO ?_ (h := by simp [z0, z1, z2, z3, z8, copyA]; exact .mk)
 refine xF [0,3,5] ?_
 refine W_seq ?_
 rw [resize_row]
 refine W_regD (by kernel_rfl) [] 4 [0,1,2,3,4,5,6,7,8,9,10] (by decide +kernel) ?_
 iterate 9 (refine xO ?_ (h := by simp [z0, z1, z2, z3, z8]; exact .mk))
 refine xO ?_ (h := by simp [z0, z1, z2, z3, z8, hk]; exact .mk)
 refine xO ?_ (h := by simp [z0, z1, z2, z3, z8, splice, iff_true_intro (show o.n.toNat = min o.n.toNat (nth a.data k).length + (o.n.toNat - (nth a.data k).length) from by omega), -List.getElem?_map, map_get hk, nrmL, nrm, putC]; exact .mk)
 refine xG [] ?_
 refine xO ?_ (h := by simp [z0, z1, z2, z3, z8]; exact .mk)
 refine xF [4] ?_
 refine W_ret (endAt_drop 9 (by simp [z0, z1, z2, z3, z8, Try.f86]; exact .mk) ?_ ?_ (by simp) (by simp [z0, z1, z2, z3, z8]) (by simp [z0, z1, z2, z3, z8]))
 · simp [resizeS, hs]
 simp [resizeS, hs, List.map_set, ownR, nrmL]

open Go.Awp
theorem in120 (g : Gl) (o0 o1 o2 o3 o8 o9 : Awp.Obj) (a : Abs) (k : Nat) (gn off n : Int) (q : Bool) (ho : ∀ m, objsLt m [o0, o1, o2, o3, o8, o9] = true) (hk : k < a.data.length) (hd : (nth a.data k).length ≤ 2^40) (hq : reachS (nth a.data k).length off n = q) : ∀ B S, CallsA Try.prog g B S ⟨10, true⟩ 120 [.ptr 7 0 0, .agg [.d (vI k), .d (vI gn)], .d (vI off), .d (vI n)] [o0, o1, o2, o3, .row 1 (a.gens.map vI), .row 1 (a.data.map oB), .row 3 (a.roots.map eRoot), .var 79 [.hdr 4 0 a.gens.length, .hdr 5 0 a.data.length, (.hdr 6 0 a.roots.length), .d (vI 0), .d (vI 0), .d (.v (.slice none 0 0))], o8, o9]
    (fun x o => x = .tup [bif q then .d (snR 1 vB (((nth a.data k).drop off.toNat).take n.toNat)) else .d (.v (.slice none 0 0)), .d (.v (.bool q))] ∧ o = [o0, o1, o2, o3, .row 1 (a.gens.map vI), .row 1 (a.data.map oB), .row 3 (a.roots.map eRoot), .var 79 [.hdr 4 0 a.gens.length, .hdr 5 0 a.data.length, (.hdr 6 0 a.roots.length), .d (vI 0), .d (vI 0), .d (.v (.slice none 0 0))], o8, o9]) := by
 refine callsA_at Try.func120 rfl (Nat.le_of_ble_eq_true rfl) fun B S => ?_
 obtain ⟨z0, z1, z2, z3, z8, z9⟩ : o0.lt 10 = true ∧ o1.lt 10 = true ∧ o2.lt 10 = true ∧ o3.lt 10 = true ∧ o8.lt 10 = true ∧ o9.lt 10 = true := by simpa using ho 10
 refine xU ?_
 iterate 3 (refine xO ?_ (h := by simp [z0, z1, z2, z3, z8, z9]; exact .mk))
 refine xF [0,2,3,5] ?_
 refine W_seq ?_
 refine W_regD (by kernel_rfl) [] 4 [0,1,2,3,4,5,6,7,8,9] (by decide +kernel) ?_
 iterate 7 (refine xO ?_ (h := by simp [z0, z1, z2, z3, z8, z9]; exact .mk))
 refine xO ?_ (h := by simp [z0, z1, z2, z3, z8, z9, hk]; exact .mk)
 refine xO ?_ (h := by simp [z0, z1, z2, z3, z8, z9, -List.getElem?_map, map_get hk]; exact .mk)
 refine xO ?_ (h := by simp [z0, z1, z2, z3, z8, z9]; exact .mk)
 refine xF [2,3,10] ?_
 refine W_seq (xU ?_)
 iterate 3 (refine xO ?_ (h := by simp [z0, z1, z2, z3, z8, z9]; exact .mk))
 iterate 4 (refine run_if rfl (by simp [z0, z1, z2, z3, z8, z9]; exact .mk) rfl (by simp <;> omega) (fun hb => by simp [z0, z1, z2, z3, z8, z9]; exact .mk) ?_)
 refine run_pick rfl (by simp [z0, z1, z2, z3, z8, z9]; exact .mk) rfl rfl (by simp) (by simp [z0, z1, z2, z3, z8, z9]; exact .mk) (by simp [z0, z1, z2, z3, z8, z9]; exact .mk) (by simp; exact .mk) ?_
 refine run_op1 rfl rfl rfl (by simp <;> omega) (by simp [z0, z1, z2, z3, z8, z9]; exact .mk) ?_
 iterate 2 (refine run_if rfl (by simp [z0, z1, z2, z3, z8, z9]; exact .mk) rfl (by simp <;> omega) (fun hb => by simp [z0, z1, z2, z3, z8, z9]; exact .mk) ?_)
 refine run_pick rfl (by simp [z0, z1, z2, z3, z8, z9]; exact .mk) rfl rfl (by simp) (by simp [z0, z1, z2, z3, z8, z9]; exact .mk) (by simp [z0, z1, z2, z3, z8, z9]; exact .mk) (by simp; exact .mk) ?_
 refine run_op1 rfl rfl rfl (by simp <;> omega) (by simp [z0, z1, z2, z3, z8, z9]; exact .mk) ?_
 iterate 6 (refine run_if rfl (by simp [z0, z1, z2, z3, z8, z9]; exact .mk) rfl (by simp <;> omega) (fun hb => by simp [z0, z1, z2, z3, z8, z9]; exact .mk) ?_)
 refine run_pick rfl (by simp [z0, z1, z2, z3, z8, z9]; exact .mk) rfl rfl (by simp) (by simp [z0, z1, z2, z3, z8, z9]; exact .mk) (by simp [z0, z1, z2, z3, z8, z9]; exact .mk) (by simp; exact .mk) ?_
 refine run_end [2,3,10,39] (by simp <;> omega) (by simp; exact .mk) ?_
 rintro -
 refine W_cond rfl ?_ ?_
 · intro h39
   rw [reach_eq hd, hq] at h39
   obtain rfl : q = false := by simpa using h39
   refine xU ?_
   iterate 2 (refine xO ?_ (h := by simp [z0, z1, z2, z3, z8, z9]; exact .mk))
   refine xF [8,9] ?_
   refine W_ret (endAt_drop 10 (by simp [z0, z1, z2, z3, z8, z9, Try.f120]; exact .mk) ?_ ?_ (by simp) (by simp [z0, z1, z2, z3, z8, z9]) (by simp [z0, z1, z2, z3, z8, z9]))
   · simp <;> (try rw [show (off + n).toNat - off.toNat = n.toNat from by omega])
   rfl
 intro h39
 rw [reach_eq hd, hq] at h39
 obtain rfl : q = true := by simpa using h39
 have hx : 0 ≤ off ∧ off ≤ (nth a.data k).length ∧ 0 ≤ n ∧ n ≤ (nth a.data k).length - off := by rw [reachS] at hq; simp at hq; omega
 refine W_skip ?_
 rintro -
 refine W_seq ?_
 have e1 : IntKind.i64.wrap (off + n) = off + n := wrap64 (by omega) (by omega)
 refine W_reg rfl ?_
 iterate 4 (refine xO ?_ (h := by simp [z0, z1, z2, z3, z8, z9]; exact .mk))
 refine xO ?_ (h := by simp [z0, z1, z2, z3, z8, z9, e1]; exact .mk)
 refine xO ?_ (h := by simp [z0, z1, z2, z3, z8, z9, optA, hx.1, show off ≤ off + n from by omega, show off + n ≤ ↑(nth a.data k).length from by omega]; exact .mk)
 iterate 2 (refine xO ?_ (h := by simp [z0, z1, z2, z3, z8, z9]; exact .mk))
 refine xF [8,9] ?_
 refine W_ret (endAt_drop 10 (by simp [z0, z1, z2, z3, z8, z9, Try.f120]; exact .mk) ?_ ?_ (by simp) (by simp [z0, z1, z2, z3, z8, z9]) (by simp [z0, z1, z2, z3, z8, z9]))
 · simp <;> (try rw [show (off + n).toNat - off.toNat = n.toNat from by omega])
 rfl

theorem in120h (g : Gl) (o0 o1 o2 o3 o8 o9 : Awp.Obj) (a : Abs) (k : Nat) (gn off n : Int) (q : Bool) (ho : ∀ m, objsLt m [o0, o1, o2, o3, o8, o9] = true) (hk : k < a.data.length) (hd : (nth a.data k).length ≤ 2^40) (hq : reachS (nth a.data k).length off n = q) : ∀ B S, CallsA Try.prog g B S ⟨11, true⟩ 120 [.ptr 7 0 0, .agg [.d (vI k), .d (vI gn)], .d (vI off), .d (vI n)] [o0, o1, o2, o3, .row 1 (a.gens.map vI), .hole k 10 (nth a.data k).length (a.data.map oB), .row 3 (a.roots.map eRoot), .var 79 [.hdr 4 0 a.gens.length, .hdr 5 0 a.data.length, (.hdr 6 0 a.roots.length), .d (vI 0), .d (vI 0), .d (.v (.slice none 0 0))], o8, o9, .row 1 ((nth a.data k).map vB)]
    (fun x o => x = .tup [bif q then .hdr 10 off.toNat n.toNat else .d (.v (.slice none 0 0)), .d (.v (.bool q))] ∧ o = [o0, o1, o2, o3, .row 1 (a.gens.map vI), .hole k 10 (nth a.data k).length (a.data.map oB), .row 3 (a.roots.map eRoot), .var 79 [.hdr 4 0 a.gens.length, .hdr 5 0 a.data.length, (.hdr 6 0 a.roots.length), .d (vI 0), .d (vI 0), .d (.v (.slice none 0 0))], o8, o9, .row 1 ((nth a.data k).map vB)]) := by
 refine callsA_at Try.func120 rfl (Nat.le_of_ble_eq_true rfl) fun B S => ?_
 obtain ⟨z0, z1, z2, z3, z8, z9⟩ : o0.lt 11 = true ∧ o1.lt 11 = true ∧ o2.lt 11 = true ∧ o3.lt 11 = true ∧ o8.lt 11 = true ∧ o9.lt 11 = true := by simpa using ho 11
 refine xU ?_
 iterate 3 (refine xO ?_ (h := by simp [z0, z1, z2, z3, z8, z9]; exact .mk))
 refine xF [0,2,3,5] ?_
 refine W_seq ?_
 refine W_regD (by kernel_rfl) [] 4 [0,1,2,3,4,5,6,7,8,9] (by decide +kernel) ?_
 iterate 7 (refine xO ?_ (h := by simp [z0, z1, z2, z3, z8, z9]; exact .mk))
 refine xO ?_ (h := by simp [z0, z1, z2, z3, z8, z9, hk]; exact .mk)
 refine xO ?_ (h := by simp [z0, z1, z2, z3, z8, z9, -List.getElem?_map, map_get hk]; exact .mk)
 refine xO ?_ (h := by simp [z0, z1, z2, z3, z8, z9]; exact .mk)
 refine xF [2,3,10] ?_
 refine W_seq (xU ?_)
 iterate 3 (refine xO ?_ (h := by simp [z0, z1, z2, z3, z8, z9]; exact .mk))
 iterate 4 (refine run_if rfl (by simp [z0, z1, z2, z3, z8, z9]; exact .mk) rfl (by simp <;> omega) (fun hb => by simp [z0, z1, z2, z3, z8, z9]; exact .mk) ?_)
 refine run_pick rfl (by simp [z0, z1, z2, z3, z8, z9]; exact .mk) rfl rfl (by simp) (by simp [z0, z1, z2, z3, z8, z9]; exact .mk) (by simp [z0, z1, z2, z3, z8, z9]; exact .mk) (by simp; exact .mk) ?_
 refine run_op1 rfl rfl rfl (by simp <;> omega) (by simp [z0, z1, z2, z3, z8, z9]; exact .mk) ?_
 iterate 2 (refine run_if rfl (by simp [z0, z1, z2, z3, z8, z9]; exact .mk) rfl (by simp <;> omega) (fun hb => by simp [z0, z1, z2, z3, z8, z9]; exact .mk) ?_)
 refine run_pick rfl (by simp [z0, z1, z2, z3, z8, z9]; exact .mk) rfl rfl (by simp) (by simp [z0, z1, z2, z3, z8, z9]; exact .mk) (by simp [z0, z1, z2, z3, z8, z9]; exact .mk) (by simp; exact .mk) ?_
 refine run_op1 rfl rfl rfl (by simp <;> omega) (by simp [z0, z1, z2, z3, z8, z9]; exact .mk) ?_
 iterate 6 (refine run_if rfl (by simp [z0, z1, z2, z3, z8, z9]; exact .mk) rfl (by simp <;> omega) (fun hb => by simp [z0, z1, z2, z3, z8, z9]; exact .mk) ?_)
 refine run_pick rfl (by simp [z0, z1, z2, z3, z8, z9]; exact .mk) rfl rfl (by simp) (by simp [z0, z1, z2, z3, z8, z9]; exact .mk) (by simp [z0, z1, z2, z3, z8, z9]; exact .mk) (by simp; exact .mk) ?_
 refine run_end [2,3,10,39] (by simp <;> omega) (by simp; exact .mk) ?_
 rintro -
 refine W_cond rfl ?_ ?_
 · intro h39
   rw [reach_eq hd, hq] at h39
   obtain rfl : q = false := by simpa using h39
   refine xU ?_
   iterate 2 (refine xO ?_ (h := by simp [z0, z1, z2, z3, z8, z9]; exact .mk))
   refine xF [8,9] ?_
   refine W_ret (endAt_drop 11 (by simp [z0, z1, z2, z3, z8, z9, Try.f120]; exact .mk) ?_ ?_ (by simp) (by simp [z0, z1, z2, z3, z8, z9]) (by simp [z0, z1, z2, z3, z8, z9]))
   · simp <;> (try rw [show (off + n).toNat - off.toNat = n.toNat from by omega])
   rfl
 intro h39
 rw [reach_eq hd, hq] at h39
 obtain rfl : q = true := by simpa using h39
 have hx : 0 ≤ off ∧ off ≤ (nth a.data k).length ∧ 0 ≤ n ∧ n ≤ (nth a.data k).length - off := by rw [reachS] at hq; simp at hq; omega
 refine W_skip ?_
 rintro -
 refine W_seq ?_
 have e1 : IntKind.i64.wrap (off + n) = off + n := wrap64 (by omega) (by omega)
 refine W_reg rfl ?_
 iterate 4 (refine xO ?_ (h := by simp [z0, z1, z2, z3, z8, z9]; exact .mk))
 refine xO ?_ (h := by simp [z0, z1, z2, z3, z8, z9, e1]; exact .mk)
 refine xO ?_ (h := by simp [z0, z1, z2, z3, z8, z9, optA, hx.1, show off ≤ off + n from by omega, show off + n ≤ ↑(nth a.data k).length from by omega]; exact .mk)
 iterate 2 (refine xO ?_ (h := by simp [z0, z1, z2, z3, z8, z9]; exact .mk))
 refine xF [8,9] ?_
 refine W_ret (endAt_drop 11 (by simp [z0, z1, z2, z3, z8, z9, Try.f120]; exact .mk) ?_ ?_ (by simp) (by simp [z0, z1, z2, z3, z8, z9]) (by simp [z0, z1, z2, z3, z8, z9]))
 · simp <;> (try rw [show (off + n).toNat - off.toNat = n.toNat from by omega])
 rfl

open Go.Awp
theorem in87 (g : Gl) (o0 o1 o2 o3 o8 : Awp.Obj) (a : Abs) (o : Op) (ho : ∀ m, objsLt m [o0, o1, o2, o3, o8] = true) (ha : a.Ok) (k : Nat) (hix : o.ix = k) (hk : k < a.data.length) (hd : (nth a.data k).length ≤ 2^40) (hq : reachS (nth a.data k).length o.off o.n = true) : ∀ B S, CallsA Try.prog g B S ⟨9, true⟩ 87 [.ptr 7 0 0, .agg [.d (vI o.act), .d (vI o.ix), .d (vI o.gen), .d (vI o.n), .d (vI o.off), .d (rB o.b), .d (vS o.name)]] [o0, o1, o2, o3, .row 1 (a.gens.map vI), .row 1 (a.data.map oB), .row 3 (a.roots.map eRoot), .var 79 [.hdr 4 0 a.gens.length, .hdr 5 0 a.data.length, (.hdr 6 0 a.roots.length), .d (vI 0), .d (vI 0), .d (.v (.slice none 0 0))], o8]
    (fun x q => x = .d (vI 0) ∧ q = [o0, o1, o2, o3, .row 1 (a.gens.map vI), .row 1 (a.data.map oB), .row 3 (a.roots.map eRoot), .var 79 [.hdr 4 0 a.gens.length, .hdr 5 0 a.data.length, (.hdr 6 0 a.roots.length), .d (vI 0), .d (vI 0), .hdr 10 0 (readS a k o.off o.n).b.length], o8, .var 31 [.d (vI o.act), .d (vI k), .d (vI o.gen), .d (vI o.n), .d (vI o.off), .d (rB o.b), .d (vS o.name)], .row 1 ((readS a k o.off o.n).b.map vB)]) := by
 refine callsA_at Try.func87 rfl (Nat.le_of_ble_eq_true rfl) fun B S => ?_
 obtain ⟨z0, z1, z2, z3, z8⟩ : o0.lt 9 = true ∧ o1.lt 9 = true ∧ o2.lt 9 = true ∧ o3.lt 9 = true ∧ o8.lt 9 = true := by simpa using ho 9
 simp only [hix]
 refine xU ?_
 iterate 2 (refine xO ?_ (h := by simp [z0, z1, z2, z3, z8]; exact .mk))
 refine xF [0,3] ?_
 refine W_seq ?_
 have hrr : readS a k o.off o.n = ⟨a, 0, 0, ((nth a.data k).drop o.off.toNat).take o.n.toNat, 0⟩ := by simp [readS, hq]
 refine W_reg rfl ?_
 iterate 7 (refine xO ?_ (h := by simp [z0, z1, z2, z3, z8]; exact .mk))
 refine run_inl0 rfl rfl rfl rfl (by simp [z0, z1, z2, z3, z8]; exact .mk) ⟨_, Try.func120, rfl, rfl⟩ (in120 g _ _ _ _ _ _ a k o.gen o.off o.n true (fun m => by have := ho m; simp at this; simp [this]) hk hd hq) (.inr ⟨[], by simp⟩) ?_
 iterate 5 (refine xO ?_ (h := by simp [z0, z1, z2, z3, z8]; exact .mk))
 refine xF [0,5,6] ?_
 refine W_seq (xU ?_)
 iterate 2 (refine xO ?_ (h := by simp [z0, z1, z2, z3, z8]; exact .mk))
 refine xF [0,5,19] ?_
 refine W_cond rfl ?_ ?_
 · intro h19
   simp at h19
 intro h19
 refine W_skip ?_
 refine xT ?_
 iterate 2 (refine xO ?_ (h := by simp [z0, z1, z2, z3, z8]; exact .mk))
 refine run_call0 rfl rfl rfl rfl (by simp [z0, z1, z2, z3, z8]; exact .mk) (by simp [z0, z1, z2, z3, z8]; exact .mk) (ct53 g _ (by simp; omega)) (by simp [z0, z1, z2, z3, z8]) (by simp [z0, z1, z2, z3, z8]; exact .mk) ?_
 iterate 3 (refine xO ?_ (h := by simp [z0, z1, z2, z3, z8]; exact .mk))
 refine xO ?_ (h := by simp [z0, z1, z2, z3, z8, splice]; exact .mk)
 refine xG [] ?_
 refine xO ?_ (h := by simp [z0, z1, z2, z3, z8]; exact .mk)
 refine xF [4] ?_
 refine W_ret (endAt_ret (by simp [z0, z1, z2, z3, z8, Try.f87]; exact .mk) ?_ ?_)
 · simp
 simp [hrr]

theorem in87f (g : Gl) (o0 o1 o2 o3 o8 : Awp.Obj) (a : Abs) (o : Op) (ho : ∀ m, objsLt m [o0, o1, o2, o3, o8] = true) (ha : a.Ok) (k : Nat) (hix : o.ix = k) (hk : k < a.data.length) (hd : (nth a.data k).length ≤ 2^40) (hq : reachS (nth a.data k).length o.off o.n = false) : ∀ B S, CallsA Try.prog g B S ⟨9, true⟩ 87 [.ptr 7 0 0, .agg [.d (vI o.act), .d (vI o.ix), .d (vI o.gen), .d (vI o.n), .d (vI o.off), .d (rB o.b), .d (vS o.name)]] [o0, o1, o2, o3, .row 1 (a.gens.map vI), .row 1 (a.data.map oB), .row 3 (a.roots.map eRoot), .var 79 [.hdr 4 0 a.gens.length, .hdr 5 0 a.data.length, (.hdr 6 0 a.roots.length), .d (vI 0), .d (vI 0), .d (.v (.slice none 0 0))], o8]
    (fun x q => x = .d (vI 1) ∧ q = [o0, o1, o2, o3, .row 1 (a.gens.map vI), .row 1 (a.data.map oB), .row 3 (a.roots.map eRoot), .var 79 [.hdr 4 0 a.gens.length, .hdr 5 0 a.data.length, (.hdr 6 0 a.roots.length), .d (vI 0), .d (vI 0), .d (.v (.slice none 0 0))], o8]) := by
 refine callsA_at Try.func87 rfl (Nat.le_of_ble_eq_true rfl) fun B S => ?_
 obtain ⟨z0, z1, z2, z3, z8⟩ : o0.lt 9 = true ∧ o1.lt 9 = true ∧ o2.lt 9 = true ∧ o3.lt 9 = true ∧ o8.lt 9 = true := by simpa using ho 9
 simp only [hix]
 refine xU ?_
 iterate 2 (refine xO ?_ (h := by simp [z0, z1, z2, z3, z8]; exact .mk))
 refine xG [0,3] ?_
 iterate 7 (refine xO ?_ (h := by simp [z0, z1, z2, z3, z8]; exact .mk))
 refine run_inl0 rfl rfl rfl rfl (by simp [z0, z1, z2, z3, z8]; exact .mk) ⟨_, Try.func120, rfl, rfl⟩ (in120 g _ _ _ _ _ _ a k o.gen o.off o.n false (fun m => by have := ho m; simp at this; simp [this]) hk hd hq) (.inr ⟨[], by simp⟩) ?_
 iterate 5 (refine xO ?_ (h := by simp [z0, z1, z2, z3, z8]; exact .mk))
 refine xF [0,5,6] ?_
 refine W_seq (xU ?_)
 iterate 2 (refine xO ?_ (h := by simp [z0, z1, z2, z3, z8]; exact .mk))
 refine xF [0,5,19] ?_
 refine W_cond rfl ?_ ?_
 · intro h19
   refine xU ?_
   refine xO ?_ (h := by simp [z0, z1, z2, z3, z8]; exact .mk)
   refine xF [4] ?_
   refine W_ret (endAt_drop 9 (by simp [z0, z1, z2, z3, z8, Try.f87]; exact .mk) ?_ ?_ (by simp) (by simp [z0, z1, z2, z3, z8]) (by simp [z0, z1, z2, z3, z8]))
   · simp
   simp
 intro h19
 simp at h19

theorem in88 (g : Gl) (o0 o1 o2 o3 o8 : Awp.Obj) (a : Abs) (o : Op) (ho : ∀ m, objsLt m [o0, o1, o2, o3, o8] = true) (ha : a.Ok) (k : Nat) (hix : o.ix = k) (hk : k < a.data.length) (hd : (nth a.data k).length ≤ 2^40) (fx : objsFix [o0, o1, o2, o3, o8] = true) (hob : o.b.length ≤ 2^40) (q : Bool) (hq : reachS (nth a.data k).length o.off o.b.length = q) : ∀ B S, CallsA Try.prog g B S ⟨9, false⟩ 88 [.ptr 7 0 0, .agg [.d (vI o.act), .d (vI o.ix), .d (vI o.gen), .d (vI o.n), .d (vI o.off), .d (rB o.b), .d (vS o.name)]] [o0, o1, o2, o3, .row 1 (a.gens.map vI), .row 1 (a.data.map oB), .row 3 (a.roots.map eRoot), .var 79 [.hdr 4 0 a.gens.length, .hdr 5 0 a.data.length, (.hdr 6 0 a.roots.length), .d (vI 0), .d (vI 0), .d (.v (.slice none 0 0))], o8]
    (fun x r => x = .d (vI (writeS a k o.off o.b).e) ∧ r = [o0, o1, o2, o3, .row 1 (a.gens.map vI), .row 1 ((writeS a k o.off o.b).a.data.map oB), .row 3 (a.roots.map eRoot), .var 79 [.hdr 4 0 a.gens.length, .hdr 5 0 a.data.length, (.hdr 6 0 a.roots.length), .d (vI 0), .d (vI 0), .d (.v (.slice none 0 0))], o8]) := by
 refine callsA_at Try.func88 rfl (Nat.le_of_ble_eq_true rfl) fun B S => ?_
 obtain ⟨z0, z1, z2, z3, z8⟩ : o0.lt 9 = true ∧ o1.lt 9 = true ∧ o2.lt 9 = true ∧ o3.lt 9 = true ∧ o8.lt 9 = true := by simpa using ho 9
 simp only [hix]
 simp only [objsFix, Bool.and_eq_true, and_true] at fx
 refine xU ?_
 iterate 2 (refine xO ?_ (h := by simp [z0, z1, z2, z3, z8]; exact .mk))
 refine xF [0,3] ?_
 refine W_seq (W_weak (s2 := slots [(0, .ptr 7 0 0), (3, .ptr 9 0 0)]) (objs2 := [o0, o1, o2, o3, .row 1 (a.gens.map vI), .hole k 10 (nth a.data k).length (a.data.map oB), .row 3 (a.roots.map eRoot), .var 79 [.hdr 4 0 a.gens.length, .hdr 5 0 a.data.length, (.hdr 6 0 a.roots.length), .d (vI 0), .d (vI 0), .d (.v (.slice none 0 0))], o8, .var 31 [.d (vI o.act), .d (vI k), .d (vI o.gen), .d (vI o.n), .d (vI o.off), .d (rB o.b), .d (vS o.name)], .row 1 ((nth a.data k).map vB)]) (Weak.open (xs := a.data.map oB) (ys := (nth a.data k).map vB) 5 k rfl rfl (map_get (f := oB) hk) ?_ ?_ (by simp)) ?_)
 · simp
 · simp [fx]
 refine W_reg rfl ?_
 iterate 8 (refine xO ?_ (h := by simp [z0, z1, z2, z3, z8]; exact .mk))
 refine run_inl0 rfl rfl rfl rfl (by simp [z0, z1, z2, z3, z8]; exact .mk) ⟨_, Try.func120, rfl, rfl⟩ (in120h g o0 o1 o2 o3 o8 (.var 31 [.d (vI o.act), .d (vI k), .d (vI o.gen), .d (vI o.n), .d (vI o.off), .d (rB o.b), .d (vS o.name)]) a k o.gen o.off o.b.length q (fun m => by have := ho m; simp at this; simp [this]) hk hd hq) (.inr ⟨[], by simp⟩) ?_
 iterate 5 (refine xO ?_ (h := by simp [z0, z1, z2, z3, z8]; exact .mk))
 refine xF [3,5,6] ?_
 refine W_seq (xU ?_)
 iterate 2 (refine xO ?_ (h := by simp [z0, z1, z2, z3, z8]; exact .mk))
 refine xF [3,5,20] ?_
 refine W_cond rfl ?_ ?_
 · intro h20
   obtain rfl : q = false := by simpa using h20
   have hr : writeS a k o.off o.b = ⟨a, 0, 0, [], 1⟩ := by simp [writeS, hq]
   refine W_seq (W_weak (objs2 := [o0, o1, o2, o3, .row 1 (a.gens.map vI), .row 1 ((a.data.map oB).set k (.row .own 1 ((nth a.data k).map vB))), .row 3 (a.roots.map eRoot), .var 79 [.hdr 4 0 a.gens.length, .hdr 5 0 a.data.length, (.hdr 6 0 a.roots.length), .d (vI 0), .d (vI 0), .d (.v (.slice none 0 0))], o8, .var 31 [.d (vI o.act), .d (vI k), .d (vI o.gen), .d (vI o.n), .d (vI o.off), .d (rB o.b), .d (vS o.name)], .dead]) (Weak.close (i := k) (r' := 10) (k := 1) (xs := a.data.map oB) (ys := (nth a.data k).map vB) (len := (nth a.data k).length) 5 rfl rfl ?_) ?_)
   · simp
   refine W_reg rfl ?_
   refine xO ?_ (h := by simp [z0, z1, z2, z3, z8]; exact .mk)
   refine xF [4] ?_
   refine W_ret (endAt_drop 9 (by simp [z0, z1, z2, z3, z8, Try.f88]; exact .mk) ?_ ?_ (by simp) (by simp [z0, z1, z2, z3, z8]) (by simp [z0, z1, z2, z3, z8]))
   · simp [hr]
   simp only [hr]; first | rw [set_oB_self hk]; rfl | rw [set_oB_splice]; rfl
 intro h20
 obtain rfl : q = true := by simpa using h20
 have hx : 0 ≤ o.off ∧ o.off ≤ (nth a.data k).length ∧ (o.b.length : Int) ≤ (nth a.data k).length - o.off := by rw [reachS] at hq; simp at hq; omega
 have hr : writeS a k o.off o.b = ⟨{ a with data := a.data.set k (Go.splice (nth a.data k) o.off.toNat o.b) }, 0, 0, [], 0⟩ := by simp [writeS, hq]
 refine W_skip ?_
 refine xT ?_
 iterate 3 (refine xO ?_ (h := by simp [z0, z1, z2, z3, z8]; exact .mk))
 refine xO ?_ (h := by simp [z0, z1, z2, z3, z8, copyA, show o.off.toNat + o.b.length ≤ (nth a.data k).length from by omega]; exact .mk)
 refine xF [] ?_
 refine W_seq (W_weak (objs2 := [o0, o1, o2, o3, .row 1 (a.gens.map vI), .row 1 ((a.data.map oB).set k (.row .own 1 (Go.splice ((nth a.data k).map vB) o.off.toNat (o.b.map vB)))), .row 3 (a.roots.map eRoot), .var 79 [.hdr 4 0 a.gens.length, .hdr 5 0 a.data.length, (.hdr 6 0 a.roots.length), .d (vI 0), .d (vI 0), .d (.v (.slice none 0 0))], o8, .var 31 [.d (vI o.act), .d (vI k), .d (vI o.gen), .d (vI o.n), .d (vI o.off), .d (rB o.b), .d (vS o.name)], .dead]) (Weak.close (i := k) (r' := 10) (k := 1) (xs := a.data.map oB) (ys := Go.splice ((nth a.data k).map vB) o.off.toNat (o.b.map vB)) (len := (nth a.data k).length) 5 rfl rfl ?_) ?_)
 · rw [splice_map, List.length_map, Go.length_splice _ _ _ (by omega)]
 refine W_reg rfl ?_
 refine xO ?_ (h := by simp [z0, z1, z2, z3, z8]; exact .mk)
 refine xF [4] ?_
 refine W_ret (endAt_drop 9 (by simp [z0, z1, z2, z3, z8, Try.f88]; exact .mk) ?_ ?_ (by simp) (by simp [z0, z1, z2, z3, z8]) (by simp [z0, z1, z2, z3, z8]))
 · simp [hr]
 simp only [hr]; first | rw [set_oB_self hk]; rfl | rw [set_oB_splice]; rfl

open Go.Awp
theorem in82s (g : Gl) (o0 o1 o2 o3 o8 : Awp.Obj) (a : Abs) (o : Op) (ho : ∀ m, objsLt m [o0, o1, o2, o3, o8] = true) (ha : a.Ok) (hact : o.act = 6) (hr : RootsOk a.roots) (hn : o.name.size ≤ 2^40) : ∀ B S, CallsA Try.prog g B S ⟨9, true⟩ 82 [.ptr 7 0 0, .agg [.d (vI o.act), .d (vI o.ix), .d (vI o.gen), .d (vI o.n), .d (vI o.off), .d (rB o.b), .d (vS o.name)]] [o0, o1, o2, o3, .row 1 (a.gens.map vI), .row 1 (a.data.map oB), .row 3 (a.roots.map eRoot), .var 79 [.hdr 4 0 a.gens.length, .hdr 5 0 a.data.length, (.hdr 6 0 a.roots.length), .d (vI 0), .d (vI 0), .d (.v (.slice none 0 0))], o8]
    (fun x r => x = .d (vI (setS a.roots o.name o.ix o.gen).2) ∧ r = [o0, o1, o2, o3, .row 1 (a.gens.map vI), .row 1 (a.data.map oB), .row 3 (a.roots.map eRoot), .var 79 [.hdr 4 0 a.gens.length, .hdr 5 0 a.data.length, .hdr 10 0 (setS a.roots o.name o.ix o.gen).1.length, .d (vI 0), .d (vI 0), .d (.v (.slice none 0 0))], o8, .var 31 [.d (vI o.act), .d (vI o.ix), .d (vI o.gen), .d (vI o.n), .d (vI o.off), .d (rB o.b), .d (vS o.name)], .row 3 ((setS a.roots o.name o.ix o.gen).1.map eRoot)]) := by
 refine callsA_at Try.func82 rfl (Nat.le_of_ble_eq_true rfl) fun B S => ?_
 obtain ⟨z0, z1, z2, z3, z8⟩ : o0.lt 9 = true ∧ o1.lt 9 = true ∧ o2.lt 9 = true ∧ o3.lt 9 = true ∧ o8.lt 9 = true := by simpa using ho 9
 refine xU ?_
 iterate 2 (refine xO ?_ (h := by simp [z0, z1, z2, z3, z8]; exact .mk))
 refine xG [0,3,4] ?_
 iterate 6 (refine xO ?_ (h := by simp [z0, z1, z2, z3, z8]; exact .mk))
 refine xF [0,3,4,5] ?_
 refine W_seq (xU ?_)
 iterate 2 (refine xO ?_ (h := by simp [z0, z1, z2, z3, z8]; exact .mk))
 refine xF [0,3,4,5,12] ?_
 refine W_block (xU ?_)
 iterate 2 (refine xO ?_ (h := by simp [z0, z1, z2, z3, z8]; exact .mk))
 refine xF [0,3,4,5,12,13] ?_
 refine W_cond rfl ?_ ?_
 · intro h13
   refine W_reg rfl ?_
   iterate 5 (refine xO ?_ (h := by simp [z0, z1, z2, z3, z8]; exact .mk))
   refine run_call0 rfl rfl rfl rfl (by simp [z0, z1, z2, z3, z8]; exact .mk) (by simp [z0, z1, z2, z3, z8, row_rows, Function.comp_def]; exact .mk) (ct116 g a.roots _ _ _ hr hn) (by simp [z0, z1, z2, z3, z8]) (by simp [z0, z1, z2, z3, z8]; exact .mk) ?_
   iterate 5 (refine xO ?_ (h := by simp [z0, z1, z2, z3, z8]; exact .mk))
   refine xG [0,4,5] ?_
   iterate 5 (refine xO ?_ (h := by simp [z0, z1, z2, z3, z8]; exact .mk))
   refine xO ?_ (h := by simp [z0, z1, z2, z3, z8, splice]; exact .mk)
   refine xG [4] ?_
   iterate 2 (refine xO ?_ (h := by simp [z0, z1, z2, z3, z8]; exact .mk))
   refine xF [4] ?_
   refine W_ret (endAt_ret (by simp [z0, z1, z2, z3, z8, Try.f82]; exact .mk) ?_ ?_)
   · simp
   simp
 intro h13
 simp [hact] at h13

theorem in82g (g : Gl) (o0 o1 o2 o3 o8 : Awp.Obj) (a : Abs) (o : Op) (ho : ∀ m, objsLt m [o0, o1, o2, o3, o8] = true) (ha : a.Ok) (hact : o.act = 7) (hr : RootsOk a.roots) (hn : o.name.size ≤ 2^40) : ∀ B S, CallsA Try.prog g B S ⟨9, true⟩ 82 [.ptr 7 0 0, .agg [.d (vI o.act), .d (vI o.ix), .d (vI o.gen), .d (vI o.n), .d (vI o.off), .d (rB o.b), .d (vS o.name)]] [o0, o1, o2, o3, .row 1 (a.gens.map vI), .row 1 (a.data.map oB), .row 3 (a.roots.map eRoot), .var 79 [.hdr 4 0 a.gens.length, .hdr 5 0 a.data.length, (.hdr 6 0 a.roots.length), .d (vI 0), .d (vI 0), .d (.v (.slice none 0 0))], o8]
    (fun x r => x = .d (vI (getS a.roots o.name).2.2) ∧ r = [o0, o1, o2, o3, .row 1 (a.gens.map vI), .row 1 (a.data.map oB), .row 3 (a.roots.map eRoot), .var 79 [.hdr 4 0 a.gens.length, .hdr 5 0 a.data.length, (.hdr 6 0 a.roots.length), .d (vI (getS a.roots o.name).1), .d (vI (getS a.roots o.name).2.1), .d (.v (.slice none 0 0))], o8]) := by
 refine callsA_at Try.func82 rfl (Nat.le_of_ble_eq_true rfl) fun B S => ?_
 obtain ⟨z0, z1, z2, z3, z8⟩ : o0.lt 9 = true ∧ o1.lt 9 = true ∧ o2.lt 9 = true ∧ o3.lt 9 = true ∧ o8.lt 9 = true := by simpa using ho 9
 refine xU ?_
 iterate 2 (refine xO ?_ (h := by simp [z0, z1, z2, z3, z8]; exact .mk))
 refine xG [0,3,4] ?_
 iterate 6 (refine xO ?_ (h := by simp [z0, z1, z2, z3, z8]; exact .mk))
 refine xF [0,3,4,5] ?_
 refine W_seq (xU ?_)
 iterate 2 (refine xO ?_ (h := by simp [z0, z1, z2, z3, z8]; exact .mk))
 refine xF [0,3,4,5,12] ?_
 refine W_block (xU ?_)
 iterate 2 (refine xO ?_ (h := by simp [z0, z1, z2, z3, z8]; exact .mk))
 refine xF [0,3,4,5,12,13] ?_
 refine W_cond rfl ?_ ?_
 · intro h13
   simp [hact] at h13
 intro h13
 refine xU ?_
 iterate 2 (refine xO ?_ (h := by simp [z0, z1, z2, z3, z8]; exact .mk))
 refine xF [0,3,4,5,12,24] ?_
 refine W_cond rfl ?_ ?_
 · intro h24
   refine W_reg rfl ?_
   iterate 4 (refine xO ?_ (h := by simp [z0, z1, z2, z3, z8]; exact .mk))
   refine run_call0 rfl rfl rfl rfl (by simp [z0, z1, z2, z3, z8]; exact .mk) (by simp [z0, z1, z2, z3, z8, row_rows, Function.comp_def]; exact .mk) (ct117 g a.roots _ hr hn) (by simp [z0, z1, z2, z3, z8]) (by simp [z0, z1, z2, z3, z8]; exact .mk) ?_
   iterate 6 (refine xO ?_ (h := by simp [z0, z1, z2, z3, z8]; exact .mk))
   refine xO ?_ (h := by simp [z0, z1, z2, z3, z8, splice]; exact .mk)
   refine xO ?_ (h := by simp [z0, z1, z2, z3, z8]; exact .mk)
   refine xG [0,4,5] ?_
   iterate 5 (refine xO ?_ (h := by simp [z0, z1, z2, z3, z8]; exact .mk))
   refine xO ?_ (h := by simp [z0, z1, z2, z3, z8, splice]; exact .mk)
   refine xG [4] ?_
   iterate 2 (refine xO ?_ (h := by simp [z0, z1, z2, z3, z8]; exact .mk))
   refine xF [4] ?_
   refine W_ret (endAt_drop 9 (by simp [z0, z1, z2, z3, z8, Try.f82]; exact .mk) ?_ ?_ (by simp) (by simp [z0, z1, z2, z3, z8]) (by simp [z0, z1, z2, z3, z8]))
   · simp
   simp
 intro h24
 simp [hact] at h24

theorem in82d (g : Gl) (o0 o1 o2 o3 o8 : Awp.Obj) (a : Abs) (o : Op) (ho : ∀ m, objsLt m [o0, o1, o2, o3, o8] = true) (ha : a.Ok) (hact : o.act = 8) (hr : RootsOk a.roots) (hn : o.name.size ≤ 2^40) : ∀ B S, CallsA Try.prog g B S ⟨9, true⟩ 82 [.ptr 7 0 0, .agg [.d (vI o.act), .d (vI o.ix), .d (vI o.gen), .d (vI o.n), .d (vI o.off), .d (rB o.b), .d (vS o.name)]] [o0, o1, o2, o3, .row 1 (a.gens.map vI), .row 1 (a.data.map oB), .row 3 (a.roots.map eRoot), .var 79 [.hdr 4 0 a.gens.length, .hdr 5 0 a.data.length, (.hdr 6 0 a.roots.length), .d (vI 0), .d (vI 0), .d (.v (.slice none 0 0))], o8]
    (fun x r => x = .d (vI (dropS a.roots o.name).2) ∧ r = [o0, o1, o2, o3, .row 1 (a.gens.map vI), .row 1 (a.data.map oB), .row 3 (a.roots.map eRoot), .var 79 [.hdr 4 0 a.gens.length, .hdr 5 0 a.data.length, .hdr 10 0 (dropS a.roots o.name).1.length, .d (vI 0), .d (vI 0), .d (.v (.slice none 0 0))], o8, .var 31 [.d (vI o.act), .d (vI o.ix), .d (vI o.gen), .d (vI o.n), .d (vI o.off), .d (rB o.b), .d (vS o.name)], .row 3 ((dropS a.roots o.name).1.map eRoot)]) := by
 refine callsA_at Try.func82 rfl (Nat.le_of_ble_eq_true rfl) fun B S => ?_
 obtain ⟨z0, z1, z2, z3, z8⟩ : o0.lt 9 = true ∧ o1.lt 9 = true ∧ o2.lt 9 = true ∧ o3.lt 9 = true ∧ o8.lt 9 = true := by simpa using ho 9
 refine xU ?_
 iterate 2 (refine xO ?_ (h := by simp [z0, z1, z2, z3, z8]; exact .mk))
 refine xG [0,3,4] ?_
 iterate 6 (refine xO ?_ (h := by simp [z0, z1, z2, z3, z8]; exact .mk))
 refine xF [0,3,4,5] ?_
 refine W_seq (xU ?_)
 iterate 2 (refine xO ?_ (h := by simp [z0, z1, z2, z3, z8]; exact .mk))
 refine xF [0,3,4,5,12] ?_
 refine W_block (xU ?_)
 iterate 2 (refine xO ?_ (h := by simp [z0, z1, z2, z3, z8]; exact .mk))
 refine xF [0,3,4,5,12,13] ?_
 refine W_cond rfl ?_ ?_
 · intro h13
   simp [hact] at h13
 intro h13
 refine xU ?_
 iterate 2 (refine xO ?_ (h := by simp [z0, z1, z2, z3, z8]; exact .mk))
 refine xF [0,3,4,5,12,24] ?_
 refine W_cond rfl ?_ ?_
 · intro h24
   simp [hact] at h24
 intro h24
 refine xU ?_
 iterate 2 (refine xO ?_ (h := by simp [z0, z1, z2, z3, z8]; exact .mk))
 refine xF [0,3,4,5,37] ?_
 refine W_cond rfl ?_ ?_
 · intro h37
   refine W_reg rfl ?_
   iterate 3 (refine xO ?_ (h := by simp [z0, z1, z2, z3, z8]; exact .mk))
   refine run_call0 rfl rfl rfl rfl (by simp [z0, z1, z2, z3, z8]; exact .mk) (by simp [z0, z1, z2, z3, z8, row_rows, Function.comp_def]; exact .mk) (ct118 g a.roots _ hr hn) (by simp [z0, z1, z2, z3, z8]) (by simp [z0, z1, z2, z3, z8]; exact .mk) ?_
   iterate 5 (refine xO ?_ (h := by simp [z0, z1, z2, z3, z8]; exact .mk))
   refine xG [0,4,5] ?_
   iterate 5 (refine xO ?_ (h := by simp [z0, z1, z2, z3, z8]; exact .mk))
   refine xO ?_ (h := by simp [z0, z1, z2, z3, z8, splice]; exact .mk)
   refine xG [4] ?_
   iterate 2 (refine xO ?_ (h := by simp [z0, z1, z2, z3, z8]; exact .mk))
   refine xF [4] ?_
   refine W_ret (endAt_ret (by simp [z0, z1, z2, z3, z8, Try.f82]; exact .mk) ?_ ?_)
   · simp
   simp
 intro h37
 simp [hact] at h37

theorem in80 (g : Gl) (o0 o1 o2 o3 o8 : Awp.Obj) (a : Abs) (o : Op) (e : Nat) (ho : ∀ m, objsLt m [o0, o1, o2, o3, o8] = true) : ∀ B S, CallsA Try.prog g B S ⟨10, true⟩ 80 [.agg [.d (vI o.act), .d (vI o.ix), .d (vI o.gen), .d (vI o.n), .d (vI o.off), .d (rB o.b), .d (vS o.name)], .ptr 9 0 0] [o0, o1, o2, o3, .row 1 (a.gens.map vI), .row 1 (a.data.map oB), .row 3 (a.roots.map eRoot), .var 79 [.hdr 4 0 a.gens.length, .hdr 5 0 a.data.length, (.hdr 6 0 a.roots.length), .d (vI 0), .d (vI 0), .d (.v (.slice none 0 0))], o8, .var 39 [.d (vI e)]]
    (fun x r => x = .d (vI e) ∧ r = [o0, o1, o2, o3, .row 1 (a.gens.map vI), .row 1 (a.data.map oB), .row 3 (a.roots.map eRoot), .var 79 [.hdr 4 0 a.gens.length, .hdr 5 0 a.data.length, (.hdr 6 0 a.roots.length), .d (vI 0), .d (vI 0), .d (.v (.slice none 0 0))], o8, .var 39 [.d (vI e)]]) := by
 refine callsA_at Try.func80 rfl (Nat.le_of_ble_eq_true rfl) fun B S => ?_
 obtain ⟨z0, z1, z2, z3, z8⟩ : o0.lt 10 = true ∧ o1.lt 10 = true ∧ o2.lt 10 = true ∧ o3.lt 10 = true ∧ o8.lt 10 = true := by simpa using ho 10
 refine xU ?_
 iterate 2 (refine xO ?_ (h := by simp [z0, z1, z2, z3, z8]; exact .mk))
 refine xG [1] ?_
 iterate 2 (refine xO ?_ (h := by simp [z0, z1, z2, z3, z8]; exact .mk))
 refine xF [3] ?_
 refine W_ret (endAt_drop 10 (by simp [z0, z1, z2, z3, z8, Try.f80]; exact .mk) ?_ ?_ (by simp) (by simp [z0, z1, z2, z3, z8]) (by simp [z0, z1, z2, z3, z8]))
 · simp
 simp

theorem in79 (g : Gl) (o0 o1 o2 o3 o8 : Awp.Obj) (a : Abs) (e : Nat) : ∀ B S, CallsA Try.prog g B S ⟨9, true⟩ 79 [.d (vI e)] [o0, o1, o2, o3, .row 1 (a.gens.map vI), .row 1 (a.data.map oB), .row 3 (a.roots.map eRoot), .var 79 [.hdr 4 0 a.gens.length, .hdr 5 0 a.data.length, (.hdr 6 0 a.roots.length), .d (vI 0), .d (vI 0), .d (.v (.slice none 0 0))], o8]
    (fun x r => x = .fn (.func 80) [] [.ptr 9 0 0] ∧ r = [o0, o1, o2, o3, .row 1 (a.gens.map vI), .row 1 (a.data.map oB), .row 3 (a.roots.map eRoot), .var 79 [.hdr 4 0 a.gens.length, .hdr 5 0 a.data.length, (.hdr 6 0 a.roots.length), .d (vI 0), .d (vI 0), .d (.v (.slice none 0 0))], o8, .var 39 [.d (vI e)]]) := by
 refine callsA_at Try.func79 rfl (Nat.le_of_ble_eq_true rfl) fun B S => ?_
 refine xU ?_
 iterate 2 refine xO ?_
 refine xG [1] ?_
 iterate 2 refine xO ?_
 refine xF [2] ?_
 refine W_ret (endAt_ret (by simp [Try.f79]; exact .mk) ?_ ?_)
 · simp
 simp

open Go.Awp
theorem in42g (g : Gl) (o0 o1 o2 o3 : Awp.Obj) (a : Abs) (o : Op) (hgd : a.data.length = a.gens.length) (hn : o.name.size ≤ 2^40) (f : Nat) (hf : kindS a o = (f : Int)) : ∀ B S, CallsA Try.prog g B S ⟨8, true⟩ 42 [.ptr 7 0 0, .agg [.d (vI o.act), .d (vI o.ix), .d (vI o.gen), .d (vI o.n), .d (vI o.off), .d (rB o.b), .d (vS o.name)]] [o0, o1, o2, o3, .row 1 (a.gens.map vI), .row 1 (a.data.map oB), .row 3 (a.roots.map eRoot), .var 79 [.hdr 4 0 a.gens.length, .hdr 5 0 a.data.length, (.hdr 6 0 a.roots.length), .d (vI 0), .d (vI 0), .d (.v (.slice none 0 0))]]
    (fun x r => x = .fn (.func f) [.ptr 7 0 0] [] ∧ r = [o0, o1, o2, o3, .row 1 (a.gens.map vI), .row 1 (a.data.map oB), .row 3 (a.roots.map eRoot), .var 79 [.hdr 4 0 a.gens.length, .hdr 5 0 a.data.length, (.hdr 6 0 a.roots.length), .d (vI 0), .d (vI 0), .d (.v (.slice none 0 0))], .var 31 [.d (vI o.act), .d (vI o.ix), .d (vI o.gen), .d (vI o.n), .d (vI o.off), .d (rB o.b), .d (vS o.name)]]) := by
 refine callsA_at Try.func42 rfl (Nat.le_of_ble_eq_true rfl) fun B S => ?_
 refine xU ?_
 iterate 2 refine xO ?_
 refine xG [0,3] ?_
 refine xO ?_
 refine xF [0,3,5] ?_
 refine W_seq (W_block ?_)
 refine xU ?_
 iterate 4 refine xO ?_
 refine xF [0,3,5,6] ?_
 refine W_cond rfl ?_ ?_
 · intro h6
   have k1 : o.act = 1 := by simpa using h6
   refine xU ?_
   iterate 3 refine xO ?_
   refine xF [4] ?_
   refine W_ret (endAt_ret (by simp [Try.f42]; exact .mk) ?_ ?_)
   · simp
     unfold kindS at hf <;> (repeat' split at hf) <;> first | (show (_ : Nat) = _; omega) | (exfalso; omega) | (exfalso; simp_all; done)
   first | rfl | (exfalso; unfold kindS at hf <;> (repeat' split at hf) <;> first | (show (_ : Nat) = _; omega) | (exfalso; omega) | (exfalso; simp_all; done))
 intro h6
 have k1 : o.act ≠ 1 := by simpa using h6
 refine W_seq (xU ?_)
 iterate 4 refine xO ?_
 refine xF [0,3,5,12] ?_
 refine W_cond rfl ?_ ?_
 · intro h12
   have k2 : o.act = 7 := by simpa using h12
   refine W_skip ?_
   rintro -
   refine W_cond rfl ?_ ?_
   · intro h12'
     have k3 : o.act = 7 ∨ o.act = 8 := by simp at h12'; omega
     refine xU ?_
     iterate 3 refine xO ?_
     refine xF [4] ?_
     refine W_ret (endAt_ret (by simp [Try.f42]; exact .mk) ?_ ?_)
     · simp
       unfold kindS at hf <;> (repeat' split at hf) <;> first | (show (_ : Nat) = _; omega) | (exfalso; omega) | (exfalso; simp_all; done)
     first | rfl | (exfalso; unfold kindS at hf <;> (repeat' split at hf) <;> first | (show (_ : Nat) = _; omega) | (exfalso; omega) | (exfalso; simp_all; done))
   intro h12'
   have k3 : ¬ (o.act = 7 ∨ o.act = 8) := by simp at h12'; omega
   refine W_seq (xU ?_)
   iterate 4 refine xO ?_
   refine xF [0,3,5,21] ?_
   refine W_cond rfl ?_ ?_
   · intro h21
     have k4 : o.act < 1 := by simpa using h21
     refine W_skip ?_
     rintro -
     refine W_cond rfl ?_ ?_
     · intro h21'
       have k4' : o.act < 1 ∨ 8 < o.act := by simp at h21'; omega
       refine xU ?_
       refine xO ?_
       refine run_inl0 rfl rfl rfl rfl (by simp; exact .mk) ⟨_, Try.func79, rfl, rfl⟩ (in79 g o0 o1 o2 o3 _ a 1) (.inr ⟨_, rfl⟩) ?_
       refine xO ?_
       refine xF [4] ?_
       refine W_ret (endAt_ret (by simp [Try.f42]; exact .mk) ?_ ?_)
       · simp
         unfold kindS at hf <;> (repeat' split at hf) <;> first | (show (_ : Nat) = _; omega) | (exfalso; omega) | (exfalso; simp_all; done)
       first | rfl | (exfalso; unfold kindS at hf <;> (repeat' split at hf) <;> first | (show (_ : Nat) = _; omega) | (exfalso; omega) | (exfalso; simp_all; done))
     intro h21'
     have k4' : ¬ (o.act < 1 ∨ 8 < o.act) := by simp at h21'; omega
     refine xU ?_
     iterate 4 refine xO ?_
     iterate 2 (refine run_if rfl (by simp; exact .mk) rfl (by simp <;> omega) (fun hb => by simp; exact .mk) ?_)
     refine run_call rfl (by simp; exact .mk) rfl rfl (by simp) (by simp; exact .mk) (by simp [row_rows, Function.comp_def]; exact .mk) (fun hb => ct83 g _ hn) (by simp) (by simp; exact .mk) (by simp) ?_
     refine run_if rfl (by simp; exact .mk) rfl (by simp <;> omega) (fun hb => by simp; exact .mk) ?_
     refine xP ?_
     refine run_op1 rfl rfl rfl (by simp <;> omega) (by simp; exact .mk) ?_
     refine run_end [0,3,5,30] (by simp <;> omega) (by simp; exact .mk) ?_
     rintro -
     refine W_cond rfl ?_ ?_
     · intro h30
       have k5 : o.act = 6 ∧ nameS o.name = false := by simpa using h30
       refine xU ?_
       refine xO ?_
       refine run_inl0 rfl rfl rfl rfl (by simp; exact .mk) ⟨_, Try.func79, rfl, rfl⟩ (in79 g o0 o1 o2 o3 _ a 3) (.inr ⟨_, rfl⟩) ?_
       refine xO ?_
       refine xF [4] ?_
       refine W_ret (endAt_ret (by simp [Try.f42]; exact .mk) ?_ ?_)
       · simp
         unfold kindS at hf <;> (repeat' split at hf) <;> first | (show (_ : Nat) = _; omega) | (exfalso; omega) | (exfalso; simp_all; done)
       first | rfl | (exfalso; unfold kindS at hf <;> (repeat' split at hf) <;> first | (show (_ : Nat) = _; omega) | (exfalso; omega) | (exfalso; simp_all; done))
     intro h30
     have k5 : ¬ (o.act = 6 ∧ nameS o.name = false) := by simpa using h30
     refine W_seq ?_
     refine W_regD (by kernel_rfl) [] 4 [0,1,2,3,4,5,6,7,8] (by decide +kernel) ?_
     iterate 6 refine xO ?_
     refine xC (ct84 g a _ _ hgd) ?_ (he := by simp [row_rows, Function.comp_def]; exact .mk)
     iterate 2 refine xO ?_
     refine xF [0,3,5,42] ?_
     refine W_cond rfl ?_ ?_
     · intro h42
       have k6 : goodS a o.ix o.gen = false := by simpa using h42
       refine xU ?_
       refine xO ?_
       refine run_inl0 rfl rfl rfl rfl (by simp; exact .mk) ⟨_, Try.func79, rfl, rfl⟩ (in79 g o0 o1 o2 o3 _ a 8) (.inr ⟨_, rfl⟩) ?_
       refine xO ?_
       refine xF [4] ?_
       refine W_ret (endAt_ret (by simp [Try.f42]; exact .mk) ?_ ?_)
       · simp
         unfold kindS at hf <;> (repeat' split at hf) <;> first | (show (_ : Nat) = _; omega) | (exfalso; omega) | (exfalso; simp_all; done)
       first | rfl | (exfalso; unfold kindS at hf <;> (repeat' split at hf) <;> first | (show (_ : Nat) = _; omega) | (exfalso; omega) | (exfalso; simp_all; done))
     intro h42
     have k6 : ¬ goodS a o.ix o.gen = false := by simpa using h42
     refine xU ?_
     iterate 4 refine xO ?_
     refine xF [0,3,53] ?_
     refine W_cond rfl ?_ ?_
     · intro h53
       have k7 : o.act = 2 := by simpa using h53
       refine xU ?_
       iterate 3 refine xO ?_
       refine xF [4] ?_
       refine W_ret (endAt_ret (by simp [Try.f42]; exact .mk) ?_ ?_)
       · simp
         unfold kindS at hf <;> (repeat' split at hf) <;> first | (show (_ : Nat) = _; omega) | (exfalso; omega) | (exfalso; simp_all; done)
       first | rfl | (exfalso; unfold kindS at hf <;> (repeat' split at hf) <;> first | (show (_ : Nat) = _; omega) | (exfalso; omega) | (exfalso; simp_all; done))
     intro h53
     have k7 : o.act ≠ 2 := by simpa using h53
     refine xU ?_
     iterate 4 refine xO ?_
     refine xF [0,3,59] ?_
     refine W_cond rfl ?_ ?_
     · intro h59
       have k8 : o.act = 3 := by simpa using h59
       refine xU ?_
       iterate 3 refine xO ?_
       refine xF [4] ?_
       refine W_ret (endAt_ret (by simp [Try.f42]; exact .mk) ?_ ?_)
       · simp
         unfold kindS at hf <;> (repeat' split at hf) <;> first | (show (_ : Nat) = _; omega) | (exfalso; omega) | (exfalso; simp_all; done)
       first | rfl | (exfalso; unfold kindS at hf <;> (repeat' split at hf) <;> first | (show (_ : Nat) = _; omega) | (exfalso; omega) | (exfalso; simp_all; done))
     intro h59
     have k8 : o.act ≠ 3 := by simpa using h59
     refine xU ?_
     iterate 4 refine xO ?_
     refine xF [0,3,65] ?_
     refine W_cond rfl ?_ ?_
     · intro h65
       have k9 : o.act = 4 := by simpa using h65
       refine xU ?_
       iterate 3 refine xO ?_
       refine xF [4] ?_
       refine W_ret (endAt_ret (by simp [Try.f42]; exact .mk) ?_ ?_)
       · simp
         unfold kindS at hf <;> (repeat' split at hf) <;> first | (show (_ : Nat) = _; omega) | (exfalso; omega) | (exfalso; simp_all; done)
       first | rfl | (exfalso; unfold kindS at hf <;> (repeat' split at hf) <;> first | (show (_ : Nat) = _; omega) | (exfalso; omega) | (exfalso; simp_all; done))
     intro h65
     have k9 : o.act ≠ 4 := by simpa using h65
     refine xU ?_
     iterate 4 refine xO ?_
     refine xF [0,71] ?_
     refine W_cond rfl ?_ ?_
     · intro h71
       have k10 : o.act = 5 := by simpa using h71
       refine xU ?_
       iterate 3 refine xO ?_
       refine xF [4] ?_
       refine W_ret (endAt_ret (by simp [Try.f42]; exact .mk) ?_ ?_)
       · simp
         unfold kindS at hf <;> (repeat' split at hf) <;> first | (show (_ : Nat) = _; omega) | (exfalso; omega) | (exfalso; simp_all; done)
       first | rfl | (exfalso; unfold kindS at hf <;> (repeat' split at hf) <;> first | (show (_ : Nat) = _; omega) | (exfalso; omega) | (exfalso; simp_all; done))
     intro h71
     have k10 : o.act ≠ 5 := by simpa using h71
     refine W_skip ?_
     refine xT ?_
     iterate 3 refine xO ?_
     refine xF [4] ?_
     refine W_ret (endAt_ret (by simp [Try.f42]; exact .mk) ?_ ?_)
     · simp
       unfold kindS at hf <;> (repeat' split at hf) <;> first | (show (_ : Nat) = _; omega) | (exfalso; omega) | (exfalso; simp_all; done)
     first | rfl | (exfalso; unfold kindS at hf <;> (repeat' split at hf) <;> first | (show (_ : Nat) = _; omega) | (exfalso; omega) | (exfalso; simp_all; done))
   intro h21
   have k4 : ¬ o.act < 1 := by simpa using h21
   refine W_reg rfl ?_
   iterate 4 refine xO ?_
   refine xF [0,3,5,21] ?_
   refine W_cond rfl ?_ ?_
   · intro h21'
     have k4' : o.act < 1 ∨ 8 < o.act := by simp at h21'; omega
     refine xU ?_
     refine xO ?_
     refine run_inl0 rfl rfl rfl rfl (by simp; exact .mk) ⟨_, Try.func79, rfl, rfl⟩ (in79 g o0 o1 o2 o3 _ a 1) (.inr ⟨_, rfl⟩) ?_
     refine xO ?_
     refine xF [4] ?_
     refine W_ret (endAt_ret (by simp [Try.f42]; exact .mk) ?_ ?_)
     · simp
       unfold kindS at hf <;> (repeat' split at hf) <;> first | (show (_ : Nat) = _; omega) | (exfalso; omega) | (exfalso; simp_all; done)
     first | rfl | (exfalso; unfold kindS at hf <;> (repeat' split at hf) <;> first | (show (_ : Nat) = _; omega) | (exfalso; omega) | (exfalso; simp_all; done))
   intro h21'
   have k4' : ¬ (o.act < 1 ∨ 8 < o.act) := by simp at h21'; omega
   refine xU ?_
   iterate 4 refine xO ?_
   iterate 2 (refine run_if rfl (by simp; exact .mk) rfl (by simp <;> omega) (fun hb => by simp; exact .mk) ?_)
   refine run_call rfl (by simp; exact .mk) rfl rfl (by simp) (by simp; exact .mk) (by simp [row_rows, Function.comp_def]; exact .mk) (fun hb => ct83 g _ hn) (by simp) (by simp; exact .mk) (by simp) ?_
   refine run_if rfl (by simp; exact .mk) rfl (by simp <;> omega) (fun hb => by simp; exact .mk) ?_
   refine xP ?_
   refine run_op1 rfl rfl rfl (by simp <;> omega) (by simp; exact .mk) ?_
   refine run_end [0,3,5,30] (by simp <;> omega) (by simp; exact .mk) ?_
   rintro -
   refine W_cond rfl ?_ ?_
   · intro h30
     have k5 : o.act = 6 ∧ nameS o.name = false := by simpa using h30
     refine xU ?_
     refine xO ?_
     refine run_inl0 rfl rfl rfl rfl (by simp; exact .mk) ⟨_, Try.func79, rfl, rfl⟩ (in79 g o0 o1 o2 o3 _ a 3) (.inr ⟨_, rfl⟩) ?_
     refine xO ?_
     refine xF [4] ?_
     refine W_ret (endAt_ret (by simp [Try.f42]; exact .mk) ?_ ?_)
     · simp
       unfold kindS at hf <;> (repeat' split at hf) <;> first | (show (_ : Nat) = _; omega) | (exfalso; omega) | (exfalso; simp_all; done)
     first | rfl | (exfalso; unfold kindS at hf <;> (repeat' split at hf) <;> first | (show (_ : Nat) = _; omega) | (exfalso; omega) | (exfalso; simp_all; done))
   intro h30
   have k5 : ¬ (o.act = 6 ∧ nameS o.name = false) := by simpa using h30
   refine W_seq ?_
   refine W_regD (by kernel_rfl) [] 4 [0,1,2,3,4,5,6,7,8] (by decide +kernel) ?_
   iterate 6 refine xO ?_
   refine xC (ct84 g a _ _ hgd) ?_ (he := by simp [row_rows, Function.comp_def]; exact .mk)
   iterate 2 refine xO ?_
   refine xF [0,3,5,42] ?_
   refine W_cond rfl ?_ ?_
   · intro h42
     have k6 : goodS a o.ix o.gen = false := by simpa using h42
     refine xU ?_
     refine xO ?_
     refine run_inl0 rfl rfl rfl rfl (by simp; exact .mk) ⟨_, Try.func79, rfl, rfl⟩ (in79 g o0 o1 o2 o3 _ a 8) (.inr ⟨_, rfl⟩) ?_
     refine xO ?_
     refine xF [4] ?_
     refine W_ret (endAt_ret (by simp [Try.f42]; exact .mk) ?_ ?_)
     · simp
       unfold kindS at hf <;> (repeat' split at hf) <;> first | (show (_ : Nat) = _; omega) | (exfalso; omega) | (exfalso; simp_all; done)
     first | rfl | (exfalso; unfold kindS at hf <;> (repeat' split at hf) <;> first | (show (_ : Nat) = _; omega) | (exfalso; omega) | (exfalso; simp_all; done))
   intro h42
   have k6 : ¬ goodS a o.ix o.gen = false := by simpa using h42
   refine xU ?_
   iterate 4 refine xO ?_
   refine xF [0,3,53] ?_
   refine W_cond rfl ?_ ?_
   · intro h53
     have k7 : o.act = 2 := by simpa using h53
     refine xU ?_
     iterate 3 refine xO ?_
     refine xF [4] ?_
     refine W_ret (endAt_ret (by simp [Try.f42]; exact .mk) ?_ ?_)
     · simp
       unfold kindS at hf <;> (repeat' split at hf) <;> first | (show (_ : Nat) = _; omega) | (exfalso; omega) | (exfalso; simp_all; done)
     first | rfl | (exfalso; unfold kindS at hf <;> (repeat' split at hf) <;> first | (show (_ : Nat) = _; omega) | (exfalso; omega) | (exfalso; simp_all; done))
   intro h53
   have k7 : o.act ≠ 2 := by simpa using h53
   refine xU ?_
   iterate 4 refine xO ?_
   refine xF [0,3,59] ?_
   refine W_cond rfl ?_ ?_
   · intro h59
     have k8 : o.act = 3 := by simpa using h59
     refine xU ?_
     iterate 3 refine xO ?_
     refine xF [4] ?_
     refine W_ret (endAt_ret (by simp [Try.f42]; exact .mk) ?_ ?_)
     · simp
       unfold kindS at hf <;> (repeat' split at hf) <;> first | (show (_ : Nat) = _; omega) | (exfalso; omega) | (exfalso; simp_all; done)
     first | rfl | (exfalso; unfold kindS at hf <;> (repeat' split at hf) <;> first | (show (_ : Nat) = _; omega) | (exfalso; omega) | (exfalso; simp_all; done))
   intro h59
   have k8 : o.act ≠ 3 := by simpa using h59
   refine xU ?_
   iterate 4 refine xO ?_
   refine xF [0,3,65] ?_
   refine W_cond rfl ?_ ?_
   · intro h65
     have k9 : o.act = 4 := by simpa using h65
     refine xU ?_
     iterate 3 refine xO ?_
     refine xF [4] ?_
     refine W_ret (endAt_ret (by simp [Try.f42]; exact .mk) ?_ ?_)
     · simp
       unfold kindS at hf <;> (repeat' split at hf) <;> first | (show (_ : Nat) = _; omega) | (exfalso; omega) | (exfalso; simp_all; done)
     first | rfl | (exfalso; unfold kindS at hf <;> (repeat' split at hf) <;> first | (show (_ : Nat) = _; omega) | (exfalso; omega) | (exfalso; simp_all; done))
   intro h65
   have k9 : o.act ≠ 4 := by simpa using h65
   refine xU ?_
   iterate 4 refine xO ?_
   refine xF [0,71] ?_
   refine W_cond rfl ?_ ?_
   · intro h71
     have k10 : o.act = 5 := by simpa using h71
     refine xU ?_
     iterate 3 refine xO ?_
     refine xF [4] ?_
     refine W_ret (endAt_ret (by simp [Try.f42]; exact .mk) ?_ ?_)
     · simp
       unfold kindS at hf <;> (repeat' split at hf) <;> first | (show (_ : Nat) = _; omega) | (exfalso; omega) | (exfalso; simp_all; done)
     first | rfl | (exfalso; unfold kindS at hf <;> (repeat' split at hf) <;> first | (show (_ : Nat) = _; omega) | (exfalso; omega) | (exfalso; simp_all; done))
   intro h71
   have k10 : o.act ≠ 5 := by simpa using h71
   refine W_skip ?_
   refine xT ?_
   iterate 3 refine xO ?_
   refine xF [4] ?_
   refine W_ret (endAt_ret (by simp [Try.f42]; exact .mk) ?_ ?_)
   · simp
     unfold kindS at hf <;> (repeat' split at hf) <;> first | (show (_ : Nat) = _; omega) | (exfalso; omega) | (exfalso; simp_all; done)
   first | rfl | (exfalso; unfold kindS at hf <;> (repeat' split at hf) <;> first | (show (_ : Nat) = _; omega) | (exfalso; omega) | (exfalso; simp_all; done))
 intro h12
 have k2 : o.act ≠ 7 := by simpa using h12
 refine W_reg rfl ?_
 iterate 4 refine xO ?_
 refine xF [0,3,5,12] ?_
 refine W_cond rfl ?_ ?_
 · intro h12'
   have k3 : o.act = 7 ∨ o.act = 8 := by simp at h12'; omega
   refine xU ?_
   iterate 3 refine xO ?_
   refine xF [4] ?_
   refine W_ret (endAt_ret (by simp [Try.f42]; exact .mk) ?_ ?_)
   · simp
     unfold kindS at hf <;> (repeat' split at hf) <;> first | (show (_ : Nat) = _; omega) | (exfalso; omega) | (exfalso; simp_all; done)
   first | rfl | (exfalso; unfold kindS at hf <;> (repeat' split at hf) <;> first | (show (_ : Nat) = _; omega) | (exfalso; omega) | (exfalso; simp_all; done))
 intro h12'
 have k3 : ¬ (o.act = 7 ∨ o.act = 8) := by simp at h12'; omega
 refine W_seq (xU ?_)
 iterate 4 refine xO ?_
 refine xF [0,3,5,21] ?_
 refine W_cond rfl ?_ ?_
 · intro h21
   have k4 : o.act < 1 := by simpa using h21
   refine W_skip ?_
   rintro -
   refine W_cond rfl ?_ ?_
   · intro h21'
     have k4' : o.act < 1 ∨ 8 < o.act := by simp at h21'; omega
     refine xU ?_
     refine xO ?_
     refine run_inl0 rfl rfl rfl rfl (by simp; exact .mk) ⟨_, Try.func79, rfl, rfl⟩ (in79 g o0 o1 o2 o3 _ a 1) (.inr ⟨_, rfl⟩) ?_
     refine xO ?_
     refine xF [4] ?_
     refine W_ret (endAt_ret (by simp [Try.f42]; exact .mk) ?_ ?_)
     · simp
       unfold kindS at hf <;> (repeat' split at hf) <;> first | (show (_ : Nat) = _; omega) | (exfalso; omega) | (exfalso; simp_all; done)
     first | rfl | (exfalso; unfold kindS at hf <;> (repeat' split at hf) <;> first | (show (_ : Nat) = _; omega) | (exfalso; omega) | (exfalso; simp_all; done))
   intro h21'
   have k4' : ¬ (o.act < 1 ∨ 8 < o.act) := by simp at h21'; omega
   refine xU ?_
   iterate 4 refine xO ?_
   iterate 2 (refine run_if rfl (by simp; exact .mk) rfl (by simp <;> omega) (fun hb => by simp; exact .mk) ?_)
   refine run_call rfl (by simp; exact .mk) rfl rfl (by simp) (by simp; exact .mk) (by simp [row_rows, Function.comp_def]; exact .mk) (fun hb => ct83 g _ hn) (by simp) (by simp; exact .mk) (by simp) ?_
   refine run_if rfl (by simp; exact .mk) rfl (by simp <;> omega) (fun hb => by simp; exact .mk) ?_
   refine xP ?_
   refine run_op1 rfl rfl rfl (by simp <;> omega) (by simp; exact .mk) ?_
   refine run_end [0,3,5,30] (by simp <;> omega) (by simp; exact .mk) ?_
   rintro -
   refine W_cond rfl ?_ ?_
   · intro h30
     have k5 : o.act = 6 ∧ nameS o.name = false := by simpa using h30
     refine xU ?_
     refine xO ?_
     refine run_inl0 rfl rfl rfl rfl (by simp; exact .mk) ⟨_, Try.func79, rfl, rfl⟩ (in79 g o0 o1 o2 o3 _ a 3) (.inr ⟨_, rfl⟩) ?_
     refine xO ?_
     refine xF [4] ?_
     refine W_ret (endAt_ret (by simp [Try.f42]; exact .mk) ?_ ?_)
     · simp
       unfold kindS at hf <;> (repeat' split at hf) <;> first | (show (_ : Nat) = _; omega) | (exfalso; omega) | (exfalso; simp_all; done)
     first | rfl | (exfalso; unfold kindS at hf <;> (repeat' split at hf) <;> first | (show (_ : Nat) = _; omega) | (exfalso; omega) | (exfalso; simp_all; done))
   intro h30
   have k5 : ¬ (o.act = 6 ∧ nameS o.name = false) := by simpa using h30
   refine W_seq ?_
   refine W_regD (by kernel_rfl) [] 4 [0,1,2,3,4,5,6,7,8] (by decide +kernel) ?_
   iterate 6 refine xO ?_
   refine xC (ct84 g a _ _ hgd) ?_ (he := by simp [row_rows, Function.comp_def]; exact .mk)
   iterate 2 refine xO ?_
   refine xF [0,3,5,42] ?_
   refine W_cond rfl ?_ ?_
   · intro h42
     have k6 : goodS a o.ix o.gen = false := by simpa using h42
     refine xU ?_
     refine xO ?_
     refine run_inl0 rfl rfl rfl rfl (by simp; exact .mk) ⟨_, Try.func79, rfl, rfl⟩ (in79 g o0 o1 o2 o3 _ a 8) (.inr ⟨_, rfl⟩) ?_
     refine xO ?_
     refine xF [4] ?_
     refine W_ret (endAt_ret (by simp [Try.f42]; exact .mk) ?_ ?_)
     · simp
       unfold kindS at hf <;> (repeat' split at hf) <;> first | (show (_ : Nat) = _; omega) | (exfalso; omega) | (exfalso; simp_all; done)
     first | rfl | (exfalso; unfold kindS at hf <;> (repeat' split at hf) <;> first | (show (_ : Nat) = _; omega) | (exfalso; omega) | (exfalso; simp_all; done))
   intro h42
   have k6 : ¬ goodS a o.ix o.gen = false := by simpa using h42
   refine xU ?_
   iterate 4 refine xO ?_
   refine xF [0,3,53] ?_
   refine W_cond rfl ?_ ?_
   · intro h53
     have k7 : o.act = 2 := by simpa using h53
     refine xU ?_
     iterate 3 refine xO ?_
     refine xF [4] ?_
     refine W_ret (endAt_ret (by simp [Try.f42]; exact .mk) ?_ ?_)
     · simp
       unfold kindS at hf <;> (repeat' split at hf) <;> first | (show (_ : Nat) = _; omega) | (exfalso; omega) | (exfalso; simp_all; done)
     first | rfl | (exfalso; unfold kindS at hf <;> (repeat' split at hf) <;> first | (show (_ : Nat) = _; omega) | (exfalso; omega) | (exfalso; simp_all; done))
   intro h53
   have k7 : o.act ≠ 2 := by simpa using h53
   refine xU ?_
   iterate 4 refine xO ?_
   refine xF [0,3,59] ?_
   refine W_cond rfl ?_ ?_
   · intro h59
     have k8 : o.act = 3 := by simpa using h59
     refine xU ?_
     iterate 3 refine xO ?_
     refine xF [4] ?_
     refine W_ret (endAt_ret (by simp [Try.f42]; exact .mk) ?_ ?_)
     · simp
       unfold kindS at hf <;> (repeat' split at hf) <;> first | (show (_ : Nat) = _; omega) | (exfalso; omega) | (exfalso; simp_all; done)
     first | rfl | (exfalso; unfold kindS at hf <;> (repeat' split at hf) <;> first | (show (_ : Nat) = _; omega) | (exfalso; omega) | (exfalso; simp_all; done))
   intro h59
   have k8 : o.act ≠ 3 := by simpa using h59
   refine xU ?_
   iterate 4 refine xO ?_
   refine xF [0,3,65] ?_
   refine W_cond rfl ?_ ?_
   · intro h65
     have k9 : o.act = 4 := by simpa using h65
     refine xU ?_
     iterate 3 refine xO ?_
     refine xF [4] ?_
     refine W_ret (endAt_ret (by simp [Try.f42]; exact .mk) ?_ ?_)
     · simp
       unfold kindS at hf <;> (repeat' split at hf) <;> first | (show (_ : Nat) = _; omega) | (exfalso; omega) | (exfalso; simp_all; done)
     first | rfl | (exfalso; unfold kindS at hf <;> (repeat' split at hf) <;> first | (show (_ : Nat) = _; omega) | (exfalso; omega) | (exfalso; simp_all; done))
   intro h65
   have k9 : o.act ≠ 4 := by simpa using h65
   refine xU ?_
   iterate 4 refine xO ?_
   refine xF [0,71] ?_
   refine W_cond rfl ?_ ?_
   · intro h71
     have k10 : o.act = 5 := by simpa using h71
     refine xU ?_
     iterate 3 refine xO ?_
     refine xF [4] ?_
     refine W_ret (endAt_ret (by simp [Try.f42]; exact .mk) ?_ ?_)
     · simp
       unfold kindS at hf <;> (repeat' split at hf) <;> first | (show (_ : Nat) = _; omega) | (exfalso; omega) | (exfalso; simp_all; done)
     first | rfl | (exfalso; unfold kindS at hf <;> (repeat' split at hf) <;> first | (show (_ : Nat) = _; omega) | (exfalso; omega) | (exfalso; simp_all; done))
   intro h71
   have k10 : o.act ≠ 5 := by simpa using h71
   refine W_skip ?_
   refine xT ?_
   iterate 3 refine xO ?_
   refine xF [4] ?_
   refine W_ret (endAt_ret (by simp [Try.f42]; exact .mk) ?_ ?_)
   · simp
     unfold kindS at hf <;> (repeat' split at hf) <;> first | (show (_ : Nat) = _; omega) | (exfalso; omega) | (exfalso; simp_all; done)
   first | rfl | (exfalso; unfold kindS at hf <;> (repeat' split at hf) <;> first | (show (_ : Nat) = _; omega) | (exfalso; omega) | (exfalso; simp_all; done))
 intro h21
 have k4 : ¬ o.act < 1 := by simpa using h21
 refine W_reg rfl ?_
 iterate 4 refine xO ?_
 refine xF [0,3,5,21] ?_
 refine W_cond rfl ?_ ?_
 · intro h21'
   have k4' : o.act < 1 ∨ 8 < o.act := by simp at h21'; omega
   refine xU ?_
   refine xO ?_
   refine run_inl0 rfl rfl rfl rfl (by simp; exact .mk) ⟨_, Try.func79, rfl, rfl⟩ (in79 g o0 o1 o2 o3 _ a 1) (.inr ⟨_, rfl⟩) ?_
   refine xO ?_
   refine xF [4] ?_
   refine W_ret (endAt_ret (by simp [Try.f42]; exact .mk) ?_ ?_)
   · simp
     unfold kindS at hf <;> (repeat' split at hf) <;> first | (show (_ : Nat) = _; omega) | (exfalso; omega) | (exfalso; simp_all; done)
   first | rfl | (exfalso; unfold kindS at hf <;> (repeat' split at hf) <;> first | (show (_ : Nat) = _; omega) | (exfalso; omega) | (exfalso; simp_all; done))
 intro h21'
 have k4' : ¬ (o.act < 1 ∨ 8 < o.act) := by simp at h21'; omega
 refine xU ?_
 iterate 4 refine xO ?_
 iterate 2 (refine run_if rfl (by simp; exact .mk) rfl (by simp <;> omega) (fun hb => by simp; exact .mk) ?_)
 refine run_call rfl (by simp; exact .mk) rfl rfl (by simp) (by simp; exact .mk) (by simp [row_rows, Function.comp_def]; exact .mk) (fun hb => ct83 g _ hn) (by simp) (by simp; exact .mk) (by simp) ?_
 refine run_if rfl (by simp; exact .mk) rfl (by simp <;> omega) (fun hb => by simp; exact .mk) ?_
 refine xP ?_
 refine run_op1 rfl rfl rfl (by simp <;> omega) (by simp; exact .mk) ?_
 refine run_end [0,3,5,30] (by simp <;> omega) (by simp; exact .mk) ?_
 rintro -
 refine W_cond rfl ?_ ?_
 · intro h30
   have k5 : o.act = 6 ∧ nameS o.name = false := by simpa using h30
   refine xU ?_
   refine xO ?_
   refine run_inl0 rfl rfl rfl rfl (by simp; exact .mk) ⟨_, Try.func79, rfl, rfl⟩ (in79 g o0 o1 o2 o3 _ a 3) (.inr ⟨_, rfl⟩) ?_
   refine xO ?_
   refine xF [4] ?_
   refine W_ret (endAt_ret (by simp [Try.f42]; exact .mk) ?_ ?_)
   · simp
     unfold kindS at hf <;> (repeat' split at hf) <;> first | (show (_ : Nat) = _; omega) | (exfalso; omega) | (exfalso; simp_all; done)
   first | rfl | (exfalso; unfold kindS at hf <;> (repeat' split at hf) <;> first | (show (_ : Nat) = _; omega) | (exfalso; omega) | (exfalso; simp_all; done))
 intro h30
 have k5 : ¬ (o.act = 6 ∧ nameS o.name = false) := by simpa using h30
 refine W_seq ?_
 refine W_regD (by kernel_rfl) [] 4 [0,1,2,3,4,5,6,7,8] (by decide +kernel) ?_
 iterate 6 refine xO ?_
 refine xC (ct84 g a _ _ hgd) ?_ (he := by simp [row_rows, Function.comp_def]; exact .mk)
 iterate 2 refine xO ?_
 refine xF [0,3,5,42] ?_
 refine W_cond rfl ?_ ?_
 · intro h42
   have k6 : goodS a o.ix o.gen = false := by simpa using h42
   refine xU ?_
   refine xO ?_
   refine run_inl0 rfl rfl rfl rfl (by simp; exact .mk) ⟨_, Try.func79, rfl, rfl⟩ (in79 g o0 o1 o2 o3 _ a 8) (.inr ⟨_, rfl⟩) ?_
   refine xO ?_
   refine xF [4] ?_
   refine W_ret (endAt_ret (by simp [Try.f42]; exact .mk) ?_ ?_)
   · simp
     unfold kindS at hf <;> (repeat' split at hf) <;> first | (show (_ : Nat) = _; omega) | (exfalso; omega) | (exfalso; simp_all; done)
   first | rfl | (exfalso; unfold kindS at hf <;> (repeat' split at hf) <;> first | (show (_ : Nat) = _; omega) | (exfalso; omega) | (exfalso; simp_all; done))
 intro h42
 have k6 : ¬ goodS a o.ix o.gen = false := by simpa using h42
 refine xU ?_
 iterate 4 refine xO ?_
 refine xF [0,3,53] ?_
 refine W_cond rfl ?_ ?_
 · intro h53
   have k7 : o.act = 2 := by simpa using h53
   refine xU ?_
   iterate 3 refine xO ?_
   refine xF [4] ?_
   refine W_ret (endAt_ret (by simp [Try.f42]; exact .mk) ?_ ?_)
   · simp
     unfold kindS at hf <;> (repeat' split at hf) <;> first | (show (_ : Nat) = _; omega) | (exfalso; omega) | (exfalso; simp_all; done)
   first | rfl | (exfalso; unfold kindS at hf <;> (repeat' split at hf) <;> first | (show (_ : Nat) = _; omega) | (exfalso; omega) | (exfalso; simp_all; done))
 intro h53
 have k7 : o.act ≠ 2 := by simpa using h53
 refine xU ?_
 iterate 4 refine xO ?_
 refine xF [0,3,59] ?_
 refine W_cond rfl ?_ ?_
 · intro h59
   have k8 : o.act = 3 := by simpa using h59
   refine xU ?_
   iterate 3 refine xO ?_
   refine xF [4] ?_
   refine W_ret (endAt_ret (by simp [Try.f42]; exact .mk) ?_ ?_)
   · simp
     unfold kindS at hf <;> (repeat' split at hf) <;> first | (show (_ : Nat) = _; omega) | (exfalso; omega) | (exfalso; simp_all; done)
   first | rfl | (exfalso; unfold kindS at hf <;> (repeat' split at hf) <;> first | (show (_ : Nat) = _; omega) | (exfalso; omega) | (exfalso; simp_all; done))
 intro h59
 have k8 : o.act ≠ 3 := by simpa using h59
 refine xU ?_
 iterate 4 refine xO ?_
 refine xF [0,3,65] ?_
 refine W_cond rfl ?_ ?_
 · intro h65
   have k9 : o.act = 4 := by simpa using h65
   refine xU ?_
   iterate 3 refine xO ?_
   refine xF [4] ?_
   refine W_ret (endAt_ret (by simp [Try.f42]; exact .mk) ?_ ?_)
   · simp
     unfold kindS at hf <;> (repeat' split at hf) <;> first | (show (_ : Nat) = _; omega) | (exfalso; omega) | (exfalso; simp_all; done)
   first | rfl | (exfalso; unfold kindS at hf <;> (repeat' split at hf) <;> first | (show (_ : Nat) = _; omega) | (exfalso; omega) | (exfalso; simp_all; done))
 intro h65
 have k9 : o.act ≠ 4 := by simpa using h65
 refine xU ?_
 iterate 4 refine xO ?_
 refine xF [0,71] ?_
 refine W_cond rfl ?_ ?_
 · intro h71
   have k10 : o.act = 5 := by simpa using h71
   refine xU ?_
   iterate 3 refine xO ?_
   refine xF [4] ?_
   refine W_ret (endAt_ret (by simp [Try.f42]; exact .mk) ?_ ?_)
   · simp
     unfold kindS at hf <;> (repeat' split at hf) <;> first | (show (_ : Nat) = _; omega) | (exfalso; omega) | (exfalso; simp_all; done)
   first | rfl | (exfalso; unfold kindS at hf <;> (repeat' split at hf) <;> first | (show (_ : Nat) = _; omega) | (exfalso; omega) | (exfalso; simp_all; done))
 intro h71
 have k10 : o.act ≠ 5 := by simpa using h71
 refine W_skip ?_
 refine xT ?_
 iterate 3 refine xO ?_
 refine xF [4] ?_
 refine W_ret (endAt_ret (by simp [Try.f42]; exact .mk) ?_ ?_)
 · simp
   unfold kindS at hf <;> (repeat' split at hf) <;> first | (show (_ : Nat) = _; omega) | (exfalso; omega) | (exfalso; simp_all; done)
 first | rfl | (exfalso; unfold kindS at hf <;> (repeat' split at hf) <;> first | (show (_ : Nat) = _; omega) | (exfalso; omega) | (exfalso; simp_all; done))

end Go.Proofs
