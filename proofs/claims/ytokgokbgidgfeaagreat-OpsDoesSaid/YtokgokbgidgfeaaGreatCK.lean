/- Contracts of the program's functions and plain facts, for arguments as each lemma says. -/
import Derived.Test.YtokgokbgidgfeaaGreatAwpD
import Derived.Test.YtokgokbgidgfeaaGreatCA
import Derived.Test.YtokgokbgidgfeaaGreatCD
set_option linter.all false
set_option maxHeartbeats 4000000
namespace Go.Proofs
open Go.aN
theorem KG(g:Gl)(o0 o1 o2 o3 o8:aN.Obj)(a:dp)(o:Op)(ho:∀m,bE m [o0,o1,o2,o3,o8]=true)(ha:a.Ok)(hgd:a.data.length=a.aw.length):∀B S,a7 Tryz.prog g B S ⟨9,true⟩ 186 [.ptr 7 0 0,.agg [.d (vI o.act),.d (vI o.ix),.d (vI o.gen),.d (vI o.n),.d (vI o.off),.d (rB o.b),.d (vS o.name)]] [o0,o1,o2,o3,.row 1 (a.aw.map vI),.row 1 (a.data.map oB),.row 3 (a.roots.map ak),.var 151 [.hdr 4 0 a.aw.length,.hdr 5 0 a.data.length,(.hdr 6 0 a.roots.length),.d (vI 0),.d (vI 0),.d (.v (.slice none 0 0))],o8]
    (fun x q=>x = .d (vI (cf a o.n).e)∧q=[o0,o1,o2,o3,.row 1 (a.aw.map vI),.row 1 ((cf a o.n).a.data.map oB),.row 3 (a.roots.map ak),.var 151 [.hdr 4 0 a.aw.length,.hdr 5 0 a.data.length,(.hdr 6 0 a.roots.length),.d (vI (cf a o.n).ix),.d (vI (cf a o.n).gen),.d (.v (.slice none 0 0))],o8]):=by
 refine aL Tryz.func186 rfl (Nat.le_of_ble_eq_true rfl) fun B S=>?_
 obtain⟨z0,z1,z2,z3,z8⟩:o0.lt 9=true∧o1.lt 9=true∧o2.lt 9=true∧o3.lt 9=true∧o8.lt 9=true:=by simpa using ho 9
 refine xU ?_;iterate 2 (refine xO ?_ (h:=by simp[z0,z1,z2,z3,z8];exact .mk))
 refine xF [0,3] ?_;refine ab (xU ?_);iterate 2 (refine xO ?_ (h:=by simp[z0,z1,z2,z3,z8];exact .mk))
 refine bA rfl rfl rfl rfl (by simp[z0,z1,z2,z3,z8];exact .mk) (by simp[z0,z1,z2,z3,z8];exact .mk) (EJ g _) (by simp[z0,z1,z2,z3,z8]) (by simp[z0,z1,z2,z3,z8];exact .mk) ?_;refine xO ?_ (h:=by simp[z0,z1,z2,z3,z8];exact .mk);refine xQ [0,3,10] ?_ ?_
 ·intro h10;have hs:b7 o.n=false:=by simp at h10;simp[b7];omega
  have hr:cf a o.n=⟨a,0,0,[],1⟩:=by simp[cf,hs]
  refine xU ?_;refine xO ?_ (h:=by simp[z0,z1,z2,z3,z8];exact .mk);refine xF [4] ?_;refine ar (aK 9 (by simp[z0,z1,z2,z3,z8,Tryz.f186];exact .mk) ?_ ?_ (by simp) (by simp[z0,z1,z2,z3,z8]) (by simp[z0,z1,z2,z3,z8]))
  ·simp[hr]
  simp[hr,List.map_set,ai,br];try rfl
 intro h10;have hs:b7 o.n=true:=by simp at h10;simp[b7];omega
 have hn:1≤o.n∧o.n≤2048:=by simpa [b7]using hs
 refine af fun _=>?_;refine ab (xU ?_);iterate 7 (refine xO ?_ (h:=by simp[z0,z1,z2,z3,z8];exact .mk))
 refine xF [0,3,15,16,17] ?_;refine ag (aB (fun m σ q=>∃i:Nat,m=a.aw.length-i∧i≤a.aw.length∧(∀j,j<i→fJ a j=false)∧σ=slots [(0,.ptr 7 0 0),(3,.ptr 9 0 0),(15,.hdr 4 0 a.aw.length),(16,.d (vI a.aw.length)),(17,.d (vI i))]∧q=[o0,o1,o2,o3,.row 1 (a.aw.map vI),.row 1 (a.data.map oB),.row 3 (a.roots.map ak),.var 151 [.hdr 4 0 a.aw.length,.hdr 5 0 a.data.length,(.hdr 6 0 a.roots.length),.d (vI 0),.d (vI 0),.d (.v (.slice none 0 0))],o8,.var 73 [.d (vI o.act),.d (vI o.ix),.d (vI o.gen),.d (vI o.n),.d (vI o.off),.d (rB o.b),.d (vS o.name)]]) a.aw.length .refl ⟨0,by simp,by simp,by simp,rfl,rfl⟩ ?_);have q1:=ha.h1;rintro m σ q ⟨i,rfl,hi,hinv,rfl,rfl⟩ _;refine xU ?_;refine xO ?_ (h:=by simp[z0,z1,z2,z3,z8];exact .mk);refine xF [0,3,15,16,17,18] ?_;refine ab (bd rfl ?_ ?_)
 ·intro h18;have hi2:i<a.aw.length:=by simpa using h18
  have hi3:i<a.data.length:=by omega
  refine af fun _=>?_;refine ab (ag ?_);refine xU ?_;refine xO ?_ (h:=by simp[z0,z1,z2,z3,z8];exact .mk);refine xO ?_ (h:=by simp[z0,z1,z2,z3,z8,hi2];exact .mk);refine xO ?_ (h:=by simp[z0,z1,z2,z3,z8, -List.getElem?_map,ao hi2];exact .mk);iterate 2 (refine xO ?_ (h:=by simp[z0,z1,z2,z3,z8];exact .mk))
  refine xG [0,3,5,6,15,16,17] ?_;iterate 6 (refine xO ?_ (h:=by simp[z0,z1,z2,z3,z8];exact .mk))
  refine xO ?_ (h:=by simp[z0,z1,z2,z3,z8,hi3];exact .mk);refine xO ?_ (h:=by simp[z0,z1,z2,z3,z8, -List.getElem?_map,ao hi3];exact .mk);iterate 3 (refine xO ?_ (h:=by simp[z0,z1,z2,z3,z8];exact .mk))
  iterate 2 (refine bg rfl (by simp[z0,z1,z2,z3,z8];exact .mk) rfl (by simp<;>omega) (fun hb=>by simp[z0,z1,z2,z3,z8];exact .mk) ?_)
  refine fB rfl (by simp[z0,z1,z2,z3,z8];exact .mk) rfl rfl (by simp) (by simp[z0,z1,z2,z3,z8];exact .mk) (by simp[z0,z1,z2,z3,z8];exact .mk) (by simp;exact .mk) ?_;refine run_end [0,3,5,6,15,16,17,35] (by simp<;>omega) (by simp;exact .mk) ?_;rintro -;refine bd rfl ?_ ?_
  ·intro rt
   have hr:cf a o.n=⟨{a with data:=a.data.set i (List.replicate o.n.toNat 0)},i,nth a.aw i,[],0⟩:=by
    have:fJ a i=true:=by simp[fJ]at *;exact rt
    simp[cf,hs,kE hi2 hinv this]
   refine ab ?_;have e1:0≤o.n:=by omega
   have e2:o.n≤140737488355328:=by omega
   refine aS (by kernel_rfl) [] 4 [0,1,2,3,4,5,6,7,8,9,10] (by decide +kernel) ?_;iterate 8 (refine xO ?_ (h:=by simp[z0,z1,z2,z3,z8];exact .mk))
   refine xO ?_ (h:=by simp[z0,z1,z2,z3,z8,e1,e2];exact .mk);refine xO ?_ (h:=by simp[z0,z1,z2,z3,z8,hi3];exact .mk);refine xO ?_ (h:=by simp[z0,z1,z2,z3,z8,splice, -List.getElem?_map,ao hi3,br,dn,bJ];exact .mk);refine xG [0,5,6] ?_;iterate 3 (refine xO ?_ (h:=by simp[z0,z1,z2,z3,z8];exact .mk))
   refine xO ?_ (h:=by simp[z0,z1,z2,z3,z8,splice];exact .mk);iterate 3 (refine xO ?_ (h:=by simp[z0,z1,z2,z3,z8];exact .mk))
   refine xO ?_ (h:=by simp[z0,z1,z2,z3,z8,splice];exact .mk);refine xG [] ?_;refine xO ?_ (h:=by simp[z0,z1,z2,z3,z8];exact .mk);refine xF [4] ?_;refine ar (aK 9 (by simp[z0,z1,z2,z3,z8,Tryz.f186];exact .mk) ?_ ?_ (by simp) (by simp[z0,z1,z2,z3,z8]) (by simp[z0,z1,z2,z3,z8]))
   ·simp[hr]
   simp[hr,List.map_set,ai,br];try rfl
  intro rt;refine af fun _=>?_;refine xY ?_;iterate 2 (refine xO ?_ (h:=by simp[z0,z1,z2,z3,z8];exact .mk))
  refine xE [0,3,15,16,17] ?_;refine ah [0,3,15,16,17] ?_;refine ae (m':=a.aw.length-(i+1)) (by omega) ⟨i+1,rfl,by omega,?_,?_,rfl⟩
  ·intro j hj;rcases Nat.lt_succ_iff_lt_or_eq.1 hj with hj|rfl
   ·exact hinv j hj
   simp[fJ]at *;exact rt
  rw[wrap64 (by omega) (by omega)];rfl
 intro h18;have hr:cf a o.n=⟨a,0,0,[],9⟩:=by simp[cf,hs,iR (fun j hj=>hinv j (by simp at h18;omega))]
 refine aP (xT ?_);refine xO ?_ (h:=by simp[z0,z1,z2,z3,z8];exact .mk);refine xF [4] ?_;refine ar (aK 9 (by simp[z0,z1,z2,z3,z8,Tryz.f186];exact .mk) ?_ ?_ (by simp) (by simp[z0,z1,z2,z3,z8]) (by simp[z0,z1,z2,z3,z8]))
 ·simp[hr]
 simp[hr,List.map_set,ai,br];try rfl
theorem KH(g:Gl)(o0 o1 o2 o3 o8:aN.Obj)(a:dp)(o:Op)(ho:∀m,bE m [o0,o1,o2,o3,o8]=true)(ha:a.Ok)(k:Nat)(hix:o.ix=k)(hk:k<a.data.length)(hk2:k<a.aw.length)(hgn:0≤nth a.aw k∧nth a.aw k≤65535):∀B S,a7 Tryz.prog g B S ⟨9,true⟩ 190 [.ptr 7 0 0,.agg [.d (vI o.act),.d (vI o.ix),.d (vI o.gen),.d (vI o.n),.d (vI o.off),.d (rB o.b),.d (vS o.name)]] [o0,o1,o2,o3,.row 1 (a.aw.map vI),.row 1 (a.data.map oB),.row 3 (a.roots.map ak),.var 151 [.hdr 4 0 a.aw.length,.hdr 5 0 a.data.length,(.hdr 6 0 a.roots.length),.d (vI 0),.d (vI 0),.d (.v (.slice none 0 0))],o8]
    (fun x q=>x = .d (vI (cz a k).e)∧q=[o0,o1,o2,o3,.row 1 ((cz a k).a.aw.map vI),.row 1 ((cz a k).a.data.map oB),.row 3 (a.roots.map ak),.var 151 [.hdr 4 0 a.aw.length,.hdr 5 0 a.data.length,(.hdr 6 0 a.roots.length),.d (vI 0),.d (vI 0),.d (.v (.slice none 0 0))],o8]):=by
 refine aL Tryz.func190 rfl (Nat.le_of_ble_eq_true rfl) fun B S=>?_
 obtain⟨z0,z1,z2,z3,z8⟩:o0.lt 9=true∧o1.lt 9=true∧o2.lt 9=true∧o3.lt 9=true∧o8.lt 9=true:=by simpa using ho 9
 simp only[hix];refine xU ?_;iterate 2 (refine xO ?_ (h:=by simp[z0,z1,z2,z3,z8];exact .mk))
 refine xG [0,3] ?_;iterate 4 (refine xO ?_ (h:=by simp[z0,z1,z2,z3,z8];exact .mk))
 refine xF [0,5] ?_;refine ab ?_;have e1:IntKind.i64.wrap (nth a.aw k+1)=nth a.aw k+1:=wrap64 (by omega) (by omega);have em:(if 65535<nth a.aw k+1 then (65535:Int)else nth a.aw k+1)=min (nth a.aw k+1) 65535:=by omega
 refine aS (by kernel_rfl) [] 4 [0,1,2,3,4,5,6,7,8,9,10,11,12,13,14,15,16,17,18,19,20,22,21,23,24,25] (by decide +kernel) ?_;iterate 18 (refine xO ?_ (h:=by simp[z0,z1,z2,z3,z8];exact .mk))
 refine xO ?_ (h:=by simp[z0,z1,z2,z3,z8,hk2];exact .mk);refine xO ?_ (h:=by simp[z0,z1,z2,z3,z8, -List.getElem?_map,ao hk2];exact .mk);refine xO ?_ (h:=by simp[z0,z1,z2,z3,z8,e1];exact .mk);refine xO ?_ (h:=by simp[z0,z1,z2,z3,z8,hk];exact .mk);refine xO ?_ (h:=by simp[z0,z1,z2,z3,z8,D0];exact .mk);refine xO ?_ (h:=by simp[z0,z1,z2,z3,z8,splice, -List.getElem?_map,ao hk,br,dn,bJ];exact .mk);refine xO ?_ (h:=by simp[z0,z1,z2,z3,z8,hk2];exact .mk);refine xO ?_ (h:=by simp[z0,z1,z2,z3,z8,splice, -List.getElem?_map,ao hk2,br,dn,bJ];exact .mk);refine xG [] ?_;refine xO ?_ (h:=by simp[z0,z1,z2,z3,z8];exact .mk);refine xF [4] ?_;refine ar (aK 9 (by simp[z0,z1,z2,z3,z8,Tryz.f190];exact .mk) ?_ ?_ (by simp) (by simp[z0,z1,z2,z3,z8]) (by simp[z0,z1,z2,z3,z8]))
 ·simp[cz]
 simp[cz,em,List.map_set,ai,br];try rfl
theorem KI(g:Gl)(o0 o1 o2 o3 o8:aN.Obj)(a:dp)(o:Op)(ho:∀m,bE m [o0,o1,o2,o3,o8]=true)(ha:a.Ok)(k:Nat)(hix:o.ix=k)(hk:k<a.data.length)(hd:(nth a.data k).length≤2^40):∀B S,a7 Tryz.prog g B S ⟨9,true⟩ 191 [.ptr 7 0 0,.agg [.d (vI o.act),.d (vI o.ix),.d (vI o.gen),.d (vI o.n),.d (vI o.off),.d (rB o.b),.d (vS o.name)]] [o0,o1,o2,o3,.row 1 (a.aw.map vI),.row 1 (a.data.map oB),.row 3 (a.roots.map ak),.var 151 [.hdr 4 0 a.aw.length,.hdr 5 0 a.data.length,(.hdr 6 0 a.roots.length),.d (vI 0),.d (vI 0),.d (.v (.slice none 0 0))],o8]
    (fun x q=>x = .d (vI (bX a k o.n).e)∧q=[o0,o1,o2,o3,.row 1 (a.aw.map vI),.row 1 ((bX a k o.n).a.data.map oB),.row 3 (a.roots.map ak),.var 151 [.hdr 4 0 a.aw.length,.hdr 5 0 a.data.length,(.hdr 6 0 a.roots.length),.d (vI 0),.d (vI 0),.d (.v (.slice none 0 0))],o8]):=by
 refine aL Tryz.func191 rfl (Nat.le_of_ble_eq_true rfl) fun B S=>?_
 obtain⟨z0,z1,z2,z3,z8⟩:o0.lt 9=true∧o1.lt 9=true∧o2.lt 9=true∧o3.lt 9=true∧o8.lt 9=true:=by simpa using ho 9
 simp only[hix];refine xU ?_;iterate 2 (refine xO ?_ (h:=by simp[z0,z1,z2,z3,z8];exact .mk))
 refine xF [0,3] ?_;refine ab (xU ?_);iterate 2 (refine xO ?_ (h:=by simp[z0,z1,z2,z3,z8];exact .mk))
 refine bA rfl rfl rfl rfl (by simp[z0,z1,z2,z3,z8];exact .mk) (by simp[z0,z1,z2,z3,z8];exact .mk) (EJ g _) (by simp[z0,z1,z2,z3,z8]) (by simp[z0,z1,z2,z3,z8];exact .mk) ?_;refine xO ?_ (h:=by simp[z0,z1,z2,z3,z8];exact .mk);refine xQ [0,3,9] ?_ ?_
 ·intro h9;have hs:b7 o.n=false:=by simp at h9;simp[b7];omega
  have hr:bX a k o.n=⟨a,0,0,[],1⟩:=by simp[bX,hs]
  refine xU ?_;refine xO ?_ (h:=by simp[z0,z1,z2,z3,z8];exact .mk);refine xF [4] ?_;refine ar (aK 9 (by simp[z0,z1,z2,z3,z8,Tryz.f191];exact .mk) ?_ ?_ (by simp) (by simp[z0,z1,z2,z3,z8]) (by simp[z0,z1,z2,z3,z8]))
  ·simp[bX,hs]
  simp[bX,hs,List.map_set,ai,br]
 intro h9;have hs:b7 o.n=true:=by simp at h9;simp[b7];omega
 have hn:1≤o.n∧o.n≤2048:=by simpa [b7]using hs
 have e1:0≤o.n:=by omega
 have e2:o.n≤140737488355328:=by omega
 refine af ?_;refine xT ?_;iterate 2 (refine xO ?_ (h:=by simp[z0,z1,z2,z3,z8];exact .mk))
 refine xO ?_ (h:=by simp[z0,z1,z2,z3,z8,e1,e2];exact .mk);refine xO ?_ (h:=by simp[z0,z1,z2,z3,z8];exact .mk);refine xF [0,3,5] ?_;refine ab ?_;refine aS (by kernel_rfl) [] 4 [0,1,2,3,4,5,6,7,8,9,10,11] (by decide +kernel) ?_;iterate 9 (refine xO ?_ (h:=by simp[z0,z1,z2,z3,z8];exact .mk))
 refine xO ?_ (h:=by simp[z0,z1,z2,z3,z8,hk];exact .mk);refine xO ?_ (h:=by simp[z0,z1,z2,z3,z8, -List.getElem?_map,ao hk];exact .mk);refine xO ?_ (h:=by simp[z0,z1,z2,z3,z8,qV];exact .mk);refine xF [0,3,5] ?_;refine ab ?_;rw[su];refine aS (by kernel_rfl) [] 4 [0,1,2,3,4,5,6,7,8,9,10] (by decide +kernel) ?_;iterate 9 (refine xO ?_ (h:=by simp[z0,z1,z2,z3,z8];exact .mk))
 refine xO ?_ (h:=by simp[z0,z1,z2,z3,z8,hk];exact .mk);refine xO ?_ (h:=by simp[z0,z1,z2,z3,z8,splice,iff_true_intro (show o.n.toNat=min o.n.toNat (nth a.data k).length+(o.n.toNat-(nth a.data k).length) from by omega), -List.getElem?_map,ao hk,br,dn,bJ];exact .mk);refine xG [] ?_;refine xO ?_ (h:=by simp[z0,z1,z2,z3,z8];exact .mk);refine xF [4] ?_;refine ar (aK 9 (by simp[z0,z1,z2,z3,z8,Tryz.f191];exact .mk) ?_ ?_ (by simp) (by simp[z0,z1,z2,z3,z8]) (by simp[z0,z1,z2,z3,z8]))
 ·simp[bX,hs]
 simp[bX,hs,List.map_set,ai,br]
open Go.aN
theorem Fb(g:Gl)(o0 o1 o2 o3 o8 o9:aN.Obj)(a:dp)(k:Nat)(gn off n:Int)(q:Bool)(ho:∀m,bE m [o0,o1,o2,o3,o8,o9]=true)(hk:k<a.data.length)(hd:(nth a.data k).length≤2^40)(hq:cx (nth a.data k).length off n=q):∀B S,a7 Tryz.prog g B S ⟨10,true⟩ 224 [.ptr 7 0 0,.agg [.d (vI k),.d (vI gn)],.d (vI off),.d (vI n)] [o0,o1,o2,o3,.row 1 (a.aw.map vI),.row 1 (a.data.map oB),.row 3 (a.roots.map ak),.var 151 [.hdr 4 0 a.aw.length,.hdr 5 0 a.data.length,(.hdr 6 0 a.roots.length),.d (vI 0),.d (vI 0),.d (.v (.slice none 0 0))],o8,o9]
    (fun x o=>x = .bK [bif q then .d (mK 1 vB (((nth a.data k).drop off.toNat).take n.toNat))else .d (.v (.slice none 0 0)),.d (.v (.bool q))]∧o=[o0,o1,o2,o3,.row 1 (a.aw.map vI),.row 1 (a.data.map oB),.row 3 (a.roots.map ak),.var 151 [.hdr 4 0 a.aw.length,.hdr 5 0 a.data.length,(.hdr 6 0 a.roots.length),.d (vI 0),.d (vI 0),.d (.v (.slice none 0 0))],o8,o9]):=by
 refine aL Tryz.func224 rfl (Nat.le_of_ble_eq_true rfl) fun B S=>?_
 obtain⟨z0,z1,z2,z3,z8,z9⟩:o0.lt 10=true∧o1.lt 10=true∧o2.lt 10=true∧o3.lt 10=true∧o8.lt 10=true∧o9.lt 10=true:=by simpa using ho 10
 refine xU ?_;iterate 3 (refine xO ?_ (h:=by simp[z0,z1,z2,z3,z8,z9];exact .mk))
 refine xF [0,2,3,5] ?_;refine ab ?_;refine aS (by kernel_rfl) [] 4 [0,1,2,3,4,5,6,7,8,9] (by decide +kernel) ?_;iterate 7 (refine xO ?_ (h:=by simp[z0,z1,z2,z3,z8,z9];exact .mk))
 refine xO ?_ (h:=by simp[z0,z1,z2,z3,z8,z9,hk];exact .mk);refine xO ?_ (h:=by simp[z0,z1,z2,z3,z8,z9, -List.getElem?_map,ao hk];exact .mk);refine xO ?_ (h:=by simp[z0,z1,z2,z3,z8,z9];exact .mk);refine xF [2,3,10] ?_;refine ab (xU ?_);iterate 3 (refine xO ?_ (h:=by simp[z0,z1,z2,z3,z8,z9];exact .mk))
 iterate 4 (refine bg rfl (by simp[z0,z1,z2,z3,z8,z9];exact .mk) rfl (by simp<;>omega) (fun hb=>by simp[z0,z1,z2,z3,z8,z9];exact .mk) ?_)
 refine fB rfl (by simp[z0,z1,z2,z3,z8,z9];exact .mk) rfl rfl (by simp) (by simp[z0,z1,z2,z3,z8,z9];exact .mk) (by simp[z0,z1,z2,z3,z8,z9];exact .mk) (by simp;exact .mk) ?_;refine bM rfl rfl rfl (by simp<;>omega) (by simp[z0,z1,z2,z3,z8,z9];exact .mk) ?_;iterate 2 (refine bg rfl (by simp[z0,z1,z2,z3,z8,z9];exact .mk) rfl (by simp<;>omega) (fun hb=>by simp[z0,z1,z2,z3,z8,z9];exact .mk) ?_)
 refine fB rfl (by simp[z0,z1,z2,z3,z8,z9];exact .mk) rfl rfl (by simp) (by simp[z0,z1,z2,z3,z8,z9];exact .mk) (by simp[z0,z1,z2,z3,z8,z9];exact .mk) (by simp;exact .mk) ?_;refine bM rfl rfl rfl (by simp<;>omega) (by simp[z0,z1,z2,z3,z8,z9];exact .mk) ?_;iterate 6 (refine bg rfl (by simp[z0,z1,z2,z3,z8,z9];exact .mk) rfl (by simp<;>omega) (fun hb=>by simp[z0,z1,z2,z3,z8,z9];exact .mk) ?_)
 refine fB rfl (by simp[z0,z1,z2,z3,z8,z9];exact .mk) rfl rfl (by simp) (by simp[z0,z1,z2,z3,z8,z9];exact .mk) (by simp[z0,z1,z2,z3,z8,z9];exact .mk) (by simp;exact .mk) ?_;refine run_end [2,3,10,39] (by simp<;>omega) (by simp;exact .mk) ?_;rintro -;refine bd rfl ?_ ?_
 ·intro pO;rw[oq hd,hq]at pO;obtain rfl:q=false:=by simpa using pO
  refine xU ?_;iterate 2 (refine xO ?_ (h:=by simp[z0,z1,z2,z3,z8,z9];exact .mk))
  refine xF [8,9] ?_;refine ar (aK 10 (by simp[z0,z1,z2,z3,z8,z9,Tryz.f224];exact .mk) ?_ ?_ (by simp) (by simp[z0,z1,z2,z3,z8,z9]) (by simp[z0,z1,z2,z3,z8,z9]))
  ·simp<;>(try rw[show (off+n).toNat-off.toNat=n.toNat from by omega])
  rfl
 intro pO;rw[oq hd,hq]at pO;obtain rfl:q=true:=by simpa using pO
 have hx:0≤off∧off≤(nth a.data k).length∧0≤n∧n≤(nth a.data k).length-off:=by rw[cx]at hq;simp at hq;omega
 refine af fun _=>?_;refine ab ?_;have e1:IntKind.i64.wrap (off+n)=off+n:=wrap64 (by omega) (by omega);refine xY ?_;iterate 4 (refine xO ?_ (h:=by simp[z0,z1,z2,z3,z8,z9];exact .mk))
 refine xO ?_ (h:=by simp[z0,z1,z2,z3,z8,z9,e1];exact .mk);refine xO ?_ (h:=by simp[z0,z1,z2,z3,z8,z9,ew,hx.1,show off≤off+n from by omega,show off+n ≤ ↑(nth a.data k).length from by omega];exact .mk);iterate 2 (refine xO ?_ (h:=by simp[z0,z1,z2,z3,z8,z9];exact .mk))
 refine xF [8,9] ?_;refine ar (aK 10 (by simp[z0,z1,z2,z3,z8,z9,Tryz.f224];exact .mk) ?_ ?_ (by simp) (by simp[z0,z1,z2,z3,z8,z9]) (by simp[z0,z1,z2,z3,z8,z9]))
 ·simp<;>(try rw[show (off+n).toNat-off.toNat=n.toNat from by omega])
 rfl
theorem GS(g:Gl)(o0 o1 o2 o3 o8 o9:aN.Obj)(a:dp)(k:Nat)(gn off n:Int)(q:Bool)(ho:∀m,bE m [o0,o1,o2,o3,o8,o9]=true)(hk:k<a.data.length)(hd:(nth a.data k).length≤2^40)(hq:cx (nth a.data k).length off n=q):∀B S,a7 Tryz.prog g B S ⟨11,true⟩ 224 [.ptr 7 0 0,.agg [.d (vI k),.d (vI gn)],.d (vI off),.d (vI n)] [o0,o1,o2,o3,.row 1 (a.aw.map vI),.hole k 10 (nth a.data k).length (a.data.map oB),.row 3 (a.roots.map ak),.var 151 [.hdr 4 0 a.aw.length,.hdr 5 0 a.data.length,(.hdr 6 0 a.roots.length),.d (vI 0),.d (vI 0),.d (.v (.slice none 0 0))],o8,o9,.row 1 ((nth a.data k).map vB)]
    (fun x o=>x = .bK [bif q then .hdr 10 off.toNat n.toNat else .d (.v (.slice none 0 0)),.d (.v (.bool q))]∧o=[o0,o1,o2,o3,.row 1 (a.aw.map vI),.hole k 10 (nth a.data k).length (a.data.map oB),.row 3 (a.roots.map ak),.var 151 [.hdr 4 0 a.aw.length,.hdr 5 0 a.data.length,(.hdr 6 0 a.roots.length),.d (vI 0),.d (vI 0),.d (.v (.slice none 0 0))],o8,o9,.row 1 ((nth a.data k).map vB)]):=by
 refine aL Tryz.func224 rfl (Nat.le_of_ble_eq_true rfl) fun B S=>?_
 obtain⟨z0,z1,z2,z3,z8,z9⟩:o0.lt 11=true∧o1.lt 11=true∧o2.lt 11=true∧o3.lt 11=true∧o8.lt 11=true∧o9.lt 11=true:=by simpa using ho 11
 refine xU ?_;iterate 3 (refine xO ?_ (h:=by simp[z0,z1,z2,z3,z8,z9];exact .mk))
 refine xF [0,2,3,5] ?_;refine ab ?_;refine aS (by kernel_rfl) [] 4 [0,1,2,3,4,5,6,7,8,9] (by decide +kernel) ?_;iterate 7 (refine xO ?_ (h:=by simp[z0,z1,z2,z3,z8,z9];exact .mk))
 refine xO ?_ (h:=by simp[z0,z1,z2,z3,z8,z9,hk];exact .mk);refine xO ?_ (h:=by simp[z0,z1,z2,z3,z8,z9, -List.getElem?_map,ao hk];exact .mk);refine xO ?_ (h:=by simp[z0,z1,z2,z3,z8,z9];exact .mk);refine xF [2,3,10] ?_;refine ab (xU ?_);iterate 3 (refine xO ?_ (h:=by simp[z0,z1,z2,z3,z8,z9];exact .mk))
 iterate 4 (refine bg rfl (by simp[z0,z1,z2,z3,z8,z9];exact .mk) rfl (by simp<;>omega) (fun hb=>by simp[z0,z1,z2,z3,z8,z9];exact .mk) ?_)
 refine fB rfl (by simp[z0,z1,z2,z3,z8,z9];exact .mk) rfl rfl (by simp) (by simp[z0,z1,z2,z3,z8,z9];exact .mk) (by simp[z0,z1,z2,z3,z8,z9];exact .mk) (by simp;exact .mk) ?_;refine bM rfl rfl rfl (by simp<;>omega) (by simp[z0,z1,z2,z3,z8,z9];exact .mk) ?_;iterate 2 (refine bg rfl (by simp[z0,z1,z2,z3,z8,z9];exact .mk) rfl (by simp<;>omega) (fun hb=>by simp[z0,z1,z2,z3,z8,z9];exact .mk) ?_)
 refine fB rfl (by simp[z0,z1,z2,z3,z8,z9];exact .mk) rfl rfl (by simp) (by simp[z0,z1,z2,z3,z8,z9];exact .mk) (by simp[z0,z1,z2,z3,z8,z9];exact .mk) (by simp;exact .mk) ?_;refine bM rfl rfl rfl (by simp<;>omega) (by simp[z0,z1,z2,z3,z8,z9];exact .mk) ?_;iterate 6 (refine bg rfl (by simp[z0,z1,z2,z3,z8,z9];exact .mk) rfl (by simp<;>omega) (fun hb=>by simp[z0,z1,z2,z3,z8,z9];exact .mk) ?_)
 refine fB rfl (by simp[z0,z1,z2,z3,z8,z9];exact .mk) rfl rfl (by simp) (by simp[z0,z1,z2,z3,z8,z9];exact .mk) (by simp[z0,z1,z2,z3,z8,z9];exact .mk) (by simp;exact .mk) ?_;refine run_end [2,3,10,39] (by simp<;>omega) (by simp;exact .mk) ?_;rintro -;refine bd rfl ?_ ?_
 ·intro pO;rw[oq hd,hq]at pO;obtain rfl:q=false:=by simpa using pO
  refine xU ?_;iterate 2 (refine xO ?_ (h:=by simp[z0,z1,z2,z3,z8,z9];exact .mk))
  refine xF [8,9] ?_;refine ar (aK 11 (by simp[z0,z1,z2,z3,z8,z9,Tryz.f224];exact .mk) ?_ ?_ (by simp) (by simp[z0,z1,z2,z3,z8,z9]) (by simp[z0,z1,z2,z3,z8,z9]))
  ·simp<;>(try rw[show (off+n).toNat-off.toNat=n.toNat from by omega])
  rfl
 intro pO;rw[oq hd,hq]at pO;obtain rfl:q=true:=by simpa using pO
 have hx:0≤off∧off≤(nth a.data k).length∧0≤n∧n≤(nth a.data k).length-off:=by rw[cx]at hq;simp at hq;omega
 refine af fun _=>?_;refine ab ?_;have e1:IntKind.i64.wrap (off+n)=off+n:=wrap64 (by omega) (by omega);refine xY ?_;iterate 4 (refine xO ?_ (h:=by simp[z0,z1,z2,z3,z8,z9];exact .mk))
 refine xO ?_ (h:=by simp[z0,z1,z2,z3,z8,z9,e1];exact .mk);refine xO ?_ (h:=by simp[z0,z1,z2,z3,z8,z9,ew,hx.1,show off≤off+n from by omega,show off+n ≤ ↑(nth a.data k).length from by omega];exact .mk);iterate 2 (refine xO ?_ (h:=by simp[z0,z1,z2,z3,z8,z9];exact .mk))
 refine xF [8,9] ?_;refine ar (aK 11 (by simp[z0,z1,z2,z3,z8,z9,Tryz.f224];exact .mk) ?_ ?_ (by simp) (by simp[z0,z1,z2,z3,z8,z9]) (by simp[z0,z1,z2,z3,z8,z9]))
 ·simp<;>(try rw[show (off+n).toNat-off.toNat=n.toNat from by omega])
 rfl
open Go.aN
attribute [simp] Tryz.f192 Tryz.f193
theorem KJ(g:Gl)(o0 o1 o2 o3 o8:aN.Obj)(a:dp)(o:Op)(ho:∀m,bE m [o0,o1,o2,o3,o8]=true)(ha:a.Ok)(k:Nat)(hix:o.ix=k)(hk:k<a.data.length)(hd:(nth a.data k).length≤2^40)(hq:cx (nth a.data k).length o.off o.n=true):∀B S,a7 Tryz.prog g B S ⟨9,true⟩ 192 [.ptr 7 0 0,.agg [.d (vI o.act),.d (vI o.ix),.d (vI o.gen),.d (vI o.n),.d (vI o.off),.d (rB o.b),.d (vS o.name)]] [o0,o1,o2,o3,.row 1 (a.aw.map vI),.row 1 (a.data.map oB),.row 3 (a.roots.map ak),.var 151 [.hdr 4 0 a.aw.length,.hdr 5 0 a.data.length,(.hdr 6 0 a.roots.length),.d (vI 0),.d (vI 0),.d (.v (.slice none 0 0))],o8]
    (fun x q=>x = .d (vI 0)∧q=[o0,o1,o2,o3,.row 1 (a.aw.map vI),.row 1 (a.data.map oB),.row 3 (a.roots.map ak),.var 151 [.hdr 4 0 a.aw.length,.hdr 5 0 a.data.length,(.hdr 6 0 a.roots.length),.d (vI 0),.d (vI 0),.hdr 10 0 (fA a k o.off o.n).b.length],o8,.var 73 [.d (vI o.act),.d (vI k),.d (vI o.gen),.d (vI o.n),.d (vI o.off),.d (rB o.b),.d (vS o.name)],.row 1 ((fA a k o.off o.n).b.map vB)]):=by
 refine aL Tryz.func192 rfl (Nat.le_of_ble_eq_true rfl) fun B S=>?_
 obtain⟨z0,z1,z2,z3,z8⟩:o0.lt 9=true∧o1.lt 9=true∧o2.lt 9=true∧o3.lt 9=true∧o8.lt 9=true:=by simpa using ho 9
 simp only[hix];refine xU ?_;iterate 2 (refine xO ?_ (h:=by simp[z0,z1,z2,z3,z8];exact .mk))
 refine xF [0,3] ?_;refine ab ?_;have hrr:fA a k o.off o.n=⟨a,0,0,((nth a.data k).drop o.off.toNat).take o.n.toNat,0⟩:=by simp[fA,hq]
 refine xY ?_;iterate 7 (refine xO ?_ (h:=by simp[z0,z1,z2,z3,z8];exact .mk))
 refine az rfl rfl rfl rfl (by simp[z0,z1,z2,z3,z8];exact .mk) ⟨_,Tryz.func224,rfl,rfl⟩ (Fb g _ _ _ _ _ _ a k o.gen o.off o.n true (fun m=>by have:=ho m;simp at this;simp[this]) hk hd hq) (.inr ⟨[],by simp⟩) ?_;iterate 5 (refine xO ?_ (h:=by simp[z0,z1,z2,z3,z8];exact .mk))
 refine xF [0,5,6] ?_;refine ab (xU ?_);iterate 2 (refine xO ?_ (h:=by simp[z0,z1,z2,z3,z8];exact .mk))
 refine xQ [0,5,19] ?_ ?_
 ·intro h19;simp at h19
 intro h19;refine af ?_;refine xT ?_;iterate 2 (refine xO ?_ (h:=by simp[z0,z1,z2,z3,z8];exact .mk))
 refine bA rfl rfl rfl rfl (by simp[z0,z1,z2,z3,z8];exact .mk) (by simp[z0,z1,z2,z3,z8];exact .mk) (Dy g _ (by simp;omega)) (by simp[z0,z1,z2,z3,z8]) (by simp[z0,z1,z2,z3,z8];exact .mk) ?_;iterate 3 (refine xO ?_ (h:=by simp[z0,z1,z2,z3,z8];exact .mk))
 refine xO ?_ (h:=by simp[z0,z1,z2,z3,z8,splice];exact .mk);refine xG [] ?_;refine xO ?_ (h:=by simp[z0,z1,z2,z3,z8];exact .mk);refine xF [4] ?_;refine ar (al (by simp[z0,z1,z2,z3,z8,Tryz.f192];exact .mk) ?_ ?_)
 ·simp
 simp[hrr]
theorem GQ(g:Gl)(o0 o1 o2 o3 o8:aN.Obj)(a:dp)(o:Op)(ho:∀m,bE m [o0,o1,o2,o3,o8]=true)(ha:a.Ok)(k:Nat)(hix:o.ix=k)(hk:k<a.data.length)(hd:(nth a.data k).length≤2^40)(hq:cx (nth a.data k).length o.off o.n=false):∀B S,a7 Tryz.prog g B S ⟨9,true⟩ 192 [.ptr 7 0 0,.agg [.d (vI o.act),.d (vI o.ix),.d (vI o.gen),.d (vI o.n),.d (vI o.off),.d (rB o.b),.d (vS o.name)]] [o0,o1,o2,o3,.row 1 (a.aw.map vI),.row 1 (a.data.map oB),.row 3 (a.roots.map ak),.var 151 [.hdr 4 0 a.aw.length,.hdr 5 0 a.data.length,(.hdr 6 0 a.roots.length),.d (vI 0),.d (vI 0),.d (.v (.slice none 0 0))],o8]
    (fun x q=>x = .d (vI 1)∧q=[o0,o1,o2,o3,.row 1 (a.aw.map vI),.row 1 (a.data.map oB),.row 3 (a.roots.map ak),.var 151 [.hdr 4 0 a.aw.length,.hdr 5 0 a.data.length,(.hdr 6 0 a.roots.length),.d (vI 0),.d (vI 0),.d (.v (.slice none 0 0))],o8]):=by
 refine aL Tryz.func192 rfl (Nat.le_of_ble_eq_true rfl) fun B S=>?_
 obtain⟨z0,z1,z2,z3,z8⟩:o0.lt 9=true∧o1.lt 9=true∧o2.lt 9=true∧o3.lt 9=true∧o8.lt 9=true:=by simpa using ho 9
 simp only[hix];refine xU ?_;iterate 2 (refine xO ?_ (h:=by simp[z0,z1,z2,z3,z8];exact .mk))
 refine xG [0,3] ?_;iterate 7 (refine xO ?_ (h:=by simp[z0,z1,z2,z3,z8];exact .mk))
 refine az rfl rfl rfl rfl (by simp[z0,z1,z2,z3,z8];exact .mk) ⟨_,Tryz.func224,rfl,rfl⟩ (Fb g _ _ _ _ _ _ a k o.gen o.off o.n false (fun m=>by have:=ho m;simp at this;simp[this]) hk hd hq) (.inr ⟨[],by simp⟩) ?_;iterate 5 (refine xO ?_ (h:=by simp[z0,z1,z2,z3,z8];exact .mk))
 refine xF [0,5,6] ?_;refine ab (xU ?_);iterate 2 (refine xO ?_ (h:=by simp[z0,z1,z2,z3,z8];exact .mk))
 refine xQ [0,5,19] ?_ ?_
 ·intro h19;refine xU ?_;refine xO ?_ (h:=by simp[z0,z1,z2,z3,z8];exact .mk);refine xF [4] ?_;refine ar (aK 9 (by simp[z0,z1,z2,z3,z8,Tryz.f192];exact .mk) ?_ ?_ (by simp) (by simp[z0,z1,z2,z3,z8]) (by simp[z0,z1,z2,z3,z8]))
  ·simp
  simp
 intro h19;simp at h19
theorem KK(g:Gl)(o0 o1 o2 o3 o8:aN.Obj)(a:dp)(o:Op)(ho:∀m,bE m [o0,o1,o2,o3,o8]=true)(ha:a.Ok)(k:Nat)(hix:o.ix=k)(hk:k<a.data.length)(hd:(nth a.data k).length≤2^40)(fx:dA [o0,o1,o2,o3,o8]=true)(qe:o.b.length≤2^40)(q:Bool)(hq:cx (nth a.data k).length o.off o.b.length=q):∀B S,a7 Tryz.prog g B S ⟨9,false⟩ 193 [.ptr 7 0 0,.agg [.d (vI o.act),.d (vI o.ix),.d (vI o.gen),.d (vI o.n),.d (vI o.off),.d (rB o.b),.d (vS o.name)]] [o0,o1,o2,o3,.row 1 (a.aw.map vI),.row 1 (a.data.map oB),.row 3 (a.roots.map ak),.var 151 [.hdr 4 0 a.aw.length,.hdr 5 0 a.data.length,(.hdr 6 0 a.roots.length),.d (vI 0),.d (vI 0),.d (.v (.slice none 0 0))],o8]
    (fun x r=>x = .d (vI (dx a k o.off o.b).e)∧r=[o0,o1,o2,o3,.row 1 (a.aw.map vI),.row 1 ((dx a k o.off o.b).a.data.map oB),.row 3 (a.roots.map ak),.var 151 [.hdr 4 0 a.aw.length,.hdr 5 0 a.data.length,(.hdr 6 0 a.roots.length),.d (vI 0),.d (vI 0),.d (.v (.slice none 0 0))],o8]):=by
 refine aL Tryz.func193 rfl (Nat.le_of_ble_eq_true rfl) fun B S=>?_
 obtain⟨z0,z1,z2,z3,z8⟩:o0.lt 9=true∧o1.lt 9=true∧o2.lt 9=true∧o3.lt 9=true∧o8.lt 9=true:=by simpa using ho 9
 simp only[hix];simp only[dA,Bool.and_eq_true,and_true]at fx;refine xU ?_;iterate 2 (refine xO ?_ (h:=by simp[z0,z1,z2,z3,z8];exact .mk))
 refine xF [0,3] ?_;refine ab (fq (s2:=slots [(0,.ptr 7 0 0),(3,.ptr 9 0 0)]) (aZ:=[o0,o1,o2,o3,.row 1 (a.aw.map vI),.hole k 10 (nth a.data k).length (a.data.map oB),.row 3 (a.roots.map ak),.var 151 [.hdr 4 0 a.aw.length,.hdr 5 0 a.data.length,(.hdr 6 0 a.roots.length),.d (vI 0),.d (vI 0),.d (.v (.slice none 0 0))],o8,.var 73 [.d (vI o.act),.d (vI k),.d (vI o.gen),.d (vI o.n),.d (vI o.off),.d (rB o.b),.d (vS o.name)],.row 1 ((nth a.data k).map vB)]) (Weak.open (xs:=a.data.map oB) (ys:=(nth a.data k).map vB) 5 k rfl rfl (ao (f:=oB) hk) ?_ ?_ (by simp)) ?_)
 ·simp
 ·simp[fx]
 refine xY ?_;iterate 8 (refine xO ?_ (h:=by simp[z0,z1,z2,z3,z8];exact .mk))
 refine az rfl rfl rfl rfl (by simp[z0,z1,z2,z3,z8];exact .mk) ⟨_,Tryz.func224,rfl,rfl⟩ (GS g o0 o1 o2 o3 o8 (.var 73 [.d (vI o.act),.d (vI k),.d (vI o.gen),.d (vI o.n),.d (vI o.off),.d (rB o.b),.d (vS o.name)]) a k o.gen o.off o.b.length q (fun m=>by have:=ho m;simp at this;simp[this]) hk hd hq) (.inr ⟨[],by simp⟩) ?_;iterate 5 (refine xO ?_ (h:=by simp[z0,z1,z2,z3,z8];exact .mk))
 refine xF [3,5,6] ?_;refine ab (xU ?_);iterate 2 (refine xO ?_ (h:=by simp[z0,z1,z2,z3,z8];exact .mk))
 refine xQ [3,5,20] ?_ ?_
 ·intro h20;obtain rfl:q=false:=by simpa using h20
  have hr:dx a k o.off o.b=⟨a,0,0,[],1⟩:=by simp[dx,hq]
  refine ab (fq (aZ:=[o0,o1,o2,o3,.row 1 (a.aw.map vI),.row 1 ((a.data.map oB).set k (.row .own 1 ((nth a.data k).map vB))),.row 3 (a.roots.map ak),.var 151 [.hdr 4 0 a.aw.length,.hdr 5 0 a.data.length,(.hdr 6 0 a.roots.length),.d (vI 0),.d (vI 0),.d (.v (.slice none 0 0))],o8,.var 73 [.d (vI o.act),.d (vI k),.d (vI o.gen),.d (vI o.n),.d (vI o.off),.d (rB o.b),.d (vS o.name)],.dead]) (Weak.close (i:=k) (r':=10) (k:=1) (xs:=a.data.map oB) (ys:=(nth a.data k).map vB) (len:=(nth a.data k).length) 5 rfl rfl ?_) ?_)
  ·simp
  refine xY ?_;refine xO ?_ (h:=by simp[z0,z1,z2,z3,z8];exact .mk);refine xF [4] ?_;refine ar (aK 9 (by simp[z0,z1,z2,z3,z8,Tryz.f193];exact .mk) ?_ ?_ (by simp) (by simp[z0,z1,z2,z3,z8]) (by simp[z0,z1,z2,z3,z8]))
  ·simp[hr]
  simp only[hr];first|rw[l4 hk];rfl|rw[mJ];rfl
 intro h20;obtain rfl:q=true:=by simpa using h20
 have hx:0≤o.off∧o.off≤(nth a.data k).length∧(o.b.length:Int)≤(nth a.data k).length-o.off:=by rw[cx]at hq;simp at hq;omega
 have hr:dx a k o.off o.b=⟨{a with data:=a.data.set k (Go.splice (nth a.data k) o.off.toNat o.b)},0,0,[],0⟩:=by simp[dx,hq]
 refine af ?_;refine xT ?_;iterate 3 (refine xO ?_ (h:=by simp[z0,z1,z2,z3,z8];exact .mk))
 refine xO ?_ (h:=by simp[z0,z1,z2,z3,z8,qV,show o.off.toNat+o.b.length≤(nth a.data k).length from by omega];exact .mk);refine xF [] ?_;refine ab (fq (aZ:=[o0,o1,o2,o3,.row 1 (a.aw.map vI),.row 1 ((a.data.map oB).set k (.row .own 1 (Go.splice ((nth a.data k).map vB) o.off.toNat (o.b.map vB)))),.row 3 (a.roots.map ak),.var 151 [.hdr 4 0 a.aw.length,.hdr 5 0 a.data.length,(.hdr 6 0 a.roots.length),.d (vI 0),.d (vI 0),.d (.v (.slice none 0 0))],o8,.var 73 [.d (vI o.act),.d (vI k),.d (vI o.gen),.d (vI o.n),.d (vI o.off),.d (rB o.b),.d (vS o.name)],.dead]) (Weak.close (i:=k) (r':=10) (k:=1) (xs:=a.data.map oB) (ys:=Go.splice ((nth a.data k).map vB) o.off.toNat (o.b.map vB)) (len:=(nth a.data k).length) 5 rfl rfl ?_) ?_)
 ·rw[sQ,List.length_map,Go.length_splice _ _ _ (by omega)]
 refine xY ?_;refine xO ?_ (h:=by simp[z0,z1,z2,z3,z8];exact .mk);refine xF [4] ?_;refine ar (aK 9 (by simp[z0,z1,z2,z3,z8,Tryz.f193];exact .mk) ?_ ?_ (by simp) (by simp[z0,z1,z2,z3,z8]) (by simp[z0,z1,z2,z3,z8]))
 ·simp[hr]
 simp only[hr];first|rw[l4 hk];rfl|rw[mJ];rfl
open Go.aN
attribute [simp] Tryz.f184 Tryz.f185 Tryz.f187
theorem GP(g:Gl)(o0 o1 o2 o3 o8:aN.Obj)(a:dp)(o:Op)(ho:∀m,bE m [o0,o1,o2,o3,o8]=true)(ha:a.Ok)(hact:o.act=6)(hr:dQ a.roots)(hn:o.name.size≤2^40):∀B S,a7 Tryz.prog g B S ⟨9,true⟩ 187 [.ptr 7 0 0,.agg [.d (vI o.act),.d (vI o.ix),.d (vI o.gen),.d (vI o.n),.d (vI o.off),.d (rB o.b),.d (vS o.name)]] [o0,o1,o2,o3,.row 1 (a.aw.map vI),.row 1 (a.data.map oB),.row 3 (a.roots.map ak),.var 151 [.hdr 4 0 a.aw.length,.hdr 5 0 a.data.length,(.hdr 6 0 a.roots.length),.d (vI 0),.d (vI 0),.d (.v (.slice none 0 0))],o8]
    (fun x r=>x = .d (vI (dg a.roots o.name o.ix o.gen).2)∧r=[o0,o1,o2,o3,.row 1 (a.aw.map vI),.row 1 (a.data.map oB),.row 3 (a.roots.map ak),.var 151 [.hdr 4 0 a.aw.length,.hdr 5 0 a.data.length,.hdr 10 0 (dg a.roots o.name o.ix o.gen).1.length,.d (vI 0),.d (vI 0),.d (.v (.slice none 0 0))],o8,.var 73 [.d (vI o.act),.d (vI o.ix),.d (vI o.gen),.d (vI o.n),.d (vI o.off),.d (rB o.b),.d (vS o.name)],.row 3 ((dg a.roots o.name o.ix o.gen).1.map ak)]):=by
 refine aL Tryz.func187 rfl (Nat.le_of_ble_eq_true rfl) fun B S=>?_
 obtain⟨z0,z1,z2,z3,z8⟩:o0.lt 9=true∧o1.lt 9=true∧o2.lt 9=true∧o3.lt 9=true∧o8.lt 9=true:=by simpa using ho 9
 refine xU ?_;iterate 2 (refine xO ?_ (h:=by simp[z0,z1,z2,z3,z8];exact .mk))
 refine xG [0,3,4] ?_;iterate 6 (refine xO ?_ (h:=by simp[z0,z1,z2,z3,z8];exact .mk))
 refine xF [0,3,4,5] ?_;refine ab (xU ?_);iterate 2 (refine xO ?_ (h:=by simp[z0,z1,z2,z3,z8];exact .mk))
 refine xF [0,3,4,5,12] ?_;refine ag (xU ?_);iterate 2 (refine xO ?_ (h:=by simp[z0,z1,z2,z3,z8];exact .mk))
 refine xQ [0,3,4,5,12,13] ?_ ?_
 ·intro i7;refine xY ?_;iterate 5 (refine xO ?_ (h:=by simp[z0,z1,z2,z3,z8];exact .mk))
  refine bA rfl rfl rfl rfl (by simp[z0,z1,z2,z3,z8];exact .mk) (by simp[z0,z1,z2,z3,z8,au,Function.comp_def];exact .mk) (Jy g a.roots _ _ _ hr hn) (by simp[z0,z1,z2,z3,z8]) (by simp[z0,z1,z2,z3,z8];exact .mk) ?_;iterate 5 (refine xO ?_ (h:=by simp[z0,z1,z2,z3,z8];exact .mk))
  refine xG [0,4,5] ?_;iterate 5 (refine xO ?_ (h:=by simp[z0,z1,z2,z3,z8];exact .mk))
  refine xO ?_ (h:=by simp[z0,z1,z2,z3,z8,splice];exact .mk);refine xG [4] ?_;iterate 2 (refine xO ?_ (h:=by simp[z0,z1,z2,z3,z8];exact .mk))
  refine xF [4] ?_;refine ar (al (by simp[z0,z1,z2,z3,z8,Tryz.f187];exact .mk) ?_ ?_)
  ·simp
  simp
 intro i7;simp[hact]at i7
theorem GO(g:Gl)(o0 o1 o2 o3 o8:aN.Obj)(a:dp)(o:Op)(ho:∀m,bE m [o0,o1,o2,o3,o8]=true)(ha:a.Ok)(hact:o.act=7)(hr:dQ a.roots)(hn:o.name.size≤2^40):∀B S,a7 Tryz.prog g B S ⟨9,true⟩ 187 [.ptr 7 0 0,.agg [.d (vI o.act),.d (vI o.ix),.d (vI o.gen),.d (vI o.n),.d (vI o.off),.d (rB o.b),.d (vS o.name)]] [o0,o1,o2,o3,.row 1 (a.aw.map vI),.row 1 (a.data.map oB),.row 3 (a.roots.map ak),.var 151 [.hdr 4 0 a.aw.length,.hdr 5 0 a.data.length,(.hdr 6 0 a.roots.length),.d (vI 0),.d (vI 0),.d (.v (.slice none 0 0))],o8]
    (fun x r=>x = .d (vI (ef a.roots o.name).2.2)∧r=[o0,o1,o2,o3,.row 1 (a.aw.map vI),.row 1 (a.data.map oB),.row 3 (a.roots.map ak),.var 151 [.hdr 4 0 a.aw.length,.hdr 5 0 a.data.length,(.hdr 6 0 a.roots.length),.d (vI (ef a.roots o.name).1),.d (vI (ef a.roots o.name).2.1),.d (.v (.slice none 0 0))],o8]):=by
 refine aL Tryz.func187 rfl (Nat.le_of_ble_eq_true rfl) fun B S=>?_
 obtain⟨z0,z1,z2,z3,z8⟩:o0.lt 9=true∧o1.lt 9=true∧o2.lt 9=true∧o3.lt 9=true∧o8.lt 9=true:=by simpa using ho 9
 refine xU ?_;iterate 2 (refine xO ?_ (h:=by simp[z0,z1,z2,z3,z8];exact .mk))
 refine xG [0,3,4] ?_;iterate 6 (refine xO ?_ (h:=by simp[z0,z1,z2,z3,z8];exact .mk))
 refine xF [0,3,4,5] ?_;refine ab (xU ?_);iterate 2 (refine xO ?_ (h:=by simp[z0,z1,z2,z3,z8];exact .mk))
 refine xF [0,3,4,5,12] ?_;refine ag (xU ?_);iterate 2 (refine xO ?_ (h:=by simp[z0,z1,z2,z3,z8];exact .mk))
 refine xQ [0,3,4,5,12,13] ?_ ?_
 ·intro i7;simp[hact]at i7
 intro i7;refine xU ?_;iterate 2 (refine xO ?_ (h:=by simp[z0,z1,z2,z3,z8];exact .mk))
 refine xQ [0,3,4,5,12,24] ?_ ?_
 ·intro cv;refine xY ?_;iterate 4 (refine xO ?_ (h:=by simp[z0,z1,z2,z3,z8];exact .mk))
  refine bA rfl rfl rfl rfl (by simp[z0,z1,z2,z3,z8];exact .mk) (by simp[z0,z1,z2,z3,z8,au,Function.comp_def];exact .mk) (Jz g a.roots _ hr hn) (by simp[z0,z1,z2,z3,z8]) (by simp[z0,z1,z2,z3,z8];exact .mk) ?_;iterate 6 (refine xO ?_ (h:=by simp[z0,z1,z2,z3,z8];exact .mk))
  refine xO ?_ (h:=by simp[z0,z1,z2,z3,z8,splice];exact .mk);refine xO ?_ (h:=by simp[z0,z1,z2,z3,z8];exact .mk);refine xG [0,4,5] ?_;iterate 5 (refine xO ?_ (h:=by simp[z0,z1,z2,z3,z8];exact .mk))
  refine xO ?_ (h:=by simp[z0,z1,z2,z3,z8,splice];exact .mk);refine xG [4] ?_;iterate 2 (refine xO ?_ (h:=by simp[z0,z1,z2,z3,z8];exact .mk))
  refine xF [4] ?_;refine ar (aK 9 (by simp[z0,z1,z2,z3,z8,Tryz.f187];exact .mk) ?_ ?_ (by simp) (by simp[z0,z1,z2,z3,z8]) (by simp[z0,z1,z2,z3,z8]))
  ·simp
  simp
 intro cv;simp[hact]at cv
theorem GN(g:Gl)(o0 o1 o2 o3 o8:aN.Obj)(a:dp)(o:Op)(ho:∀m,bE m [o0,o1,o2,o3,o8]=true)(ha:a.Ok)(hact:o.act=8)(hr:dQ a.roots)(hn:o.name.size≤2^40):∀B S,a7 Tryz.prog g B S ⟨9,true⟩ 187 [.ptr 7 0 0,.agg [.d (vI o.act),.d (vI o.ix),.d (vI o.gen),.d (vI o.n),.d (vI o.off),.d (rB o.b),.d (vS o.name)]] [o0,o1,o2,o3,.row 1 (a.aw.map vI),.row 1 (a.data.map oB),.row 3 (a.roots.map ak),.var 151 [.hdr 4 0 a.aw.length,.hdr 5 0 a.data.length,(.hdr 6 0 a.roots.length),.d (vI 0),.d (vI 0),.d (.v (.slice none 0 0))],o8]
    (fun x r=>x = .d (vI (cJ a.roots o.name).2)∧r=[o0,o1,o2,o3,.row 1 (a.aw.map vI),.row 1 (a.data.map oB),.row 3 (a.roots.map ak),.var 151 [.hdr 4 0 a.aw.length,.hdr 5 0 a.data.length,.hdr 10 0 (cJ a.roots o.name).1.length,.d (vI 0),.d (vI 0),.d (.v (.slice none 0 0))],o8,.var 73 [.d (vI o.act),.d (vI o.ix),.d (vI o.gen),.d (vI o.n),.d (vI o.off),.d (rB o.b),.d (vS o.name)],.row 3 ((cJ a.roots o.name).1.map ak)]):=by
 refine aL Tryz.func187 rfl (Nat.le_of_ble_eq_true rfl) fun B S=>?_
 obtain⟨z0,z1,z2,z3,z8⟩:o0.lt 9=true∧o1.lt 9=true∧o2.lt 9=true∧o3.lt 9=true∧o8.lt 9=true:=by simpa using ho 9
 refine xU ?_;iterate 2 (refine xO ?_ (h:=by simp[z0,z1,z2,z3,z8];exact .mk))
 refine xG [0,3,4] ?_;iterate 6 (refine xO ?_ (h:=by simp[z0,z1,z2,z3,z8];exact .mk))
 refine xF [0,3,4,5] ?_;refine ab (xU ?_);iterate 2 (refine xO ?_ (h:=by simp[z0,z1,z2,z3,z8];exact .mk))
 refine xF [0,3,4,5,12] ?_;refine ag (xU ?_);iterate 2 (refine xO ?_ (h:=by simp[z0,z1,z2,z3,z8];exact .mk))
 refine xQ [0,3,4,5,12,13] ?_ ?_
 ·intro i7;simp[hact]at i7
 intro i7;refine xU ?_;iterate 2 (refine xO ?_ (h:=by simp[z0,z1,z2,z3,z8];exact .mk))
 refine xQ [0,3,4,5,12,24] ?_ ?_
 ·intro cv;simp[hact]at cv
 intro cv;refine xU ?_;iterate 2 (refine xO ?_ (h:=by simp[z0,z1,z2,z3,z8];exact .mk))
 refine xQ [0,3,4,5,37] ?_ ?_
 ·intro h37;refine xY ?_;iterate 3 (refine xO ?_ (h:=by simp[z0,z1,z2,z3,z8];exact .mk))
  refine bA rfl rfl rfl rfl (by simp[z0,z1,z2,z3,z8];exact .mk) (by simp[z0,z1,z2,z3,z8,au,Function.comp_def];exact .mk) (JA g a.roots _ hr hn) (by simp[z0,z1,z2,z3,z8]) (by simp[z0,z1,z2,z3,z8];exact .mk) ?_;iterate 5 (refine xO ?_ (h:=by simp[z0,z1,z2,z3,z8];exact .mk))
  refine xG [0,4,5] ?_;iterate 5 (refine xO ?_ (h:=by simp[z0,z1,z2,z3,z8];exact .mk))
  refine xO ?_ (h:=by simp[z0,z1,z2,z3,z8,splice];exact .mk);refine xG [4] ?_;iterate 2 (refine xO ?_ (h:=by simp[z0,z1,z2,z3,z8];exact .mk))
  refine xF [4] ?_;refine ar (al (by simp[z0,z1,z2,z3,z8,Tryz.f187];exact .mk) ?_ ?_)
  ·simp
  simp
 intro h37;simp[hact]at h37
theorem KF(g:Gl)(o0 o1 o2 o3 o8:aN.Obj)(a:dp)(o:Op)(e:Nat)(ho:∀m,bE m [o0,o1,o2,o3,o8]=true):∀B S,a7 Tryz.prog g B S ⟨10,true⟩ 185 [.agg [.d (vI o.act),.d (vI o.ix),.d (vI o.gen),.d (vI o.n),.d (vI o.off),.d (rB o.b),.d (vS o.name)],.ptr 9 0 0] [o0,o1,o2,o3,.row 1 (a.aw.map vI),.row 1 (a.data.map oB),.row 3 (a.roots.map ak),.var 151 [.hdr 4 0 a.aw.length,.hdr 5 0 a.data.length,(.hdr 6 0 a.roots.length),.d (vI 0),.d (vI 0),.d (.v (.slice none 0 0))],o8,.var 51 [.d (vI e)]]
    (fun x r=>x = .d (vI e)∧r=[o0,o1,o2,o3,.row 1 (a.aw.map vI),.row 1 (a.data.map oB),.row 3 (a.roots.map ak),.var 151 [.hdr 4 0 a.aw.length,.hdr 5 0 a.data.length,(.hdr 6 0 a.roots.length),.d (vI 0),.d (vI 0),.d (.v (.slice none 0 0))],o8,.var 51 [.d (vI e)]]):=by
 refine aL Tryz.func185 rfl (Nat.le_of_ble_eq_true rfl) fun B S=>?_
 obtain⟨z0,z1,z2,z3,z8⟩:o0.lt 10=true∧o1.lt 10=true∧o2.lt 10=true∧o3.lt 10=true∧o8.lt 10=true:=by simpa using ho 10
 refine xU ?_;iterate 2 (refine xO ?_ (h:=by simp[z0,z1,z2,z3,z8];exact .mk))
 refine xG [1] ?_;iterate 2 (refine xO ?_ (h:=by simp[z0,z1,z2,z3,z8];exact .mk))
 refine xF [3] ?_;refine ar (aK 10 (by simp[z0,z1,z2,z3,z8,Tryz.f185];exact .mk) ?_ ?_ (by simp) (by simp[z0,z1,z2,z3,z8]) (by simp[z0,z1,z2,z3,z8]))
 ·simp
 simp
theorem fg(g:Gl)(o0 o1 o2 o3 o8:aN.Obj)(a:dp)(e:Nat):∀B S,a7 Tryz.prog g B S ⟨9,true⟩ 184 [.d (vI e)] [o0,o1,o2,o3,.row 1 (a.aw.map vI),.row 1 (a.data.map oB),.row 3 (a.roots.map ak),.var 151 [.hdr 4 0 a.aw.length,.hdr 5 0 a.data.length,(.hdr 6 0 a.roots.length),.d (vI 0),.d (vI 0),.d (.v (.slice none 0 0))],o8]
    (fun x r=>x = .fn (.func 185) [] [.ptr 9 0 0]∧r=[o0,o1,o2,o3,.row 1 (a.aw.map vI),.row 1 (a.data.map oB),.row 3 (a.roots.map ak),.var 151 [.hdr 4 0 a.aw.length,.hdr 5 0 a.data.length,(.hdr 6 0 a.roots.length),.d (vI 0),.d (vI 0),.d (.v (.slice none 0 0))],o8,.var 51 [.d (vI e)]]):=by
 refine aL Tryz.func184 rfl (Nat.le_of_ble_eq_true rfl) fun B S=>?_
 refine xU ?_;refine ay ?_;refine xG [1] ?_;refine bU [2] ?_;refine ar (al (by simp;exact .mk) ?_ ?_)
 ·simp
 simp
open Go.aN
attribute [simp] Tryz.f134
theorem kN(g:Gl)(o0 o1 o2 o3:aN.Obj)(a:dp)(o:Op)(hgd:a.data.length=a.aw.length)(hn:o.name.size≤2^40)(f:Nat)(hf:bq a o=(f:Int)):∀B S,a7 Tryz.prog g B S ⟨8,true⟩ 134 [.ptr 7 0 0,.agg [.d (vI o.act),.d (vI o.ix),.d (vI o.gen),.d (vI o.n),.d (vI o.off),.d (rB o.b),.d (vS o.name)]] [o0,o1,o2,o3,.row 1 (a.aw.map vI),.row 1 (a.data.map oB),.row 3 (a.roots.map ak),.var 151 [.hdr 4 0 a.aw.length,.hdr 5 0 a.data.length,(.hdr 6 0 a.roots.length),.d (vI 0),.d (vI 0),.d (.v (.slice none 0 0))]]
    (fun x r=>x = .fn (.func f) [.ptr 7 0 0] []∧r=[o0,o1,o2,o3,.row 1 (a.aw.map vI),.row 1 (a.data.map oB),.row 3 (a.roots.map ak),.var 151 [.hdr 4 0 a.aw.length,.hdr 5 0 a.data.length,(.hdr 6 0 a.roots.length),.d (vI 0),.d (vI 0),.d (.v (.slice none 0 0))],.var 73 [.d (vI o.act),.d (vI o.ix),.d (vI o.gen),.d (vI o.n),.d (vI o.off),.d (rB o.b),.d (vS o.name)]]):=by
 refine aL Tryz.func134 rfl (Nat.le_of_ble_eq_true rfl) fun B S=>?_
 unfold bq at hf;refine xU ?_;refine ay ?_;refine xG [0,3] ?_;refine xH [0,3,5] ?_;refine ab (ag ?_);refine xU ?_;refine bx ?_;refine xQ [0,3,5,6] ?_ ?_
 ·intro h6;have k1:o.act=1:=by simpa using h6
  rw[if_pos k1]at hf;refine xU ?_;refine dC [4] ?_;refine ar (al (by simp;exact .mk) ?_ ?_)
  ·simp;first|(show (_:Nat)=_;omega)|(exfalso;omega)
  first|rfl|omega
 intro h6;have k1:o.act≠1:=by simpa using h6
 rw[if_neg k1]at hf;refine ab (xU ?_);refine bx ?_;refine xQ [0,3,5,12] ?_ ?_
 ·intro h12;have k2:o.act=7:=by simpa using h12
  refine af fun _=>?_;refine bd rfl ?_ ?_
  ·intro mY;have k3:o.act=7∨o.act=8:=by simp at mY;omega
   rw[if_pos k3]at hf;refine xU ?_;refine dC [4] ?_;refine ar (al (by simp;exact .mk) ?_ ?_)
   ·simp;first|(show (_:Nat)=_;omega)|(exfalso;omega)
   first|rfl|omega
  intro mY;have k3:¬(o.act=7∨o.act=8):=by simp at mY;omega
  rw[if_neg k3]at hf;refine ab (xU ?_);refine bx ?_;refine xQ [0,3,5,21] ?_ ?_
  ·intro h21;have k4:o.act<1:=by simpa using h21
   refine af fun _=>?_;refine bd rfl ?_ ?_
   ·intro gh;have nd:o.act<1∨8<o.act:=by simp at gh;omega
    rw[if_pos nd]at hf;refine xU ?_;refine xO ?_;refine az rfl rfl rfl rfl (by simp;exact .mk) ⟨_,Tryz.func184,rfl,rfl⟩ (fg g o0 o1 o2 o3 _ a 1) (.inr ⟨_,rfl⟩) ?_;refine xH [4] ?_;refine ar (al (by simp;exact .mk) ?_ ?_)
    ·simp;first|(show (_:Nat)=_;omega)|(exfalso;omega)
    first|rfl|omega
   intro gh;have nd:¬(o.act<1∨8<o.act):=by simp at gh;omega
   rw[if_neg nd]at hf;refine xU ?_;refine bx ?_;iterate 2 (refine bg rfl (by simp;exact .mk) rfl (by simp<;>omega) (fun hb=>by simp;exact .mk) ?_)
   refine bI rfl (by simp;exact .mk) rfl rfl (by simp) (by simp;exact .mk) (by simp[au,Function.comp_def];exact .mk) (fun hb=>mC g _ hn) (by simp) (by simp;exact .mk) (by simp) ?_;refine bg rfl (by simp;exact .mk) rfl (by simp<;>omega) (fun hb=>by simp;exact .mk) ?_;refine xP ?_;refine bM rfl rfl rfl (by simp<;>omega) (by simp;exact .mk) ?_;refine run_end [0,3,5,30] (by simp<;>omega) (by simp;exact .mk) ?_;rintro -;refine bd rfl ?_ ?_
   ·intro fm;have k5:o.act=6∧cu o.name=false:=by simpa using fm
    rw[if_pos k5]at hf;refine xU ?_;refine xO ?_;refine az rfl rfl rfl rfl (by simp;exact .mk) ⟨_,Tryz.func184,rfl,rfl⟩ (fg g o0 o1 o2 o3 _ a 3) (.inr ⟨_,rfl⟩) ?_;refine xH [4] ?_;refine ar (al (by simp;exact .mk) ?_ ?_)
    ·simp;first|(show (_:Nat)=_;omega)|(exfalso;omega)
    first|rfl|omega
   intro fm;have k5:¬(o.act=6∧cu o.name=false):=by simpa using fm
   rw[if_neg k5]at hf;refine ab ?_;refine aS (by kernel_rfl) [] 4 [0,1,2,3,4,5,6,7,8] (by decide +kernel) ?_;iterate 6 refine xO ?_
   refine xC (pG g a _ _ hgd) ?_ (he:=by simp[au,Function.comp_def];exact .mk);refine ay ?_;refine xQ [0,3,5,42] ?_ ?_
   ·intro m7;have k6:cZ a o.ix o.gen=false:=by simpa using m7
    rw[if_pos k6]at hf;refine xU ?_;refine xO ?_;refine az rfl rfl rfl rfl (by simp;exact .mk) ⟨_,Tryz.func184,rfl,rfl⟩ (fg g o0 o1 o2 o3 _ a 8) (.inr ⟨_,rfl⟩) ?_;refine xH [4] ?_;refine ar (al (by simp;exact .mk) ?_ ?_)
    ·simp;first|(show (_:Nat)=_;omega)|(exfalso;omega)
    first|rfl|omega
   intro m7;have k6:¬cZ a o.ix o.gen=false:=by simpa using m7
   rw[if_neg k6]at hf;refine xU ?_;refine bx ?_;refine xQ [0,3,53] ?_ ?_
   ·intro lN;have k7:o.act=2:=by simpa using lN
    rw[if_pos k7]at hf;refine xU ?_;refine dC [4] ?_;refine ar (al (by simp;exact .mk) ?_ ?_)
    ·simp;first|(show (_:Nat)=_;omega)|(exfalso;omega)
    first|rfl|omega
   intro lN;have k7:o.act≠2:=by simpa using lN
   rw[if_neg k7]at hf;refine xU ?_;refine bx ?_;refine xQ [0,3,59] ?_ ?_
   ·intro mB;have k8:o.act=3:=by simpa using mB
    rw[if_pos k8]at hf;refine xU ?_;refine dC [4] ?_;refine ar (al (by simp;exact .mk) ?_ ?_)
    ·simp;first|(show (_:Nat)=_;omega)|(exfalso;omega)
    first|rfl|omega
   intro mB;have k8:o.act≠3:=by simpa using mB
   rw[if_neg k8]at hf;refine xU ?_;refine bx ?_;refine xQ [0,3,65] ?_ ?_
   ·intro lO;have k9:o.act=4:=by simpa using lO
    rw[if_pos k9]at hf;refine xU ?_;refine dC [4] ?_;refine ar (al (by simp;exact .mk) ?_ ?_)
    ·simp;first|(show (_:Nat)=_;omega)|(exfalso;omega)
    first|rfl|omega
   intro lO;have k9:o.act≠4:=by simpa using lO
   rw[if_neg k9]at hf;refine xU ?_;refine bx ?_;refine xQ [0,71] ?_ ?_
   ·intro lj;have k10:o.act=5:=by simpa using lj
    rw[if_pos k10]at hf;refine xU ?_;refine dC [4] ?_;refine ar (al (by simp;exact .mk) ?_ ?_)
    ·simp;first|(show (_:Nat)=_;omega)|(exfalso;omega)
    first|rfl|omega
   intro lj;have k10:o.act≠5:=by simpa using lj
   rw[if_neg k10]at hf;refine af ?_;refine xT ?_;refine dC [4] ?_;refine ar (al (by simp;exact .mk) ?_ ?_)
   ·simp;first|(show (_:Nat)=_;omega)|(exfalso;omega)
   first|rfl|omega
  intro h21;have k4:¬o.act<1:=by simpa using h21
  refine xY ?_;refine bx ?_;refine xQ [0,3,5,21] ?_ ?_
  ·intro gh;have nd:o.act<1∨8<o.act:=by simp at gh;omega
   rw[if_pos nd]at hf;refine xU ?_;refine xO ?_;refine az rfl rfl rfl rfl (by simp;exact .mk) ⟨_,Tryz.func184,rfl,rfl⟩ (fg g o0 o1 o2 o3 _ a 1) (.inr ⟨_,rfl⟩) ?_;refine xH [4] ?_;refine ar (al (by simp;exact .mk) ?_ ?_)
   ·simp;first|(show (_:Nat)=_;omega)|(exfalso;omega)
   first|rfl|omega
  intro gh;have nd:¬(o.act<1∨8<o.act):=by simp at gh;omega
  rw[if_neg nd]at hf;refine xU ?_;refine bx ?_;iterate 2 (refine bg rfl (by simp;exact .mk) rfl (by simp<;>omega) (fun hb=>by simp;exact .mk) ?_)
  refine bI rfl (by simp;exact .mk) rfl rfl (by simp) (by simp;exact .mk) (by simp[au,Function.comp_def];exact .mk) (fun hb=>mC g _ hn) (by simp) (by simp;exact .mk) (by simp) ?_;refine bg rfl (by simp;exact .mk) rfl (by simp<;>omega) (fun hb=>by simp;exact .mk) ?_;refine xP ?_;refine bM rfl rfl rfl (by simp<;>omega) (by simp;exact .mk) ?_;refine run_end [0,3,5,30] (by simp<;>omega) (by simp;exact .mk) ?_;rintro -;refine bd rfl ?_ ?_
  ·intro fm;have k5:o.act=6∧cu o.name=false:=by simpa using fm
   rw[if_pos k5]at hf;refine xU ?_;refine xO ?_;refine az rfl rfl rfl rfl (by simp;exact .mk) ⟨_,Tryz.func184,rfl,rfl⟩ (fg g o0 o1 o2 o3 _ a 3) (.inr ⟨_,rfl⟩) ?_;refine xH [4] ?_;refine ar (al (by simp;exact .mk) ?_ ?_)
   ·simp;first|(show (_:Nat)=_;omega)|(exfalso;omega)
   first|rfl|omega
  intro fm;have k5:¬(o.act=6∧cu o.name=false):=by simpa using fm
  rw[if_neg k5]at hf;refine ab ?_;refine aS (by kernel_rfl) [] 4 [0,1,2,3,4,5,6,7,8] (by decide +kernel) ?_;iterate 6 refine xO ?_
  refine xC (pG g a _ _ hgd) ?_ (he:=by simp[au,Function.comp_def];exact .mk);refine ay ?_;refine xQ [0,3,5,42] ?_ ?_
  ·intro m7;have k6:cZ a o.ix o.gen=false:=by simpa using m7
   rw[if_pos k6]at hf;refine xU ?_;refine xO ?_;refine az rfl rfl rfl rfl (by simp;exact .mk) ⟨_,Tryz.func184,rfl,rfl⟩ (fg g o0 o1 o2 o3 _ a 8) (.inr ⟨_,rfl⟩) ?_;refine xH [4] ?_;refine ar (al (by simp;exact .mk) ?_ ?_)
   ·simp;first|(show (_:Nat)=_;omega)|(exfalso;omega)
   first|rfl|omega
  intro m7;have k6:¬cZ a o.ix o.gen=false:=by simpa using m7
  rw[if_neg k6]at hf;refine xU ?_;refine bx ?_;refine xQ [0,3,53] ?_ ?_
  ·intro lN;have k7:o.act=2:=by simpa using lN
   rw[if_pos k7]at hf;refine xU ?_;refine dC [4] ?_;refine ar (al (by simp;exact .mk) ?_ ?_)
   ·simp;first|(show (_:Nat)=_;omega)|(exfalso;omega)
   first|rfl|omega
  intro lN;have k7:o.act≠2:=by simpa using lN
  rw[if_neg k7]at hf;refine xU ?_;refine bx ?_;refine xQ [0,3,59] ?_ ?_
  ·intro mB;have k8:o.act=3:=by simpa using mB
   rw[if_pos k8]at hf;refine xU ?_;refine dC [4] ?_;refine ar (al (by simp;exact .mk) ?_ ?_)
   ·simp;first|(show (_:Nat)=_;omega)|(exfalso;omega)
   first|rfl|omega
  intro mB;have k8:o.act≠3:=by simpa using mB
  rw[if_neg k8]at hf;refine xU ?_;refine bx ?_;refine xQ [0,3,65] ?_ ?_
  ·intro lO;have k9:o.act=4:=by simpa using lO
   rw[if_pos k9]at hf;refine xU ?_;refine dC [4] ?_;refine ar (al (by simp;exact .mk) ?_ ?_)
   ·simp;first|(show (_:Nat)=_;omega)|(exfalso;omega)
   first|rfl|omega
  intro lO;have k9:o.act≠4:=by simpa using lO
  rw[if_neg k9]at hf;refine xU ?_;refine bx ?_;refine xQ [0,71] ?_ ?_
  ·intro lj;have k10:o.act=5:=by simpa using lj
   rw[if_pos k10]at hf;refine xU ?_;refine dC [4] ?_;refine ar (al (by simp;exact .mk) ?_ ?_)
   ·simp;first|(show (_:Nat)=_;omega)|(exfalso;omega)
   first|rfl|omega
  intro lj;have k10:o.act≠5:=by simpa using lj
  rw[if_neg k10]at hf;refine af ?_;refine xT ?_;refine dC [4] ?_;refine ar (al (by simp;exact .mk) ?_ ?_)
  ·simp;first|(show (_:Nat)=_;omega)|(exfalso;omega)
  first|rfl|omega
 intro h12;have k2:o.act≠7:=by simpa using h12
 refine xY ?_;refine bx ?_;refine xQ [0,3,5,12] ?_ ?_
 ·intro mY;have k3:o.act=7∨o.act=8:=by simp at mY;omega
  rw[if_pos k3]at hf;refine xU ?_;refine dC [4] ?_;refine ar (al (by simp;exact .mk) ?_ ?_)
  ·simp;first|(show (_:Nat)=_;omega)|(exfalso;omega)
  first|rfl|omega
 intro mY;have k3:¬(o.act=7∨o.act=8):=by simp at mY;omega
 rw[if_neg k3]at hf;refine ab (xU ?_);refine bx ?_;refine xQ [0,3,5,21] ?_ ?_
 ·intro h21;have k4:o.act<1:=by simpa using h21
  refine af fun _=>?_;refine bd rfl ?_ ?_
  ·intro gh;have nd:o.act<1∨8<o.act:=by simp at gh;omega
   rw[if_pos nd]at hf;refine xU ?_;refine xO ?_;refine az rfl rfl rfl rfl (by simp;exact .mk) ⟨_,Tryz.func184,rfl,rfl⟩ (fg g o0 o1 o2 o3 _ a 1) (.inr ⟨_,rfl⟩) ?_;refine xH [4] ?_;refine ar (al (by simp;exact .mk) ?_ ?_)
   ·simp;first|(show (_:Nat)=_;omega)|(exfalso;omega)
   first|rfl|omega
  intro gh;have nd:¬(o.act<1∨8<o.act):=by simp at gh;omega
  rw[if_neg nd]at hf;refine xU ?_;refine bx ?_;iterate 2 (refine bg rfl (by simp;exact .mk) rfl (by simp<;>omega) (fun hb=>by simp;exact .mk) ?_)
  refine bI rfl (by simp;exact .mk) rfl rfl (by simp) (by simp;exact .mk) (by simp[au,Function.comp_def];exact .mk) (fun hb=>mC g _ hn) (by simp) (by simp;exact .mk) (by simp) ?_;refine bg rfl (by simp;exact .mk) rfl (by simp<;>omega) (fun hb=>by simp;exact .mk) ?_;refine xP ?_;refine bM rfl rfl rfl (by simp<;>omega) (by simp;exact .mk) ?_;refine run_end [0,3,5,30] (by simp<;>omega) (by simp;exact .mk) ?_;rintro -;refine bd rfl ?_ ?_
  ·intro fm;have k5:o.act=6∧cu o.name=false:=by simpa using fm
   rw[if_pos k5]at hf;refine xU ?_;refine xO ?_;refine az rfl rfl rfl rfl (by simp;exact .mk) ⟨_,Tryz.func184,rfl,rfl⟩ (fg g o0 o1 o2 o3 _ a 3) (.inr ⟨_,rfl⟩) ?_;refine xH [4] ?_;refine ar (al (by simp;exact .mk) ?_ ?_)
   ·simp;first|(show (_:Nat)=_;omega)|(exfalso;omega)
   first|rfl|omega
  intro fm;have k5:¬(o.act=6∧cu o.name=false):=by simpa using fm
  rw[if_neg k5]at hf;refine ab ?_;refine aS (by kernel_rfl) [] 4 [0,1,2,3,4,5,6,7,8] (by decide +kernel) ?_;iterate 6 refine xO ?_
  refine xC (pG g a _ _ hgd) ?_ (he:=by simp[au,Function.comp_def];exact .mk);refine ay ?_;refine xQ [0,3,5,42] ?_ ?_
  ·intro m7;have k6:cZ a o.ix o.gen=false:=by simpa using m7
   rw[if_pos k6]at hf;refine xU ?_;refine xO ?_;refine az rfl rfl rfl rfl (by simp;exact .mk) ⟨_,Tryz.func184,rfl,rfl⟩ (fg g o0 o1 o2 o3 _ a 8) (.inr ⟨_,rfl⟩) ?_;refine xH [4] ?_;refine ar (al (by simp;exact .mk) ?_ ?_)
   ·simp;first|(show (_:Nat)=_;omega)|(exfalso;omega)
   first|rfl|omega
  intro m7;have k6:¬cZ a o.ix o.gen=false:=by simpa using m7
  rw[if_neg k6]at hf;refine xU ?_;refine bx ?_;refine xQ [0,3,53] ?_ ?_
  ·intro lN;have k7:o.act=2:=by simpa using lN
   rw[if_pos k7]at hf;refine xU ?_;refine dC [4] ?_;refine ar (al (by simp;exact .mk) ?_ ?_)
   ·simp;first|(show (_:Nat)=_;omega)|(exfalso;omega)
   first|rfl|omega
  intro lN;have k7:o.act≠2:=by simpa using lN
  rw[if_neg k7]at hf;refine xU ?_;refine bx ?_;refine xQ [0,3,59] ?_ ?_
  ·intro mB;have k8:o.act=3:=by simpa using mB
   rw[if_pos k8]at hf;refine xU ?_;refine dC [4] ?_;refine ar (al (by simp;exact .mk) ?_ ?_)
   ·simp;first|(show (_:Nat)=_;omega)|(exfalso;omega)
   first|rfl|omega
  intro mB;have k8:o.act≠3:=by simpa using mB
  rw[if_neg k8]at hf;refine xU ?_;refine bx ?_;refine xQ [0,3,65] ?_ ?_
  ·intro lO;have k9:o.act=4:=by simpa using lO
   rw[if_pos k9]at hf;refine xU ?_;refine dC [4] ?_;refine ar (al (by simp;exact .mk) ?_ ?_)
   ·simp;first|(show (_:Nat)=_;omega)|(exfalso;omega)
   first|rfl|omega
  intro lO;have k9:o.act≠4:=by simpa using lO
  rw[if_neg k9]at hf;refine xU ?_;refine bx ?_;refine xQ [0,71] ?_ ?_
  ·intro lj;have k10:o.act=5:=by simpa using lj
   rw[if_pos k10]at hf;refine xU ?_;refine dC [4] ?_;refine ar (al (by simp;exact .mk) ?_ ?_)
   ·simp;first|(show (_:Nat)=_;omega)|(exfalso;omega)
   first|rfl|omega
  intro lj;have k10:o.act≠5:=by simpa using lj
  rw[if_neg k10]at hf;refine af ?_;refine xT ?_;refine dC [4] ?_;refine ar (al (by simp;exact .mk) ?_ ?_)
  ·simp;first|(show (_:Nat)=_;omega)|(exfalso;omega)
  first|rfl|omega
 intro h21;have k4:¬o.act<1:=by simpa using h21
 refine xY ?_;refine bx ?_;refine xQ [0,3,5,21] ?_ ?_
 ·intro gh;have nd:o.act<1∨8<o.act:=by simp at gh;omega
  rw[if_pos nd]at hf;refine xU ?_;refine xO ?_;refine az rfl rfl rfl rfl (by simp;exact .mk) ⟨_,Tryz.func184,rfl,rfl⟩ (fg g o0 o1 o2 o3 _ a 1) (.inr ⟨_,rfl⟩) ?_;refine xH [4] ?_;refine ar (al (by simp;exact .mk) ?_ ?_)
  ·simp;first|(show (_:Nat)=_;omega)|(exfalso;omega)
  first|rfl|omega
 intro gh;have nd:¬(o.act<1∨8<o.act):=by simp at gh;omega
 rw[if_neg nd]at hf;refine xU ?_;refine bx ?_;iterate 2 (refine bg rfl (by simp;exact .mk) rfl (by simp<;>omega) (fun hb=>by simp;exact .mk) ?_)
 refine bI rfl (by simp;exact .mk) rfl rfl (by simp) (by simp;exact .mk) (by simp[au,Function.comp_def];exact .mk) (fun hb=>mC g _ hn) (by simp) (by simp;exact .mk) (by simp) ?_;refine bg rfl (by simp;exact .mk) rfl (by simp<;>omega) (fun hb=>by simp;exact .mk) ?_;refine xP ?_;refine bM rfl rfl rfl (by simp<;>omega) (by simp;exact .mk) ?_;refine run_end [0,3,5,30] (by simp<;>omega) (by simp;exact .mk) ?_;rintro -;refine bd rfl ?_ ?_
 ·intro fm;have k5:o.act=6∧cu o.name=false:=by simpa using fm
  rw[if_pos k5]at hf;refine xU ?_;refine xO ?_;refine az rfl rfl rfl rfl (by simp;exact .mk) ⟨_,Tryz.func184,rfl,rfl⟩ (fg g o0 o1 o2 o3 _ a 3) (.inr ⟨_,rfl⟩) ?_;refine xH [4] ?_;refine ar (al (by simp;exact .mk) ?_ ?_)
  ·simp;first|(show (_:Nat)=_;omega)|(exfalso;omega)
  first|rfl|omega
 intro fm;have k5:¬(o.act=6∧cu o.name=false):=by simpa using fm
 rw[if_neg k5]at hf;refine ab ?_;refine aS (by kernel_rfl) [] 4 [0,1,2,3,4,5,6,7,8] (by decide +kernel) ?_;iterate 6 refine xO ?_
 refine xC (pG g a _ _ hgd) ?_ (he:=by simp[au,Function.comp_def];exact .mk);refine ay ?_;refine xQ [0,3,5,42] ?_ ?_
 ·intro m7;have k6:cZ a o.ix o.gen=false:=by simpa using m7
  rw[if_pos k6]at hf;refine xU ?_;refine xO ?_;refine az rfl rfl rfl rfl (by simp;exact .mk) ⟨_,Tryz.func184,rfl,rfl⟩ (fg g o0 o1 o2 o3 _ a 8) (.inr ⟨_,rfl⟩) ?_;refine xH [4] ?_;refine ar (al (by simp;exact .mk) ?_ ?_)
  ·simp;first|(show (_:Nat)=_;omega)|(exfalso;omega)
  first|rfl|omega
 intro m7;have k6:¬cZ a o.ix o.gen=false:=by simpa using m7
 rw[if_neg k6]at hf;refine xU ?_;refine bx ?_;refine xQ [0,3,53] ?_ ?_
 ·intro lN;have k7:o.act=2:=by simpa using lN
  rw[if_pos k7]at hf;refine xU ?_;refine dC [4] ?_;refine ar (al (by simp;exact .mk) ?_ ?_)
  ·simp;first|(show (_:Nat)=_;omega)|(exfalso;omega)
  first|rfl|omega
 intro lN;have k7:o.act≠2:=by simpa using lN
 rw[if_neg k7]at hf;refine xU ?_;refine bx ?_;refine xQ [0,3,59] ?_ ?_
 ·intro mB;have k8:o.act=3:=by simpa using mB
  rw[if_pos k8]at hf;refine xU ?_;refine dC [4] ?_;refine ar (al (by simp;exact .mk) ?_ ?_)
  ·simp;first|(show (_:Nat)=_;omega)|(exfalso;omega)
  first|rfl|omega
 intro mB;have k8:o.act≠3:=by simpa using mB
 rw[if_neg k8]at hf;refine xU ?_;refine bx ?_;refine xQ [0,3,65] ?_ ?_
 ·intro lO;have k9:o.act=4:=by simpa using lO
  rw[if_pos k9]at hf;refine xU ?_;refine dC [4] ?_;refine ar (al (by simp;exact .mk) ?_ ?_)
  ·simp;first|(show (_:Nat)=_;omega)|(exfalso;omega)
  first|rfl|omega
 intro lO;have k9:o.act≠4:=by simpa using lO
 rw[if_neg k9]at hf;refine xU ?_;refine bx ?_;refine xQ [0,71] ?_ ?_
 ·intro lj;have k10:o.act=5:=by simpa using lj
  rw[if_pos k10]at hf;refine xU ?_;refine dC [4] ?_;refine ar (al (by simp;exact .mk) ?_ ?_)
  ·simp;first|(show (_:Nat)=_;omega)|(exfalso;omega)
  first|rfl|omega
 intro lj;have k10:o.act≠5:=by simpa using lj
 rw[if_neg k10]at hf;refine af ?_;refine xT ?_;refine dC [4] ?_;refine ar (al (by simp;exact .mk) ?_ ?_)
 ·simp;first|(show (_:Nat)=_;omega)|(exfalso;omega)
 first|rfl|omega
open Go.aN
attribute [simp] Tryz.f134
theorem GC(g:Gl)(o0 o1 o2 o3:aN.Obj)(a:dp)(o:Op)(hgd:a.data.length=a.aw.length)(hn:o.name.size≤2^40)(e:Nat)(he:0<e)(hf:bq a o = -(e:Int)):∀B S,a7 Tryz.prog g B S ⟨8,true⟩ 134 [.ptr 7 0 0,.agg [.d (vI o.act),.d (vI o.ix),.d (vI o.gen),.d (vI o.n),.d (vI o.off),.d (rB o.b),.d (vS o.name)]] [o0,o1,o2,o3,.row 1 (a.aw.map vI),.row 1 (a.data.map oB),.row 3 (a.roots.map ak),.var 151 [.hdr 4 0 a.aw.length,.hdr 5 0 a.data.length,(.hdr 6 0 a.roots.length),.d (vI 0),.d (vI 0),.d (.v (.slice none 0 0))]]
    (fun x r=>x = .fn (.func 185) [] [.ptr 9 0 0]∧r=[o0,o1,o2,o3,.row 1 (a.aw.map vI),.row 1 (a.data.map oB),.row 3 (a.roots.map ak),.var 151 [.hdr 4 0 a.aw.length,.hdr 5 0 a.data.length,(.hdr 6 0 a.roots.length),.d (vI 0),.d (vI 0),.d (.v (.slice none 0 0))],.var 73 [.d (vI o.act),.d (vI o.ix),.d (vI o.gen),.d (vI o.n),.d (vI o.off),.d (rB o.b),.d (vS o.name)],.var 51 [.d (vI e)]]):=by
 refine aL Tryz.func134 rfl (Nat.le_of_ble_eq_true rfl) fun B S=>?_
 unfold bq at hf;refine xU ?_;refine ay ?_;refine xG [0,3] ?_;refine xH [0,3,5] ?_;refine ab (ag ?_);refine xU ?_;refine bx ?_;refine xQ [0,3,5,6] ?_ ?_
 ·intro h6;have k1:o.act=1:=by simpa using h6
  rw[if_pos k1]at hf;refine xU ?_;refine dC [4] ?_;refine ar (al (by simp;exact .mk) ?_ ?_)
  ·first|rfl|omega
  first|(obtain rfl:e=1:=(by omega);rfl)|(obtain rfl:e=3:=(by omega);rfl)|(obtain rfl:e=8:=(by omega);rfl)|omega
 intro h6;have k1:o.act≠1:=by simpa using h6
 rw[if_neg k1]at hf;refine ab (xU ?_);refine bx ?_;refine xQ [0,3,5,12] ?_ ?_
 ·intro h12;have k2:o.act=7:=by simpa using h12
  refine af fun _=>?_;refine bd rfl ?_ ?_
  ·intro mY;have k3:o.act=7∨o.act=8:=by simp at mY;omega
   rw[if_pos k3]at hf;refine xU ?_;refine dC [4] ?_;refine ar (al (by simp;exact .mk) ?_ ?_)
   ·first|rfl|omega
   first|(obtain rfl:e=1:=(by omega);rfl)|(obtain rfl:e=3:=(by omega);rfl)|(obtain rfl:e=8:=(by omega);rfl)|omega
  intro mY;have k3:¬(o.act=7∨o.act=8):=by simp at mY;omega
  rw[if_neg k3]at hf;refine ab (xU ?_);refine bx ?_;refine xQ [0,3,5,21] ?_ ?_
  ·intro h21;have k4:o.act<1:=by simpa using h21
   refine af fun _=>?_;refine bd rfl ?_ ?_
   ·intro gh;have nd:o.act<1∨8<o.act:=by simp at gh;omega
    rw[if_pos nd]at hf;refine xU ?_;refine xO ?_;refine az rfl rfl rfl rfl (by simp;exact .mk) ⟨_,Tryz.func184,rfl,rfl⟩ (fg g o0 o1 o2 o3 _ a 1) (.inr ⟨_,rfl⟩) ?_;refine xH [4] ?_;refine ar (al (by simp;exact .mk) ?_ ?_)
    ·first|rfl|omega
    first|(obtain rfl:e=1:=(by omega);rfl)|(obtain rfl:e=3:=(by omega);rfl)|(obtain rfl:e=8:=(by omega);rfl)|omega
   intro gh;have nd:¬(o.act<1∨8<o.act):=by simp at gh;omega
   rw[if_neg nd]at hf;refine xU ?_;refine bx ?_;iterate 2 (refine bg rfl (by simp;exact .mk) rfl (by simp<;>omega) (fun hb=>by simp;exact .mk) ?_)
   refine bI rfl (by simp;exact .mk) rfl rfl (by simp) (by simp;exact .mk) (by simp[au,Function.comp_def];exact .mk) (fun hb=>mC g _ hn) (by simp) (by simp;exact .mk) (by simp) ?_;refine bg rfl (by simp;exact .mk) rfl (by simp<;>omega) (fun hb=>by simp;exact .mk) ?_;refine xP ?_;refine bM rfl rfl rfl (by simp<;>omega) (by simp;exact .mk) ?_;refine run_end [0,3,5,30] (by simp<;>omega) (by simp;exact .mk) ?_;rintro -;refine bd rfl ?_ ?_
   ·intro fm;have k5:o.act=6∧cu o.name=false:=by simpa using fm
    rw[if_pos k5]at hf;refine xU ?_;refine xO ?_;refine az rfl rfl rfl rfl (by simp;exact .mk) ⟨_,Tryz.func184,rfl,rfl⟩ (fg g o0 o1 o2 o3 _ a 3) (.inr ⟨_,rfl⟩) ?_;refine xH [4] ?_;refine ar (al (by simp;exact .mk) ?_ ?_)
    ·first|rfl|omega
    first|(obtain rfl:e=1:=(by omega);rfl)|(obtain rfl:e=3:=(by omega);rfl)|(obtain rfl:e=8:=(by omega);rfl)|omega
   intro fm;have k5:¬(o.act=6∧cu o.name=false):=by simpa using fm
   rw[if_neg k5]at hf;refine ab ?_;refine aS (by kernel_rfl) [] 4 [0,1,2,3,4,5,6,7,8] (by decide +kernel) ?_;iterate 6 refine xO ?_
   refine xC (pG g a _ _ hgd) ?_ (he:=by simp[au,Function.comp_def];exact .mk);refine ay ?_;refine xQ [0,3,5,42] ?_ ?_
   ·intro m7;have k6:cZ a o.ix o.gen=false:=by simpa using m7
    rw[if_pos k6]at hf;refine xU ?_;refine xO ?_;refine az rfl rfl rfl rfl (by simp;exact .mk) ⟨_,Tryz.func184,rfl,rfl⟩ (fg g o0 o1 o2 o3 _ a 8) (.inr ⟨_,rfl⟩) ?_;refine xH [4] ?_;refine ar (al (by simp;exact .mk) ?_ ?_)
    ·first|rfl|omega
    first|(obtain rfl:e=1:=(by omega);rfl)|(obtain rfl:e=3:=(by omega);rfl)|(obtain rfl:e=8:=(by omega);rfl)|omega
   intro m7;have k6:¬cZ a o.ix o.gen=false:=by simpa using m7
   rw[if_neg k6]at hf;refine xU ?_;refine bx ?_;refine xQ [0,3,53] ?_ ?_
   ·intro lN;have k7:o.act=2:=by simpa using lN
    rw[if_pos k7]at hf;refine xU ?_;refine dC [4] ?_;refine ar (al (by simp;exact .mk) ?_ ?_)
    ·first|rfl|omega
    first|(obtain rfl:e=1:=(by omega);rfl)|(obtain rfl:e=3:=(by omega);rfl)|(obtain rfl:e=8:=(by omega);rfl)|omega
   intro lN;have k7:o.act≠2:=by simpa using lN
   rw[if_neg k7]at hf;refine xU ?_;refine bx ?_;refine xQ [0,3,59] ?_ ?_
   ·intro mB;have k8:o.act=3:=by simpa using mB
    rw[if_pos k8]at hf;refine xU ?_;refine dC [4] ?_;refine ar (al (by simp;exact .mk) ?_ ?_)
    ·first|rfl|omega
    first|(obtain rfl:e=1:=(by omega);rfl)|(obtain rfl:e=3:=(by omega);rfl)|(obtain rfl:e=8:=(by omega);rfl)|omega
   intro mB;have k8:o.act≠3:=by simpa using mB
   rw[if_neg k8]at hf;refine xU ?_;refine bx ?_;refine xQ [0,3,65] ?_ ?_
   ·intro lO;have k9:o.act=4:=by simpa using lO
    rw[if_pos k9]at hf;refine xU ?_;refine dC [4] ?_;refine ar (al (by simp;exact .mk) ?_ ?_)
    ·first|rfl|omega
    first|(obtain rfl:e=1:=(by omega);rfl)|(obtain rfl:e=3:=(by omega);rfl)|(obtain rfl:e=8:=(by omega);rfl)|omega
   intro lO;have k9:o.act≠4:=by simpa using lO
   rw[if_neg k9]at hf;refine xU ?_;refine bx ?_;refine xQ [0,71] ?_ ?_
   ·intro lj;have k10:o.act=5:=by simpa using lj
    rw[if_pos k10]at hf;refine xU ?_;refine dC [4] ?_;refine ar (al (by simp;exact .mk) ?_ ?_)
    ·first|rfl|omega
    first|(obtain rfl:e=1:=(by omega);rfl)|(obtain rfl:e=3:=(by omega);rfl)|(obtain rfl:e=8:=(by omega);rfl)|omega
   intro lj;have k10:o.act≠5:=by simpa using lj
   rw[if_neg k10]at hf;refine af ?_;refine xT ?_;refine dC [4] ?_;refine ar (al (by simp;exact .mk) ?_ ?_)
   ·first|rfl|omega
   first|(obtain rfl:e=1:=(by omega);rfl)|(obtain rfl:e=3:=(by omega);rfl)|(obtain rfl:e=8:=(by omega);rfl)|omega
  intro h21;have k4:¬o.act<1:=by simpa using h21
  refine xY ?_;refine bx ?_;refine xQ [0,3,5,21] ?_ ?_
  ·intro gh;have nd:o.act<1∨8<o.act:=by simp at gh;omega
   rw[if_pos nd]at hf;refine xU ?_;refine xO ?_;refine az rfl rfl rfl rfl (by simp;exact .mk) ⟨_,Tryz.func184,rfl,rfl⟩ (fg g o0 o1 o2 o3 _ a 1) (.inr ⟨_,rfl⟩) ?_;refine xH [4] ?_;refine ar (al (by simp;exact .mk) ?_ ?_)
   ·first|rfl|omega
   first|(obtain rfl:e=1:=(by omega);rfl)|(obtain rfl:e=3:=(by omega);rfl)|(obtain rfl:e=8:=(by omega);rfl)|omega
  intro gh;have nd:¬(o.act<1∨8<o.act):=by simp at gh;omega
  rw[if_neg nd]at hf;refine xU ?_;refine bx ?_;iterate 2 (refine bg rfl (by simp;exact .mk) rfl (by simp<;>omega) (fun hb=>by simp;exact .mk) ?_)
  refine bI rfl (by simp;exact .mk) rfl rfl (by simp) (by simp;exact .mk) (by simp[au,Function.comp_def];exact .mk) (fun hb=>mC g _ hn) (by simp) (by simp;exact .mk) (by simp) ?_;refine bg rfl (by simp;exact .mk) rfl (by simp<;>omega) (fun hb=>by simp;exact .mk) ?_;refine xP ?_;refine bM rfl rfl rfl (by simp<;>omega) (by simp;exact .mk) ?_;refine run_end [0,3,5,30] (by simp<;>omega) (by simp;exact .mk) ?_;rintro -;refine bd rfl ?_ ?_
  ·intro fm;have k5:o.act=6∧cu o.name=false:=by simpa using fm
   rw[if_pos k5]at hf;refine xU ?_;refine xO ?_;refine az rfl rfl rfl rfl (by simp;exact .mk) ⟨_,Tryz.func184,rfl,rfl⟩ (fg g o0 o1 o2 o3 _ a 3) (.inr ⟨_,rfl⟩) ?_;refine xH [4] ?_;refine ar (al (by simp;exact .mk) ?_ ?_)
   ·first|rfl|omega
   first|(obtain rfl:e=1:=(by omega);rfl)|(obtain rfl:e=3:=(by omega);rfl)|(obtain rfl:e=8:=(by omega);rfl)|omega
  intro fm;have k5:¬(o.act=6∧cu o.name=false):=by simpa using fm
  rw[if_neg k5]at hf;refine ab ?_;refine aS (by kernel_rfl) [] 4 [0,1,2,3,4,5,6,7,8] (by decide +kernel) ?_;iterate 6 refine xO ?_
  refine xC (pG g a _ _ hgd) ?_ (he:=by simp[au,Function.comp_def];exact .mk);refine ay ?_;refine xQ [0,3,5,42] ?_ ?_
  ·intro m7;have k6:cZ a o.ix o.gen=false:=by simpa using m7
   rw[if_pos k6]at hf;refine xU ?_;refine xO ?_;refine az rfl rfl rfl rfl (by simp;exact .mk) ⟨_,Tryz.func184,rfl,rfl⟩ (fg g o0 o1 o2 o3 _ a 8) (.inr ⟨_,rfl⟩) ?_;refine xH [4] ?_;refine ar (al (by simp;exact .mk) ?_ ?_)
   ·first|rfl|omega
   first|(obtain rfl:e=1:=(by omega);rfl)|(obtain rfl:e=3:=(by omega);rfl)|(obtain rfl:e=8:=(by omega);rfl)|omega
  intro m7;have k6:¬cZ a o.ix o.gen=false:=by simpa using m7
  rw[if_neg k6]at hf;refine xU ?_;refine bx ?_;refine xQ [0,3,53] ?_ ?_
  ·intro lN;have k7:o.act=2:=by simpa using lN
   rw[if_pos k7]at hf;refine xU ?_;refine dC [4] ?_;refine ar (al (by simp;exact .mk) ?_ ?_)
   ·first|rfl|omega
   first|(obtain rfl:e=1:=(by omega);rfl)|(obtain rfl:e=3:=(by omega);rfl)|(obtain rfl:e=8:=(by omega);rfl)|omega
  intro lN;have k7:o.act≠2:=by simpa using lN
  rw[if_neg k7]at hf;refine xU ?_;refine bx ?_;refine xQ [0,3,59] ?_ ?_
  ·intro mB;have k8:o.act=3:=by simpa using mB
   rw[if_pos k8]at hf;refine xU ?_;refine dC [4] ?_;refine ar (al (by simp;exact .mk) ?_ ?_)
   ·first|rfl|omega
   first|(obtain rfl:e=1:=(by omega);rfl)|(obtain rfl:e=3:=(by omega);rfl)|(obtain rfl:e=8:=(by omega);rfl)|omega
  intro mB;have k8:o.act≠3:=by simpa using mB
  rw[if_neg k8]at hf;refine xU ?_;refine bx ?_;refine xQ [0,3,65] ?_ ?_
  ·intro lO;have k9:o.act=4:=by simpa using lO
   rw[if_pos k9]at hf;refine xU ?_;refine dC [4] ?_;refine ar (al (by simp;exact .mk) ?_ ?_)
   ·first|rfl|omega
   first|(obtain rfl:e=1:=(by omega);rfl)|(obtain rfl:e=3:=(by omega);rfl)|(obtain rfl:e=8:=(by omega);rfl)|omega
  intro lO;have k9:o.act≠4:=by simpa using lO
  rw[if_neg k9]at hf;refine xU ?_;refine bx ?_;refine xQ [0,71] ?_ ?_
  ·intro lj;have k10:o.act=5:=by simpa using lj
   rw[if_pos k10]at hf;refine xU ?_;refine dC [4] ?_;refine ar (al (by simp;exact .mk) ?_ ?_)
   ·first|rfl|omega
   first|(obtain rfl:e=1:=(by omega);rfl)|(obtain rfl:e=3:=(by omega);rfl)|(obtain rfl:e=8:=(by omega);rfl)|omega
  intro lj;have k10:o.act≠5:=by simpa using lj
  rw[if_neg k10]at hf;refine af ?_;refine xT ?_;refine dC [4] ?_;refine ar (al (by simp;exact .mk) ?_ ?_)
  ·first|rfl|omega
  first|(obtain rfl:e=1:=(by omega);rfl)|(obtain rfl:e=3:=(by omega);rfl)|(obtain rfl:e=8:=(by omega);rfl)|omega
 intro h12;have k2:o.act≠7:=by simpa using h12
 refine xY ?_;refine bx ?_;refine xQ [0,3,5,12] ?_ ?_
 ·intro mY;have k3:o.act=7∨o.act=8:=by simp at mY;omega
  rw[if_pos k3]at hf;refine xU ?_;refine dC [4] ?_;refine ar (al (by simp;exact .mk) ?_ ?_)
  ·first|rfl|omega
  first|(obtain rfl:e=1:=(by omega);rfl)|(obtain rfl:e=3:=(by omega);rfl)|(obtain rfl:e=8:=(by omega);rfl)|omega
 intro mY;have k3:¬(o.act=7∨o.act=8):=by simp at mY;omega
 rw[if_neg k3]at hf;refine ab (xU ?_);refine bx ?_;refine xQ [0,3,5,21] ?_ ?_
 ·intro h21;have k4:o.act<1:=by simpa using h21
  refine af fun _=>?_;refine bd rfl ?_ ?_
  ·intro gh;have nd:o.act<1∨8<o.act:=by simp at gh;omega
   rw[if_pos nd]at hf;refine xU ?_;refine xO ?_;refine az rfl rfl rfl rfl (by simp;exact .mk) ⟨_,Tryz.func184,rfl,rfl⟩ (fg g o0 o1 o2 o3 _ a 1) (.inr ⟨_,rfl⟩) ?_;refine xH [4] ?_;refine ar (al (by simp;exact .mk) ?_ ?_)
   ·first|rfl|omega
   first|(obtain rfl:e=1:=(by omega);rfl)|(obtain rfl:e=3:=(by omega);rfl)|(obtain rfl:e=8:=(by omega);rfl)|omega
  intro gh;have nd:¬(o.act<1∨8<o.act):=by simp at gh;omega
  rw[if_neg nd]at hf;refine xU ?_;refine bx ?_;iterate 2 (refine bg rfl (by simp;exact .mk) rfl (by simp<;>omega) (fun hb=>by simp;exact .mk) ?_)
  refine bI rfl (by simp;exact .mk) rfl rfl (by simp) (by simp;exact .mk) (by simp[au,Function.comp_def];exact .mk) (fun hb=>mC g _ hn) (by simp) (by simp;exact .mk) (by simp) ?_;refine bg rfl (by simp;exact .mk) rfl (by simp<;>omega) (fun hb=>by simp;exact .mk) ?_;refine xP ?_;refine bM rfl rfl rfl (by simp<;>omega) (by simp;exact .mk) ?_;refine run_end [0,3,5,30] (by simp<;>omega) (by simp;exact .mk) ?_;rintro -;refine bd rfl ?_ ?_
  ·intro fm;have k5:o.act=6∧cu o.name=false:=by simpa using fm
   rw[if_pos k5]at hf;refine xU ?_;refine xO ?_;refine az rfl rfl rfl rfl (by simp;exact .mk) ⟨_,Tryz.func184,rfl,rfl⟩ (fg g o0 o1 o2 o3 _ a 3) (.inr ⟨_,rfl⟩) ?_;refine xH [4] ?_;refine ar (al (by simp;exact .mk) ?_ ?_)
   ·first|rfl|omega
   first|(obtain rfl:e=1:=(by omega);rfl)|(obtain rfl:e=3:=(by omega);rfl)|(obtain rfl:e=8:=(by omega);rfl)|omega
  intro fm;have k5:¬(o.act=6∧cu o.name=false):=by simpa using fm
  rw[if_neg k5]at hf;refine ab ?_;refine aS (by kernel_rfl) [] 4 [0,1,2,3,4,5,6,7,8] (by decide +kernel) ?_;iterate 6 refine xO ?_
  refine xC (pG g a _ _ hgd) ?_ (he:=by simp[au,Function.comp_def];exact .mk);refine ay ?_;refine xQ [0,3,5,42] ?_ ?_
  ·intro m7;have k6:cZ a o.ix o.gen=false:=by simpa using m7
   rw[if_pos k6]at hf;refine xU ?_;refine xO ?_;refine az rfl rfl rfl rfl (by simp;exact .mk) ⟨_,Tryz.func184,rfl,rfl⟩ (fg g o0 o1 o2 o3 _ a 8) (.inr ⟨_,rfl⟩) ?_;refine xH [4] ?_;refine ar (al (by simp;exact .mk) ?_ ?_)
   ·first|rfl|omega
   first|(obtain rfl:e=1:=(by omega);rfl)|(obtain rfl:e=3:=(by omega);rfl)|(obtain rfl:e=8:=(by omega);rfl)|omega
  intro m7;have k6:¬cZ a o.ix o.gen=false:=by simpa using m7
  rw[if_neg k6]at hf;refine xU ?_;refine bx ?_;refine xQ [0,3,53] ?_ ?_
  ·intro lN;have k7:o.act=2:=by simpa using lN
   rw[if_pos k7]at hf;refine xU ?_;refine dC [4] ?_;refine ar (al (by simp;exact .mk) ?_ ?_)
   ·first|rfl|omega
   first|(obtain rfl:e=1:=(by omega);rfl)|(obtain rfl:e=3:=(by omega);rfl)|(obtain rfl:e=8:=(by omega);rfl)|omega
  intro lN;have k7:o.act≠2:=by simpa using lN
  rw[if_neg k7]at hf;refine xU ?_;refine bx ?_;refine xQ [0,3,59] ?_ ?_
  ·intro mB;have k8:o.act=3:=by simpa using mB
   rw[if_pos k8]at hf;refine xU ?_;refine dC [4] ?_;refine ar (al (by simp;exact .mk) ?_ ?_)
   ·first|rfl|omega
   first|(obtain rfl:e=1:=(by omega);rfl)|(obtain rfl:e=3:=(by omega);rfl)|(obtain rfl:e=8:=(by omega);rfl)|omega
  intro mB;have k8:o.act≠3:=by simpa using mB
  rw[if_neg k8]at hf;refine xU ?_;refine bx ?_;refine xQ [0,3,65] ?_ ?_
  ·intro lO;have k9:o.act=4:=by simpa using lO
   rw[if_pos k9]at hf;refine xU ?_;refine dC [4] ?_;refine ar (al (by simp;exact .mk) ?_ ?_)
   ·first|rfl|omega
   first|(obtain rfl:e=1:=(by omega);rfl)|(obtain rfl:e=3:=(by omega);rfl)|(obtain rfl:e=8:=(by omega);rfl)|omega
  intro lO;have k9:o.act≠4:=by simpa using lO
  rw[if_neg k9]at hf;refine xU ?_;refine bx ?_;refine xQ [0,71] ?_ ?_
  ·intro lj;have k10:o.act=5:=by simpa using lj
   rw[if_pos k10]at hf;refine xU ?_;refine dC [4] ?_;refine ar (al (by simp;exact .mk) ?_ ?_)
   ·first|rfl|omega
   first|(obtain rfl:e=1:=(by omega);rfl)|(obtain rfl:e=3:=(by omega);rfl)|(obtain rfl:e=8:=(by omega);rfl)|omega
  intro lj;have k10:o.act≠5:=by simpa using lj
  rw[if_neg k10]at hf;refine af ?_;refine xT ?_;refine dC [4] ?_;refine ar (al (by simp;exact .mk) ?_ ?_)
  ·first|rfl|omega
  first|(obtain rfl:e=1:=(by omega);rfl)|(obtain rfl:e=3:=(by omega);rfl)|(obtain rfl:e=8:=(by omega);rfl)|omega
 intro h21;have k4:¬o.act<1:=by simpa using h21
 refine xY ?_;refine bx ?_;refine xQ [0,3,5,21] ?_ ?_
 ·intro gh;have nd:o.act<1∨8<o.act:=by simp at gh;omega
  rw[if_pos nd]at hf;refine xU ?_;refine xO ?_;refine az rfl rfl rfl rfl (by simp;exact .mk) ⟨_,Tryz.func184,rfl,rfl⟩ (fg g o0 o1 o2 o3 _ a 1) (.inr ⟨_,rfl⟩) ?_;refine xH [4] ?_;refine ar (al (by simp;exact .mk) ?_ ?_)
  ·first|rfl|omega
  first|(obtain rfl:e=1:=(by omega);rfl)|(obtain rfl:e=3:=(by omega);rfl)|(obtain rfl:e=8:=(by omega);rfl)|omega
 intro gh;have nd:¬(o.act<1∨8<o.act):=by simp at gh;omega
 rw[if_neg nd]at hf;refine xU ?_;refine bx ?_;iterate 2 (refine bg rfl (by simp;exact .mk) rfl (by simp<;>omega) (fun hb=>by simp;exact .mk) ?_)
 refine bI rfl (by simp;exact .mk) rfl rfl (by simp) (by simp;exact .mk) (by simp[au,Function.comp_def];exact .mk) (fun hb=>mC g _ hn) (by simp) (by simp;exact .mk) (by simp) ?_;refine bg rfl (by simp;exact .mk) rfl (by simp<;>omega) (fun hb=>by simp;exact .mk) ?_;refine xP ?_;refine bM rfl rfl rfl (by simp<;>omega) (by simp;exact .mk) ?_;refine run_end [0,3,5,30] (by simp<;>omega) (by simp;exact .mk) ?_;rintro -;refine bd rfl ?_ ?_
 ·intro fm;have k5:o.act=6∧cu o.name=false:=by simpa using fm
  rw[if_pos k5]at hf;refine xU ?_;refine xO ?_;refine az rfl rfl rfl rfl (by simp;exact .mk) ⟨_,Tryz.func184,rfl,rfl⟩ (fg g o0 o1 o2 o3 _ a 3) (.inr ⟨_,rfl⟩) ?_;refine xH [4] ?_;refine ar (al (by simp;exact .mk) ?_ ?_)
  ·first|rfl|omega
  first|(obtain rfl:e=1:=(by omega);rfl)|(obtain rfl:e=3:=(by omega);rfl)|(obtain rfl:e=8:=(by omega);rfl)|omega
 intro fm;have k5:¬(o.act=6∧cu o.name=false):=by simpa using fm
 rw[if_neg k5]at hf;refine ab ?_;refine aS (by kernel_rfl) [] 4 [0,1,2,3,4,5,6,7,8] (by decide +kernel) ?_;iterate 6 refine xO ?_
 refine xC (pG g a _ _ hgd) ?_ (he:=by simp[au,Function.comp_def];exact .mk);refine ay ?_;refine xQ [0,3,5,42] ?_ ?_
 ·intro m7;have k6:cZ a o.ix o.gen=false:=by simpa using m7
  rw[if_pos k6]at hf;refine xU ?_;refine xO ?_;refine az rfl rfl rfl rfl (by simp;exact .mk) ⟨_,Tryz.func184,rfl,rfl⟩ (fg g o0 o1 o2 o3 _ a 8) (.inr ⟨_,rfl⟩) ?_;refine xH [4] ?_;refine ar (al (by simp;exact .mk) ?_ ?_)
  ·first|rfl|omega
  first|(obtain rfl:e=1:=(by omega);rfl)|(obtain rfl:e=3:=(by omega);rfl)|(obtain rfl:e=8:=(by omega);rfl)|omega
 intro m7;have k6:¬cZ a o.ix o.gen=false:=by simpa using m7
 rw[if_neg k6]at hf;refine xU ?_;refine bx ?_;refine xQ [0,3,53] ?_ ?_
 ·intro lN;have k7:o.act=2:=by simpa using lN
  rw[if_pos k7]at hf;refine xU ?_;refine dC [4] ?_;refine ar (al (by simp;exact .mk) ?_ ?_)
  ·first|rfl|omega
  first|(obtain rfl:e=1:=(by omega);rfl)|(obtain rfl:e=3:=(by omega);rfl)|(obtain rfl:e=8:=(by omega);rfl)|omega
 intro lN;have k7:o.act≠2:=by simpa using lN
 rw[if_neg k7]at hf;refine xU ?_;refine bx ?_;refine xQ [0,3,59] ?_ ?_
 ·intro mB;have k8:o.act=3:=by simpa using mB
  rw[if_pos k8]at hf;refine xU ?_;refine dC [4] ?_;refine ar (al (by simp;exact .mk) ?_ ?_)
  ·first|rfl|omega
  first|(obtain rfl:e=1:=(by omega);rfl)|(obtain rfl:e=3:=(by omega);rfl)|(obtain rfl:e=8:=(by omega);rfl)|omega
 intro mB;have k8:o.act≠3:=by simpa using mB
 rw[if_neg k8]at hf;refine xU ?_;refine bx ?_;refine xQ [0,3,65] ?_ ?_
 ·intro lO;have k9:o.act=4:=by simpa using lO
  rw[if_pos k9]at hf;refine xU ?_;refine dC [4] ?_;refine ar (al (by simp;exact .mk) ?_ ?_)
  ·first|rfl|omega
  first|(obtain rfl:e=1:=(by omega);rfl)|(obtain rfl:e=3:=(by omega);rfl)|(obtain rfl:e=8:=(by omega);rfl)|omega
 intro lO;have k9:o.act≠4:=by simpa using lO
 rw[if_neg k9]at hf;refine xU ?_;refine bx ?_;refine xQ [0,71] ?_ ?_
 ·intro lj;have k10:o.act=5:=by simpa using lj
  rw[if_pos k10]at hf;refine xU ?_;refine dC [4] ?_;refine ar (al (by simp;exact .mk) ?_ ?_)
  ·first|rfl|omega
  first|(obtain rfl:e=1:=(by omega);rfl)|(obtain rfl:e=3:=(by omega);rfl)|(obtain rfl:e=8:=(by omega);rfl)|omega
 intro lj;have k10:o.act≠5:=by simpa using lj
 rw[if_neg k10]at hf;refine af ?_;refine xT ?_;refine dC [4] ?_;refine ar (al (by simp;exact .mk) ?_ ?_)
 ·first|rfl|omega
 first|(obtain rfl:e=1:=(by omega);rfl)|(obtain rfl:e=3:=(by omega);rfl)|(obtain rfl:e=8:=(by omega);rfl)|omega
open Go.aN
attribute [simp] Tryz.f133
theorem I9(g:Gl)(a:dp)(ha:a.Ok):a9 Tryz.prog g 133 [mz a] (aJ a):=by
 refine xA Tryz.func133 fun B S=>?_
 simp only[mz,List.map,aO];refine xU ?_;refine bU [1,2] ?_;refine ab ?_;refine aS (by kernel_rfl) [] 4 [0,1,3,4,6,7,2,9,5,8,10,11,12,13,14] (by decide +kernel) ?_;iterate 6 refine xO ?_
 refine xC (Jn g _ ha.h1) ?_;refine xO ?_;refine az rfl rfl rfl rfl (by simp;exact .mk) ⟨_,Tryz.func78,rfl,rfl⟩ (Nk g _ _ _ a.data ha.h2) (.inr ⟨_,rfl⟩) ?_;refine xC (Dx g _ ha.h3) ?_;refine aH ?_;refine xO ?_;refine aH ?_;refine xO ?_;refine aH ?_;refine xF [1,2] ?_;refine ab (xU ?_);refine bx ?_;refine xF [1,2,18,19] ?_;refine ag (aB (fun m σ r=>∃i:Nat,m=a.data.length-i∧i≤a.data.length∧σ=slots [(1,.ptr 0 0 0),(2,.ptr 1 0 0),(18,.d (vI a.data.length)),(19,.d (vI i))]∧r=[.var 67 [.hdr 2 0 a.aw.length,.hdr 4 0 a.data.length,.hdr 5 0 a.roots.length],.var 67 [.d (.v (.slice none 0 0)),.d (.v (.slice none 0 0)),.d (.v (.slice none 0 0))],.row 1 (a.aw.map vI),.dead,.row 1 (pa i a.data),.row 3 (a.roots.map ak)]) a.data.length .refl ⟨0,by simp,by simp,rfl,by rw[tQ]⟩ ?_);have q2:=ha.h2;rintro m σ r ⟨i,rfl,hi,rfl,rfl⟩ _;refine xU ?_;refine xH [1,2,18,19,20] ?_;refine ab (bd rfl ?_ ?_)
 ·intro h20;have hi2:i<a.data.length:=by simpa using h20
  refine af fun _=>?_;refine ab (ag ?_);refine xU ?_;refine bU [1,2,3,18,19] ?_;refine aS (by kernel_rfl) [] 4 [0,1,2,3,4,5,6,7,8,9,10] (by decide +kernel) ?_;iterate 6 refine xO ?_
  refine xO ?_ (h:=by simp[hi2];exact .mk);refine xO ?_ (h:=by simp[-List.getElem?_map,n7 hi2];exact .mk);refine xC (Dy g _ (ha.h4 i hi2)) ?_;refine xO ?_ (h:=by simp[hi2];exact .mk);refine xO ?_ (h:=by simp[splice, -List.getElem?_map,n7 hi2,br,dn,bJ];exact .mk);refine xF [1,2,18,19] ?_;refine xY ?_;refine ay ?_;refine xE [1,2,18,19] ?_;refine aq 6 [1,2,18,19] (by simp) (by simp) (by simp) ?_;refine ae (m':=a.data.length-(i+1)) (by omega) ⟨i+1,rfl,by omega,?_,?_⟩
  ·rw[wrap64 (by omega) (by omega)];rfl
  rw[←wd hi2];simp;rfl
 intro h20;obtain rfl:i=a.data.length:=by simp at h20;omega
 rw[wc];refine aP (xT ?_);refine xO ?_;refine aH ?_;refine xF [2] ?_;refine xZ ?_;simp[aJ,ai]
end Go.Proofs
