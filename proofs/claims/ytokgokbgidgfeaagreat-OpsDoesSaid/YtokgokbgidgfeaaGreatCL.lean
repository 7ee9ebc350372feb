/- Contracts of the program's functions and plain facts, for arguments as each lemma says. -/
import Derived.Test.YtokgokbgidgfeaaGreatAwpC
import Derived.Test.YtokgokbgidgfeaaGreatCK
import Derived.Test.YtokgokbgidgfeaaGreatCJ
import Derived.Test.YtokgokbgidgfeaaGreatCC
import Derived.Test.YtokgokbgidgfeaaGreatCD
import Derived.Test.YtokgokbgidgfeaaGreatCH
import Derived.Test.YtokgokbgidgfeaaGreatAwpD
set_option linter.all false
set_option maxHeartbeats 4000000
namespace Go.Proofs
open Go.aN
attribute [simp] Tryz.f74
theorem Ml(g:Gl)(a:dp)(o:Op)(ha:a.Ok)(hn:o.name.size≤2^40)(qe:o.b.length≤2^40):a9 Tryz.prog g 74 [mz a,mE o] (.bK [aJ (dR a o).a,.agg [vI (dR a o).ix,vI (dR a o).gen,oB (dR a o).b],vI (dR a o).e]):=by
 refine xA Tryz.func74 fun B S=>?_
 simp only[mz,mE,List.map,aO];refine xU ?_;refine cW ?_;refine xF [2,3,4,5] ?_;refine ab (xU ?_);refine xO ?_;refine xC (I8 g a ha) ?_ (hi:=by simp[aJ];exact .mk);refine xO ?_;refine xQ [2,3,4,5,11] ?_ ?_
 ·intro h11;have hR:bH a=false:=by simpa using h11
  have hdo:dR a o=aF 1:=by simp[dR,hR]
  have hE:True:=trivial;refine xU ?_;iterate 4 (refine aH ?_)
  refine xH [4,5,6] ?_;refine xZ ?_;first|(simp[hdo,hE,aF,aY,aJ,ai];done)|(simp[hdo,hE,aF,aY,aJ,ai,he0];done)|(simp[hdo,hE,aF,aY,aJ,ai,he0,hE2];done)|(exfalso;first|(simp at cv;done)|(simp at cv;omega))
 intro h11;have hR:bH a=true:=by simpa using h11
 have hgd:=(sw hR).1;refine af ?_;refine xT ?_;refine xO ?_;refine xC (I9 g a ha) ?_ (hi:=by simp[aJ];exact .mk);refine aH ?_;refine bU [3,4,5,7] ?_;refine ab (ab ?_);rcases qX a o with hk|⟨hk,hact⟩|⟨hk,hact⟩|⟨hk,hact⟩|hk|hk|⟨hk,hq⟩|⟨hk,hq⟩|hk|⟨e,he,hk⟩
 ·skip
  have hE:bG a o=cf a o.n:=by simp[bG,hk]
  refine aS (by kernel_rfl) [4] 4 [0,1,3,2,4,5] (by decide +kernel) ?_;refine aT ?_;refine az rfl rfl rfl rfl (by simp;exact .mk) ⟨_,Tryz.func134,rfl,rfl⟩ (kN g _ _ _ _ a o hgd hn 186 hk) (.inr ⟨_,rfl⟩) ?_;refine az rfl rfl rfl rfl (by simp;exact .mk) ⟨_,Tryz.func186,rfl,rfl⟩ (KG g _ _ _ _ _ a o (fun m=>by simp) ha hgd) (.inl (by simp)) ?_;refine xO ?_;refine xG [4,5,7,8] ?_;refine ay ?_;refine xQ [4,5,7,8,24] ?_ ?_
  ·intro cv;have hdo:=c9 (o:=o) hR (by rw[hE];simpa using cv);refine xU ?_;iterate 2 (refine aH ?_)
   refine xO ?_;iterate 2 (refine aH ?_)
   refine xH [4,5,6] ?_;refine xZ ?_;first|(simp[hdo,hE,aF,aY,aJ,ai];done)|(simp[hdo,hE,aF,aY,aJ,ai,he0];done)|(simp[hdo,hE,aF,aY,aJ,ai,he0,hE2];done)|(exfalso;first|(simp at cv;done)|(simp at cv;omega))
  intro cv;have he0:(bG a o).e=0:=by rw[hE];first|(simpa using cv;done)|exact hE2.2.2.2
  have hdo:=ep (o:=o) hR he0
  rw[hE]at he0 hdo;refine af fun _=>?_;refine ab ?_;refine cN (hard:=[]) 7 8 (aR (by decide)) (by kernel_rfl) 4 [0,1,2,3,4,5,6,7,8,9,10] [0,1,2,3,4,5,6,8,7,9,10] (by decide +kernel) (by decide +kernel) ?_ ?_
  ·skip
   iterate 8 refine xO ?_
   iterate 2 (refine aH ?_)
   refine xH [4,5,6] ?_;refine xZ ?_;first|(simp[hdo,hE,aF,aY,aJ,ai];done)|(simp[hdo,hE,aF,aY,aJ,ai,he0];done)|(simp[hdo,hE,aF,aY,aJ,ai,he0,hE2];done)|(exfalso;first|(simp at cv;done)|(simp at cv;omega))
  skip
  iterate 7 refine xO ?_
  refine aH ?_;refine xO ?_;refine aH ?_;refine xH [4,5,6] ?_;refine xZ ?_;first|(simp[hdo,hE,aF,aY,aJ,ai];done)|(simp[hdo,hE,aF,aY,aJ,ai,he0];done)|(simp[hdo,hE,aF,aY,aJ,ai,he0,hE2];done)|(exfalso;first|(simp at cv;done)|(simp at cv;omega))
 ·skip
  have hE:bG a o=dE a o:=by simp[bG,hk]
  have hE2:dE a o=⟨{a with roots:=(dg a.roots o.name o.ix o.gen).1},0,0,[],(dg a.roots o.name o.ix o.gen).2⟩:=by simp[dE,hact]
  rw[hE2]at hE;refine aS (by kernel_rfl) [4] 4 [0,1,3,2,4,5] (by decide +kernel) ?_;refine aT ?_;refine az rfl rfl rfl rfl (by simp;exact .mk) ⟨_,Tryz.func134,rfl,rfl⟩ (kN g _ _ _ _ a o hgd hn 187 hk) (.inr ⟨_,rfl⟩) ?_;refine az rfl rfl rfl rfl (by simp;exact .mk) ⟨_,Tryz.func187,rfl,rfl⟩ (GP g _ _ _ _ _ a o (fun m=>by simp) ha hact ⟨ha.h3,ha.h5⟩ hn) (.inl (by simp)) ?_;refine xO ?_;refine xG [4,5,7,8] ?_;refine ay ?_;refine xQ [4,5,7,8,24] ?_ ?_
  ·intro cv;have hdo:=c9 (o:=o) hR (by rw[hE];simpa using cv);refine xU ?_;iterate 2 (refine aH ?_)
   refine xO ?_;iterate 2 (refine aH ?_)
   refine xH [4,5,6] ?_;refine xZ ?_;first|(simp[hdo,hE,aF,aY,aJ,ai];done)|(simp[hdo,hE,aF,aY,aJ,ai,he0];done)|(simp[hdo,hE,aF,aY,aJ,ai,he0,hE2];done)|(exfalso;first|(simp at cv;done)|(simp at cv;omega))
  intro cv;have he0:(bG a o).e=0:=by rw[hE];first|(simpa using cv;done)|exact hE2.2.2.2
  have hdo:=ep (o:=o) hR he0
  rw[hE]at he0 hdo;refine af fun _=>?_;refine ab ?_;refine cN (hard:=[]) 7 8 (aR (by decide)) (by kernel_rfl) 4 [0,1,2,3,4,5,6,7,8,9,10] [0,1,2,3,4,5,6,8,7,9,10] (by decide +kernel) (by decide +kernel) ?_ ?_
  ·skip
   iterate 8 refine xO ?_
   iterate 2 (refine aH ?_)
   refine xH [4,5,6] ?_;refine xZ ?_;first|(simp[hdo,hE,aF,aY,aJ,ai];done)|(simp[hdo,hE,aF,aY,aJ,ai,he0];done)|(simp[hdo,hE,aF,aY,aJ,ai,he0,hE2];done)|(exfalso;first|(simp at cv;done)|(simp at cv;omega))
  skip
  iterate 7 refine xO ?_
  refine aH ?_;refine xO ?_;refine aH ?_;refine xH [4,5,6] ?_;refine xZ ?_;first|(simp[hdo,hE,aF,aY,aJ,ai];done)|(simp[hdo,hE,aF,aY,aJ,ai,he0];done)|(simp[hdo,hE,aF,aY,aJ,ai,he0,hE2];done)|(exfalso;first|(simp at cv;done)|(simp at cv;omega))
 ·skip
  have hE:bG a o=dE a o:=by simp[bG,hk]
  have hE2:dE a o=⟨a,(ef a.roots o.name).1,(ef a.roots o.name).2.1,[],(ef a.roots o.name).2.2⟩:=by simp[dE,hact]
  rw[hE2]at hE;refine aS (by kernel_rfl) [4] 4 [0,1,3,2,4,5] (by decide +kernel) ?_;refine aT ?_;refine az rfl rfl rfl rfl (by simp;exact .mk) ⟨_,Tryz.func134,rfl,rfl⟩ (kN g _ _ _ _ a o hgd hn 187 hk) (.inr ⟨_,rfl⟩) ?_;refine az rfl rfl rfl rfl (by simp;exact .mk) ⟨_,Tryz.func187,rfl,rfl⟩ (GO g _ _ _ _ _ a o (fun m=>by simp) ha hact ⟨ha.h3,ha.h5⟩ hn) (.inl (by simp)) ?_;refine xO ?_;refine xG [4,5,7,8] ?_;refine ay ?_;refine xQ [4,5,7,8,24] ?_ ?_
  ·intro cv;have hdo:=c9 (o:=o) hR (by rw[hE];simpa using cv);refine xU ?_;iterate 2 (refine aH ?_)
   refine xO ?_;iterate 2 (refine aH ?_)
   refine xH [4,5,6] ?_;refine xZ ?_;first|(simp[hdo,hE,aF,aY,aJ,ai];done)|(simp[hdo,hE,aF,aY,aJ,ai,he0];done)|(simp[hdo,hE,aF,aY,aJ,ai,he0,hE2];done)|(exfalso;first|(simp at cv;done)|(simp at cv;omega))
  intro cv;have he0:(bG a o).e=0:=by rw[hE];first|(simpa using cv;done)|exact hE2.2.2.2
  have hdo:=ep (o:=o) hR he0
  rw[hE]at he0 hdo;refine af fun _=>?_;refine ab ?_;refine cN (hard:=[]) 7 8 (aR (by decide)) (by kernel_rfl) 4 [0,1,2,3,4,5,6,7,8,9,10] [0,1,2,3,4,5,6,8,7,9,10] (by decide +kernel) (by decide +kernel) ?_ ?_
  ·skip
   iterate 8 refine xO ?_
   iterate 2 (refine aH ?_)
   refine xH [4,5,6] ?_;refine xZ ?_;first|(simp[hdo,hE,aF,aY,aJ,ai];done)|(simp[hdo,hE,aF,aY,aJ,ai,he0];done)|(simp[hdo,hE,aF,aY,aJ,ai,he0,hE2];done)|(exfalso;first|(simp at cv;done)|(simp at cv;omega))
  skip
  iterate 7 refine xO ?_
  refine aH ?_;refine xO ?_;refine aH ?_;refine xH [4,5,6] ?_;refine xZ ?_;first|(simp[hdo,hE,aF,aY,aJ,ai];done)|(simp[hdo,hE,aF,aY,aJ,ai,he0];done)|(simp[hdo,hE,aF,aY,aJ,ai,he0,hE2];done)|(exfalso;first|(simp at cv;done)|(simp at cv;omega))
 ·skip
  have hE:bG a o=dE a o:=by simp[bG,hk]
  have hE2:dE a o=⟨{a with roots:=(cJ a.roots o.name).1},0,0,[],(cJ a.roots o.name).2⟩:=by simp[dE,hact]
  rw[hE2]at hE;refine aS (by kernel_rfl) [4] 4 [0,1,3,2,4,5] (by decide +kernel) ?_;refine aT ?_;refine az rfl rfl rfl rfl (by simp;exact .mk) ⟨_,Tryz.func134,rfl,rfl⟩ (kN g _ _ _ _ a o hgd hn 187 hk) (.inr ⟨_,rfl⟩) ?_;refine az rfl rfl rfl rfl (by simp;exact .mk) ⟨_,Tryz.func187,rfl,rfl⟩ (GN g _ _ _ _ _ a o (fun m=>by simp) ha hact ⟨ha.h3,ha.h5⟩ hn) (.inl (by simp)) ?_;refine xO ?_;refine xG [4,5,7,8] ?_;refine ay ?_;refine xQ [4,5,7,8,24] ?_ ?_
  ·intro cv;have hdo:=c9 (o:=o) hR (by rw[hE];simpa using cv);refine xU ?_;iterate 2 (refine aH ?_)
   refine xO ?_;iterate 2 (refine aH ?_)
   refine xH [4,5,6] ?_;refine xZ ?_;first|(simp[hdo,hE,aF,aY,aJ,ai];done)|(simp[hdo,hE,aF,aY,aJ,ai,he0];done)|(simp[hdo,hE,aF,aY,aJ,ai,he0,hE2];done)|(exfalso;first|(simp at cv;done)|(simp at cv;omega))
  intro cv;have he0:(bG a o).e=0:=by rw[hE];first|(simpa using cv;done)|exact hE2.2.2.2
  have hdo:=ep (o:=o) hR he0
  rw[hE]at he0 hdo;refine af fun _=>?_;refine ab ?_;refine cN (hard:=[]) 7 8 (aR (by decide)) (by kernel_rfl) 4 [0,1,2,3,4,5,6,7,8,9,10] [0,1,2,3,4,5,6,8,7,9,10] (by decide +kernel) (by decide +kernel) ?_ ?_
  ·skip
   iterate 8 refine xO ?_
   iterate 2 (refine aH ?_)
   refine xH [4,5,6] ?_;refine xZ ?_;first|(simp[hdo,hE,aF,aY,aJ,ai];done)|(simp[hdo,hE,aF,aY,aJ,ai,he0];done)|(simp[hdo,hE,aF,aY,aJ,ai,he0,hE2];done)|(exfalso;first|(simp at cv;done)|(simp at cv;omega))
  skip
  iterate 7 refine xO ?_
  refine aH ?_;refine xO ?_;refine aH ?_;refine xH [4,5,6] ?_;refine xZ ?_;first|(simp[hdo,hE,aF,aY,aJ,ai];done)|(simp[hdo,hE,aF,aY,aJ,ai,he0];done)|(simp[hdo,hE,aF,aY,aJ,ai,he0,hE2];done)|(exfalso;first|(simp at cv;done)|(simp at cv;omega))
 ·skip
  obtain⟨k,hix,hk2,hk3,hk4⟩:=fD (gk (a:=a) (o:=o) (by omega));have hkd:k<a.data.length:=by omega
  have hsl:=gC hR hk2;have hte:o.ix.toNat=k:=by omega
  have hE:bG a o=cz a k:=by simp[bG,hk,hte]
  refine aS (by kernel_rfl) [4] 4 [0,1,3,2,4,5] (by decide +kernel) ?_;refine aT ?_;refine az rfl rfl rfl rfl (by simp;exact .mk) ⟨_,Tryz.func134,rfl,rfl⟩ (kN g _ _ _ _ a o hgd hn 190 hk) (.inr ⟨_,rfl⟩) ?_;refine az rfl rfl rfl rfl (by simp;exact .mk) ⟨_,Tryz.func190,rfl,rfl⟩ (KH g _ _ _ _ _ a o (fun m=>by simp) ha k hix hkd hk2 ⟨hsl.1,hsl.2.1⟩) (.inl (by simp)) ?_;refine xO ?_;refine xG [4,5,7,8] ?_;refine ay ?_;refine xQ [4,5,7,8,24] ?_ ?_
  ·intro cv;have hdo:=c9 (o:=o) hR (by rw[hE];simpa using cv);refine xU ?_;iterate 2 (refine aH ?_)
   refine xO ?_;iterate 2 (refine aH ?_)
   refine xH [4,5,6] ?_;refine xZ ?_;first|(simp[hdo,hE,aF,aY,aJ,ai];done)|(simp[hdo,hE,aF,aY,aJ,ai,he0];done)|(simp[hdo,hE,aF,aY,aJ,ai,he0,hE2];done)|(exfalso;first|(simp at cv;done)|(simp at cv;omega))
  intro cv;have he0:(bG a o).e=0:=by rw[hE];first|(simpa using cv;done)|exact hE2.2.2.2
  have hdo:=ep (o:=o) hR he0
  rw[hE]at he0 hdo;refine af fun _=>?_;refine ab ?_;refine cN (hard:=[]) 7 8 (aR (by decide)) (by kernel_rfl) 4 [0,1,2,3,4,5,6,7,8,9,10] [0,1,2,3,4,5,6,8,7,9,10] (by decide +kernel) (by decide +kernel) ?_ ?_
  ·skip
   iterate 8 refine xO ?_
   iterate 2 (refine aH ?_)
   refine xH [4,5,6] ?_;refine xZ ?_;first|(simp[hdo,hE,aF,aY,aJ,ai];done)|(simp[hdo,hE,aF,aY,aJ,ai,he0];done)|(simp[hdo,hE,aF,aY,aJ,ai,he0,hE2];done)|(exfalso;first|(simp at cv;done)|(simp at cv;omega))
  skip
  iterate 7 refine xO ?_
  refine aH ?_;refine xO ?_;refine aH ?_;refine xH [4,5,6] ?_;refine xZ ?_;first|(simp[hdo,hE,aF,aY,aJ,ai];done)|(simp[hdo,hE,aF,aY,aJ,ai,he0];done)|(simp[hdo,hE,aF,aY,aJ,ai,he0,hE2];done)|(exfalso;first|(simp at cv;done)|(simp at cv;omega))
 ·skip
  obtain⟨k,hix,hk2,hk3,hk4⟩:=fD (gk (a:=a) (o:=o) (by omega));have hkd:k<a.data.length:=by omega
  have hsl:=gC hR hk2;have hte:o.ix.toNat=k:=by omega
  have hE:bG a o=bX a k o.n:=by simp[bG,hk,hte]
  refine aS (by kernel_rfl) [4] 4 [0,1,3,2,4,5] (by decide +kernel) ?_;refine aT ?_;refine az rfl rfl rfl rfl (by simp;exact .mk) ⟨_,Tryz.func134,rfl,rfl⟩ (kN g _ _ _ _ a o hgd hn 191 hk) (.inr ⟨_,rfl⟩) ?_;refine az rfl rfl rfl rfl (by simp;exact .mk) ⟨_,Tryz.func191,rfl,rfl⟩ (KI g _ _ _ _ _ a o (fun m=>by simp) ha k hix hkd (by omega)) (.inl (by simp)) ?_;refine xO ?_;refine xG [4,5,7,8] ?_;refine ay ?_;refine xQ [4,5,7,8,24] ?_ ?_
  ·intro cv;have hdo:=c9 (o:=o) hR (by rw[hE];simpa using cv);refine xU ?_;iterate 2 (refine aH ?_)
   refine xO ?_;iterate 2 (refine aH ?_)
   refine xH [4,5,6] ?_;refine xZ ?_;first|(simp[hdo,hE,aF,aY,aJ,ai];done)|(simp[hdo,hE,aF,aY,aJ,ai,he0];done)|(simp[hdo,hE,aF,aY,aJ,ai,he0,hE2];done)|(exfalso;first|(simp at cv;done)|(simp at cv;omega))
  intro cv;have he0:(bG a o).e=0:=by rw[hE];first|(simpa using cv;done)|exact hE2.2.2.2
  have hdo:=ep (o:=o) hR he0
  rw[hE]at he0 hdo;refine af fun _=>?_;refine ab ?_;refine cN (hard:=[]) 7 8 (aR (by decide)) (by kernel_rfl) 4 [0,1,2,3,4,5,6,7,8,9,10] [0,1,2,3,4,5,6,8,7,9,10] (by decide +kernel) (by decide +kernel) ?_ ?_
  ·skip
   iterate 8 refine xO ?_
   iterate 2 (refine aH ?_)
   refine xH [4,5,6] ?_;refine xZ ?_;first|(simp[hdo,hE,aF,aY,aJ,ai];done)|(simp[hdo,hE,aF,aY,aJ,ai,he0];done)|(simp[hdo,hE,aF,aY,aJ,ai,he0,hE2];done)|(exfalso;first|(simp at cv;done)|(simp at cv;omega))
  skip
  iterate 7 refine xO ?_
  refine aH ?_;refine xO ?_;refine aH ?_;refine xH [4,5,6] ?_;refine xZ ?_;first|(simp[hdo,hE,aF,aY,aJ,ai];done)|(simp[hdo,hE,aF,aY,aJ,ai,he0];done)|(simp[hdo,hE,aF,aY,aJ,ai,he0,hE2];done)|(exfalso;first|(simp at cv;done)|(simp at cv;omega))
 ·skip
  obtain⟨k,hix,hk2,hk3,hk4⟩:=fD (gk (a:=a) (o:=o) (by omega));have hkd:k<a.data.length:=by omega
  have hsl:=gC hR hk2;have hte:o.ix.toNat=k:=by omega
  rw[hte]at hq;have hE:bG a o=fA a k o.off o.n:=by simp[bG,hk,hte]
  have hE2:(fA a k o.off o.n).a=a∧(fA a k o.off o.n).ix=0∧(fA a k o.off o.n).gen=0∧(fA a k o.off o.n).e=0:=by simp[fA,hq]
  refine aS (by kernel_rfl) [4] 4 [0,1,3,2,4,5] (by decide +kernel) ?_;refine aT ?_;refine az rfl rfl rfl rfl (by simp;exact .mk) ⟨_,Tryz.func134,rfl,rfl⟩ (kN g _ _ _ _ a o hgd hn 192 hk) (.inr ⟨_,rfl⟩) ?_;refine az rfl rfl rfl rfl (by simp;exact .mk) ⟨_,Tryz.func192,rfl,rfl⟩ (KJ g _ _ _ _ _ a o (fun m=>by simp) ha k hix hkd (by omega) hq) (.inl (by simp)) ?_;refine xO ?_;refine xG [4,5,7,8] ?_;refine ay ?_;refine xQ [4,5,7,8,24] ?_ ?_
  ·intro cv;have hdo:=c9 (o:=o) hR (by rw[hE];simpa using cv);refine xU ?_;iterate 2 (refine aH ?_)
   refine xO ?_;iterate 2 (refine aH ?_)
   refine xH [4,5,6] ?_;refine xZ ?_;first|(simp[hdo,hE,aF,aY,aJ,ai];done)|(simp[hdo,hE,aF,aY,aJ,ai,he0];done)|(simp[hdo,hE,aF,aY,aJ,ai,he0,hE2];done)|(exfalso;first|(simp at cv;done)|(simp at cv;omega))
  intro cv;have he0:(bG a o).e=0:=by rw[hE];first|(simpa using cv;done)|exact hE2.2.2.2
  have hdo:=ep (o:=o) hR he0
  rw[hE]at he0 hdo;refine af fun _=>?_;refine ab ?_;refine cN (hard:=[]) 7 8 (aR (by decide)) (by kernel_rfl) 4 [0,1,2,3,4,5,6,7,8,9,10] [0,1,2,3,4,5,6,8,7,9,10] (by decide +kernel) (by decide +kernel) ?_ ?_
  ·skip
   iterate 8 refine xO ?_
   iterate 2 (refine aH ?_)
   refine xH [4,5,6] ?_;refine xZ ?_;first|(simp[hdo,hE,aF,aY,aJ,ai];done)|(simp[hdo,hE,aF,aY,aJ,ai,he0];done)|(simp[hdo,hE,aF,aY,aJ,ai,he0,hE2];done)|(exfalso;first|(simp at cv;done)|(simp at cv;omega))
  skip
  iterate 7 refine xO ?_
  refine aH ?_;refine xO ?_;refine aH ?_;refine xH [4,5,6] ?_;refine xZ ?_;first|(simp[hdo,hE,aF,aY,aJ,ai];done)|(simp[hdo,hE,aF,aY,aJ,ai,he0];done)|(simp[hdo,hE,aF,aY,aJ,ai,he0,hE2];done)|(exfalso;first|(simp at cv;done)|(simp at cv;omega))
 ·skip
  obtain⟨k,hix,hk2,hk3,hk4⟩:=fD (gk (a:=a) (o:=o) (by omega));have hkd:k<a.data.length:=by omega
  have hsl:=gC hR hk2;have hte:o.ix.toNat=k:=by omega
  rw[hte]at hq;have hE:bG a o=⟨a,0,0,[],1⟩:=by simp[bG,hk,hte,fA,hq]
  refine aS (by kernel_rfl) [4] 4 [0,1,3,2,4,5] (by decide +kernel) ?_;refine aT ?_;refine az rfl rfl rfl rfl (by simp;exact .mk) ⟨_,Tryz.func134,rfl,rfl⟩ (kN g _ _ _ _ a o hgd hn 192 hk) (.inr ⟨_,rfl⟩) ?_;refine az rfl rfl rfl rfl (by simp;exact .mk) ⟨_,Tryz.func192,rfl,rfl⟩ (GQ g _ _ _ _ _ a o (fun m=>by simp) ha k hix hkd (by omega) hq) (.inl (by simp)) ?_;refine xO ?_;refine xG [4,5,7,8] ?_;refine ay ?_;refine xQ [4,5,7,8,24] ?_ ?_
  ·intro cv;have hdo:=c9 (o:=o) hR (by rw[hE];simpa using cv);refine xU ?_;iterate 2 (refine aH ?_)
   refine xO ?_;iterate 2 (refine aH ?_)
   refine xH [4,5,6] ?_;refine xZ ?_;first|(simp[hdo,hE,aF,aY,aJ,ai];done)|(simp[hdo,hE,aF,aY,aJ,ai,he0];done)|(simp[hdo,hE,aF,aY,aJ,ai,he0,hE2];done)|(exfalso;first|(simp at cv;done)|(simp at cv;omega))
  intro cv;have he0:(bG a o).e=0:=by rw[hE];first|(simpa using cv;done)|exact hE2.2.2.2
  have hdo:=ep (o:=o) hR he0
  rw[hE]at he0 hdo;refine af fun _=>?_;refine ab ?_;refine cN (hard:=[]) 7 8 (aR (by decide)) (by kernel_rfl) 4 [0,1,2,3,4,5,6,7,8,9,10] [0,1,2,3,4,5,6,8,7,9,10] (by decide +kernel) (by decide +kernel) ?_ ?_
  ·skip
   iterate 8 refine xO ?_
   iterate 2 (refine aH ?_)
   refine xH [4,5,6] ?_;refine xZ ?_;first|(simp[hdo,hE,aF,aY,aJ,ai];done)|(simp[hdo,hE,aF,aY,aJ,ai,he0];done)|(simp[hdo,hE,aF,aY,aJ,ai,he0,hE2];done)|(exfalso;first|(simp at cv;done)|(simp at cv;omega))
  skip
  iterate 7 refine xO ?_
  refine aH ?_;refine xO ?_;refine aH ?_;refine xH [4,5,6] ?_;refine xZ ?_;first|(simp[hdo,hE,aF,aY,aJ,ai];done)|(simp[hdo,hE,aF,aY,aJ,ai,he0];done)|(simp[hdo,hE,aF,aY,aJ,ai,he0,hE2];done)|(exfalso;first|(simp at cv;done)|(simp at cv;omega))
 ·skip
  obtain⟨k,hix,hk2,hk3,hk4⟩:=fD (gk (a:=a) (o:=o) (by omega));have hkd:k<a.data.length:=by omega
  have hsl:=gC hR hk2;have hte:o.ix.toNat=k:=by omega
  have hE:bG a o=dx a k o.off o.b:=by simp[bG,hk,hte]
  refine Dp rfl (by kernel_rfl) [1004] 4 [0,1,3,2,4,5] (by decide +kernel) ?_;refine aT ?_;refine az rfl rfl rfl rfl (by simp;exact .mk) ⟨_,Tryz.func134,rfl,rfl⟩ (kN g _ _ _ _ a o hgd hn 193 hk) (.inr ⟨_,rfl⟩) ?_;refine dX rfl rfl rfl rfl (by simp;exact .mk) ⟨_,Tryz.func193,rfl,rfl⟩ (cg (by simp) (cg (by simp) (cg (by simp) (cg (by simp) (cT (by simp)))))) (KK g _ _ _ _ _ a o (fun m=>by simp) ha k hix hkd (by omega) (by simp) qe _ rfl) (by simp) (by decide) ?_;refine xO ?_;refine xG [4,5,7,8] ?_;refine ay ?_;refine xQ [4,5,7,8,24] ?_ ?_
  ·intro cv;have hdo:=c9 (o:=o) hR (by rw[hE];simpa using cv);refine xU ?_;iterate 2 (refine aH ?_)
   refine xO ?_;iterate 2 (refine aH ?_)
   refine xH [4,5,6] ?_;refine xZ ?_;first|(simp[hdo,hE,aF,aY,aJ,ai];done)|(simp[hdo,hE,aF,aY,aJ,ai,he0];done)|(simp[hdo,hE,aF,aY,aJ,ai,he0,hE2];done)|(exfalso;first|(simp at cv;done)|(simp at cv;omega))
  intro cv;have he0:(bG a o).e=0:=by rw[hE];first|(simpa using cv;done)|exact hE2.2.2.2
  have hdo:=ep (o:=o) hR he0
  rw[hE]at he0 hdo;refine af fun _=>?_;refine ab ?_;refine cN (hard:=[]) 7 8 (aR (by decide)) (by kernel_rfl) 4 [0,1,2,3,4,5,6,7,8,9,10] [0,1,2,3,4,5,6,8,7,9,10] (by decide +kernel) (by decide +kernel) ?_ ?_
  ·skip
   iterate 8 refine xO ?_
   iterate 2 (refine aH ?_)
   refine xH [4,5,6] ?_;refine xZ ?_;first|(simp[hdo,hE,aF,aY,aJ,ai];done)|(simp[hdo,hE,aF,aY,aJ,ai,he0];done)|(simp[hdo,hE,aF,aY,aJ,ai,he0,hE2];done)|(exfalso;first|(simp at cv;done)|(simp at cv;omega))
  skip
  iterate 7 refine xO ?_
  refine aH ?_;refine xO ?_;refine aH ?_;refine xH [4,5,6] ?_;refine xZ ?_;first|(simp[hdo,hE,aF,aY,aJ,ai];done)|(simp[hdo,hE,aF,aY,aJ,ai,he0];done)|(simp[hdo,hE,aF,aY,aJ,ai,he0,hE2];done)|(exfalso;first|(simp at cv;done)|(simp at cv;omega))
 skip
 have hE:bG a o=⟨a,0,0,[],e⟩:=by
  have h1:bq a o≠186∧bq a o≠187∧bq a o≠190∧bq a o≠191∧bq a o≠192∧bq a o≠193:=by omega
  unfold bG;rw[if_neg h1.1,if_neg h1.2.1,if_neg h1.2.2.1,if_neg h1.2.2.2.1,if_neg h1.2.2.2.2.1,if_neg h1.2.2.2.2.2,hk];simp
 refine aS (by kernel_rfl) [4] 4 [0,1,3,2,4,5] (by decide +kernel) ?_;refine aT ?_;refine az rfl rfl rfl rfl (by simp;exact .mk) ⟨_,Tryz.func134,rfl,rfl⟩ (GC g _ _ _ _ a o hgd hn e he hk) (.inr ⟨_,rfl⟩) ?_;refine az rfl rfl rfl rfl (by simp;exact .mk) ⟨_,Tryz.func185,rfl,rfl⟩ (KF g _ _ _ _ _ a o e (fun m=>by simp)) (.inl (by simp)) ?_;refine xO ?_;refine xG [4,5,7,8] ?_;refine ay ?_;refine xQ [4,5,7,8,24] ?_ ?_
 ·intro cv;have hdo:=c9 (o:=o) hR (by rw[hE];simpa using cv);refine xU ?_;iterate 2 (refine aH ?_)
  refine xO ?_;iterate 2 (refine aH ?_)
  refine xH [4,5,6] ?_;refine xZ ?_;first|(simp[hdo,hE,aF,aY,aJ,ai];done)|(simp[hdo,hE,aF,aY,aJ,ai,he0];done)|(simp[hdo,hE,aF,aY,aJ,ai,he0,hE2];done)|(exfalso;first|(simp at cv;done)|(simp at cv;omega))
 intro cv;have he0:(bG a o).e=0:=by rw[hE];first|(simpa using cv;done)|exact hE2.2.2.2
 have hdo:=ep (o:=o) hR he0
 rw[hE]at he0 hdo;refine af fun _=>?_;refine ab ?_;refine cN (hard:=[]) 7 8 (aR (by decide)) (by kernel_rfl) 4 [0,1,2,3,4,5,6,7,8,9,10] [0,1,2,3,4,5,6,8,7,9,10] (by decide +kernel) (by decide +kernel) ?_ ?_
 ·skip
  iterate 8 refine xO ?_
  iterate 2 (refine aH ?_)
  refine xH [4,5,6] ?_;refine xZ ?_;first|(simp[hdo,hE,aF,aY,aJ,ai];done)|(simp[hdo,hE,aF,aY,aJ,ai,he0];done)|(simp[hdo,hE,aF,aY,aJ,ai,he0,hE2];done)|(exfalso;first|(simp at cv;done)|(simp at cv;omega))
 skip
 iterate 7 refine xO ?_
 refine aH ?_;refine xO ?_;refine aH ?_;refine xH [4,5,6] ?_;refine xZ ?_;first|(simp[hdo,hE,aF,aY,aJ,ai];done)|(simp[hdo,hE,aF,aY,aJ,ai,he0];done)|(simp[hdo,hE,aF,aY,aJ,ai,he0,hE2];done)|(exfalso;first|(simp at cv;done)|(simp at cv;omega))
set_option maxRecDepth 4000
open Go.aN
theorem Et(g:Gl)(s:bF)(o:Op)(hs:s.Ok)(hR:bL s=true)(hn:o.name.size≤2^40)(qe:o.b.length≤2^40):a9 Tryz.prog g 129 [cr s,mE o] (bh (kv s o)):=by
 refine xA Tryz.func129 fun B S=>?_
 simp only[cr,mE,List.map,aO,cC];have vi:=Mh g s hs;obtain⟨Q,hQ⟩:∃Q,Q=cO s:=⟨_,rfl⟩;rw[←hQ]at vi;have MU:Q.Ok:=by rw[hQ];exact Cw hs
 have vj:=Ml g Q o MU hn qe;obtain⟨R,hR0⟩:∃R,R=dR Q o:=⟨_,rfl⟩;rw[←hR0]at vj;have hRe:dR (cO s) o=R:=by rw[hR0,hQ]
 refine xU ?_;refine cW ?_;refine xF [2,3,4,5] ?_;refine ab ?_;refine qF (hard:=[]) [1,3,8,9] (aR (by decide)) (by kernel_rfl) 4 [0,2,1,3,4,5,6,7,8,9,10,11,12] [[0,2,1,3,4,5,6,7,9,8,10,11,12],[0,2,1,8,3,4,5,6,7,9,10,11,12],[0,2,1,8,9,3,4,5,6,7,10,11,12],[0,2,1,9,3,4,5,6,7,8,10,11,12],[0,2,1,9,8,3,4,5,6,7,10,11,12],[0,2,8,1,3,4,5,6,7,9,10,11,12],[0,2,8,1,9,3,4,5,6,7,10,11,12],[0,2,8,9,1,3,4,5,6,7,10,11,12],[0,2,9,1,3,4,5,6,7,8,10,11,12],[0,2,9,1,8,3,4,5,6,7,10,11,12],[0,2,9,8,1,3,4,5,6,7,10,11,12]] (by decide +kernel) ?_;refine ay ?_;refine xC (vi) ?_ (he:=by simp[au,Function.comp_def];exact .mk) (hi:=by simp[ax,aJ];exact .mk);refine xC (vj) ?_ (he:=by simp[au,Function.comp_def];exact .mk) (hi:=by simp[ax,aJ];exact .mk);iterate 6 refine xO ?_
 iterate 2 (refine aH ?_)
 refine xO ?_;refine xE [2,3,4,5,7,8,9] ?_;refine⟨_,rfl,⟨?_,?_,?_,?_,?_,?_,?_,?_,?_,?_,?_,trivial⟩,?_⟩
 ·skip
  refine ay ?_;refine xC (vi) ?_ (he:=by simp[au,Function.comp_def];exact .mk) (hi:=by simp[ax,aJ];exact .mk);refine xC (vj) ?_ (he:=by simp[au,Function.comp_def];exact .mk) (hi:=by simp[ax,aJ];exact .mk);iterate 6 refine xO ?_
  iterate 2 (refine aH ?_)
  refine xO ?_;refine xE [2,3,4,5,7,8,9] ?_;exact Weak.perm [0,1,2,3,4,5,6,7,8,9,10,12,11] [0,1,2,3,4,5,6,7,8,9,10,12,11] rfl rfl rfl
 ·skip
  refine ay ?_;refine xC (vi) ?_ (he:=by simp[au,Function.comp_def];exact .mk) (hi:=by simp[ax,aJ];exact .mk);refine xO ?_;refine xC (vj) ?_ (he:=by simp[au,Function.comp_def];exact .mk) (hi:=by simp[ax,aJ];exact .mk);refine cW ?_;iterate 2 (refine aH ?_)
  refine xO ?_;refine xE [2,3,4,5,7,8,9] ?_;exact Weak.perm [0,1,2,3,4,5,6,11,7,8,9,10,12] [0,1,2,3,4,5,6,8,9,10,11,7,12] rfl rfl rfl
 ·skip
  refine ay ?_;refine xC (vi) ?_ (he:=by simp[au,Function.comp_def];exact .mk) (hi:=by simp[ax,aJ];exact .mk);refine ay ?_;refine xC (vj) ?_ (he:=by simp[au,Function.comp_def];exact .mk) (hi:=by simp[ax,aJ];exact .mk);refine bx ?_;iterate 2 (refine aH ?_)
  refine xO ?_;refine xE [2,3,4,5,7,8,9] ?_;exact Weak.perm [0,1,2,3,4,5,6,11,12,7,8,9,10] [0,1,2,3,4,5,6,9,10,11,12,7,8] rfl rfl rfl
 ·skip
  refine ay ?_;refine xC (vi) ?_ (he:=by simp[au,Function.comp_def];exact .mk) (hi:=by simp[ax,aJ];exact .mk);refine xO ?_;refine xC (vj) ?_ (he:=by simp[au,Function.comp_def];exact .mk) (hi:=by simp[ax,aJ];exact .mk);refine cW ?_;iterate 2 (refine aH ?_)
  refine xO ?_;refine xE [2,3,4,5,7,8,9] ?_;exact Weak.perm [0,1,2,3,4,5,6,12,7,8,9,10,11] [0,1,2,3,4,5,6,8,9,10,11,12,7] rfl rfl rfl
 ·skip
  refine ay ?_;refine xC (vi) ?_ (he:=by simp[au,Function.comp_def];exact .mk) (hi:=by simp[ax,aJ];exact .mk);refine ay ?_;refine xC (vj) ?_ (he:=by simp[au,Function.comp_def];exact .mk) (hi:=by simp[ax,aJ];exact .mk);refine bx ?_;iterate 2 (refine aH ?_)
  refine xO ?_;refine xE [2,3,4,5,7,8,9] ?_;exact Weak.perm [0,1,2,3,4,5,6,12,11,7,8,9,10] [0,1,2,3,4,5,6,9,10,11,12,8,7] rfl rfl rfl
 ·skip
  refine aT ?_;refine xC (vi) ?_ (he:=by simp[au,Function.comp_def];exact .mk) (hi:=by simp[ax,aJ];exact .mk);refine xC (vj) ?_ (he:=by simp[au,Function.comp_def];exact .mk) (hi:=by simp[ax,aJ];exact .mk);refine cW ?_;iterate 2 (refine aH ?_)
  refine xO ?_;refine xE [2,3,4,5,7,8,9] ?_;exact Weak.perm [0,1,2,3,11,4,5,6,7,8,9,10,12] [0,1,2,3,5,6,7,8,9,10,11,4,12] rfl rfl rfl
 ·skip
  refine aT ?_;refine xC (vi) ?_ (he:=by simp[au,Function.comp_def];exact .mk) (hi:=by simp[ax,aJ];exact .mk);refine xO ?_;refine xC (vj) ?_ (he:=by simp[au,Function.comp_def];exact .mk) (hi:=by simp[ax,aJ];exact .mk);refine bx ?_;iterate 2 (refine aH ?_)
  refine xO ?_;refine xE [2,3,4,5,7,8,9] ?_;exact Weak.perm [0,1,2,3,11,4,5,6,12,7,8,9,10] [0,1,2,3,5,6,7,9,10,11,12,4,8] rfl rfl rfl
 ·skip
  refine bx ?_;refine xC (vi) ?_ (he:=by simp[au,Function.comp_def];exact .mk) (hi:=by simp[ax,aJ];exact .mk);refine xC (vj) ?_ (he:=by simp[au,Function.comp_def];exact .mk) (hi:=by simp[ax,aJ];exact .mk);refine bx ?_;iterate 2 (refine aH ?_)
  refine xO ?_;refine xE [2,3,4,5,7,8,9] ?_;exact Weak.perm [0,1,2,3,11,12,4,5,6,7,8,9,10] [0,1,2,3,6,7,8,9,10,11,12,4,5] rfl rfl rfl
 ·skip
  refine aT ?_;refine xC (vi) ?_ (he:=by simp[au,Function.comp_def];exact .mk) (hi:=by simp[ax,aJ];exact .mk);refine xC (vj) ?_ (he:=by simp[au,Function.comp_def];exact .mk) (hi:=by simp[ax,aJ];exact .mk);refine cW ?_;iterate 2 (refine aH ?_)
  refine xO ?_;refine xE [2,3,4,5,7,8,9] ?_;exact Weak.perm [0,1,2,3,12,4,5,6,7,8,9,10,11] [0,1,2,3,5,6,7,8,9,10,11,12,4] rfl rfl rfl
 ·skip
  refine aT ?_;refine xC (vi) ?_ (he:=by simp[au,Function.comp_def];exact .mk) (hi:=by simp[ax,aJ];exact .mk);refine xO ?_;refine xC (vj) ?_ (he:=by simp[au,Function.comp_def];exact .mk) (hi:=by simp[ax,aJ];exact .mk);refine bx ?_;iterate 2 (refine aH ?_)
  refine xO ?_;refine xE [2,3,4,5,7,8,9] ?_;exact Weak.perm [0,1,2,3,12,4,5,6,11,7,8,9,10] [0,1,2,3,5,6,7,9,10,11,12,8,4] rfl rfl rfl
 ·skip
  refine bx ?_;refine xC (vi) ?_ (he:=by simp[au,Function.comp_def];exact .mk) (hi:=by simp[ax,aJ];exact .mk);refine xC (vj) ?_ (he:=by simp[au,Function.comp_def];exact .mk) (hi:=by simp[ax,aJ];exact .mk);refine bx ?_;iterate 2 (refine aH ?_)
  refine xO ?_;refine xE [2,3,4,5,7,8,9] ?_;exact Weak.perm [0,1,2,3,12,11,4,5,6,7,8,9,10] [0,1,2,3,6,7,8,9,10,11,12,5,4] rfl rfl rfl
 rintro -;refine ab (xU ?_);refine ay ?_;refine xQ [2,3,4,5,7,8,9,22] ?_ ?_
 ·intro h22;have he:R.e≠0:=by simpa using h22
  have hd:=uw (s:=s) (o:=o) (by rw[hRe];exact he);rw[hRe]at hd;refine xU ?_;iterate 2 (refine aH ?_)
  refine xO ?_;iterate 2 (refine aH ?_)
  refine xH [4,5,6] ?_;refine ar (aG (by simp[Tryz.f129];exact .mk) (by simp;exact .mk) ?_ (by simp[aV]));first|(simp[Tryz.f129,hd,bh,bZ,bn,ax,ai];done)|(simp[Tryz.f129,hd,hX,bh,ax,ai,bj,bf];done)
 intro h22;have he:R.e=0:=by simpa using h22
 have h0:(dR (cO s) o).e=0:=by rw[hRe];exact he
 refine af ?_;refine xT ?_;refine aT ?_;refine aH ?_;refine ay ?_;refine xG [3,4,5,8,10] ?_;refine dC [3,4,5,8,10,11] ?_;refine ab (xU ?_);refine bU [4,5,8,10,11,34] ?_;refine ag (xU ?_);refine ay ?_;refine xQ [4,5,8,10,11,34,35] ?_ ?_
 ·intro rt;have k1:o.act=1:=by simpa using rt
  obtain⟨X,hX⟩:∃X,X=(dF s o.n).1:=⟨_,rfl⟩;obtain⟨e,he2⟩:∃e:Int,e=(dF s o.n).2.2:=⟨_,rfl⟩;have hA:dq s (dR (cO s) o).a o=(X,e):=by rw[hX,he2];simp[dq,hRe,k1]
  have hcall:=KA g s hs Q R.a R.ix R.gen R.b o X e hX he2;have hent:Enters Tryz.prog 172:=⟨_,Tryz.func172,rfl,rfl⟩;refine xY ?_;refine dC [4,5,8,11] ?_;refine ab ?_;refine gG rfl [1001] rfl ?_;refine xO ?_;refine dX rfl rfl rfl rfl (by simp;exact .mk) hent (cg (by simp) (cT (by simp))) (hcall) (by simp) (by decide) ?_;refine bx ?_;refine aH ?_;refine xH [4,5,8,9,12] ?_;refine ab (xU ?_);refine ay ?_;refine xQ [4,5,8,9,12,62] ?_ ?_
  ·intro lh;have hd:=eJ h0 hA (by simpa using lh);refine xU ?_;iterate 2 (refine aH ?_)
   refine xO ?_;iterate 2 (refine aH ?_)
   refine xH [4,5,6] ?_;refine ar (aG (by simp[Tryz.f129];exact .mk) (by simp;exact .mk) ?_ (by simp[aV]));first|(simp[Tryz.f129,hd,bh,bZ,bn,ax,ai];done)|(simp[Tryz.f129,hd,hX,bh,ax,ai,bj,bf];done)
  intro lh;have gb:e=0:=by simpa using lh
  have hd:=gc h0 (by rw[hA,gb]);rw[hRe]at hd;refine af fun _=>?_;refine ab ?_;refine cN (hard:=[]) 1 2 (aR (by decide)) (by kernel_rfl) 4 [0,1,2,3,4] [0,2,1,3,4] (by decide +kernel) (by decide +kernel) ?_ ?_
  ·skip
   refine ay ?_;iterate 2 (refine aH ?_)
   refine xH [4,5,6] ?_;refine ar (aG (by simp[Tryz.f129];exact .mk) (by simp;exact .mk) ?_ (by simp[aV]));first|(simp[Tryz.f129,hd,bh,bZ,bn,ax,ai];done)|(simp[Tryz.f129,hd,hX,bh,ax,ai,bj,bf];done)
  skip
  refine xO ?_;refine aH ?_;refine xO ?_;refine aH ?_;refine xH [4,5,6] ?_;refine ar (aG (by simp[Tryz.f129];exact .mk) (by simp;exact .mk) ?_ (by simp[aV]));first|(simp[Tryz.f129,hd,bh,bZ,bn,ax,ai];done)|(simp[Tryz.f129,hd,hX,bh,ax,ai,bj,bf];done)
 intro rt;have k1:o.act≠1:=by simpa using rt
 refine xU ?_;refine ay ?_;refine xQ [4,5,8,10,11,34,39] ?_ ?_
 ·intro pO;have k2:o.act=2:=by simpa using pO
  obtain⟨X,hX⟩:∃X,X=(fk s o.ix).1:=⟨_,rfl⟩;obtain⟨e,he2⟩:∃e:Int,e=(fk s o.ix).2:=⟨_,rfl⟩;have hA:dq s (dR (cO s) o).a o=(X,e):=by rw[hX,he2];simp[dq,hRe,k1,k2]
  have hcall:=KB g s hs Q R.a R.ix R.gen R.b o X e hX he2;have hent:Enters Tryz.prog 173:=⟨_,Tryz.func173,rfl,rfl⟩;refine xY ?_;refine dC [4,5,8,11] ?_;refine ab ?_;refine gG rfl [1001] rfl ?_;refine xO ?_;refine dX rfl rfl rfl rfl (by simp;exact .mk) hent (cg (by simp) (cT (by simp))) (hcall) (by simp) (by decide) ?_;refine bx ?_;refine aH ?_;refine xH [4,5,8,9,12] ?_;refine ab (xU ?_);refine ay ?_;refine xQ [4,5,8,9,12,62] ?_ ?_
  ·intro lh;have hd:=eJ h0 hA (by simpa using lh);refine xU ?_;iterate 2 (refine aH ?_)
   refine xO ?_;iterate 2 (refine aH ?_)
   refine xH [4,5,6] ?_;refine ar (aG (by simp[Tryz.f129];exact .mk) (by simp;exact .mk) ?_ (by simp[aV]));first|(simp[Tryz.f129,hd,bh,bZ,bn,ax,ai];done)|(simp[Tryz.f129,hd,hX,bh,ax,ai,bj,bf];done)
  intro lh;have gb:e=0:=by simpa using lh
  have hd:=gc h0 (by rw[hA,gb]);rw[hRe]at hd;refine af fun _=>?_;refine ab ?_;refine cN (hard:=[]) 1 2 (aR (by decide)) (by kernel_rfl) 4 [0,1,2,3,4] [0,2,1,3,4] (by decide +kernel) (by decide +kernel) ?_ ?_
  ·skip
   refine ay ?_;iterate 2 (refine aH ?_)
   refine xH [4,5,6] ?_;refine ar (aG (by simp[Tryz.f129];exact .mk) (by simp;exact .mk) ?_ (by simp[aV]));first|(simp[Tryz.f129,hd,bh,bZ,bn,ax,ai];done)|(simp[Tryz.f129,hd,hX,bh,ax,ai,bj,bf];done)
  skip
  refine xO ?_;refine aH ?_;refine xO ?_;refine aH ?_;refine xH [4,5,6] ?_;refine ar (aG (by simp[Tryz.f129];exact .mk) (by simp;exact .mk) ?_ (by simp[aV]));first|(simp[Tryz.f129,hd,bh,bZ,bn,ax,ai];done)|(simp[Tryz.f129,hd,hX,bh,ax,ai,bj,bf];done)
 intro pO;have k2:o.act≠2:=by simpa using pO
 refine xU ?_;refine ay ?_;refine xQ [4,5,8,10,11,34,43] ?_ ?_
 ·intro h43;have k3:o.act=3:=by simpa using h43
  obtain⟨X,hX⟩:∃X,X=(gq s o.ix o.n).1:=⟨_,rfl⟩;obtain⟨e,he2⟩:∃e:Int,e=(gq s o.ix o.n).2:=⟨_,rfl⟩;have hA:dq s (dR (cO s) o).a o=(X,e):=by rw[hX,he2];simp[dq,hRe,k1,k2,k3]
  have hcall:=KC g s hs Q R.a R.ix R.gen R.b o X e hX he2;have hent:Enters Tryz.prog 174:=⟨_,Tryz.func174,rfl,rfl⟩;refine xY ?_;refine dC [4,5,8,11] ?_;refine ab ?_;refine gG rfl [1001] rfl ?_;refine xO ?_;refine dX rfl rfl rfl rfl (by simp;exact .mk) hent (cg (by simp) (cT (by simp))) (hcall) (by simp) (by decide) ?_;refine bx ?_;refine aH ?_;refine xH [4,5,8,9,12] ?_;refine ab (xU ?_);refine ay ?_;refine xQ [4,5,8,9,12,62] ?_ ?_
  ·intro lh;have hd:=eJ h0 hA (by simpa using lh);refine xU ?_;iterate 2 (refine aH ?_)
   refine xO ?_;iterate 2 (refine aH ?_)
   refine xH [4,5,6] ?_;refine ar (aG (by simp[Tryz.f129];exact .mk) (by simp;exact .mk) ?_ (by simp[aV]));first|(simp[Tryz.f129,hd,bh,bZ,bn,ax,ai];done)|(simp[Tryz.f129,hd,hX,bh,ax,ai,bj,bf];done)
  intro lh;have gb:e=0:=by simpa using lh
  have hd:=gc h0 (by rw[hA,gb]);rw[hRe]at hd;refine af fun _=>?_;refine ab ?_;refine cN (hard:=[]) 1 2 (aR (by decide)) (by kernel_rfl) 4 [0,1,2,3,4] [0,2,1,3,4] (by decide +kernel) (by decide +kernel) ?_ ?_
  ·skip
   refine ay ?_;iterate 2 (refine aH ?_)
   refine xH [4,5,6] ?_;refine ar (aG (by simp[Tryz.f129];exact .mk) (by simp;exact .mk) ?_ (by simp[aV]));first|(simp[Tryz.f129,hd,bh,bZ,bn,ax,ai];done)|(simp[Tryz.f129,hd,hX,bh,ax,ai,bj,bf];done)
  skip
  refine xO ?_;refine aH ?_;refine xO ?_;refine aH ?_;refine xH [4,5,6] ?_;refine ar (aG (by simp[Tryz.f129];exact .mk) (by simp;exact .mk) ?_ (by simp[aV]));first|(simp[Tryz.f129,hd,bh,bZ,bn,ax,ai];done)|(simp[Tryz.f129,hd,hX,bh,ax,ai,bj,bf];done)
 intro h43;have k3:o.act≠3:=by simpa using h43
 refine xU ?_;refine ay ?_;refine xQ [4,5,8,10,11,34,47] ?_ ?_
 ·intro h47;have k5:o.act=5:=by simpa using h47
  obtain⟨k,hix,hk,hk2⟩:=w8 hR h0 k5;rw[hRe]at hk2;obtain⟨X,hX⟩:∃X,X=(bf s k (nth R.a.data k)):=⟨_,rfl⟩;obtain⟨e,he2⟩:∃e:Int,e=0:=⟨_,rfl⟩;have hA:dq s (dR (cO s) o).a o=(X,e):=by rw[hX,he2];simp[dq,hRe,k1,k2,k3,k5,hix]
  have hcall:=KD g s hs Q R.a R.ix R.gen R.b o e he2 k hix hk hk2;have hent:Enters Tryz.prog 175:=⟨_,Tryz.func175,rfl,rfl⟩;refine xY ?_;refine dC [4,5,8,11] ?_;refine ab ?_;refine gG rfl [1001] rfl ?_;refine xO ?_;refine dX rfl rfl rfl rfl (by simp;exact .mk) hent (cg (by simp) (cT (by simp))) (hcall) (by simp) (by decide) ?_;refine bx ?_;refine aH ?_;refine xH [4,5,8,9,12] ?_;refine ab (xU ?_);refine ay ?_;refine xQ [4,5,8,9,12,62] ?_ ?_
  ·intro lh;have hd:=eJ h0 hA (by simpa using lh);refine xU ?_;iterate 2 (refine aH ?_)
   refine xO ?_;iterate 2 (refine aH ?_)
   refine xH [4,5,6] ?_;refine ar (aG (by simp[Tryz.f129];exact .mk) (by simp;exact .mk) ?_ (by simp[aV]));first|(simp[Tryz.f129,hd,bh,bZ,bn,ax,ai];done)|(simp[Tryz.f129,hd,hX,bh,ax,ai,bj,bf];done)
  intro lh;have gb:e=0:=by simpa using lh
  have hd:=gc h0 (by rw[hA,gb]);rw[hRe]at hd;refine af fun _=>?_;refine ab ?_;refine cN (hard:=[]) 1 2 (aR (by decide)) (by kernel_rfl) 4 [0,1,2,3,4] [0,2,1,3,4] (by decide +kernel) (by decide +kernel) ?_ ?_
  ·skip
   refine ay ?_;iterate 2 (refine aH ?_)
   refine xH [4,5,6] ?_;refine ar (aG (by simp[Tryz.f129];exact .mk) (by simp;exact .mk) ?_ (by simp[aV]));first|(simp[Tryz.f129,hd,bh,bZ,bn,ax,ai];done)|(simp[Tryz.f129,hd,hX,bh,ax,ai,bj,bf];done)
  skip
  refine xO ?_;refine aH ?_;refine xO ?_;refine aH ?_;refine xH [4,5,6] ?_;refine ar (aG (by simp[Tryz.f129];exact .mk) (by simp;exact .mk) ?_ (by simp[aV]));first|(simp[Tryz.f129,hd,bh,bZ,bn,ax,ai];done)|(simp[Tryz.f129,hd,hX,bh,ax,ai,bj,bf];done)
 intro h47;have k5:o.act≠5:=by simpa using h47
 refine ab (xU ?_);refine ay ?_;refine xQ [4,5,8,10,11,34,51] ?_ ?_
 ·intro tb;have k6:o.act=6:=by simpa using tb
  refine af fun _=>?_;refine bd rfl ?_ ?_
  ·intro m8;have k7:o.act=6∨o.act=8:=by first|exact .inl k6|exact .inr (by simpa using m8)
   obtain⟨X,hX⟩:∃X,X=(bj s R.a.roots):=⟨_,rfl⟩;obtain⟨e,he2⟩:∃e:Int,e=0:=⟨_,rfl⟩;have hA:dq s (dR (cO s) o).a o=(X,e):=by rw[hX,he2];simp[dq,hRe,k1,k2,k3,k5,k7]
   have hcall:=E8 g s hs Q R.a R.ix R.gen R.b o e he2;have hent:Enters Tryz.prog 176:=⟨_,Tryz.func176,rfl,rfl⟩;refine xY ?_;refine dC [4,5,8,11] ?_;refine ab ?_;refine gG rfl [1001] rfl ?_;refine xO ?_;refine dX rfl rfl rfl rfl (by simp;exact .mk) hent (cg (by simp) (cT (by simp))) (hcall) (by simp) (by decide) ?_;refine bx ?_;refine aH ?_;refine xH [4,5,8,9,12] ?_;refine ab (xU ?_);refine ay ?_;refine xQ [4,5,8,9,12,62] ?_ ?_
   ·intro lh;have hd:=eJ h0 hA (by simpa using lh);refine xU ?_;iterate 2 (refine aH ?_)
    refine xO ?_;iterate 2 (refine aH ?_)
    refine xH [4,5,6] ?_;refine ar (aG (by simp[Tryz.f129];exact .mk) (by simp;exact .mk) ?_ (by simp[aV]));first|(simp[Tryz.f129,hd,bh,bZ,bn,ax,ai];done)|(simp[Tryz.f129,hd,hX,bh,ax,ai,bj,bf];done)
   intro lh;have gb:e=0:=by simpa using lh
   have hd:=gc h0 (by rw[hA,gb]);rw[hRe]at hd;refine af fun _=>?_;refine ab ?_;refine cN (hard:=[]) 1 2 (aR (by decide)) (by kernel_rfl) 4 [0,1,2,3,4] [0,2,1,3,4] (by decide +kernel) (by decide +kernel) ?_ ?_
   ·skip
    refine ay ?_;iterate 2 (refine aH ?_)
    refine xH [4,5,6] ?_;refine ar (aG (by simp[Tryz.f129];exact .mk) (by simp;exact .mk) ?_ (by simp[aV]));first|(simp[Tryz.f129,hd,bh,bZ,bn,ax,ai];done)|(simp[Tryz.f129,hd,hX,bh,ax,ai,bj,bf];done)
   skip
   refine xO ?_;refine aH ?_;refine xO ?_;refine aH ?_;refine xH [4,5,6] ?_;refine ar (aG (by simp[Tryz.f129];exact .mk) (by simp;exact .mk) ?_ (by simp[aV]));first|(simp[Tryz.f129,hd,bh,bZ,bn,ax,ai];done)|(simp[Tryz.f129,hd,hX,bh,ax,ai,bj,bf];done)
  intro hq;cases tb.symm.trans hq
 intro tb;have k6:o.act≠6:=by simpa using tb
 refine xY ?_;refine ay ?_;refine xQ [4,5,8,10,11,51] ?_ ?_
 ·intro m8;have k7:o.act=6∨o.act=8:=by first|exact .inl k6|exact .inr (by simpa using m8)
  obtain⟨X,hX⟩:∃X,X=(bj s R.a.roots):=⟨_,rfl⟩;obtain⟨e,he2⟩:∃e:Int,e=0:=⟨_,rfl⟩;have hA:dq s (dR (cO s) o).a o=(X,e):=by rw[hX,he2];simp[dq,hRe,k1,k2,k3,k5,k7]
  have hcall:=E8 g s hs Q R.a R.ix R.gen R.b o e he2;have hent:Enters Tryz.prog 176:=⟨_,Tryz.func176,rfl,rfl⟩;refine xY ?_;refine dC [4,5,8,11] ?_;refine ab ?_;refine gG rfl [1001] rfl ?_;refine xO ?_;refine dX rfl rfl rfl rfl (by simp;exact .mk) hent (cg (by simp) (cT (by simp))) (hcall) (by simp) (by decide) ?_;refine bx ?_;refine aH ?_;refine xH [4,5,8,9,12] ?_;refine ab (xU ?_);refine ay ?_;refine xQ [4,5,8,9,12,62] ?_ ?_
  ·intro lh;have hd:=eJ h0 hA (by simpa using lh);refine xU ?_;iterate 2 (refine aH ?_)
   refine xO ?_;iterate 2 (refine aH ?_)
   refine xH [4,5,6] ?_;refine ar (aG (by simp[Tryz.f129];exact .mk) (by simp;exact .mk) ?_ (by simp[aV]));first|(simp[Tryz.f129,hd,bh,bZ,bn,ax,ai];done)|(simp[Tryz.f129,hd,hX,bh,ax,ai,bj,bf];done)
  intro lh;have gb:e=0:=by simpa using lh
  have hd:=gc h0 (by rw[hA,gb]);rw[hRe]at hd;refine af fun _=>?_;refine ab ?_;refine cN (hard:=[]) 1 2 (aR (by decide)) (by kernel_rfl) 4 [0,1,2,3,4] [0,2,1,3,4] (by decide +kernel) (by decide +kernel) ?_ ?_
  ·skip
   refine ay ?_;iterate 2 (refine aH ?_)
   refine xH [4,5,6] ?_;refine ar (aG (by simp[Tryz.f129];exact .mk) (by simp;exact .mk) ?_ (by simp[aV]));first|(simp[Tryz.f129,hd,bh,bZ,bn,ax,ai];done)|(simp[Tryz.f129,hd,hX,bh,ax,ai,bj,bf];done)
  skip
  refine xO ?_;refine aH ?_;refine xO ?_;refine aH ?_;refine xH [4,5,6] ?_;refine ar (aG (by simp[Tryz.f129];exact .mk) (by simp;exact .mk) ?_ (by simp[aV]));first|(simp[Tryz.f129,hd,bh,bZ,bn,ax,ai];done)|(simp[Tryz.f129,hd,hX,bh,ax,ai,bj,bf];done)
 intro m8;have k7:¬(o.act=6∨o.act=8):=fun q=>q.elim k6 (by simpa using m8)
 obtain⟨X,hX⟩:∃X,X=s:=⟨_,rfl⟩;obtain⟨e,he2⟩:∃e:Int,e=0:=⟨_,rfl⟩;have hA:dq s (dR (cO s) o).a o=(X,e):=by rw[hX,he2];simp[dq,hRe,k1,k2,k3,k5,k7]
 have hcall:=Kz g s hs Q R.a R.ix R.gen R.b o e he2;have hent:Enters Tryz.prog 171:=⟨_,Tryz.func171,rfl,rfl⟩;refine af fun _=>?_;refine ab ?_;refine gG rfl [1001] rfl ?_;refine xO ?_;refine dX rfl rfl rfl rfl (by simp;exact .mk) hent (cg (by simp) (cT (by simp))) (hcall) (by simp) (by decide) ?_;refine bx ?_;refine aH ?_;refine xH [4,5,8,9,12] ?_;refine ab (xU ?_);refine ay ?_;refine xQ [4,5,8,9,12,62] ?_ ?_
 ·intro lh;have hd:=eJ h0 hA (by simpa using lh);refine xU ?_;iterate 2 (refine aH ?_)
  refine xO ?_;iterate 2 (refine aH ?_)
  refine xH [4,5,6] ?_;refine ar (aG (by simp[Tryz.f129];exact .mk) (by simp;exact .mk) ?_ (by simp[aV]));first|(simp[Tryz.f129,hd,bh,bZ,bn,ax,ai];done)|(simp[Tryz.f129,hd,hX,bh,ax,ai,bj,bf];done)
 intro lh;have gb:e=0:=by simpa using lh
 have hd:=gc h0 (by rw[hA,gb]);rw[hRe]at hd;refine af fun _=>?_;refine ab ?_;refine cN (hard:=[]) 1 2 (aR (by decide)) (by kernel_rfl) 4 [0,1,2,3,4] [0,2,1,3,4] (by decide +kernel) (by decide +kernel) ?_ ?_
 ·skip
  refine ay ?_;iterate 2 (refine aH ?_)
  refine xH [4,5,6] ?_;refine ar (aG (by simp[Tryz.f129];exact .mk) (by simp;exact .mk) ?_ (by simp[aV]));first|(simp[Tryz.f129,hd,bh,bZ,bn,ax,ai];done)|(simp[Tryz.f129,hd,hX,bh,ax,ai,bj,bf];done)
 skip
 refine xO ?_;refine aH ?_;refine xO ?_;refine aH ?_;refine xH [4,5,6] ?_;refine ar (aG (by simp[Tryz.f129];exact .mk) (by simp;exact .mk) ?_ (by simp[aV]));first|(simp[Tryz.f129,hd,bh,bZ,bn,ax,ai];done)|(simp[Tryz.f129,hd,hX,bh,ax,ai,bj,bf];done)
open Go.aN
theorem FV(g:Gl)(s:bF)(l:List Op)(hs:s.Ok)(hl:l.length≤2^40)(hn:∀i,i<l.length→(nth l i).name.size≤2^40)(qe:∀i,i<l.length→(nth l i).b.length≤2^40):a9 Tryz.prog g 71 [cr s,rows 7 mE l] (.bK [ax (oE s l).1,K5 (oE s l).2.1,vI (oE s l).2.2.1,vI (oE s l).2.2.2]):=by
 refine xA Tryz.func71 fun B S=>?_
 simp only[cr,List.map,aO,cC];refine xU ?_;refine cW ?_;refine xF [1,2,4] ?_;refine ab (xU ?_);refine xO ?_;refine xC (Ag g s hs) ?_ (he:=by simp[au,Function.comp_def];exact .mk) (hi:=by simp[ax,bh];exact .mk);refine xO ?_;refine xQ [1,2,4,17] ?_ ?_
 ·intro uC;have hR:bL s=false:=by simpa using uC
  have hd:=zW (l:=l) hR;refine xU ?_;iterate 2 (refine aH ?_)
  refine dC [4,5,6,7] ?_;refine ar (aG (by simp[Tryz.f71];exact .mk) (by simp;exact .mk) ?_ (by simp[ax]));first|(simp[Tryz.f71,hd,bn,ax,ai];done)|(simp[Tryz.f71,hd,bn,ax,ai,jc])
 intro uC;have hR:bL s=true:=by simpa using uC
 refine af ?_;refine xT ?_;refine xO ?_;refine xC (vq g s hs) ?_ (he:=by simp[au,Function.comp_def];exact .mk) (hi:=by simp[ax,bh];exact .mk);refine xO ?_;refine aH ?_;refine xG [1,4,8] ?_;refine xH [1,4,8,9] ?_;refine ab (xU ?_);refine dC [1,4,8,9,21,22,23] ?_;refine ag ?_
 refine aB (fun m σ o=>∃(i:Nat) (x:bF) (out:List pC),m=l.length-i∧i≤l.length∧FB s l i x out∧σ=slots [(1,.d (rows 7 mE l)),(4,.ptr 1 0 0),(8,.ptr 5 0 0),(9,.hdr 6 0 out.length),(21,.d (rows 7 mE l)),(22,.d (vI l.length)),(23,.d (vI i))]∧o=[.var 28 [.d (vI s.sh.pages),.d (vI s.sh.slots),.d (vI s.sh.roots),.d (vI s.sh.room),.d (vI s.mode),.d (vI s.base),.d (eG s.slots),.d (rR s.roots),.d (fL s.data)],.var 28 [.d (vI 0),.d (vI 0),.d (vI 0),.d (vI 0),.d (vI 0),.d (vI 0),.d (.v (.slice none 0 0)),.d (.v (.slice none 0 0)),.d (.v (.slice none 0 0))],.row 5 (x.slots.map aA),.row 3 (x.roots.map ak),.row 1 (x.data.map oB),.var 28 [.d (vI x.sh.pages),.d (vI x.sh.slots),.d (vI x.sh.roots),.d (vI x.sh.room),.d (vI x.mode),.d (vI x.base),.hdr 2 0 x.slots.length,.hdr 3 0 x.roots.length,.hdr 4 0 x.data.length],.row 3 (out.map jc)]) l.length
  (Weak.trans (Weak.dJ 9 3 rfl) (Weak.kills [1,4,8,9,21,22,23] rfl) (fun _ _ _ h1 h2=>by rw[←h1.len];exact h2)) ⟨0,s,[],by simp,by simp,Lp hR hs,by simp,by simp[ai]⟩ ?_
 rintro m σ o ⟨i,x,out,rfl,hi,hI,rfl,rfl⟩ _;have hlen:=hI.len;refine xU ?_;refine xH [1,4,8,9,21,22,23,24] ?_;refine ab (bd rfl ?_ ?_)
 ·intro cv;have hi2:i<l.length:=by simpa using cv
  refine af fun _=>?_;refine ab (ag ?_);refine xU ?_;refine xO ?_;refine xO ?_ (h:=by simp[hi2];exact .mk);refine xO ?_ (h:=by simp[-List.getElem?_map,ao hi2,mE];exact .mk);refine ay ?_;refine aH ?_;refine xF [1,4,8,9,10,11,21,22,23] ?_;refine ab ?_;have FO:=Et g x (nth l i) hI.ok hI.right (hn i hi2) (qe i hi2);obtain⟨E,hE⟩:∃E,E=kv x (nth l i):=⟨_,rfl⟩
  rw[←hE]at FO;refine xY ?_;refine ay ?_;refine xC (FO) ?_ (he:=by simp[au,Function.comp_def];exact .mk) (hi:=by simp[ax,bh];exact .mk);iterate 6 refine xO ?_
  iterate 2 (refine aH ?_)
  refine xH [1,4,8,9,10,12,13,14,21,22,23] ?_;refine ab (xU ?_);refine ay ?_;refine xQ [1,4,8,9,10,12,13,14,21,22,23,36] ?_ ?_
  ·intro Gr;have he:E.e≠0:=by simpa using Gr
   have hd:=zU hI hi2 (by rw[←hE];exact he);rw[←hE]at hd;refine xU ?_;refine aH ?_;refine ay ?_;refine aH ?_;refine dC [4,5,6,7] ?_;refine ar (aG (by simp[Tryz.f71];exact .mk) (by simp;exact .mk) ?_ (by simp[ax]));first|(simp[Tryz.f71,hd,bn,ax,ai];done)|(simp[Tryz.f71,hd,bn,ax,ai,jc])
  intro Gr;have he:E.e=0:=by simpa using Gr
  have hI2:=wW hI hi2 (by rw[←hE];exact he);rw[←hE]at hI2;have e1:(out.length+1)*40≤140737488355328:=by omega
  have e2:out.length≤140737488355327:=by omega
  refine af fun _=>?_;refine iP (hard:=[]) [0,3,4] (aR (by decide)) (by kernel_rfl) 4 [[0,1,2,3,4,5,6],[1,2,3,0,4,5,6],[1,2,3,4,0,5,6]] (by decide +kernel) ⟨?_,?_,?_,trivial⟩
  ·skip
   refine bx ?_;refine xO ?_ (h:=by simp[rows,e1,e2,D.cE];exact .mk);refine aH ?_;refine xH [1,4,8,9,21,22,23] ?_;refine xY ?_;refine ay ?_;refine xE [1,4,8,9,21,22,23] ?_;refine ah [1,4,8,9,21,22,23] ?_;refine aD [1,4,8,9,21,22,23] rfl ?_;refine aC 2 8 3 (by decide) (by simp) (by decide) rfl rfl ?_;refine aC 6 15 1 (by decide) (by simp) (by decide) rfl rfl ?_;refine aq 7 [1,4,8,9,21,22,23] (by decide) (by rfl) (by rfl) ?_;refine ae (m':=l.length-(i+1)) (by omega) ⟨i+1,E.s,out++[kh E],rfl,by omega,hI2,?_,?_⟩
   ·rw[wrap64 (by omega) (by omega)];simp;try rfl
   simp[jc,kh];try rfl
  ·skip
   refine bx ?_;refine xO ?_ (h:=by simp[rows,e1,e2,D.cE];exact .mk);refine aH ?_;refine xH [1,4,8,9,21,22,23] ?_;refine xY ?_;refine ay ?_;refine xE [1,4,8,9,21,22,23] ?_;refine ah [1,4,8,9,21,22,23] ?_;refine aD [1,4,8,9,21,22,23] rfl ?_;refine aC 2 8 3 (by decide) (by simp) (by decide) rfl rfl ?_;refine aC 6 15 1 (by decide) (by simp) (by decide) rfl rfl ?_;refine aq 7 [1,4,8,9,21,22,23] (by decide) (by rfl) (by rfl) ?_;refine ae (m':=l.length-(i+1)) (by omega) ⟨i+1,E.s,out++[kh E],rfl,by omega,hI2,?_,?_⟩
   ·rw[wrap64 (by omega) (by omega)];simp;try rfl
   simp[jc,kh];try rfl
  skip
  refine aT ?_;refine xO ?_ (h:=by simp[rows,e1,e2,D.cE];exact .mk);refine xO ?_;refine aH ?_;refine xH [1,4,8,9,21,22,23] ?_;refine xY ?_;refine ay ?_;refine xE [1,4,8,9,21,22,23] ?_;refine ah [1,4,8,9,21,22,23] ?_;refine aD [1,4,8,9,21,22,23] rfl ?_;refine aC 2 8 3 (by decide) (by simp) (by decide) rfl rfl ?_;refine aC 6 15 1 (by decide) (by simp) (by decide) rfl rfl ?_;refine aq 7 [1,4,8,9,21,22,23] (by decide) (by rfl) (by rfl) ?_;refine ae (m':=l.length-(i+1)) (by omega) ⟨i+1,E.s,out++[kh E],rfl,by omega,hI2,?_,?_⟩
  ·rw[wrap64 (by omega) (by omega)];simp;try rfl
  simp[jc,kh];try rfl
 intro cv;obtain rfl:i=l.length:=by simp at cv;omega
 have hd:=zV hI;refine aP (xT ?_);refine bx ?_;refine aH ?_;refine dC [4,5,6,7] ?_;refine ar (aG (by simp[Tryz.f71];exact .mk) (by simp;exact .mk) ?_ (by simp[ax]));first|(simp[Tryz.f71,hd,bn,ax,ai];done)|(simp[Tryz.f71,hd,bn,ax,ai,jc])
open Go.aN
theorem FU(g:Gl)(s:bF)(o:Op)(hs:s.Ok)(hn:o.name.size≤2^40)(qe:o.b.length≤2^40):a9 Tryz.prog g 65 [cr s,mE o] (bh (tv s o)):=by
 refine xA Tryz.func65 fun B S=>?_
 simp only[cr,mE,List.map,aO,cC];refine xU ?_;iterate 5 (refine xO ?_ (h:=by simp[bR];exact .mk))
 refine xF [2,3,4,5] ?_;refine ab (xU ?_);refine xO ?_ (h:=by simp[bR];exact .mk);refine bA rfl rfl rfl rfl (by simp[bR];exact .mk) (by simp[bR,au,Function.comp_def];exact .mk) (Ag g s hs) (by simp[bR]) (by simp[bR,ax,bh];exact .mk) ?_;refine xO ?_ (h:=by simp[bR];exact .mk);refine xQ [2,3,4,5,9] ?_ ?_
 ·intro h9;have hR:bL s=false:=by simpa using h9
  have hd:tv s o=bZ 1:=by unfold tv;rw[if_pos hR]
  refine xU ?_;iterate 4 (refine xO ?_ (h:=by simp[bR,splice];exact .mk))
  refine xO ?_ (h:=by simp[bR];exact .mk);refine xF [4,5,6] ?_;refine ar (aG (by simp[bR,Tryz.f65];exact .mk) (by simp[bR];exact .mk) ?_ (by simp[bR,aV]));simp[Tryz.f65,hd,bh,bZ,bn,ax,ai]
 intro h9;have hR:bL s=true:=by simpa using h9
 have hd:tv s o=kv s o:=by unfold tv;rw[if_neg (by simp[hR])]
 refine af ?_;refine xT ?_;iterate 2 (refine xO ?_ (h:=by simp[bR];exact .mk))
 refine bA rfl rfl rfl rfl (by simp[bR];exact .mk) (by simp[bR,au,Function.comp_def];exact .mk) (Et g s o hs hR hn qe) (by simp[bR]) (by simp[bR,ax,bh];exact .mk) ?_;iterate 3 (refine xO ?_ (h:=by simp[bR];exact .mk))
 iterate 2 (refine xO ?_ (h:=by simp[bR,splice];exact .mk))
 refine xO ?_ (h:=by simp[bR];exact .mk);refine xF [4,5,6] ?_;refine ar (aG (by simp[bR,Tryz.f65];exact .mk) (by simp[bR];exact .mk) ?_ (by simp[bR,aV]));simp[Tryz.f65,hd,bh,bZ,bn,ax,ai]
open Go.aN
attribute [simp] Tryz.f62
theorem JQ(g:Gl):a9 Tryz.prog g 62 [] (.v (.bool true)):=by
 refine xA Tryz.func62 fun B S=>?_
 obtain⟨A,B,C,r1,r2,f1,f2,f3,f4,f5⟩:=AO;have hA:A.Ok:=by have:=xv (o:=O 1 121 0 []) u2;rwa [f1]at this
 have hB:B.Ok:=by have:=xv (o:=O 1 1 0 []) hA;rwa [f3]at this
 have c1:=Mg g Lm 2;have c2:=FU g yT (O 1 121 0 []) u2 (by decide) (by decide);have c3:=FU g A (O 1 1 0 []) hA (by decide) (by decide);have c4:=FV g yT [O 1 121 0 [],O 1 1 0 []] u2 (g9 (by decide +kernel)).1 (g9 (by decide +kernel)).2.1 (g9 (by decide +kernel)).2.2;have c5:=FV g yT [O 1 1 0 [],O 5 0 0 [7]] u2 (g9 (by decide +kernel)).1 (g9 (by decide +kernel)).2.1 (g9 (by decide +kernel)).2.2;have c6:=L7 g A hA;rw[K1]at c1;rw[f1]at c2;rw[f3]at c3;rw[f4]at c4;rw[f5]at c5;rw[f2]at c6;obtain⟨T,hT⟩:∃T,T=yT:=⟨_,rfl⟩;rw[←hT]at c1 c2 c4 c5;refine xU ?_;refine xO ?_;refine xG [] ?_;refine aH ?_;refine xC (c1) ?_ (he:=by simp[au,Function.comp_def,dO,gp];exact .mk) (hi:=by simp[ax,bh];exact .mk);refine bx ?_;refine aH ?_;refine xO ?_;refine xG [1,2] ?_;refine cq ?_;refine aH ?_;refine xC (c2) ?_ (he:=by simp[au,Function.comp_def,dO,gp];exact .mk) (hi:=by simp[ax,bh];exact .mk);iterate 6 refine xO ?_
 iterate 2 (refine aH ?_)
 refine xO ?_;refine xG [1,2,3,4,5] ?_;refine cq ?_;refine aH ?_;refine xC (c3) ?_ (he:=by simp[au,Function.comp_def,dO,gp];exact .mk) (hi:=by simp[ax,bh];exact .mk);iterate 6 refine xO ?_
 iterate 2 (refine aH ?_)
 refine xO ?_;refine xG [1,2,3,4,5,8] ?_;refine cq ?_;iterate 2 (refine aH ?_)
 refine xO ?_;refine xC (c4) ?_ (he:=by simp[au,Function.comp_def,dO,gp];exact .mk) (hi:=by simp[ax,bh];exact .mk);iterate 6 refine xO ?_
 refine aH ?_;refine aT ?_;refine xG [1,2,3,4,5,8,11,12] ?_;refine cq ?_;refine aH ?_;refine xO ?_;refine aH ?_;refine xO ?_;refine xC (c5) ?_ (he:=by simp[au,Function.comp_def,dO,gp];exact .mk) (hi:=by simp[ax,bh];exact .mk);iterate 6 refine xO ?_
 refine aH ?_;refine aT ?_;refine xG [2,3,4,5,8,11,12,14,15,16] ?_;refine aT ?_;iterate 2 refine xI ?_
 refine xP ?_;refine xB ?_;refine xI ?_;refine xI ?_ (h:=fun hb=>by simp[aA];exact .mk);refine xI ?_ (h:=fun hb=>by simp[splice];exact .mk);refine xI ?_;refine xP ?_;refine xB ?_;refine xI ?_ (h:=fun hb=>by simp[aA];exact .mk);refine bI rfl (by simp;exact .mk) rfl rfl (by simp) (by simp;exact .mk) (by simp[au,Function.comp_def,dO,gp];exact .mk) (fun hb=>c6) (by simp) (by simp[ax,bh];exact .mk) (by simp) ?_;refine xI ?_;refine xP ?_;refine xB ?_;iterate 2 refine xI ?_
 refine xP ?_;refine xB ?_;iterate 2 refine xI ?_
 refine xP ?_;refine xB ?_;iterate 2 refine xI ?_
 refine xP ?_;refine xB ?_;iterate 3 refine xI ?_
 refine xP ?_;refine xB ?_;iterate 2 refine xI ?_
 refine xP ?_;refine xB ?_;iterate 2 refine xI ?_
 refine xP ?_;refine xB ?_;refine xF [0] ?_;refine xZ ?_;simp
open Go.aN
theorem GY(g:Gl)(os tl:List aN.Obj)(xs:List (List UInt8))(ho:dA os=true)(ht:dA tl=true)(hlo:bE (os.length+1+tl.length) os=true)(hlt:bE (os.length+1+tl.length) tl=true)(hl:xs.length≤2^40):∀B S,a7 Tryz.prog g B S ⟨(os++aN.Obj.row 1 (xs.map oB)::tl).length,false⟩ 67 [.hdr os.length 0 xs.length] (os ++ .row 1 (xs.map oB)::tl) (fun x r=>x = .dead∧r=os ++ .dead::tl):=by
 refine aL Tryz.func67 rfl (Nat.le_of_ble_eq_true rfl) fun B S=>?_
 refine FD os.length (xs:=xs.map oB) (by simp) (fun x hx=>?_) fun L0 hL0 Kg=>?_
 ·obtain⟨b,_,rfl⟩:=List.mem_map.1 hx;exact⟨b.map fun b=>.int .u8 b.toNat,by simp[ai]⟩
 rw[show (os++aN.Obj.row 1 (xs.map oB)::tl).set os.length (.nest L0)=os ++ .nest L0::tl from by simp];have hL1:L0.length=xs.length:=by simpa using hL0
 have Kt:∀j,j<xs.length→∃l c f,L0[j]?=some (.row l c f):=fun j hj=>by
  have hj2:j<L0.length:=by omega
  have:=List.all_eq_true.1 Kg L0[j] (List.getElem_mem hj2);rw[List.getElem?_eq_getElem hj2]
  cases hq:L0[j]with
  | row l c f=>exact⟨l,c,f,rfl⟩
  | raw v=>rw[hq]at this;cases this
 refine xU ?_;refine xH [0] ?_;refine ab (xU ?_);refine xH [0,3] ?_;refine ag (aB (fun m σ o=>∃(i:Nat) (T:List aN.Obj) (L:List NE),m=xs.length-i∧i≤xs.length∧((∃ds,tl++ds=T)∧dA T=true∧L.length=xs.length∧(∀j,j<xs.length→∃l c f,L[j]?=some (.row l c f)))∧(∀j,j<i→∃l c,L[j]?=some (.row l c true))∧σ=slots [(0,.hdr os.length 0 xs.length),(3,.d (vI i))]∧o=os ++ .nest L::T) xs.length .refl ⟨0,tl,L0,by simp,by simp,⟨⟨[],by simp⟩,ht,hL1,Kt⟩,by simp,rfl,rfl⟩ ?_);rintro m σ o ⟨i,T,L,rfl,hi,⟨⟨ds,HV⟩,hT,E2,hrow⟩,hfull,rfl,rfl⟩ _;refine ab (xU ?_);refine bx ?_;refine xQ [0,3,12] ?_ ?_
 ·intro h12;have hi2:i<xs.length:=by simpa using h12
  refine af fun _=>?_;refine ab (ag ?_);refine ab ?_;obtain⟨len,cap,full,Ly⟩:=hrow i (by omega);refine za os.length i (L:=L) (len:=len) (cap:=cap) (full:=full) rfl (by simp) Ly (by simp) (by simp[gf,ho,hT]) fun zs hz1 hz2 hlc hcm=>?_
  rw[show (os++aN.Obj.nest L::T).set os.length (.dG i (os++aN.Obj.nest L::T).length len L)++[.grow cap zs]=os ++ .dG i (os.length+(T.length+1)) len L::(T++[.grow cap zs]) from by simp];have hcb:(cap:Int)≤cap:=Int.le_refl _;refine aS (by kernel_rfl) [] 4 [0,1,2,3,4,5,6,7,8,9,10] (by decide +kernel) ?_;refine ay ?_;refine xO ?_ (h:=by simp[hi2];exact .mk);refine aT ?_;refine xO ?_ (h:=by simp[hi2];exact .mk);refine ay ?_;refine xO ?_ (h:=by simp[ew, *];exact .mk);refine xO ?_;refine xG [0,3,4] ?_;refine xH [0,3,4,5] ?_;refine ag (aB (fun m σ o=>∃(k:Nat) (zs:List Int),m=cap-k∧k≤cap∧k≤zs.length∧zs.length≤cap∧σ=slots [(0,.hdr os.length 0 xs.length),(3,.d (vI i)),(4,.hdr (os.length+(T.length+1)) 0 cap),(5,.d (vI k))]∧o=os ++ .dG i (os.length+(T.length+1)) len L::(T++[.grow cap zs])) cap .refl ⟨0,zs,by simp,by simp,by simp,by cases full<;>simp_all,by simp,by simp⟩ ?_);clear hz1 hz2;rintro m σ o ⟨k,zs,rfl,hk,hkz,hzc,rfl,rfl⟩ _;refine ab (xU ?_);refine bx ?_;refine xQ [0,3,4,5,28] ?_ ?_
  ·intro qu;have hk2:k<cap:=by simpa using qu
   refine af fun _=>?_;refine ab (ag ?_);refine xY ?_;refine bx ?_;refine xO ?_ (h:=by simp[fO];exact .mk);refine xO ?_ (h:=by simp[hk2];exact .mk);refine xO ?_ (h:=by simp[splice,hk2,hkz,gM];exact .mk);refine xF [0,3,4,5] ?_;refine xY ?_;refine aT ?_;refine xE [0,3,4,5] ?_;refine ah [0,3,4,5] ?_;refine ae (m':=cap-(k+1)) (by omega) ⟨k+1,_,rfl,by omega,?_,?_,?_,rfl⟩
   ·simp;omega
   ·simp;omega
   rw[wrap64 (by have:=hcm;simp[maxLen]at this;omega) (by have:=hcm;simp[maxLen]at this;omega)];rfl
  intro qu;have hkc:k=cap:=by simp at qu;omega
  have hzl:zs.length=cap:=by omega
  refine aP ?_;rintro -;refine xY ?_;refine aT ?_;refine xE [0,3] ?_;refine ah [0,3] ?_;refine aD [0,3] rfl ?_;refine p6 (Weak.Co os.length (i:=i) (r':=os.length+(T.length+1)) (len:=len) (c:=cap) (L:=L) (zs:=zs) true (by simp) (by simp) (fun _=>hzl)) ?_;refine ae (m':=xs.length-(i+1)) (by omega) ⟨i+1,T++[.dead],L.set i (.row len cap true),rfl,by omega,⟨⟨ds++[.dead],by rw[←HV,List.append_assoc]⟩,by simp[gf,hT],by simpa using E2,fun j hj=>?_⟩,fun j hj=>?_,?_,by simp⟩
  ·by_cases e:i=j
   ·subst e;exact⟨len,cap,true,by simp[E2,hj]⟩
   obtain⟨a,b,c,h⟩:=hrow j hj;exact⟨a,b,c,by rw[List.getElem?_set_ne e];exact h⟩
  ·by_cases e:i=j
   ·subst e;exact⟨len,cap,by simp[E2,hi2]⟩
   obtain⟨a,b,h⟩:=hfull j (by omega);exact⟨a,b,by rw[List.getElem?_set_ne e];exact h⟩
  rw[wrap64 (by omega) (by omega)];rfl
 intro h12;have hii:i=xs.length:=by simp at h12;omega
 rw[hii]at hfull;clear hi hii;refine aP ?_;rintro -;refine ab (xU ?_);refine xH [0,6] ?_;refine ag (aB (fun m σ o=>∃(i:Nat) (T:List aN.Obj) (L:List NE),m=xs.length-i∧i≤xs.length∧((∃ds,tl++ds=T)∧dA T=true∧L.length=xs.length∧(∀j,j<xs.length→∃l c f,L[j]?=some (.row l c f)))∧(∀j,j<xs.length→∃l c,L[j]?=some (.row l c true))∧σ=slots [(0,.hdr os.length 0 xs.length),(6,.d (vI i))]∧o=os ++ .nest L::T) xs.length .refl ⟨0,T,L,by simp,by simp,⟨⟨ds,HV⟩,hT,E2,hrow⟩,hfull,rfl,rfl⟩ ?_);rintro m σ o ⟨i,T,L,rfl,hi,⟨⟨ds,HV⟩,hT,E2,hrow⟩,hfull,rfl,rfl⟩ _;refine ab (xU ?_);refine bx ?_;refine xQ [0,6,40] ?_ ?_
 ·intro Ar;have hi2:i<xs.length:=by simpa using Ar
  refine af fun _=>?_;refine ab (ag ?_);refine ab ?_;obtain⟨len,cap,Ly⟩:=hfull i (by omega);refine za os.length i (L:=L) (len:=len) (cap:=cap) (full:=true) rfl (by simp) Ly (by simp) (by simp[gf,ho,hT]) fun zs hz1 hz2 hlc hcm=>?_
  rw[show (os++aN.Obj.nest L::T).set os.length (.dG i (os++aN.Obj.nest L::T).length len L)++[.grow cap zs]=os ++ .dG i (os.length+(T.length+1)) len L::(T++[.grow cap zs]) from by simp];have hcb:(cap:Int)≤cap:=Int.le_refl _;refine aS (by kernel_rfl) [] 4 [0,1,2,3,4,5,6,7,8,9,10] (by decide +kernel) ?_;refine ay ?_;refine xO ?_ (h:=by simp[hi2];exact .mk);refine aT ?_;refine xO ?_ (h:=by simp[hi2];exact .mk);refine ay ?_;refine xO ?_ (h:=by simp[ew, *];exact .mk);refine xO ?_;refine xG [0,6,7] ?_;refine xH [0,6,7,8] ?_;refine ag ?_;have hzl:zs.length=cap:=hz1 rfl;refine aB (fun m σ o=>∃(k:Nat),m=cap-k∧k≤cap∧σ=slots [(0,.hdr os.length 0 xs.length),(6,.d (vI i)),(7,.hdr (os.length+(T.length+1)) 0 cap),(8,.d (vI k))]∧o=os ++ .dG i (os.length+(T.length+1)) len L::(T++[.grow cap zs])) cap .refl ⟨0,by simp,by simp,by simp,by simp⟩ ?_;rintro m σ o ⟨k,rfl,hk,rfl,rfl⟩ _;refine ab (xU ?_);refine bx ?_;refine xQ [0,6,7,8,56] ?_ ?_
  ·intro Dd;have hk2:k<cap:=by simpa using Dd
   have hk3:k<zs.length:=by omega
   refine af fun _=>?_;refine ab (ag ?_);refine xU ?_;refine ay ?_;refine xO ?_ (h:=by simp[hk2];exact .mk);refine xO ?_ (h:=by simp[hk3];exact .mk);refine ay ?_;refine xO ?_ (h:=by simp[fO,gM];exact .mk);refine xO ?_;refine xQ [0,6,7,8,66] ?_ ?_
   ·intro Kd;refine fq (s2:=slots []) (aZ:=os ++ .dead::(T++[.grow cap zs])) (Weak.trans (Weak.kills [] rfl) (by have:=Weak.qw (B:=B) (S:=S) (n:=Tryz.f67.ntmps) (fl:=⟨(os++aN.Obj.row 1 (xs.map oB)::tl).length,false⟩) (s:=slots []) (objs:=os ++ .dG i (os.length+(T.length+1)) len L::(T++[.grow cap zs])) os.length;simpa using this) (fun _ _ _ h1 h2=>by rw[←h1.len];exact h2)) ?_;obtain⟨dd,hdd⟩:∃dd,T++[.grow cap zs]=tl++dd:=⟨ds++[.grow cap zs],by rw[←HV];simp⟩;rw[hdd];refine xU ?_;refine xH [] ?_;refine ar ?_;exact q8 os tl dd (by simp[Tryz.f67];exact .mk) rfl rfl (by simp;omega) rfl rfl hlo hlt
   intro Kd;refine af fun _=>?_;refine xY ?_;refine aT ?_;refine xE [0,6,7,8] ?_;refine ah [0,6,7,8] ?_;refine ae (m':=cap-(k+1)) (by omega) ⟨k+1,rfl,by omega,?_,rfl⟩;rw[wrap64 (by have:=hcm;simp[maxLen]at this;omega) (by have:=hcm;simp[maxLen]at this;omega)];rfl
  intro Dd;refine aP ?_;rintro -;refine xY ?_;refine aT ?_;refine xE [0,6] ?_;refine ah [0,6] ?_;refine aD [0,6] rfl ?_;refine p6 (Weak.Co os.length (i:=i) (r':=os.length+(T.length+1)) (len:=len) (c:=cap) (L:=L) (zs:=zs) true (by simp) (by simp) (fun _=>hzl)) ?_;refine ae (m':=xs.length-(i+1)) (by omega) ⟨i+1,T++[.dead],L.set i (.row len cap true),rfl,by omega,⟨⟨ds++[.dead],by rw[←HV,List.append_assoc]⟩,by simp[gf,hT],by simpa using E2,fun j hj=>?_⟩,fun j hj=>?_,?_,by simp⟩
  ·by_cases e:i=j
   ·subst e;exact⟨len,cap,true,by simp[E2,hj]⟩
   obtain⟨a,b,c,h⟩:=hrow j hj;exact⟨a,b,c,by rw[List.getElem?_set_ne e];exact h⟩
  ·by_cases e:i=j
   ·subst e;exact⟨len,cap,by simp[E2,hj]⟩
   obtain⟨a,b,h⟩:=hfull j (by omega);exact⟨a,b,by rw[List.getElem?_set_ne e];exact h⟩
  rw[wrap64 (by omega) (by omega)];rfl
 intro Ar;refine fq (s2:=slots []) (aZ:=os ++ .dead::T) (Weak.trans (Weak.kills [] rfl) (by have:=Weak.qw (B:=B) (S:=S) (n:=Tryz.f67.ntmps) (fl:=⟨(os++aN.Obj.row 1 (xs.map oB)::tl).length,false⟩) (s:=slots []) (objs:=os ++ .nest L::T) os.length;simpa using this) (fun _ _ _ h1 h2=>by rw[←h1.len];exact h2)) ?_;obtain⟨dd,hdd⟩:∃dd,T=tl++dd:=⟨ds,HV.symm⟩;rw[hdd];refine aP (xT ?_);refine xH [] ?_;refine ar ?_;exact q8 os tl dd (by simp[Tryz.f67];exact .mk) rfl rfl (by simp;omega) rfl rfl hlo hlt
open Go.aN
theorem KR(g:Gl)(os tl:List aN.Obj)(s:bF)(hs:s.Ok)(ho:dA os=true)(ht:dA tl=true)(hlo:bE (os.length+3+tl.length) os=true)(hlt:bE (os.length+3+tl.length) tl=true):∀B S,a7 Tryz.prog g B S ⟨(os++aN.Obj.row 5 (s.slots.map aA) :: .row 3 (s.roots.map ak) :: .row 1 (s.data.map oB)::tl).length,false⟩ 26 [.agg [.d (vI s.sh.pages),.d (vI s.sh.slots),.d (vI s.sh.roots),.d (vI s.sh.room),.d (vI s.mode),.d (vI s.base),.hdr os.length 0 s.slots.length,.hdr (os.length+1) 0 s.roots.length,.hdr (os.length+2) 0 s.data.length]] (os++aN.Obj.row 5 (s.slots.map aA) :: .row 3 (s.roots.map ak) :: .row 1 (s.data.map oB)::tl) (fun x r=>x = .bK []∧r=os ++ .dead :: .dead :: .dead::tl):=by
 refine aL Tryz.func26 rfl (Nat.le_of_ble_eq_true rfl) fun B S=>?_
 have q0:=hs.h1;have q1:=hs.h2;refine xU ?_;refine xH [1] ?_;refine ab (xU ?_);refine xH [1,2] ?_;refine ag (aB (fun m σ o=>∃(i:Nat) (L:List Slot),m=s.slots.length-i∧i≤s.slots.length∧L.length=s.slots.length∧σ=slots [(1,.ptr (os.length+(tl.length+3)) 0 0),(2,.d (vI i))]∧o=os ++ .row 5 (L.map aA) :: .row 3 (s.roots.map ak) :: .row 1 (s.data.map oB)::(tl++[.var 28 [.d (vI s.sh.pages),.d (vI s.sh.slots),.d (vI s.sh.roots),.d (vI s.sh.room),.d (vI s.mode),.d (vI s.base),.hdr os.length 0 s.slots.length,.hdr (os.length+1) 0 s.roots.length,.hdr (os.length+2) 0 s.data.length]])) s.slots.length .refl ⟨0,s.slots,by simp,by simp,rfl,by simp,by simp⟩ ?_);rintro m σ o ⟨i,L,rfl,hi,hL,rfl,rfl⟩ _;refine ab (xU ?_);refine ay ?_;refine cq ?_;refine ay ?_;refine xQ [1,2,8] ?_ ?_
 ·intro h8;have hi2:i<s.slots.length:=by simpa using h8
  have hi3:i<L.length:=by omega
  refine af fun _=>?_;refine ab (ag ?_);refine xY ?_;refine xO ?_;refine cq ?_;refine xO ?_;refine aH ?_;refine xO ?_ (h:=by simp[aA,hi2];exact .mk);refine xO ?_ (h:=by simp[-List.getElem?_map,ao hi3,aA,br,dn,bJ,splice];exact .mk);refine xF [1,2] ?_;refine xY ?_;refine aT ?_;refine xE [1,2] ?_;refine ah [1,2] ?_;refine ae (m':=s.slots.length-(i+1)) (by omega) ⟨i+1,L.set i ⟨-7,false,false,0,0⟩,rfl,by omega,by simpa using hL,?_,?_⟩
  ·rw[wrap64 (by omega) (by omega)];rfl
  rw[List.map_set];rfl
 intro h8;refine aP ?_;rintro -;refine ab (xU ?_);refine xH [1,3] ?_;refine ag (aB (fun m σ o=>∃(i:Nat) (K:List Root),m=s.roots.length-i∧i≤s.roots.length∧K.length=s.roots.length∧σ=slots [(1,.ptr (os.length+(tl.length+3)) 0 0),(3,.d (vI i))]∧o=os ++ .row 5 (L.map aA) :: .row 3 (K.map ak) :: .row 1 (s.data.map oB)::(tl++[.var 28 [.d (vI s.sh.pages),.d (vI s.sh.slots),.d (vI s.sh.roots),.d (vI s.sh.room),.d (vI s.mode),.d (vI s.base),.hdr os.length 0 s.slots.length,.hdr (os.length+1) 0 s.roots.length,.hdr (os.length+2) 0 s.data.length]])) s.roots.length .refl ⟨0,s.roots,by simp,by simp,rfl,rfl,rfl⟩ ?_);rintro m σ o ⟨i,K,rfl,hi,hK,rfl,rfl⟩ _;refine ab (xU ?_);refine ay ?_;refine cq ?_;refine ay ?_;refine xQ [1,3,20] ?_ ?_
 ·intro h20;have hi2:i<s.roots.length:=by simpa using h20
  have hi3:i<K.length:=by omega
  refine af fun _=>?_;refine ab (ag ?_);refine xY ?_;refine xO ?_;refine cq ?_;refine xO ?_;refine aH ?_;refine xO ?_ (h:=by simp[aA,hi2];exact .mk);refine xO ?_ (h:=by simp[-List.getElem?_map,ao hi3,ak,br,dn,bJ,splice];exact .mk);refine xF [1,3] ?_;refine xY ?_;refine aT ?_;refine xE [1,3] ?_;refine ah [1,3] ?_;refine ae (m':=s.roots.length-(i+1)) (by omega) ⟨i+1,K.set i ⟨⟨#[115,112,111,105,108,116]⟩,0,0⟩,rfl,by omega,by simpa using hK,?_,?_⟩
  ·rw[wrap64 (by omega) (by omega)];rfl
  rw[List.map_set];rfl
 intro h20;refine aP ?_;rintro -;refine fq (s2:=slots [(1,.ptr (os.length+(tl.length+3)) 0 0)]) (aZ:=os ++ .dead :: .dead :: .row 1 (s.data.map oB)::(tl++[.var 28 [.d (vI s.sh.pages),.d (vI s.sh.slots),.d (vI s.sh.roots),.d (vI s.sh.room),.d (vI s.mode),.d (vI s.base),.hdr os.length 0 s.slots.length,.hdr (os.length+1) 0 s.roots.length,.hdr (os.length+2) 0 s.data.length]])) (Weak.trans (Weak.kills [1] rfl) (Weak.trans (Weak.qw os.length) (by have:=Weak.qw (B:=B) (S:=S) (n:=Tryz.f26.ntmps) (fl:=⟨(os++aN.Obj.row 5 (s.slots.map aA) :: .row 3 (s.roots.map ak) :: .row 1 (s.data.map oB)::tl).length,false⟩) (s:=slots [(1,.ptr (os.length+(tl.length+3)) 0 0)]) (objs:=(os++aN.Obj.dead :: .row 3 (K.map ak) :: .row 1 (s.data.map oB)::(tl++[.var 28 [.d (vI s.sh.pages),.d (vI s.sh.slots),.d (vI s.sh.roots),.d (vI s.sh.room),.d (vI s.mode),.d (vI s.base),.hdr os.length 0 s.slots.length,.hdr (os.length+1) 0 s.roots.length,.hdr (os.length+2) 0 s.data.length]]))) (os.length+1);simpa using this) (fun _ _ _ h1 h2=>by rw[←h1.len];exact h2)) (fun _ _ _ h1 h2=>by rw[←h1.len];exact h2)) ?_;have Bv:=GY g (os++[.dead,.dead]) (tl++[.var 28 [.d (vI s.sh.pages),.d (vI s.sh.slots),.d (vI s.sh.roots),.d (vI s.sh.room),.d (vI s.mode),.d (vI s.base),.hdr os.length 0 s.slots.length,.hdr (os.length+1) 0 s.roots.length,.hdr (os.length+2) 0 s.data.length]]) s.data (by simp[gf,ho]) (by simp[gf,ht]) (by rw[jm];simp only[Bool.and_eq_true];exact⟨r7 (by simp<;>omega) hlo,rfl⟩) (by rw[jm];simp only[Bool.and_eq_true];exact⟨r7 (by simp<;>omega) hlt,by simp<;>omega⟩) hs.h3;simp only[List.append_assoc,List.cons_append,List.nil_append,List.length_append,List.length_cons,List.length_nil,Nat.zero_add,Nat.reduceAdd]at Bv;refine gG rfl [1002] rfl ?_;refine xO ?_;refine cq ?_;refine dX rfl rfl rfl rfl (by simp;exact .mk) ⟨_,Tryz.func67,rfl,rfl⟩ (cg (by simp) (cg (by simp) (cT (by simp)))) (by simpa using Bv) (by simp) (by decide) ?_;refine xE [] ?_;exact vw os tl [.var 28 [.d (vI s.sh.pages),.d (vI s.sh.slots),.d (vI s.sh.roots),.d (vI s.sh.room),.d (vI s.mode),.d (vI s.base),.hdr os.length 0 s.slots.length,.hdr (os.length+1) 0 s.roots.length,.hdr (os.length+2) 0 s.data.length]] (by simp[Tryz.f26];exact .mk) rfl (by simp) (by simp;omega) rfl rfl rfl rfl hlo hlt
open Go.aN
attribute [simp] Tryz.f25 Tryz.f80
theorem Mn(g:Gl)(x y:List Slot)(hx:x.length≤2^40):a9 Tryz.prog g 80 [eG x,eG y] (.v (.bool (eX eY x y))):=by
 refine xA Tryz.func80 fun B S=>?_
 refine xU ?_;refine xH [0,1] ?_;refine ab (xU ?_);refine cW ?_;refine xQ [0,1,10] ?_ ?_
 ·intro h10;have hr:eX eY x y=false:=pt (by simp at h10;omega);refine xU ?_;refine xH [4] ?_;refine xZ ?_;simp[hr]
 intro h10;have hxy:x.length=y.length:=by simp at h10;omega
 refine af fun _=>?_;refine ab (xU ?_);refine xH [0,1,5] ?_;refine ag (aB (fun m σ o=>∃i:Nat,m=x.length-i∧i≤x.length∧(∀j,j<i→eY (nth x j) (nth y j)=true)∧σ=slots [(0,.d (eG x)),(1,.d (eG y)),(5,.d (vI i))]∧o=[]) x.length .refl ⟨0,by simp,by simp,by simp,rfl,rfl⟩ ?_);rintro m σ o ⟨i,rfl,hi,hinv,rfl,rfl⟩ _;refine ab (xU ?_);refine bx ?_;refine xQ [0,1,5,14] ?_ ?_
 ·intro fe;have h2:i<x.length:=by simpa using fe
  have h3:i<y.length:=by omega
  refine af fun _=>?_;refine ab (ag ?_);refine ab ?_;refine aS (by kernel_rfl) [] 4 [0,1,2,3,4,5,6,7,8] (by decide +kernel) ?_;refine ay ?_;refine xO ?_ (h:=by simp[aA, *];exact .mk);refine cq ?_;refine ay ?_;refine xO ?_ (h:=by simp[aA, *];exact .mk);refine cq ?_;refine xO ?_;refine xQ [0,1,5,25] ?_ ?_
  ·intro mA;have hr:eX eY x y=false:=pr h2 (by simp[eY]at mA ⊢;grind);refine xU ?_;refine xH [4] ?_;refine xZ ?_;simp[hr]
  intro mA;refine af fun _=>?_;refine xY ?_;refine aT ?_;refine xE [0,1,5] ?_;refine ah [0,1,5] ?_;refine ae (m':=x.length-(i+1)) (by omega) ⟨i+1,rfl,by omega,?_,?_,rfl⟩
  ·intro j hj;rcases Nat.lt_succ_iff_lt_or_eq.1 hj with hj|rfl
   ·exact hinv j hj
   simp[eY]at mA ⊢;grind
  rw[wrap64 (by omega) (by omega)];rfl
 intro fe;have hr:eX eY x y=true:=kX hxy (fun j hj=>hinv j (by simp at fe;omega));refine aP (xT ?_);refine xH [4] ?_;refine xZ ?_;simp[hr]
theorem Dw(g:Gl)(s t:bF)(hs:s.Ok):a9 Tryz.prog g 25 [cr s,cr t] (.v (.bool (qz s t))):=by
 refine xA Tryz.func25 fun B S=>?_
 simp only[cr,List.map,aO,cC];refine xU ?_;refine aT ?_;refine xG [2,3] ?_;iterate 6 refine xO ?_
 iterate 5 refine xI ?_
 refine xP ?_;refine xB ?_;iterate 5 refine xI ?_
 refine xP ?_;refine xB ?_;iterate 4 refine xI ?_
 refine bI rfl (by simp;exact .mk) rfl rfl (by simp) (by simp;exact .mk) (by simp;exact .mk) (fun hb=>Mn g _ _ hs.h1) (by simp) (by simp;exact .mk) (by simp) ?_;refine xP ?_;refine xB ?_;iterate 4 refine xI ?_
 refine bI rfl (by simp;exact .mk) rfl rfl (by simp) (by simp;exact .mk) (by simp;exact .mk) (fun hb=>Mo g _ _ hs.h2) (by simp) (by simp;exact .mk) (by simp) ?_;refine xP ?_;refine xB ?_;iterate 4 refine xI ?_
 refine bI rfl (by simp;exact .mk) rfl rfl (by simp) (by simp;exact .mk) (by simp;exact .mk) (fun hb=>Mp g _ _ hs.h3) (by simp) (by simp;exact .mk) (by simp) ?_;refine xP ?_;refine xB ?_;refine xF [4] ?_;refine xZ ?_;simp[sameShape,qz,CP,Bool.and_assoc]
open Go.aN
attribute [simp] Tryz.f13
theorem L5(g:Gl)(s:bF)(o:Op):a9 Tryz.prog g 13 [cr s,mE o] (.v (.bool true)):=by
 refine xA Tryz.func13 fun B S=>?_
 simp only[cr,mE,List.map,aO,cC];refine xU ?_;refine aT ?_;refine xG [2,3] ?_;refine xC (JQ g) ?_ (he:=by simp[au,Function.comp_def,List.take_append];exact .mk) (hi:=by simp[ax,bh];exact .mk);refine xO ?_;refine xG [2,3,5] ?_;refine xO ?_;refine xC (Jp g s) ?_ (he:=by simp[au,Function.comp_def,List.take_append];exact .mk) (hi:=by simp[ax,bh];exact .mk);refine xO ?_;refine xG [2,3,5,6] ?_;refine xO ?_;refine xC (JR g o) ?_ (he:=by simp[au,Function.comp_def,List.take_append];exact .mk) (hi:=by simp[ax,bh];exact .mk);refine xH [2,3,5,6,7] ?_;refine ab (xU ?_);refine aT ?_;iterate 2 refine xI ?_
 refine xP ?_;refine xQ [2,3,5,28] ?_ ?_
 ·intro qu;refine xU ?_;refine bU [4] ?_;refine xZ ?_;simp
 intro qu;have hF:jd s=true∧nO o=true:=by simp at qu;grind
 have hs:=tA hF.1;have hop:=re hF.2;have hn:=hop.1;have qe:=hop.2;have Lr:=FU g s o hs hn qe;have Db:=JS g s o hs qe;have E3:=xv (o:=o) hs;obtain⟨E,hE⟩:∃E,E=tv s o:=⟨_,rfl⟩;rw[←hE]at Lr Db E3;obtain⟨X,hX⟩:∃X,X=E.s:=⟨_,rfl⟩;unfold bh at Lr Db;rw[←hX]at E3 Lr Db;have cS:=Dw g s s hs;rw[iW]at cS;have cX:=Dw g X X E3;rw[iW]at cX;refine af ?_;refine xT ?_;refine xO ?_;refine xC (xq g s hs) ?_ (he:=by simp[au,Function.comp_def,List.take_append];exact .mk) (hi:=by simp[ax,bh];exact .mk);refine xO ?_;refine aH ?_;refine xG [2,3,5,8] ?_;refine ay ?_;refine aH ?_;refine xF [2,3,5,8,9] ?_;refine ab ?_;have c64:=Ni g [.var 28 [.d (vI s.sh.pages),.d (vI s.sh.slots),.d (vI s.sh.roots),.d (vI s.sh.room),.d (vI s.mode),.d (vI s.base),.d (eG s.slots),.d (rR s.roots),.d (fL s.data)],.var 73 [.d (vI o.act),.d (vI o.ix),.d (vI o.gen),.d (vI o.n),.d (vI o.off),.d (rB o.b),.d (vS o.name)],.row 5 (s.slots.map aA),.row 3 (s.roots.map ak),.row 1 (s.data.map oB),.var 28 [.d (vI s.sh.pages),.d (vI s.sh.slots),.d (vI s.sh.roots),.d (vI s.sh.room),.d (vI s.mode),.d (vI s.base),.hdr 2 0 s.slots.length,.hdr 3 0 s.roots.length,.hdr 4 0 s.data.length],.var 73 [.d (vI o.act),.d (vI o.ix),.d (vI o.gen),.d (vI o.n),.d (vI o.off),.d (rB o.b),.d (vS o.name)]] o.b qe;simp only[List.map_append,List.map_cons,List.map_nil,List.cons_append,List.nil_append,List.length_cons,List.length_nil,Nat.zero_add,Nat.reduceAdd]at c64;refine xY ?_;refine ay ?_;refine az rfl rfl rfl rfl (by simp;exact .mk) ⟨_,Tryz.func64,rfl,rfl⟩ c64 (.inr ⟨_,rfl⟩) ?_;refine xO ?_;refine aH ?_;refine xG [2,3,5,8,9] ?_;refine ay ?_;refine xC (Lr) ?_ (he:=by simp[au,Function.comp_def,List.take_append];exact .mk) (hi:=by simp[ax,bh];exact .mk);iterate 6 refine xO ?_
 iterate 2 (refine aH ?_)
 refine xH [2,3,5,8,9,10,11,12] ?_;refine ab ?_;have NX:=Nj g [.var 28 [.d (vI s.sh.pages),.d (vI s.sh.slots),.d (vI s.sh.roots),.d (vI s.sh.room),.d (vI s.mode),.d (vI s.base),.d (eG s.slots),.d (rR s.roots),.d (fL s.data)],.var 73 [.d (vI o.act),.d (vI o.ix),.d (vI o.gen),.d (vI o.n),.d (vI o.off),.d (rB o.b),.d (vS o.name)],.row 5 (s.slots.map aA),.row 3 (s.roots.map ak),.row 1 (s.data.map oB),.var 28 [.d (vI s.sh.pages),.d (vI s.sh.slots),.d (vI s.sh.roots),.d (vI s.sh.room),.d (vI s.mode),.d (vI s.base),.hdr 2 0 s.slots.length,.hdr 3 0 s.roots.length,.hdr 4 0 s.data.length],.var 73 [.d (vI o.act),.d (vI o.ix),.d (vI o.gen),.d (vI o.n),.d (vI o.off),.hdr 7 0 o.b.length,.d (vS o.name)]] [.row 5 (X.slots.map aA),.row 3 (X.roots.map ak),.row 1 (X.data.map oB),.row 1 (E.b.map vB),.var 28 [.d (vI X.sh.pages),.d (vI X.sh.slots),.d (vI X.sh.roots),.d (vI X.sh.room),.d (vI X.mode),.d (vI X.base),.hdr 8 0 X.slots.length,.hdr 9 0 X.roots.length,.hdr 10 0 X.data.length],.var 77 [.d (vI E.ix),.d (vI E.gen),.hdr 11 0 E.b.length]] o.b qe;simp only[List.map_append,List.map_cons,List.map_nil,List.cons_append,List.nil_append,List.length_cons,List.length_nil,Nat.zero_add,Nat.reduceAdd]at NX;refine xY ?_;refine bx ?_;refine az rfl rfl rfl rfl (by simp;exact .mk) ⟨_,Tryz.func66,rfl,rfl⟩ NX (.inl (by simp)) ?_;refine xO ?_;iterate 2 refine xI ?_
 refine bI rfl (by simp;exact .mk) rfl rfl (by simp) (by simp;exact .mk) (by simp[au,Function.comp_def,List.take_append];exact .mk) (fun hb=>cS) (by simp) (by simp[ax,bh];exact .mk) (by simp) ?_;refine xP ?_;refine xB ?_;refine xF [2,3,5,8,9,10,11,12,13] ?_;refine ab (fq (aZ:=[.var 28 [.d (vI s.sh.pages),.d (vI s.sh.slots),.d (vI s.sh.roots),.d (vI s.sh.room),.d (vI s.mode),.d (vI s.base),.d (eG s.slots),.d (rR s.roots),.d (fL s.data)],.var 73 [.d (vI o.act),.d (vI o.ix),.d (vI o.gen),.d (vI o.n),.d (vI o.off),.d (rB o.b),.d (vS o.name)],.row 5 (s.slots.map aA),.row 3 (s.roots.map ak),.row 1 (s.data.map oB),.var 28 [.d (vI s.sh.pages),.d (vI s.sh.slots),.d (vI s.sh.roots),.d (vI s.sh.room),.d (vI s.mode),.d (vI s.base),.hdr 2 0 s.slots.length,.hdr 3 0 s.roots.length,.hdr 4 0 s.data.length],.var 73 [.d (vI o.act),.d (vI o.ix),.d (vI o.gen),.d (vI o.n),.d (vI o.off),.hdr 7 0 o.b.length,.d (vS o.name)],.row 1 (o.b.map vB),.row 5 (X.slots.map aA),.row 3 (X.roots.map ak),.row 1 (X.data.map oB),.row 1 (E.b.map vB),.var 28 [.d (vI X.sh.pages),.d (vI X.sh.slots),.d (vI X.sh.roots),.d (vI X.sh.room),.d (vI X.mode),.d (vI X.base),.hdr 8 0 X.slots.length,.hdr 9 0 X.roots.length,.hdr 10 0 X.data.length],.var 77 [.d (vI E.ix),.d (vI E.gen),.hdr 11 0 E.b.length]]) (Weak.FY 7 o.b.length (ys:=o.b.map vB) rfl (by simp[List.take_append])) ?_);have Bv:=GY g [.var 28 [.d (vI s.sh.pages),.d (vI s.sh.slots),.d (vI s.sh.roots),.d (vI s.sh.room),.d (vI s.mode),.d (vI s.base),.d (eG s.slots),.d (rR s.roots),.d (fL s.data)],.var 73 [.d (vI o.act),.d (vI o.ix),.d (vI o.gen),.d (vI o.n),.d (vI o.off),.d (rB o.b),.d (vS o.name)],.row 5 (s.slots.map aA),.row 3 (s.roots.map ak),.row 1 (s.data.map oB),.var 28 [.d (vI s.sh.pages),.d (vI s.sh.slots),.d (vI s.sh.roots),.d (vI s.sh.room),.d (vI s.mode),.d (vI s.base),.hdr 2 0 s.slots.length,.hdr 3 0 s.roots.length,.hdr 4 0 s.data.length],.var 73 [.d (vI o.act),.d (vI o.ix),.d (vI o.gen),.d (vI o.n),.d (vI o.off),.hdr 7 0 o.b.length,.d (vS o.name)],.dead,.row 5 (X.slots.map aA),.row 3 (X.roots.map ak),.row 1 (X.data.map oB),.row 1 (E.b.map vB),.var 28 [.d (vI X.sh.pages),.d (vI X.sh.slots),.d (vI X.sh.roots),.d (vI X.sh.room),.d (vI X.mode),.d (vI X.base),.hdr 8 0 X.slots.length,.hdr 9 0 X.roots.length,.hdr 10 0 X.data.length],.var 77 [.d (vI E.ix),.d (vI E.gen),.hdr 11 0 E.b.length]] [] [o.b] (by simp) (by simp) (by simp) (by simp) (by simp);simp only[ai,List.map_append,List.map_cons,List.map_nil,List.cons_append,List.nil_append,List.length_cons,List.length_nil,Nat.zero_add,Nat.reduceAdd]at Bv;refine gG rfl [1003] rfl ?_;refine aT ?_;refine dX rfl rfl rfl rfl (by simp;exact .mk) ⟨_,Tryz.func67,rfl,rfl⟩ (cg (by simp) (cg (by simp) (cg (by simp) (cT (by simp))))) (by simpa using Bv) (by simp) (by decide) ?_;refine xG [2,3,5,8,10,11,12,13] ?_;refine ay ?_;refine xC (Db) ?_ (he:=by simp[au,Function.comp_def,List.take_append];exact .mk) (hi:=by simp[ax,bh];exact .mk);iterate 6 refine xO ?_
 iterate 2 (refine aH ?_)
 refine xO ?_;refine xG [2,5,8,10,11,12,13,14,15,16] ?_;refine ay ?_;refine xC (cX) ?_ (he:=by simp[au,Function.comp_def,List.take_append];exact .mk) (hi:=by simp[ax,bh];exact .mk);refine xO ?_;iterate 2 refine xI ?_
 refine bI rfl (by simp;exact .mk) rfl rfl (by simp) (by simp;exact .mk) (by simp[au,Function.comp_def,List.take_append];exact .mk) (fun hb=>JT g E.ix E.gen E.b) (by simp) (by simp[ax,bh];exact .mk) (by simp) ?_;refine xP ?_;refine xB ?_;refine xF [2,5,8,10,11,12,13,16,17] ?_;refine ab ?_;have IP:=KR g [.var 28 [.d (vI s.sh.pages),.d (vI s.sh.slots),.d (vI s.sh.roots),.d (vI s.sh.room),.d (vI s.mode),.d (vI s.base),.d (eG s.slots),.d (rR s.roots),.d (fL s.data)],.var 73 [.d (vI o.act),.d (vI o.ix),.d (vI o.gen),.d (vI o.n),.d (vI o.off),.d (rB o.b),.d (vS o.name)],.row 5 (s.slots.map aA),.row 3 (s.roots.map ak),.row 1 (s.data.map oB),.var 28 [.d (vI s.sh.pages),.d (vI s.sh.slots),.d (vI s.sh.roots),.d (vI s.sh.room),.d (vI s.mode),.d (vI s.base),.hdr 2 0 s.slots.length,.hdr 3 0 s.roots.length,.hdr 4 0 s.data.length],.var 73 [.d (vI o.act),.d (vI o.ix),.d (vI o.gen),.d (vI o.n),.d (vI o.off),.hdr 7 0 o.b.length,.d (vS o.name)],.dead] [.row 1 (E.b.map vB),.var 28 [.d (vI X.sh.pages),.d (vI X.sh.slots),.d (vI X.sh.roots),.d (vI X.sh.room),.d (vI X.mode),.d (vI X.base),.hdr 8 0 X.slots.length,.hdr 9 0 X.roots.length,.hdr 10 0 X.data.length],.var 77 [.d (vI E.ix),.d (vI E.gen),.hdr 11 0 E.b.length],.dead,.row 5 (X.slots.map aA),.row 3 (X.roots.map ak),.row 1 (X.data.map oB),.row 1 (E.b.map vB),.var 28 [.d (vI X.sh.pages),.d (vI X.sh.slots),.d (vI X.sh.roots),.d (vI X.sh.room),.d (vI X.mode),.d (vI X.base),.hdr 15 0 X.slots.length,.hdr 16 0 X.roots.length,.hdr 17 0 X.data.length],.var 77 [.d (vI E.ix),.d (vI E.gen),.hdr 18 0 E.b.length]] X E3 (by simp) (by simp) (by simp) (by simp);simp only[List.map_append,List.map_cons,List.map_nil,List.cons_append,List.nil_append,List.length_cons,List.length_nil,Nat.zero_add,Nat.reduceAdd]at IP;refine gG rfl [1001] rfl ?_;refine xO ?_;refine dX rfl rfl rfl rfl (by simp;exact .mk) ⟨_,Tryz.func26,rfl,rfl⟩ (cg (by simp) (cT (by simp))) (by simpa using IP) (by simp) (by decide) ?_;refine xF [2,5,8,11,12,13,16,17] ?_;refine ab ?_;have N1:=GY g [.var 28 [.d (vI s.sh.pages),.d (vI s.sh.slots),.d (vI s.sh.roots),.d (vI s.sh.room),.d (vI s.mode),.d (vI s.base),.d (eG s.slots),.d (rR s.roots),.d (fL s.data)],.var 73 [.d (vI o.act),.d (vI o.ix),.d (vI o.gen),.d (vI o.n),.d (vI o.off),.d (rB o.b),.d (vS o.name)],.row 5 (s.slots.map aA),.row 3 (s.roots.map ak),.row 1 (s.data.map oB),.var 28 [.d (vI s.sh.pages),.d (vI s.sh.slots),.d (vI s.sh.roots),.d (vI s.sh.room),.d (vI s.mode),.d (vI s.base),.hdr 2 0 s.slots.length,.hdr 3 0 s.roots.length,.hdr 4 0 s.data.length],.var 73 [.d (vI o.act),.d (vI o.ix),.d (vI o.gen),.d (vI o.n),.d (vI o.off),.hdr 7 0 o.b.length,.d (vS o.name)],.dead,.dead,.dead,.dead,.dead,.var 28 [.d (vI X.sh.pages),.d (vI X.sh.slots),.d (vI X.sh.roots),.d (vI X.sh.room),.d (vI X.mode),.d (vI X.base),.hdr 8 0 X.slots.length,.hdr 9 0 X.roots.length,.hdr 10 0 X.data.length],.var 77 [.d (vI E.ix),.d (vI E.gen),.hdr 11 0 E.b.length],.dead,.row 5 (X.slots.map aA),.row 3 (X.roots.map ak),.row 1 (X.data.map oB),.row 1 (E.b.map vB),.var 28 [.d (vI X.sh.pages),.d (vI X.sh.slots),.d (vI X.sh.roots),.d (vI X.sh.room),.d (vI X.mode),.d (vI X.base),.hdr 15 0 X.slots.length,.hdr 16 0 X.roots.length,.hdr 17 0 X.data.length],.var 77 [.d (vI E.ix),.d (vI E.gen),.hdr 18 0 E.b.length]] [] [E.b] (by simp) (by simp) (by simp) (by simp) (by simp);simp only[ai,List.map_append,List.map_cons,List.map_nil,List.cons_append,List.nil_append,List.length_cons,List.length_nil,Nat.zero_add,Nat.reduceAdd]at N1;refine gG rfl [1003] rfl ?_;refine aT ?_;refine dX rfl rfl rfl rfl (by simp;exact .mk) ⟨_,Tryz.func67,rfl,rfl⟩ (cg (by simp) (cg (by simp) (cg (by simp) (cT (by simp))))) (by simpa using N1) (by simp) (by decide) ?_;refine xG [2,5,8,12,13,16,17] ?_;refine ay ?_;refine xI ?_;refine xP ?_;refine xB ?_;refine xI ?_;refine xP ?_;refine xB ?_;iterate 3 refine xI ?_
 refine xP ?_;refine xB ?_;iterate 2 refine xI ?_
 refine bI rfl (by simp;exact .mk) rfl rfl (by simp) (by simp;exact .mk) (by simp[au,Function.comp_def,List.take_append];exact .mk) (fun hb=>cS) (by simp) (by simp[ax,bh];exact .mk) (by simp) ?_;refine xP ?_;refine xB ?_;refine xF [4] ?_;refine xZ ?_;simp
end Go.Proofs
