/- Contracts of the program's functions and plain facts, for arguments as each lemma says. -/
import Derived.Test.YtokgokbgidgfeaaGreatAwpD
import Derived.Test.YtokgokbgidgfeaaGreatCD
import Derived.Test.YtokgokbgidgfeaaGreatAwpC
set_option linter.all false
set_option maxHeartbeats 4000000
set_option maxRecDepth 4000
namespace Go.Proofs
open Go.aN
attribute [simp] Tryz.f108 Tryz.f110
theorem I1(g:Gl)(l:List Slot)(hl:l.length≤2^40)(x:Slot):a9 Tryz.prog g 110 [eG l,aA x] (.bK [Fk (c0 l x).1,.agg [vI (c0 l x).2.1.1,vI (c0 l x).2.1.2],vI (c0 l x).2.2]):=by
 refine xA Tryz.func110 fun B S=>?_
 simp only[aA,List.map,aO];refine xU ?_;refine bx ?_;refine xF [0,3,5] ?_;refine ab (xU ?_);refine xO ?_;refine xC (BD g l hl) ?_;refine xO ?_;refine xQ [0,3,5,11] ?_ ?_
 ·intro h11;have hr:c0 l x=([],(0,0),1):=by unfold c0;rw[if_neg (by simpa using h11)]
  refine xU ?_;refine aH ?_;refine xO ?_;refine aH ?_;refine xH [4,5,6] ?_;refine xZ ?_;first|(simp[hr,ai,List.map_set];done)|simp[hr,ai,List.map_set,hk]
 intro h11;have ht:df l=true:=by simpa using h11
 refine af ?_;refine xT ?_;refine xO ?_;refine xC (En g l hl) ?_;refine cW ?_;refine xF [0,3,5,7,8] ?_;refine ab (xU ?_);refine ay ?_;refine xQ [0,3,5,7,19] ?_ ?_
 ·intro h19;have hn:dh l=none:=by simpa using h19
  have hr:c0 l x=([],(0,0),9):=by unfold c0;rw[if_pos ht,hn]
  refine xU ?_;refine aH ?_;refine xO ?_;refine aH ?_;refine xH [4,5,6] ?_;refine xZ ?_;first|(simp[hr,ai,List.map_set];done)|simp[hr,ai,List.map_set,hk]
 intro h19;obtain⟨k,hk⟩:∃k,dh l=some k:=Option.isSome_iff_exists.1 (by simpa using h19);obtain⟨hkl,_,_⟩:=fv hk;have hkk:(((dh l).getD 0:Nat):Int)=k:=by rw[hk];rfl
 refine af fun _=>?_;refine ab ?_;refine iP (hard:=[]) [2,3,4,6] (aR (by decide)) (by kernel_rfl) 4 [[0,1,2,3,4,5,6,7,8],[0,1,2,3,5,6,4,7,8],[0,1,2,5,6,3,4,7,8],[0,1,5,6,2,3,4,7,8]] (by decide +kernel) ⟨?_,?_,?_,?_,trivial⟩
 ·skip
  refine ay ?_;refine xO ?_ (h:=by simp[aA,hk,hkl];exact .mk);refine xO ?_;refine cq ?_;refine xO ?_;refine xO ?_ (h:=by simp[splice,br,dn,bJ,splice];exact .mk);refine xO ?_;refine xO ?_ (h:=by simp[splice,br,dn,bJ,splice];exact .mk);refine xF [0,3,5,7] ?_;refine ab (xU ?_);refine cq ?_;refine bA rfl rfl rfl rfl (by simp;exact .mk) (by simp;exact .mk) (by have:=vo g (fV x (nth l k).gen);exact this) (by simp) (by simp;exact .mk) ?_;refine xO ?_;refine xQ [0,3,5,7,30] ?_ ?_
  ·intro fm;have hr:c0 l x=([],(0,0),1):=by unfold c0;rw[if_pos ht,hk];simp only;rw[if_neg (by simpa using fm)]
   refine xU ?_;refine aH ?_;refine xO ?_;refine aH ?_;refine xH [4,5,6] ?_;refine xZ ?_;first|(simp[hr,ai,List.map_set];done)|simp[hr,ai,List.map_set,hk]
  intro fm;have hr:c0 l x=(l.set k (fV x (nth l k).gen),((k:Int),(nth l k).gen),0):=by unfold c0;rw[if_pos ht,hk];simp only;rw[if_pos (by simpa using fm)]
  refine af fun _=>?_;refine ab ?_;refine aS (by kernel_rfl) [] 4 [0,1,2,4,5,6,7,3,8,9,10] (by decide +kernel) ?_;refine ay ?_;refine cq ?_;refine ay ?_;refine cq ?_;refine aH ?_;refine bA rfl rfl rfl rfl (by simp;exact .mk) (by simp;exact .mk) (by have:=vp g l k (fV x (nth l k).gen) hl hkl;rw[←hkk]at this;exact this) (by simp) (by simp;exact .mk) ?_;refine xO ?_;refine aH ?_;refine xH [4,5,6] ?_;refine xZ ?_;first|(simp[hr,ai,List.map_set];done)|simp[hr,ai,List.map_set,hk]
 ·skip
  refine ay ?_;refine xO ?_ (h:=by simp[aA,hk,hkl];exact .mk);refine ay ?_;refine xO ?_ (h:=by simp[splice,br,dn,bJ,splice];exact .mk);refine cq ?_;refine xO ?_;refine xO ?_ (h:=by simp[splice,br,dn,bJ,splice];exact .mk);refine xF [0,3,5,7] ?_;refine ab (xU ?_);refine cq ?_;refine bA rfl rfl rfl rfl (by simp;exact .mk) (by simp;exact .mk) (by have:=vo g (fV x (nth l k).gen);exact this) (by simp) (by simp;exact .mk) ?_;refine xO ?_;refine xQ [0,3,5,7,30] ?_ ?_
  ·intro fm;have hr:c0 l x=([],(0,0),1):=by unfold c0;rw[if_pos ht,hk];simp only;rw[if_neg (by simpa using fm)]
   refine xU ?_;refine aH ?_;refine xO ?_;refine aH ?_;refine xH [4,5,6] ?_;refine xZ ?_;first|(simp[hr,ai,List.map_set];done)|simp[hr,ai,List.map_set,hk]
  intro fm;have hr:c0 l x=(l.set k (fV x (nth l k).gen),((k:Int),(nth l k).gen),0):=by unfold c0;rw[if_pos ht,hk];simp only;rw[if_pos (by simpa using fm)]
  refine af fun _=>?_;refine ab ?_;refine aS (by kernel_rfl) [] 4 [0,1,2,4,5,6,7,3,8,9,10] (by decide +kernel) ?_;refine ay ?_;refine cq ?_;refine ay ?_;refine cq ?_;refine aH ?_;refine bA rfl rfl rfl rfl (by simp;exact .mk) (by simp;exact .mk) (by have:=vp g l k (fV x (nth l k).gen) hl hkl;rw[←hkk]at this;exact this) (by simp) (by simp;exact .mk) ?_;refine xO ?_;refine aH ?_;refine xH [4,5,6] ?_;refine xZ ?_;first|(simp[hr,ai,List.map_set];done)|simp[hr,ai,List.map_set,hk]
 ·skip
  refine ay ?_;refine xO ?_ (h:=by simp[aA,hk,hkl];exact .mk);refine xO ?_;refine xO ?_ (h:=by simp[splice,br,dn,bJ,splice];exact .mk);refine xO ?_;refine cq ?_;refine xO ?_;refine xO ?_ (h:=by simp[splice,br,dn,bJ,splice];exact .mk);refine xF [0,3,5,7] ?_;refine ab (xU ?_);refine cq ?_;refine bA rfl rfl rfl rfl (by simp;exact .mk) (by simp;exact .mk) (by have:=vo g (fV x (nth l k).gen);exact this) (by simp) (by simp;exact .mk) ?_;refine xO ?_;refine xQ [0,3,5,7,30] ?_ ?_
  ·intro fm;have hr:c0 l x=([],(0,0),1):=by unfold c0;rw[if_pos ht,hk];simp only;rw[if_neg (by simpa using fm)]
   refine xU ?_;refine aH ?_;refine xO ?_;refine aH ?_;refine xH [4,5,6] ?_;refine xZ ?_;first|(simp[hr,ai,List.map_set];done)|simp[hr,ai,List.map_set,hk]
  intro fm;have hr:c0 l x=(l.set k (fV x (nth l k).gen),((k:Int),(nth l k).gen),0):=by unfold c0;rw[if_pos ht,hk];simp only;rw[if_pos (by simpa using fm)]
  refine af fun _=>?_;refine ab ?_;refine aS (by kernel_rfl) [] 4 [0,1,2,4,5,6,7,3,8,9,10] (by decide +kernel) ?_;refine ay ?_;refine cq ?_;refine ay ?_;refine cq ?_;refine aH ?_;refine bA rfl rfl rfl rfl (by simp;exact .mk) (by simp;exact .mk) (by have:=vp g l k (fV x (nth l k).gen) hl hkl;rw[←hkk]at this;exact this) (by simp) (by simp;exact .mk) ?_;refine xO ?_;refine aH ?_;refine xH [4,5,6] ?_;refine xZ ?_;first|(simp[hr,ai,List.map_set];done)|simp[hr,ai,List.map_set,hk]
 skip
 refine aT ?_;refine xO ?_ (h:=by simp[splice,br,dn,bJ,splice];exact .mk);refine xO ?_ (h:=by simp[aA,hk,hkl];exact .mk);refine xO ?_;refine cq ?_;refine xO ?_;refine xO ?_ (h:=by simp[splice,br,dn,bJ,splice];exact .mk);refine xF [0,3,5,7] ?_;refine ab (xU ?_);refine cq ?_;refine bA rfl rfl rfl rfl (by simp;exact .mk) (by simp;exact .mk) (by have:=vo g (fV x (nth l k).gen);exact this) (by simp) (by simp;exact .mk) ?_;refine xO ?_;refine xQ [0,3,5,7,30] ?_ ?_
 ·intro fm;have hr:c0 l x=([],(0,0),1):=by unfold c0;rw[if_pos ht,hk];simp only;rw[if_neg (by simpa using fm)]
  refine xU ?_;refine aH ?_;refine xO ?_;refine aH ?_;refine xH [4,5,6] ?_;refine xZ ?_;first|(simp[hr,ai,List.map_set];done)|simp[hr,ai,List.map_set,hk]
 intro fm;have hr:c0 l x=(l.set k (fV x (nth l k).gen),((k:Int),(nth l k).gen),0):=by unfold c0;rw[if_pos ht,hk];simp only;rw[if_pos (by simpa using fm)]
 refine af fun _=>?_;refine ab ?_;refine aS (by kernel_rfl) [] 4 [0,1,2,4,5,6,7,3,8,9,10] (by decide +kernel) ?_;refine ay ?_;refine cq ?_;refine ay ?_;refine cq ?_;refine aH ?_;refine bA rfl rfl rfl rfl (by simp;exact .mk) (by simp;exact .mk) (by have:=vp g l k (fV x (nth l k).gen) hl hkl;rw[←hkk]at this;exact this) (by simp) (by simp;exact .mk) ?_;refine xO ?_;refine aH ?_;refine xH [4,5,6] ?_;refine xZ ?_;first|(simp[hr,ai,List.map_set];done)|simp[hr,ai,List.map_set,hk]
theorem Bz(g:Gl)(e:Int):a9 Tryz.prog g 108 [vI e] (.bK [ax bn,.agg [vI 0,vI 0],vI e]):=by
 refine xA Tryz.func108 fun B S=>?_
 refine xU ?_;refine aT ?_;refine xG [0,2,3] ?_;iterate 2 (refine aH ?_)
 refine xO ?_;iterate 2 (refine aH ?_)
 refine xH [2,3,4] ?_;refine xZ ?_;simp[ax,bn,ai]
open Go.aN
def jw(p q:Int×Int):Bool:=decide (p.2<q.2)||(decide (p.2=q.2)&&decide (p.1<q.1))
def c7(size:Int)(o:Option (Int×Int))(p:Int×Int):Option (Int×Int):=if decide (size≤p.2)&&(!o.isSome||jw p (o.getD (0,0)))then some p else o
def dy(l:List (Int×Int))(size:Int):Option (Int×Int):=l.foldl (c7 size) none
theorem mP{l:List (Int×Int)}{size:Int}{i:Nat}(h:i<l.length):dy (l.take (i+1)) size=c7 size (dy (l.take i) size) (nth l i):=by
 rw[take_succ h,dy,List.foldl_append];rfl
open Go.aN
attribute [simp] Tryz.f206 Tryz.f235
theorem EK(g:Gl)(p q:Int×Int):a9 Tryz.prog g 235 [aE p,aE q] (.v (.bool (jw p q))):=by
 refine xA Tryz.func235 fun B S=>?_
 simp only[aE,List.map,aO];refine xU ?_;refine aT ?_;refine xG [2,3] ?_;iterate 6 refine xO ?_
 iterate 11 refine xI ?_
 iterate 2 refine xP ?_
 refine xB ?_;refine xF [4] ?_;refine xZ ?_;first|(simp[jw];done)|(simp[jw]at *;grind)
theorem Ju(g:Gl)(l:List (Int×Int))(hl:l.length≤2^40)(size:Int):a9 Tryz.prog g 206 [rO l,vI size] (.bK [aE ((dy l size).getD (0,0)),.v (.bool (dy l size).isSome)]):=by
 refine xA Tryz.func206 fun B S=>?_
 refine xU ?_;refine bU [0,1,4,5] ?_;refine ab (xU ?_);refine dC [1,4,5,8,9,10] ?_;refine ag (aB (fun m σ o=>∃i:Nat,m=l.length-i∧i≤l.length∧σ=slots [(1,.d (vI size)),(4,.ptr 0 0 0),(5,.d (vT (dy (l.take i) size).isSome)),(8,.d (rO l)),(9,.d (vI l.length)),(10,.d (vI i))]∧o=[.var 115 [.d (vI ((dy (l.take i) size).getD (0,0)).1),.d (vI ((dy (l.take i) size).getD (0,0)).2)]]) l.length .refl ⟨0,by simp,by simp,by simp;rfl,rfl⟩ ?_);rintro m σ o ⟨i,rfl,hi,rfl,rfl⟩ _;refine xU ?_;refine xH [1,4,5,8,9,10,11] ?_;refine ab (bd rfl ?_ ?_)
 ·intro h11;have hi2:i<l.length:=by simpa using h11
  have hst:=mP (size:=size) hi2;refine af fun _=>?_;refine ab (ag ?_);refine xU ?_;refine xO ?_ (h:=by simp[aE, *];exact .mk);refine xO ?_ (h:=by simp[aE];exact .mk);refine xO ?_;refine aH ?_;refine xF [1,4,5,7,8,9,10] ?_;refine ab ?_;rcases hb:dy (l.take i) size with _|b
  ·skip
   rw[hb]at hst;refine xY ?_;refine xO ?_;refine xO ?_ (h:=by simp[aE];exact .mk);refine aT ?_;iterate 3 refine xI ?_
   iterate 2 (refine xI ?_ (h:=fun hb=>by simp[aE];exact .mk))
   refine bI rfl (by simp;exact .mk) rfl rfl (by simp) (by simp;exact .mk) (by simp;exact .mk) (fun hb=>by have:=EK g (nth l i) (0,0);exact this) (by simp) (by simp;exact .mk) (by simp) ?_;iterate 2 refine xP ?_
   refine xQ [1,4,5,7,8,9,10,26] ?_ ?_
   ·intro i8;have hs:dy (l.take (i+1)) size=some (nth l i):=by rw[hst,c7,if_pos (by simp at i8 ⊢;grind)]
    refine xY ?_;refine xO ?_ (h:=by simp[aE];exact .mk);refine aH ?_;refine xH [1,4,5,8,9,10] ?_;refine xY ?_;refine ay ?_;refine xE [1,4,5,8,9,10] ?_;refine aq 1 [1,4,5,8,9,10] (by simp) (by simp[gX,AV.cells,AV.aX]) (by simp[gX,AV.cells,AV.aX]) ?_;refine ae (m':=l.length-(i+1)) (by omega) ⟨i+1,rfl,by omega,?_,?_⟩
    ·rw[wrap64 (by omega) (by omega),hs];first|rfl|(rw[hb];rfl)
    rw[hs];first|rfl|(rw[hb];rfl)
   intro i8;have hs:dy (l.take (i+1)) size=(dy (l.take i) size):=by rw[hb,hst,c7,if_neg (by simp at i8 ⊢;grind)]
   refine af fun _=>?_;refine xY ?_;refine ay ?_;refine xE [1,4,5,8,9,10] ?_;refine aq 1 [1,4,5,8,9,10] (by simp) (by simp[gX,AV.cells,AV.aX]) (by simp[gX,AV.cells,AV.aX]) ?_;refine ae (m':=l.length-(i+1)) (by omega) ⟨i+1,rfl,by omega,?_,?_⟩
   ·rw[wrap64 (by omega) (by omega),hs];first|rfl|(rw[hb];rfl)
   rw[hs];first|rfl|(rw[hb];rfl)
  skip
  rw[hb]at hst;refine xY ?_;refine xO ?_;refine xO ?_ (h:=by simp[aE];exact .mk);refine aT ?_;iterate 3 refine xI ?_
  iterate 2 (refine xI ?_ (h:=fun hb=>by simp[aE];exact .mk))
  refine bI rfl (by simp;exact .mk) rfl rfl (by simp) (by simp;exact .mk) (by simp;exact .mk) (fun hb=>by have:=EK g (nth l i) b;exact this) (by simp) (by simp;exact .mk) (by simp) ?_;iterate 2 refine xP ?_
  refine xQ [1,4,5,7,8,9,10,26] ?_ ?_
  ·intro i8;have hs:dy (l.take (i+1)) size=some (nth l i):=by rw[hst,c7,if_pos (by simp at i8 ⊢;grind)]
   refine xY ?_;refine xO ?_ (h:=by simp[aE];exact .mk);refine aH ?_;refine xH [1,4,5,8,9,10] ?_;refine xY ?_;refine ay ?_;refine xE [1,4,5,8,9,10] ?_;refine aq 1 [1,4,5,8,9,10] (by simp) (by simp[gX,AV.cells,AV.aX]) (by simp[gX,AV.cells,AV.aX]) ?_;refine ae (m':=l.length-(i+1)) (by omega) ⟨i+1,rfl,by omega,?_,?_⟩
   ·rw[wrap64 (by omega) (by omega),hs];first|rfl|(rw[hb];rfl)
   rw[hs];first|rfl|(rw[hb];rfl)
  intro i8;have hs:dy (l.take (i+1)) size=(dy (l.take i) size):=by rw[hb,hst,c7,if_neg (by simp at i8 ⊢;grind)]
  refine af fun _=>?_;refine xY ?_;refine ay ?_;refine xE [1,4,5,8,9,10] ?_;refine aq 1 [1,4,5,8,9,10] (by simp) (by simp[gX,AV.cells,AV.aX]) (by simp[gX,AV.cells,AV.aX]) ?_;refine ae (m':=l.length-(i+1)) (by omega) ⟨i+1,rfl,by omega,?_,?_⟩
  ·rw[wrap64 (by omega) (by omega),hs];first|rfl|(rw[hb];rfl)
  rw[hs];first|rfl|(rw[hb];rfl)
 intro h11;obtain rfl:i=l.length:=by simp at h11;omega
 rw[List.take_length];refine aP (xT ?_);refine xO ?_ (h:=by simp[aE];exact .mk);refine xO ?_;refine aH ?_;refine xH [4,5] ?_;refine xZ ?_;simp[aE]
open Go.aN
def cellsS(c:Int):Int×Int:=if c<0∨6≤c then (0,1)else ((28:Int).tdiv (nth aI c.toNat),0)
def cellS(c k:Int):Int×Int:=if c<0∨6≤c∨k<0∨(cellsS c).1≤k then (0,1)else (4+k*nth aI c.toNat,0)
theorem wZ{k:Nat}(h:k<6):nth aI k=2∨nth aI k=3∨nth aI k=5∨nth aI k=7∨nth aI k=10∨nth aI k=15:=fW h
def iA(a b:Int):List (Int×Int):=if a<b then [(a,b-a)]else []
def dr(to:Int):Int→List (Int×Int)→List (Int×Int)
 | a,[]=>iA a to
 | a,p::l=>iA a p.1++dr to (p.1+p.2) l
theorem vN{a b:Int}:(iA a b).length≤1:=by unfold iA;split<;>simp
theorem rq{to a:Int}{l:List (Int×Int)}{i:Nat}(h:i<l.length):dr to a (l.drop i)=iA a (nth l i).1++dr to ((nth l i).1+(nth l i).2) (l.drop (i+1)):=by
 rw[List.drop_eq_getElem_cons h,bC h];rfl
open Go.aN
theorem tF{to:Int}:∀ {l:List (Int×Int)} {a:Int},dI to a l=true→∀g∈dr to a l,a≤g.1∧0<g.2∧g.1+g.2≤to∧(∀p∈l,nN g p)
 | [],a,_,g,hg=>by
  simp only[dr,iA]at hg;split at hg
  ·rcases List.mem_singleton.1 hg with rfl;exact⟨by simp,by simp;omega,by show a+(to-a)≤to;omega,fun p hp=>by cases hp⟩
  ·cases hg
 | p::l,a,h,g,hg=>by
  have hp:=lM h;obtain⟨h1,h2,h3⟩:=hp.2 p (by simp);have hh:=h;simp only[dI,Bool.and_eq_true]at hh;have hl:=(lM hh.2).2;simp only[dr,List.mem_append]at hg;rcases hg with hg|hg
  ·simp only[iA]at hg;split at hg
   ·rcases List.mem_singleton.1 hg with rfl;refine⟨by simp,by simp;omega,by show a+(p.1-a)≤to;omega,fun q hq=>?_⟩;rcases List.mem_cons.1 hq with rfl|hq
    ·exact .inl (by show a+(q.1-a)≤q.1;omega)
    ·exact .inl (by have:=hl q hq;show a+(p.1-a)≤q.1;omega)
   ·cases hg
  ·obtain⟨g1,g2,g3,g4⟩:=tF hh.2 g hg;refine⟨by omega,g2,g3,fun q hq=>?_⟩;rcases List.mem_cons.1 hq with rfl|hq
   ·exact .inr (by omega)
   ·exact g4 q hq
theorem wG{a:Int}(h:0≤a):a.tmod 4=0↔a%4=0:=by rw[Int.tmod_eq_emod_of_nonneg h]
theorem rn{to a:Int}{p:Int×Int}(h:di to a p=false):a≤p.1∧p.1≤to∧4≤p.2∧p.2≤to-p.1∧p.1.tmod 4=0∧p.2.tmod 4=0:=by
 simp only[di,decide_eq_false_iff_not,not_or,Decidable.not_not]at h;omega
theorem rr{to:Int}:∀ {l:List (Int×Int)} {a:Int},dI to a l=true→0≤a→a%4=0→∀g∈dr to a l,g.1%4=0
 | [],a,_,_,h4,g,hg=>by
  simp only[dr,iA]at hg;split at hg
  ·rcases List.mem_singleton.1 hg with rfl;exact h4
  ·cases hg
 | p::l,a,h,h0,h4,g,hg=>by
  simp only[dI,Bool.and_eq_true,Bool.not_eq_true']at h;obtain⟨b1,b2,b3,b4,b5,b6⟩:=rn h.1;rw[wG (by omega)]at b5 b6;simp only[dr,List.mem_append]at hg;rcases hg with hg|hg
  ·simp only[iA]at hg;split at hg
   ·rcases List.mem_singleton.1 hg with rfl;exact h4
   ·cases hg
  ·exact rr h.2 (by omega) (by omega) g hg
theorem qL{size:Int}:∀(l:List (Int×Int)) (o:Option (Int×Int)),(∀b,o=some b→size≤b.2) →
    (∀b,l.foldl (c7 size) o=some b→(b∈l∨o=some b)∧size≤b.2)∧(l.foldl (c7 size) o=none→o=none∧∀p∈l,p.2<size)
 | [],o,h=>⟨fun b hb=>⟨.inr hb,h b hb⟩,fun hn=>⟨hn,fun p hp=>by cases hp⟩⟩
 | p::l,o,h=>by
  have hs:∀b,c7 size o p=some b→size≤b.2:=by
   intro b hb;unfold c7 at hb;split at hb
   ·rename_i hc;cases hb;simp at hc;exact hc.1
   ·exact h b hb
  obtain⟨i1,i2⟩:=qL l (c7 size o p) hs;refine⟨fun b hb=>?_,fun hn=>?_⟩
  ·obtain⟨j1,j2⟩:=i1 b hb;refine⟨?_,j2⟩;rcases j1 with j1|j1
   ·exact .inl (List.mem_cons_of_mem _ j1)
   ·unfold c7 at j1;split at j1
    ·cases j1;exact .inl (by simp)
    ·exact .inr j1
  ·obtain⟨j1,j2⟩:=i2 hn;unfold c7 at j1;split at j1
   ·cases j1
   ·rename_i hc;refine⟨j1,fun q hq=>?_⟩;rcases List.mem_cons.1 hq with rfl|hq
    ·subst j1;simp at hc;exact hc
    ·exact j2 q hq
theorem xf{l:List (Int×Int)}{size:Int}{b:Int×Int}(h:dy l size=some b):b∈l∧size≤b.2:=by
 obtain⟨h1,h2⟩:=(qL l none (by simp)).1 b h;exact⟨by simpa using h1,h2⟩
theorem A8{R:Int×Int→Prop}{l:List Slot}:(∀p∈bV l,R p)↔∀i,i<l.length→dV (nth l i)=true→R ((nth l i).at_,(cK (nth l i).len).1):=by
 rw[show (∀i,i<l.length→dV (nth l i)=true→R ((nth l i).at_,(cK (nth l i).len).1))↔∀b∈fi l,R (fC b) from (pg (R:=fun b=>R (fC b))).symm];simp only[bV,ca,List.mem_map];constructor
 ·intro h b hb;exact h _ ⟨b,(iH (lt:=eQ) _).mem_iff.2 hb,rfl⟩
 ·rintro h p ⟨b,hb,rfl⟩;exact h b ((iH (lt:=eQ) _).mem_iff.1 hb)
def qj(s:bF)(n:Int):Option Int:=if (cK n).2≠0 then none else (dy (dr (s.sh.pages*32) (s.base*32) (bV s.slots)) (cK n).1).map (·.1)
theorem Cp{n:Int}(h:1≤n∧n≤2048):(cK n).2=0:=by unfold cK;rw[if_neg (by omega)]
theorem Cz{s:bF}{n a:Int}(h:bL s=true)(hn:1≤n∧n≤2048)(ho:qj s n=some a):s.base*32≤a∧a.tmod 4=0∧a+(cK n).1≤s.sh.pages*32 ∧
    ∀i,i<s.slots.length→dV (nth s.slots i)=true→nN (a,(cK n).1) ((nth s.slots i).at_,(cK (nth s.slots i).len).1):=by
 unfold qj at ho;rw[if_neg (by simp[Cp hn])]at ho;obtain⟨g,hg,rfl⟩:=Option.map_eq_some_iff.1 ho;obtain⟨h1,h2⟩:=xf hg;have hG:=pw h;simp only[dt,Bool.and_eq_true]at hG;have hb:=gP (ij h);obtain⟨g1,g2,g3,g4⟩:=tF hG.2 g h1;have q:=rr hG.2 (by omega) (by omega) g h1;refine⟨g1,(wG (by omega)).2 q,by omega,?_⟩;refine(A8 (R:=fun p=>nN (g.1,(cK n).1) p)).1 fun p hp=>?_
 rcases g4 p hp with r|r
 ·exact .inl (by show g.1+(cK n).1≤p.1;omega)
 ·exact .inr r
open Go.aN
def lF(l:List (Int×Int)):List (Int×Int):=l.set (l.length-1) ((nth l (l.length-1)).1,(nth l (l.length-1)).2+1)
def b8(ks:List Int):Nat→List (Int×Int)×Bool
 | 0=>([],false)
 | i+1=>if nth ks i = -1 then (if (b8 ks i).2=true then (lF (b8 ks i).1,true)else ((b8 ks i).1++[((i:Int),1)],true))else ((b8 ks i).1,false)
def kj(ks:List Int):List (Int×Int):=(b8 ks ks.length).1
theorem qP{l:List (Int×Int)}{g:Int×Int}:lF (l++[g])=l++[(g.1,g.2+1)]:=by
 have e:(l++[g]).length-1=l.length:=by simp
 have e2:nth (l++[g]) l.length=g:=by rw[bC (by simp)];simp
 unfold lF;rw[e,e2,List.set_append_right _ _ (Nat.le_refl _)];simp
structure Bn (ks:List Int) (i:Nat) (g:Int×Int):Prop where
 h0:0≤g.1
 h1:1≤g.2
 h2:g.1+g.2≤i
 h3:∀x:Nat,g.1≤x→(x:Int)<g.1+g.2→nth ks x = -1
def y7(ks:List Int)(i:Nat)(g:Int×Int):Prop:=g.1+g.2<(i:Int)∧nth ks (g.1+g.2).toNat ≠ -1
structure FA (ks:List Int) (i:Nat) (st:List (Int×Int)×Bool):Prop where
 ok:∀g∈st.1,Bn ks i g
 Qa:∀x:Nat,x<i→nth ks x = -1→∃g∈st.1,g.1≤x∧(x:Int)<g.1+g.2
 op:st.2=true→∃(l:List (Int×Int)) (g:Int×Int),st.1=l++[g]∧g.1+g.2=(i:Int)∧∀h∈l,y7 ks i h
 cl:st.2=false→∀g∈st.1,y7 ks i g
theorem uW{ks:List Int}:∀i:Nat,FA ks i (b8 ks i)
 | 0=>⟨fun g hg=>by simp[b8]at hg,fun x hx=>by omega,fun h=>by simp[b8]at h,fun _ g hg=>by simp[b8]at hg⟩
 | i+1=>by
  obtain⟨h1,h2,h3,h4⟩:=uW (ks:=ks) i;have up:∀ {g},Bn ks i g→Bn ks (i+1) g:=fun h=>⟨h.h0,h.h1,by have:=h.h2;omega,h.h3⟩
  have us:∀ {g},y7 ks i g→y7 ks (i+1) g:=fun h=>⟨by have:=h.1;omega,h.2⟩
  unfold b8;by_cases hk:nth ks i = -1
  ·rw[if_pos hk];by_cases ho:(b8 ks i).2=true
   ·rw[if_pos ho];obtain⟨l,g,e,g1,g2⟩:=h3 ho;rw[e]at h1 h2 ⊢;simp only[qP];have hg:=h1 g (by simp);refine⟨fun q hq=>?_,fun x hx hxk=>?_,fun _=>⟨l,(g.1,g.2+1),rfl,by simp only;omega,fun q hq=>us (g2 q hq)⟩,fun h=>by cases h⟩
    ·rcases List.mem_append.1 hq with hq|hq
     ·exact up (h1 q (by simp[hq]))
     ·rcases List.mem_singleton.1 hq with rfl;refine⟨hg.h0,by have:=hg.h1;show 1≤g.2+1;omega,by show g.1+(g.2+1)≤_;omega,fun x q1 q2=>?_⟩;simp only at q1 q2;by_cases e2:x=i
      ·subst e2;exact hk
      ·exact hg.h3 x q1 (by omega)
    ·by_cases e2:x=i
     ·subst e2;exact⟨_,List.mem_append_right _ (List.mem_singleton.2 rfl),by simp only;have:=hg.h1;omega,by simp only;omega⟩
     ·obtain⟨q,hq,q1,q2⟩:=h2 x (by omega) hxk;rcases List.mem_append.1 hq with hq|hq
      ·exact⟨q,List.mem_append_left _ hq,q1,q2⟩
      ·rcases List.mem_singleton.1 hq with rfl;exact⟨_,List.mem_append_right _ (List.mem_singleton.2 rfl),q1,by simp only;omega⟩
   ·rw[if_neg ho];have ho':(b8 ks i).2=false:=by simpa using ho
    have hs:=h4 ho';refine⟨fun q hq=>?_,fun x hx hxk=>?_,fun _=>⟨(b8 ks i).1,((i:Int),1),rfl,by simp,fun q hq=>us (hs q hq)⟩,fun h=>by cases h⟩
    ·rcases List.mem_append.1 hq with hq|hq
     ·exact up (h1 q hq)
     ·rcases List.mem_singleton.1 hq with rfl;refine⟨by simp,by simp,by simp,fun x q1 q2=>?_⟩;simp only at q1 q2;obtain rfl:x=i:=by omega
      exact hk
    ·by_cases e2:x=i
     ·subst e2;exact⟨_,List.mem_append_right _ (List.mem_singleton.2 rfl),by simp,by simp only;omega⟩
     ·obtain⟨q,hq,q1,q2⟩:=h2 x (by omega) hxk;exact⟨q,List.mem_append_left _ hq,q1,q2⟩
  ·rw[if_neg hk];refine⟨fun q hq=>up (h1 q hq),fun x hx hxk=>?_,(fun h=>by cases h),fun _ q hq=>?_⟩
   ·by_cases e2:x=i
    ·subst e2;exact absurd hxk hk
    ·exact h2 x (by omega) hxk
   ·by_cases ho:(b8 ks i).2=true
    ·obtain⟨l,g,e,g1,g2⟩:=h3 ho;simp only at hq;rw[e]at hq;rcases List.mem_append.1 hq with hq|hq
     ·exact us (g2 q hq)
     ·rcases List.mem_singleton.1 hq with rfl;exact⟨by omega,by rw[g1];simpa using hk⟩
    ·exact us (h4 (by simpa using ho) q hq)
def aU(n:Int)(o:Option (Int×Int))(g:Int×Int):Option (Int×Int):=if decide (1≤n)&&(decide (n≤g.2)&&(!o.isSome||decide (g.2<(o.getD (0,0)).2)))then some g else o
def gJ(ks:List Int)(n:Int):Option (Int×Int):=(kj ks).foldl (aU n) none
theorem qK{n:Int}(hn:1≤n):∀(l:List (Int×Int)) (o:Option (Int×Int)),(∀b,o=some b→n≤b.2) →
    (∀b,l.foldl (aU n) o=some b→(b∈l∨o=some b)∧n≤b.2)∧(l.foldl (aU n) o=none→o=none∧∀p∈l,p.2<n)
 | [],o,h=>⟨fun b hb=>⟨.inr hb,h b hb⟩,fun hn=>⟨hn,fun p hp=>by cases hp⟩⟩
 | p::l,o,h=>by
  have hs:∀b,aU n o p=some b→n≤b.2:=by
   intro b hb;unfold aU at hb;split at hb
   ·rename_i hc;cases hb;simp at hc;exact hc.2.1
   ·exact h b hb
  obtain⟨i1,i2⟩:=qK hn l (aU n o p) hs;refine⟨fun b hb=>?_,fun hn=>?_⟩
  ·obtain⟨j1,j2⟩:=i1 b hb;refine⟨?_,j2⟩;rcases j1 with j1|j1
   ·exact .inl (List.mem_cons_of_mem _ j1)
   ·unfold aU at j1;split at j1
    ·cases j1;exact .inl (by simp)
    ·exact .inr j1
  ·obtain⟨j1,j2⟩:=i2 hn;unfold aU at j1;split at j1
   ·cases j1
   ·rename_i hc;refine⟨j1,fun q hq=>?_⟩;rcases List.mem_cons.1 hq with rfl|hq
    ·subst j1;simp at hc;omega
    ·exact j2 q hq
theorem xe{ks:List Int}{n:Int}{b:Int×Int}(hn:1≤n)(h:gJ ks n=some b):b∈kj ks∧n≤b.2:=by
 obtain⟨h1,h2⟩:=(qK hn (kj ks) none (by simp)).1 b h;exact⟨by simpa using h1,h2⟩
def jD(ks:List Int)(ms:List Nat)(of:Int)(m:Nat)(p:Nat):Option Nat:=if nth ks p=of then (List.range m).find? (fun k => !(nth ms p).testBit k)else none
def ov(ks:List Int)(ms:List Nat)(of:Int):Option Nat:=(List.range ks.length).find? fun p=>(jD ks ms of (cellsS of).1.toNat p).isSome
def vL(ks:List Int):Option Nat:=(List.range ks.length).find? fun p=>decide (nth ks p = -1)
def jx(ks:List Int)(ms:List Nat)(of:Int):Option Int:=match ov ks ms of with
 | some p=>some ((p:Int)*32+(cellS of ((jD ks ms of (cellsS of).1.toNat p).getD 0:Nat)).1)
 | none=>(vL ks).map fun(p:Nat)=>(p:Int)*32+4
def db(pages:Int)(l:List (Int×Int))(n:Int):Option Int:=match cR pages l with
 | none=>none
 | some st=>if (bB n).2=true then jx st.1 st.2 (bB n).1 else if (bw n).2≠0 then none else (gJ st.1 (bw n).1).map fun g=>g.1*32
theorem ng{pages:Int}{l:List (Int×Int)}{st}(h:cR pages l=some st):(0≤pages∧pages≤64)∧(∀j,j<l.length→lu pages l j=true)∧st=ei pages l l.length:=by
 unfold cR at h;split at h
 ·rename_i h2;simp only[Bool.and_eq_true,decide_eq_true_eq,List.all_eq_true,List.mem_range]at h2;cases h;exact⟨h2.1,h2.2,rfl⟩
 ·cases h
structure y6 (pages:Int) (l:List (Int×Int)) (ks:List Int) (ms:List Nat):Prop where
 p0:0≤pages∧pages≤64
 len:ks.length=pages.toNat
 len2:ms.length=64
 good:∀j,j<l.length→iv pages (bo pages l j)
 free:∀x:Nat,(x:Int)<pages→(∀j,j<l.length→¬covers (bo pages l j) x)→nth ks x = -1
 sm:∀j,j<l.length→(bo pages l j).small=true→nth ks (bo pages l j).page.toNat=(bo pages l j).cls∧(nth ms (bo pages l j).page.toNat).testBit (bo pages l j).cell.toNat=true
 lg:∀j,j<l.length→(bo pages l j).small=false→∀x:Nat,covers (bo pages l j) x→nth ks x=7∨nth ks x=6
 bit:∀x c:Nat,x<64→(nth ms x).testBit c=true→∃j,j<l.length∧(bo pages l j).small=true∧(bo pages l j).page=x∧(bo pages l j).cell=c
theorem tN{pages:Int}{l:List (Int×Int)}{st}(h:cR pages l=some st):y6 pages l st.1 st.2:=by
 obtain⟨h0,h1,rfl⟩:=ng h;obtain⟨_,l2,l3⟩:=rJ.1 (show (cR pages l).isSome=true by rw[h];rfl);obtain⟨_,hF⟩:=lay_all h0.1 h0.2 l2 l3 l.length (Nat.le_refl _);obtain⟨e1,e2⟩:=ek (pages:=pages) (l:=l) (i:=l.length);have hg:∀j,j<l.length→iv pages (bo pages l j):=fun j hj=>(dK (l2 j hj)).good
 have hold:=laid_holds h0.2 h1;refine⟨h0,e1,e2,hg,hF.k,fun j hj hs=>(hold j hj).1 hs,fun j hj hs x hx=>?_,hF.b⟩;have g:=hg j hj;have:=(hold j hj).2 hs (x-(bo pages l j).page.toNat) (by have:=hx.1;have:=hx.2;have:=g.p0;show ((x-(bo pages l j).page.toNat:Nat):Int)<(bo pages l j).count;omega);rw[show (aM pages (nth l j)).1.page.toNat+(x-(bo pages l j).page.toNat)=x by have:=hx.1;have:=g.p0;show (bo pages l j).page.toNat+(x-(bo pages l j).page.toNat)=x;omega]at this;exact this
theorem vm{pages:Int}{l:List (Int×Int)}{ks ms}(h:y6 pages l ks ms){j x:Nat}(hj:j<l.length)(hc:covers (bo pages l j) x) :
    ((bo pages l j).small=true∧(bo pages l j).page=x∧nth ks x=(bo pages l j).cls∧0≤nth ks x∧nth ks x<6∧(nth ms x).testBit (bo pages l j).cell.toNat=true∧0≤(bo pages l j).cell)∨((bo pages l j).small=false∧(nth ks x=7∨nth ks x=6)):=by
 have g:=h.good j hj
 cases hs:(bo pages l j).small with
 | true=>
  obtain⟨s1,s2,s3,s4,s5⟩:=g.s1 hs;obtain⟨a1,a2⟩:=h.sm j hj hs;have e:(bo pages l j).page=x:=by have:=hc.1;have:=hc.2;omega
  have e2:(bo pages l j).page.toNat=x:=by omega
  rw[e2]at a1 a2;exact .inl ⟨rfl,e,a1,by omega,by omega,a2,s4⟩
 | false=>exact .inr ⟨rfl,h.lg j hj hs x hc⟩
theorem vM{pages:Int}{l:List (Int×Int)}{ks ms}(h:y6 pages l ks ms){j x:Nat}(hj:j<l.length)(hk:nth ks x = -1):¬covers (bo pages l j) x:=fun hc=>by
 rcases vm h hj hc with q|q<;>omega
theorem qI{a b:nB}(ha:1≤a.count)(hb:1≤b.count)(h0:0≤a.page)(h1:0≤b.page)(h:∀x:Nat,covers a x→¬covers b x):a.page+a.count≤b.page∨b.page+b.count≤a.page:=by
 apply Classical.byContradiction;intro hc;by_cases q:a.page≤b.page
 ·exact h b.page.toNat ⟨by omega,by omega⟩ ⟨by omega,by omega⟩
 ·exact h a.page.toNat ⟨by omega,by omega⟩ ⟨by omega,by omega⟩
theorem oN:∀c:Nat,c<6→∀k:Nat,k<14→(k:Int)<(cellsS c).1→cy c (cellS c k).1=((k:Int),true)∧4≤(cellS c k).1∧(cellS c k).1<32:=by decide +kernel
theorem gY:∀c:Nat,c<6→(cellsS c).1≤14∧1≤(cellsS c).1:=by decide +kernel
theorem yZ:∀c:Nat,c<6→cy c 4=(0,true):=by decide +kernel
theorem sR{pages n a p:Int}{o:Int}{k:Int}(hc:(bB n).2=true)(ha:a=p*32+o)(hp:0≤p)(hpp:p<pages)(ho:0≤o∧o<32)(hw:cy (bB n).1 o=(k,true)) :
    aM pages (a,n)=(⟨p,1,true,(bB n).1,k⟩,true):=by
 have e1:a.tdiv 32=p:=by rw[Int.tdiv_eq_ediv_of_nonneg (by omega)];omega
 have e2:a.tmod 32=o:=by rw[Int.tmod_eq_emod_of_nonneg (by omega)];omega
 unfold aM;simp only;rw[if_neg (by omega),if_pos hc,e1,e2,hw];simp[hpp]
theorem yR{pages n a p:Int}(hc:(bB n).2=false)(he:(bw n).2=0)(ha:a=p*32)(hp:0≤p)(hpp:p+(bw n).1≤pages)(h1:1≤(bw n).1) :
    aM pages (a,n)=(⟨p,(bw n).1,false,(bB n).1,0⟩,true):=by
 have e1:a.tdiv 32=p:=by rw[Int.tdiv_eq_ediv_of_nonneg (by omega)];omega
 have e2:a.tmod 32=0:=by rw[Int.tmod_eq_emod_of_nonneg (by omega)];omega
 unfold aM;simp only;rw[if_neg (by omega),if_neg (by simp[hc]),e1,e2];simp[he];omega
theorem wv{n:Int}(h:(bw n).2=0):1≤(bw n).1:=by
 unfold bw at h ⊢;split
 ·rename_i q;rw[if_pos q]at h;cases h
 ·rename_i q
  show 1≤(n+256-1).tdiv 256
  rw[Int.tdiv_eq_ediv_of_nonneg (by omega)];omega
theorem nJ{n:Int}(h:(bB n).2=true):∃c:Nat,c<6∧(bB n).1=c:=by
 obtain⟨_,k,h1,h2,_⟩:=lG h;exact⟨k,h1,h2⟩
theorem find_range{n p:Nat}{f:Nat→Bool}(h:(List.range n).find? f=some p):p<n∧f p=true∧∀j,j<p→f j=false:=by
 rw[List.find?_eq_some_iff_getElem]at h;obtain⟨h1,i,hi,h2,h3⟩:=h;simp at hi h2;subst h2;exact⟨hi,h1,fun j hj=>by have:=h3 j hj;simpa using this⟩
theorem yy{pages n a:Int}{l:List (Int×Int)}(h:db pages l n=some a):(aM pages (a,n)).2=true∧∀j,j<l.length→gI (bo pages l j) (aM pages (a,n)).1:=by
 unfold db at h
 cases hl:cR pages l with
 | none=>rw[hl]at h;cases h
 | some st=>
  rw[hl]at h;simp only at h;have L:=tN hl;split at h
  ·rename_i hc;obtain⟨c,hc6,hcn⟩:=nJ hc;obtain⟨m1,m2⟩:=gY c hc6;unfold jx at h;rw[hcn]at h
   cases hs:ov st.1 st.2 c with
   | some p=>
    rw[hs]at h;simp only at h;obtain⟨p1,p2,_⟩:=find_range hs;obtain⟨k,hk⟩:=Option.isSome_iff_exists.1 p2;rw[hk]at h;simp only[Option.getD_some,Option.some.injEq]at h;unfold jD at hk;split at hk
    ·rename_i hof;obtain⟨k1,k2,_⟩:=find_range hk;obtain⟨w1,w2,w3⟩:=oN c hc6 k (by omega) (by omega);have hpl:=L.len;have e:=sR (pages:=pages) (a:=a) (p:=p) (k:=k) hc h.symm (by omega) (by omega) ⟨by omega,w3⟩ (by rw[hcn];exact w1);rw[e];refine⟨rfl,fun j hj=>?_⟩;have g:=L.good j hj;by_cases hcv:covers (bo pages l j) p
     ·rcases vm L hj hcv with ⟨q1,q2,q3,q4,q5,q6,q7⟩|⟨_,q⟩
      ·refine .inl ⟨q1,rfl,by simp only;rw[hcn];omega,fun e2=>?_⟩;simp only at e2;rw[e2,Int.toNat_natCast]at q6;simp[q6]at k2
      ·omega
     ·unfold covers at hcv;simp only[gI];right;omega
    ·cases hk
   | none=>
    rw[hs]at h;simp only at h;obtain⟨p,hp,rfl⟩:=Option.map_eq_some_iff.1 h;obtain⟨p1,p2,_⟩:=find_range hp;have hpl:=L.len;have e:=sR (pages:=pages) (a:=(p:Int)*32+4) (p:=p) (k:=0) hc rfl (by omega) (by omega) ⟨by omega,by omega⟩ (by rw[hcn];exact yZ c hc6);rw[e];refine⟨rfl,fun j hj=>?_⟩;have hcv:=vM L hj (by simpa using p2:nth st.1 p = -1);unfold covers at hcv;have g:=L.good j hj;have:=g.c1;simp only[gI];right;omega
  ·rename_i hc;split at h
   ·cases h
   ·rename_i he;have he:(bw n).2=0:=by simpa using he
    have h1:=wv he;obtain⟨g,hg,rfl⟩:=Option.map_eq_some_iff.1 h;obtain⟨b1,b2⟩:=xe h1 hg;obtain⟨r0,r1,r2,r3⟩:=(uW (ks:=st.1) st.1.length).ok g b1;have hpl:=L.len;have hp0:=L.p0;have e:=yR (pages:=pages) (a:=g.1*32) (p:=g.1) (by simpa using hc) he rfl r0 (by omega) h1;rw[e];refine⟨rfl,fun j hj=>.inr ?_⟩;have gd:=L.good j hj;refine qI gd.c1 h1 gd.p0 r0 fun x c1 c2=>vM L hj (r3 x c2.1 ?_) c1
    have:=c2.2;simp only at this;omega
open Go.aN
def mH(s:bF)(two:Bool)(n:Int):Option Int:=if two=true then db s.base (bW s.slots) n else qj s n
theorem oW{to:Int}:∀ {l:List (Int×Int)} {a:Int},(dr to a l).length≤l.length+1
 | [],a=>by simp only[dr];have:=vN (a:=a) (b:=to);simpa using this
 | p::l,a=>by
  have:=vN (a:=a) (b:=p.1);have:=oW (to:=to) (l:=l) (a:=p.1+p.2);simp only[dr,List.length_append,List.length_cons];omega
theorem ic{ks:List Int}:∀ {i:Nat},(b8 ks i).1.length≤i
 | 0=>by simp[b8]
 | i+1=>by
  have:=ic (ks:=ks) (i:=i);unfold b8;split
  ·split
   ·simp only[lF,List.length_set];omega
   ·simp only[List.length_append,List.length_singleton];omega
  ·simp only;omega
theorem AY{ks:List Int}{i:Nat}(h:(b8 ks i).2=true):∃m,(b8 ks i).1.length=m+1∧1≤(nth (b8 ks i).1 m).2∧(nth (b8 ks i).1 m).2≤i:=by
 have I:=uW (ks:=ks) i;obtain⟨l,g,e,_⟩:=I.op h;have hg:=I.ok g (by rw[e];simp);refine⟨l.length,by rw[e];simp,?_⟩;have:nth (b8 ks i).1 l.length=g:=by rw[e,bC (by simp)];simp
 rw[this];have:=hg.h0;have:=hg.h1;have:=hg.h2;omega
theorem tp{n:Int}:∀(l:List (Int×Int)) (o:Option (Int×Int)) (b),l.foldl (aU n) o=some b→b∈l∨o=some b
 | [],o,b,h=>.inr h
 | p::l,o,b,h=>by
  rcases tp l _ b h with h|h
  ·exact .inl (List.mem_cons_of_mem _ h)
  ·unfold aU at h;split at h
   ·cases h;exact .inl (by simp)
   ·exact .inr h
theorem zd{ks:List Int}{n:Int}:0≤((gJ ks n).getD (0,0)).1∧((gJ ks n).getD (0,0)).1≤ks.length:=by
 cases h:gJ ks n with
 | none=>simp
 | some b=>
  rcases tp _ _ _ h with q|q
  ·have r:=(uW (ks:=ks) ks.length).ok b q;have:=r.h0;have:=r.h1;have:=r.h2;simp only[Option.getD_some];omega
  ·cases q
theorem uA{n p:Nat}{f:Nat→Bool}(hp:p<n)(h:f p=true)(hj:∀j,j<p→f j=false):(List.range n).find? f=some p:=by
 rw[List.find?_eq_some_iff_getElem];exact⟨h,p,by simpa using hp,by simp,fun j hj2=>by simp[hj j hj2]⟩
theorem uB{n:Nat}{f:Nat→Bool}(hj:∀j,j<n→f j=false):(List.range n).find? f=none:=by
 rw[List.find?_eq_none];intro x hx;simp at hx;simp[hj x hx]
theorem r9{ks:List Int}{ms:List Nat}{of:Int}{m p k:Nat}(h1:nth ks p=of)(hk:k<m)(hb:∀j,j<k→(nth ms p).testBit j=true)(h:(nth ms p).testBit k=false):jD ks ms of m p=some k:=by
 unfold jD;rw[if_pos h1];exact uA hk (by simp[h]) fun j hj=>by simp[hb j hj]
theorem r8{ks:List Int}{ms:List Nat}{of:Int}{m p:Nat}(h:nth ks p=of→∀j,j<m→(nth ms p).testBit j=true):(jD ks ms of m p).isSome=false:=by
 unfold jD;split
 ·rename_i e;rw[uB fun j hj=>by simp[h e j hj]];rfl
 ·rfl
theorem sO{ks:List Int}{ms:List Nat}{of:Int}{m p k:Nat}(hm:(cellsS of).1.toNat=m)(hp:p<ks.length)(hj:∀q,q<p→(jD ks ms of m q).isSome=false)(h:jD ks ms of m p=some k):ov ks ms of=some p:=by
 unfold ov;rw[hm];exact uA hp (by rw[h];rfl) hj
theorem sK{ks:List Int}{ms:List Nat}{of:Int}{m:Nat}(hm:(cellsS of).1.toNat=m)(hj:∀q,q<ks.length→(jD ks ms of m q).isSome=false):ov ks ms of=none:=by
 unfold ov;rw[hm];exact uB hj
theorem rm{ks:List Int}{p:Nat}(hp:p<ks.length)(h:nth ks p = -1)(hj:∀q,q<p→nth ks q ≠ -1):vL ks=some p:=uA hp (by simp[h]) fun j hq=>by simp[hj j hq]
theorem rk{ks:List Int}(hj:∀q,q<ks.length→nth ks q ≠ -1):vL ks=none:=uB fun j hq=>by simp[hj j hq]
theorem NN{m k:Nat}(h:k<64):AZ .shr .u64 (m:Int) (k:Int)=some (.int .u64 ((m >>> k:Nat):Int)):=by
 have e:min (k:Int).toNat IntKind.u64.bits=k:=by show min k 64=k;omega
 unfold AZ;rw[if_neg (by omega)];simp only[e];have e2:((2:Int)^k)=((2^k:Nat):Int):=by push_cast;rfl
 rw[e2,Int.fdiv_eq_ediv_of_nonneg _ (Int.natCast_nonneg _),Nat.shiftRight_eq_div_pow];rfl
theorem LY{m k z:Nat}(hz:z=m >>> k):m.testBit k=(z%2 != 0):=by
 subst hz;unfold Nat.testBit;rw[Nat.one_and_eq_mod_two]
@[simp high] theorem xi{α:Type}{k:Nat}{f:α→D}{l:List α}:(ai k f l).cells=[ai k f l]:=rfl
@[simp high] theorem Ii{α:Type}{k k':Nat}{f:α→D}{l:List α}{m:M}{xs:List D}:br [ai k f l] [D.row m k' xs]=[D.row m k' xs]:=rfl
@[simp high] theorem Ij{α:Type}{k:Nat}{f:α→D}{l:List α}{d:D}:bJ (ai k f l) 0 [d]=d:=rfl
theorem tX{l:List UInt8}{m:M}{k':Nat}{xs:List D}:bJ (oB l) 0 (br [oB l] [D.row m k' xs])=D.row m k' xs:=rfl
theorem vJ{l:List (List UInt8)}{m:Nat}{d:List UInt8}:(l.map oB).set m (D.row M.own 1 (d.map vB))=(l.set m d).map oB:=List.map_set.symm
@[simp] theorem Hw:D.cF∘aE=aE:=funext eE
@[simp] theorem Fq:D.cF∘aA=aA:=funext yE
@[simp] theorem Fp:D.cF∘ak=ak:=funext yD
@[simp] theorem Hv:D.cF∘a6=a6:=funext AW
@[simp] theorem Lj:D.cF∘vI=vI:=funext fun _=>gp _
@[simp] theorem Li:D.cF∘vB=vB:=funext fun _=>gp _
@[simp] theorem Lh:D.cF∘rB=rB:=funext D9
@[simp] theorem Lg:D.cF∘oB=rB:=funext fun x=>by simp
open Go.aN
def cH(s:bF)(two:Bool)(n:Int):Option Int:=if (bL s&&cV n)=true then mH s two n else none
theorem dY{n:Int}:cV n=true↔1≤n∧n≤2048:=by simp[cV]
theorem C3{R:Int×Int→Prop}{l:List Slot}:(∀j,j<(bW l).length→R (nth (bW l) j))↔∀i,i<l.length→eI (nth l i)=true→R ((nth l i).at_,(nth l i).len):=by
 rw[uM (R:=R),oC]
theorem pk{s:bF}{two:Bool}{n a gen:Int}(h:cH s two n=some a):lf s ⟨gen,true,two,a,n⟩∧∀i,i<s.slots.length→(nth s.slots i).live=true→oP s.base (nth s.slots i) ⟨gen,true,two,a,n⟩:=by
 unfold cH mH at h;split at h
 ·rename_i hr;simp only[Bool.and_eq_true]at hr;obtain⟨h1,h2⟩:=hr;rw[dY]at h2
  cases two with
  | true=>
   rw[if_pos rfl]at h;obtain⟨p1,p2⟩:=yy h;have p3:=(C3 (R:=fun o=>gI (aM s.base o).1 (aM s.base (a,n)).1)).1 p2;refine⟨by unfold lf;rw[if_pos rfl];exact p1,fun i hi hl=>⟨fun t _=>p3 i hi (by simp[eI,hl,t]),fun _ t=>by cases t⟩⟩
  | false=>
   rw[if_neg (by simp)]at h;obtain⟨p1,p2,p3,p4⟩:=Cz h1 h2 h;refine⟨by unfold lf;rw[if_neg (by simp)];exact⟨p1,p2,p3⟩,fun i hi hl=>⟨fun _ t=>by(cases t),fun t _=>(p4 i hi (by simp[dV,hl,t])).symm⟩⟩
 ·cases h
def oA(s:bF)(n:Int)(two:Bool):Option (Bool×Int):=(cH s two n).map fun a=>(two,a)
def b9(s:bF)(n:Int):Option (Bool×Int):=if s.mode=1 then oA s n false else if s.mode=2 then oA s n true else if s.mode=3 then (oA s n true).or (oA s n false)else if s.mode=4 then (oA s n false).or (oA s n true)else none
def zy(mode:Int)(two:Bool):Prop:=(mode=1→two=false)∧(mode=2→two=true)
theorem i9{s:bF}{n:Int}{b two:Bool}{a:Int}(h:oA s n b=some (two,a)):b=two∧cH s two n=some a:=by
 unfold oA at h;obtain⟨x,h1,h2⟩:=Option.map_eq_some_iff.1 h;cases h2;exact⟨rfl,h1⟩
theorem mW{s:bF}{n a:Int}{two:Bool}(h:b9 s n=some (two,a)):cH s two n=some a∧zy s.mode two:=by
 unfold b9 at h;unfold zy;split at h
 ·obtain⟨rfl,q⟩:=i9 h;exact⟨q,fun _=>rfl,fun e=>by omega⟩
 ·split at h
  ·obtain⟨rfl,q⟩:=i9 h;exact⟨q,fun e=>by omega,fun _=>rfl⟩
  ·split at h
   ·refine⟨?_,fun e=>by omega,fun e=>by omega⟩;rcases Option.or_eq_some_iff.1 h with h|h
    ·exact(i9 h).2
    ·exact(i9 h.2).2
   ·split at h
    ·refine⟨?_,fun e=>by omega,fun e=>by omega⟩;rcases Option.or_eq_some_iff.1 h with h|h
     ·exact(i9 h).2
     ·exact(i9 h.2).2
    ·cases h
def putAt(s:bF)(k:Nat)(y:Slot)(d:List UInt8):bF := {s with slots:=s.slots.set k y,data:=s.data.set k d}
theorem pq{s:bF}:dH s=true↔((s.slots.length:Int)=s.sh.slots∧(s.roots.length:Int)=s.sh.roots∧s.data.length=s.slots.length)∧(∀i,i<s.slots.length→dv (nth s.slots i)=true)∧eO s.slots.length=true∧ck s.roots=true∧∀i,i<s.slots.length→((nth s.data i).length:Int)=(nth s.slots i).len:=by
 simp only[dH,df,j7,Bool.and_eq_true,decide_eq_true_eq,List.all_eq_true,List.mem_range];constructor
 ·rintro⟨h1,⟨h2,h3⟩,h4,h5⟩;exact⟨h1,h2,h3,h4,h5⟩
 ·rintro⟨h1,h2,h3,h4,h5⟩;exact⟨h1,⟨h2,h3⟩,h4,h5⟩
theorem set_right{s:bF}(h:bL s=true){k:Nat}(hk:k<s.slots.length){y:Slot}{d:List UInt8}(hy:dv y=true)(hd:(d.length:Int)=y.len)
    (hl:y.live=true→lf s y∧Cn s.mode y∧∀i,i<s.slots.length→i≠k→(nth s.slots i).live=true→oP s.base (nth s.slots i) y):bL (putAt s k y d)=true:=by
 obtain⟨h1,h2,h3,h4⟩:=jr.1 h;obtain⟨r1,r2,r3,r4,r5⟩:=pq.1 h2;have hkd:k<s.data.length:=by omega
 refine jr.2 ⟨h1,pq.2 ⟨⟨by simpa [putAt]using r1.1,r1.2.1,by simpa [putAt]using r1.2.2⟩,fun i hi=>?_,by simpa [putAt]using r3,r4,fun i hi=>?_⟩,fun i hi hv=>?_,fun i j hij hj hv1 hv2=>?_⟩
 ·simp only[putAt,List.length_set]at hi
  show dv (nth (s.slots.set k y) i)=true
  rw[bT hk];split
  ·exact hy
  ·exact r2 i hi
 ·simp only[putAt,List.length_set]at hi
  show ((nth (s.data.set k d) i).length:Int)=(nth (s.slots.set k y) i).len
  rw[bT hk,bT hkd];split
  ·exact hd
  ·exact r5 i hi
 ·simp only[putAt,List.length_set]at hi;have hv:(nth (s.slots.set k y) i).live=true:=hv
  show lf s (nth (s.slots.set k y) i)∧Cn s.mode (nth (s.slots.set k y) i)
  rw[bT hk]at hv ⊢;split
  ·rename_i e;rw[if_pos e]at hv;exact⟨(hl hv).1,(hl hv).2.1⟩
  ·rename_i e;rw[if_neg e]at hv;exact h3 i hi hv
 ·simp only[putAt,List.length_set]at hj;have hv1:(nth (s.slots.set k y) i).live=true:=hv1;have hv2:(nth (s.slots.set k y) j).live=true:=hv2
  show oP s.base (nth (s.slots.set k y) i) (nth (s.slots.set k y) j)
  rw[bT hk]at hv1 hv2 ⊢;rw[bT hk];by_cases e1:k=i
  ·rw[if_pos e1]at hv1 ⊢;rw[if_neg (by omega)]at hv2 ⊢;exact vl ((hl hv1).2.2 j hj (by omega) hv2)
  ·rw[if_neg e1]at hv1 ⊢;by_cases e2:k=j
   ·rw[if_pos e2]at hv2 ⊢;exact(hl hv2).2.2 i (by omega) (by omega) hv1
   ·rw[if_neg e2]at hv2 ⊢;exact h4 i j hij hj hv1 hv2
theorem DK{s:bF}(h:bL s=true){x:Slot}(hf:lf s x)(hx:1≤x.len∧x.len≤2048):0≤x.at_∧x.at_≤2048:=by
 have hb:=gP (ij h);unfold lf at hf;split at hf
 ·have W:=yS (dK hf);simp only at W;have:0≤(x.len+7).tdiv 8:=Int.tdiv_nonneg (by omega) (by omega);omega
 ·have:=tT hx;omega
def eh(gen n:Int)(two:Bool)(a:Int):Slot:=⟨gen,true,two,a,n⟩
def d8(n:Int):List UInt8:=List.replicate n.toNat 0
def dF(s:bF)(n:Int):bF×(Int×Int)×Int:=if (bL s&&cV n)=true then (match dh s.slots with
  | none => (bn, (0, 0), 9)
  | some k => match b9 s n with
    | none => (bn, (0, 0), 10)
    | some p => (putAt s k (eh (nth s.slots k).gen n p.1 p.2) (d8 n), ((k : Int), (nth s.slots k).gen), 0)) else (bn, (0, 0), 1)
theorem AK{x:Slot}:fj x=true↔x.live=false∧x.gen≠65535:=by simp[fj]
theorem wM{s:bF}(h:bL s=true){i:Nat}(hi:i<s.slots.length):0≤(nth s.slots i).gen∧(nth s.slots i).gen≤65535:=by
 have:=gE (iu (dw h)) i hi;unfold dv at this;split at this
 ·cases this
 ·omega
theorem rQ{s:bF}{n a:Int}{two:Bool}{k:Nat}(h:bL s=true)(hn:cV n=true)(hk:k<s.slots.length)(hf:lf s (eh (nth s.slots k).gen n two a)):dv (eh (nth s.slots k).gen n two a)=true:=by
 have hg:=wM h hk;have hn:=dY.1 hn;have ha:=DK h hf hn;simp only[eh]at ha
 show (if (nth s.slots k).gen<0∨65535<(nth s.slots k).gen then false else if true=false then (two==false&&a==0&&n==0)else decide (0≤a∧a≤2048∧1≤n∧n≤2048))=true
 rw[if_neg (by omega),if_neg (by simp)];simp;omega
theorem AR{s:bF}{n:Int}{k:Nat}{two:Bool}{a:Int}(h:bL s=true)(hn:cV n=true)(hk:k<s.slots.length)(hr:cH s two n=some a)(hm:zy s.mode two):bL (putAt s k (eh (nth s.slots k).gen n two a) (d8 n))=true:=by
 obtain⟨f1,f2⟩:=pk (gen:=(nth s.slots k).gen) hr;have hn':=dY.1 hn;exact set_right h hk (rQ h hn hk f1) (by simp[d8,eh];omega) fun _=>⟨f1,hm,fun i hi _ hl=>f2 i hi hl⟩
theorem Ao{x:Slot}(h:dv x=true):dv (iN x)=true:=by
 unfold dv at h;split at h
 ·cases h
 ·unfold dv iN;simp only;rw[if_neg (by split<;>omega)];simp
theorem yW{s:bF}{k:Nat}(h:bL s=true)(hk:k<s.slots.length):bL (jR s k)=true:=
 set_right (y:=iN (nth s.slots k)) (d:=[]) h hk (Ao (gE (iu (dw h)) k hk)) (by simp[iN]) fun e=>by cases e
def nq(d:List UInt8)(n:Int):List UInt8:=d.take n.toNat++List.replicate (n.toNat-d.length) 0
theorem ou{d:List UInt8}{n:Int}(h:0≤n):((nq d n).length:Int)=n:=by simp[nq];omega
def uJ(x:Slot)(n:Int):Slot := {x with len:=n}
def eb(s:bF)(k:Nat)(n:Int):bF:=putAt s k (uJ (nth s.slots k) n) (nq (nth s.data k) n)
def gq(s:bF)(k n:Int):bF×Int:=if (fI s k&&cV n)=true then (if bL (eb s k.toNat n)=true then (eb s k.toNat n,0)else match b9 s n with
  | none => (bn, 10)
  | some p => (j6 (eb s k.toNat n) k.toNat p.1 p.2, 0)) else (bn, 1)
theorem nh{s:bF}{k:Nat}{n a:Int}{two:Bool}(hk:k<s.slots.length)(hl:(nth s.slots k).live=true):j6 (eb s k n) k two a=putAt s k (eh (nth s.slots k).gen n two a) (nq (nth s.data k) n):=by
 unfold j6 eb putAt;simp only[List.set_set];rw[bT hk,if_pos rfl];simp only[LX,uJ,eh,hl]
theorem yL{s:bF}{n:Int}{k:Nat}{two:Bool}{a:Int}(h:bL s=true)(hn:cV n=true)(hk:k<s.slots.length)(hl:(nth s.slots k).live=true)(hr:cH s two n=some a)(hm:zy s.mode two):bL (j6 (eb s k n) k two a)=true:=by
 rw[nh hk hl];obtain⟨f1,f2⟩:=pk (gen:=(nth s.slots k).gen) hr;have hn':=dY.1 hn;exact set_right h hk (rQ h hn hk f1) (by rw[ou (by omega)];rfl) fun _=>⟨f1,hm,fun i hi _ hl=>f2 i hi hl⟩
theorem km{s:bF}{m:Nat}{n:Int}(h:s.Ok)(hn:1≤n∧n≤2048):(eb s m n).Ok:=by
 refine⟨by simpa [eb,putAt]using h.h1,h.h2,by simpa [eb,putAt]using h.h3,fun i hi=>?_,h.h5⟩;simp only[eb,putAt,List.length_set]at hi ⊢;by_cases hm:m<s.data.length
 ·rw[bT hm];split
  ·have:=ou (d:=nth s.data m) (n:=n) (by omega);omega
  ·exact h.h4 i hi
 ·rw[List.set_eq_of_length_le (by omega)];exact h.h4 i hi
theorem vK{l:List Slot}{m:Nat}{n:Int}:(l.map aA).set m (D.agg [vI (nth l m).gen,vT (nth l m).live,vT (nth l m).two,vI (nth l m).at_,vI n])=(l.set m (uJ (nth l m) n)).map aA:=(List.map_set (f:=aA) (a:=uJ (nth l m) n)).symm
theorem rL{l:List Slot}{k:Nat}{y:Slot}:∀ {i:Nat},i≤k→eK (l.set k y) i=eK l i
 | 0,_=>rfl
 | i+1,h=>by
  rw[j8,j8,rL (by omega)];congr 2;simp only[nth,List.getD_eq_getElem?_getD];rw[List.getElem?_set_ne (by omega)]
theorem rM{l:List Slot}{k:Nat}{y:Slot}(hk:k<l.length):∀ {i:Nat},k<i→(eK (l.set k y) i:Int)=eK l i+((if y.live=true then 1 else 0)-(if (nth l k).live=true then 1 else 0))
 | 0,h=>by omega
 | i+1,h=>by
  rw[j8,j8,bT hk];by_cases e:k=i
  ·subst e;rw[rL (Nat.le_refl _),if_pos rfl]
   push_cast
   split<;>split<;>omega
  ·rw[if_neg e];have:=rM (y:=y) hk (i:=i) (by omega)
   push_cast
   omega
def gN(ok:Bool→Bool)(two:Bool):Option Bool:=if ok two=true then none else some two
def dD(mode:Int)(ok:Bool→Bool):Option Bool:=if mode=1 then gN ok false else if mode=2 then gN ok true else if mode=3 then (gN ok true).or (gN ok false)else if mode=4 then (gN ok false).or (gN ok true)else none
theorem vE{s:bF}{n:Int}:b9 s n=(dD s.mode (fun two=>(cH s two n).isNone)).map (fun two=>(two,(cH s two n).getD 0)):=by
 have key:∀b,oA s n b=(gN (fun two=>(cH s two n).isNone) b).map (fun two=>(two,(cH s two n).getD 0)):=fun b=>by
  unfold oA gN;cases h:cH s b n<;>simp[h]
 unfold b9 dD;split
 ·exact key _
 ·split
  ·exact key _
  ·split
   ·rw[Option.map_or,key,key]
   ·split
    ·rw[Option.map_or,key,key]
    ·rfl
theorem wF{s:bF}{n a:Int}{two:Bool}{k:Nat}(hR:bL s=true)(hn:cV n=true)(hk:dh s.slots=some k)(hp:b9 s n=some (two,a)) :
    c0 s.slots ⟨0,false,two,a,n⟩=(s.slots.set k (eh (nth s.slots k).gen n two a),((k:Int),(nth s.slots k).gen),0):=by
 obtain⟨h1,_⟩:=mW hp;obtain⟨hkl,_,_⟩:=fv hk;have hf:=(pk (gen:=(nth s.slots k).gen) h1).1;unfold c0;rw[if_pos (iu (dw hR)),hk];simp only;rw[show fV ⟨0,false,two,a,n⟩ (nth s.slots k).gen=eh (nth s.slots k).gen n two a from rfl,if_pos (rQ hR hn hkl hf)]
open Go.aN
/- The document's answers, in plain Lean: layouts. -/
theorem sS{pages:Int}{l:List (Int×Int)}{n:Nat}:∀ {i:Nat},i≤n→ei pages (l.take n) i=ei pages l i
 | 0,_=>rfl
 | i+1,h=>by simp only[ei];rw[sS (i:=i) (by omega),eT (by omega)]
theorem Cx{pages:Int}{l:List (Int×Int)}{n i:Nat}(h:i<n):lu pages (l.take n) i=lu pages l i:=by
 simp only[lu];rw[sS (by omega),eT h]
theorem tO{pages:Int}{l:List (Int×Int)}{i:Nat}(h0:0≤pages∧pages≤64)(hi:i≤l.length)(h:∀j,j<i→lu pages l j=true):cR pages (l.take i)=some (ei pages l i):=by
 have hl:(l.take i).length=i:=by simp;omega
 unfold cR;rw[hl,sS (Nat.le_refl _),if_pos];simp only[Bool.and_eq_true,decide_eq_true_eq,List.all_eq_true,List.mem_range];exact⟨h0,fun j hj=>by rw[Cx hj];exact h j hj⟩
theorem ke{c w:Int}:(c+1)*w=c*w+w:=by rw[Int.add_mul,Int.one_mul]
theorem qR{pages:Int}{l:List (Int×Int)}{ks ms}(L:y6 pages l ks ms)(hs:∀j,j<l.length→(aM pages (nth l j)).2=true){a:Int}{p c k:Nat}(hk:nth ks p=c)(hc:c<6)(hp:p<64)(ha:a=32*(p:Int)+4+k*nth aI c)(hq:4+((k:Int)+1)*nth aI c≤32) :
    (nth ms p).testBit k=true↔∃j,j<l.length∧(nth l j).1=a:=by
 have hw:=fW hc;obtain⟨w,Dg⟩:∃w,w=nth aI c:=⟨_,rfl⟩;rw[←Dg]at hw ha hq;have x0:0≤(k:Int)*w:=Int.mul_nonneg (by omega) (by omega);have x1:=ke (c:=(k:Int)) (w:=w);constructor
 ·intro h;obtain⟨j,hj,j1,j2,j3⟩:=L.bit p k hp h;obtain⟨c',hc',e1,e2,_,_⟩:=(dK (hs j hj)).sm j1;have q:=(L.sm j hj j1).1;have e3:(bo pages l j).page.toNat=p:=by omega
  rw[e3,hk]at q;have e4:c'=c:=by have:(bo pages l j).cls=c':=e1;omega
  subst e4;refine⟨j,hj,?_⟩;rw[e2,ha,Dg];rw[show (aM pages (nth l j)).1.page=(p:Int) from j2,show (aM pages (nth l j)).1.cell=(k:Int) from j3]
 ·rintro⟨j,hj,he⟩;have W:=dK (hs j hj);have g:=W.good
  cases hsm:(aM pages (nth l j)).1.small with
  | true=>
   obtain⟨c',hc',e1,e2,_,e3⟩:=W.sm hsm;obtain⟨q1,q2⟩:=L.sm j hj hsm;obtain⟨_,_,_,g4,_⟩:=g.s1 hsm;have hw':=fW hc';have y0:0≤(aM pages (nth l j)).1.cell*nth aI c':=Int.mul_nonneg g4 (by omega);rw[ke]at e3;have hpg:(aM pages (nth l j)).1.page=p:=by omega
   have hpt:(bo pages l j).page.toNat=p:=by show (aM pages (nth l j)).1.page.toNat=p;omega
   rw[hpt]at q1 q2;have e4:c'=c:=by have:(bo pages l j).cls=c':=e1;omega
   subst e4;have e5:(aM pages (nth l j)).1.cell*w=(k:Int)*w:=by rw[←Dg]at e2;omega
   have e6:=Int.eq_of_mul_eq_mul_right (by omega) e5;have e7:(bo pages l j).cell.toNat=k:=by show (aM pages (nth l j)).1.cell.toNat=k;omega
   rwa [e7]at q2
  | false=>
   have e2:=(W.lg hsm).1;rw[he,ha]at e2;omega
theorem pv{pages:Int}{o:Int×Int}(h:(aM pages o).2=true)(hsm:(aM pages o).1.small=true):∃p c k:Nat,(aM pages o).1.page=p∧(aM pages o).1.cls=c∧(aM pages o).1.cell=k∧c<6∧(p:Int)<pages∧k<64∧o.1=32*(p:Int)+4+k*nth aI c∧4+((k:Int)+1)*nth aI c≤32:=by
 have W:=dK h;have g:=W.good;obtain⟨c,hc,e1,e2,_,e3⟩:=W.sm hsm;obtain⟨s1,_,_,s4,s5⟩:=g.s1 hsm;have g0:=g.p0;have g1:=g.p1;have e4:((aM pages o).1.page.toNat:Int)=(aM pages o).1.page:=by omega
 have e5:((aM pages o).1.cell.toNat:Int)=(aM pages o).1.cell:=by omega
 refine⟨(aM pages o).1.page.toNat,c,(aM pages o).1.cell.toNat,by omega,e1,by omega,hc,by omega,by omega,by rw[e4,e5];exact e2,by rw[e5];exact e3⟩
section
variable {pages:Int} {l:List (Int×Int)} {i:Nat}
theorem uN(hs:(aM pages (nth l i)).2=true):lA pages (ei pages l i) (nth l i)=gm (ei pages l i).1 (ei pages l i).2 (bo pages l i).page.toNat (bo pages l i).count.toNat (bo pages l i).small (bo pages l i).cls (bo pages l i).cell.toNat:=by
 unfold lA;rw[if_pos hs]
theorem D2(hs:(aM pages (nth l i)).2=false):lu pages l i=false:=by
 unfold lu lA;rw[if_neg (by simp[hs])]
theorem wq(h:∀j,j<i→lu pages l j=true):∀j,j<i→(aM pages (nth l j)).2=true:=fun j hj=>iB (h j hj)
theorem yO(hs:(aM pages (nth l i)).2=true)(hsm:(bo pages l i).small=true)(h1:nth (ei pages l i).1 (bo pages l i).page.toNat ≠ -1)(h2:nth (ei pages l i).1 (bo pages l i).page.toNat≠(bo pages l i).cls):lu pages l i=false:=by
 unfold lu;rw[uN hs,gm,if_pos hsm,if_neg (by simp[h2]),if_neg h1]
theorem A7(h0:0≤pages∧pages≤64)(hi:i<l.length)(h:∀j,j<i→lu pages l j=true)(hs:(aM pages (nth l i)).2=true)(hsm:(bo pages l i).small=true){j:Nat}(hj:j<i)(hat:(nth l j).1=(nth l i).1):lu pages l i=false:=by
 have hl:(l.take i).length=i:=by simp;omega
 have L:=tN (tO h0 (by omega) h);obtain⟨p,c,k,e1,e2,e3,hc,hp,hk,ha,hq⟩:=pv hs hsm;have hsp:∀j,j<(l.take i).length→(aM pages (nth (l.take i) j)).2=true:=fun j hj=>by rw[eT (by omega)];exact wq h j (by omega)
 have hw:=fW hc;have x0:0≤(k:Int)*nth aI c:=Int.mul_nonneg (by omega) (by omega);rw[ke]at hq;have hpt:(bo pages l i).page.toNat=p:=by show (aM pages (nth l i)).1.page.toNat=p;omega
 have hkt:(bo pages l i).cell.toNat=k:=by show (aM pages (nth l i)).1.cell.toNat=k;omega
 have W:=dK (hsp j (by omega));have g:=W.good;rw[eT hj]at W g
 -- the other one is small,and stands on this page
 have hjs:(aM pages (nth l j)).1.small=true:=by
  cases hz:(aM pages (nth l j)).1.small with
  | true=>rfl
  | false=>have:=(W.lg hz).1;rw[hat,ha]at this;omega
 obtain⟨c',hc',f1,f2,_,f3⟩:=W.sm hjs;obtain⟨_,_,_,g4,_⟩:=g.s1 hjs;have hw':=fW hc';have y0:0≤(aM pages (nth l j)).1.cell*nth aI c':=Int.mul_nonneg g4 (by omega);rw[ke]at f3;have hpg:(aM pages (nth l j)).1.page=p:=by omega
 obtain⟨q1,q2⟩:=L.sm j (by omega) (by show (aM pages (nth (l.take i) j)).1.small=true;rw[eT hj];exact hjs);have t1:(bo pages (l.take i) j).page.toNat=p:=by show (aM pages (nth (l.take i) j)).1.page.toNat=p;rw[eT hj];omega
 rw[t1]at q1;have t2:(bo pages (l.take i) j).cls=c':=by show (aM pages (nth (l.take i) j)).1.cls=c';rw[eT hj];exact f1
 rw[t2]at q1;unfold lu;rw[uN hs,gm,if_pos hsm,hpt,hkt]
 show (if _∧_ then _ else _:Bool×List Int×List Nat).1=false
 rw[if_neg,if_neg (by omega)];rintro⟨z1,z2⟩;have z3:(bo pages l i).cls=c:=e2;have hb:=(qR L hsp (a:=(nth l i).1) (p:=p) (c:=c) (k:=k) (by rw[z1];exact z3) hc (by omega) ha (by rw[ke];exact hq)).2 ⟨j,by omega,by rw[eT hj];exact hat⟩;rw[zc z2]at hb;cases hb
theorem CR(h0:0≤pages∧pages≤64)(hi:i<l.length)(h:∀j,j<i→lu pages l j=true)(hs:(aM pages (nth l i)).2=true)(hsm:(bo pages l i).small=true)
    (hk:nth (ei pages l i).1 (bo pages l i).page.toNat = -1∨nth (ei pages l i).1 (bo pages l i).page.toNat=(bo pages l i).cls) (hn:∀j,j<i→(nth l j).1≠(nth l i).1) :
    lu pages l i=true∧(ei pages l (i+1)).1=(ei pages l i).1.set (bo pages l i).page.toNat (bo pages l i).cls:=by
 have hl:(l.take i).length=i:=by simp;omega
 have L:=tN (tO h0 (by omega) h);obtain⟨p,c,k,e1,e2,e3,hc,hp,hkk,ha,hq⟩:=pv hs hsm;have hsp:∀j,j<(l.take i).length→(aM pages (nth (l.take i) j)).2=true:=fun j hj=>by rw[eT (by omega)];exact wq h j (by omega)
 have hpt:(bo pages l i).page.toNat=p:=by show (aM pages (nth l i)).1.page.toNat=p;omega
 have hkt:(bo pages l i).cell.toNat=k:=by show (aM pages (nth l i)).1.cell.toNat=k;omega
 have hct:(bo pages l i).cls=c:=e2;rw[hpt,hct]at hk ⊢;have hpl:p<(ei pages l i).1.length:=by rw[ek.1];omega
 have e:lA pages (ei pages l i) (nth l i)=gm (ei pages l i).1 (ei pages l i).2 p (bo pages l i).count.toNat true c k:=by rw[uN hs,hpt,hkt,hct,hsm]
 unfold lu;simp only[ei];rw[e,gm,if_pos rfl];rcases hk with hk|hk
 ·rw[if_neg (by omega),if_pos hk];exact⟨rfl,rfl⟩
 ·have hb:(nth (ei pages l i).2 p).testBit k=false:=by
   cases hz:(nth (ei pages l i).2 p).testBit k with
   | false=>rfl
   | true=>
    obtain⟨j,hj,he⟩:=(qR L hsp (a:=(nth l i).1) hk hc (by omega) ha hq).1 hz;rw[eT (by omega)]at he;exact absurd he (hn j (by omega))
  rw[if_pos ⟨hk,zf hb⟩];refine⟨rfl,?_⟩
  show (ei pages l i).1=_
  rw[←hk];apply List.ext_getElem?;intro x;rw[List.getElem?_set];split
  ·rename_i hx;subst hx;rw[bC hpl];simp[hpl]
  ·rfl
theorem Ce(hs:(aM pages (nth l i)).2=true)(hsm:(bo pages l i).small=false) :
    lu pages l i=(ed (bo pages l i).page.toNat (bo pages l i).count.toNat 0 (ei pages l i).1).1∧(lu pages l i=true→(ei pages l (i+1)).1=(ed (bo pages l i).page.toNat (bo pages l i).count.toNat 0 (ei pages l i).1).2.set (bo pages l i).page.toNat 6):=by
 unfold lu;simp only[ei];rw[uN hs,gm,hsm];simp only[Bool.false_eq_true,if_false];split
 ·rename_i hf;exact⟨by rw[hf],fun _=>rfl⟩
 ·rename_i hf;exact⟨by simp at hf;rw[hf],fun h=>by cases h⟩
end
def er(pages:Int)(l:List (Int×Int)):List Int×Bool:=match cR pages l with
 | some st=>(st.1,true)
 | none=>([],false)
theorem kP{pages:Int}{l:List (Int×Int)}{i:Nat}(hi:i<l.length)(h:lu pages l i=false):er pages l=([],false):=by
 unfold er cR;rw[if_neg];simp only[Bool.and_eq_true,not_and];intro _;rw[im hi h];simp
theorem vZ{pages:Int}{l:List (Int×Int)}(h0:0≤pages∧pages≤64)(h:∀i,i<l.length→lu pages l i=true):er pages l=((ei pages l l.length).1,true):=by
 unfold er cR;rw[if_pos];simp only[Bool.and_eq_true,decide_eq_true_eq];exact⟨h0,all_good h⟩
theorem yc{pages:Int}{l:List (Int×Int)}(h0:¬(0≤pages∧pages≤64)):er pages l=([],false):=by
 unfold er cR;rw[if_neg (by simp[h0])]
def fu(o:Int×Int):(Int×Int×Int)×Bool:=if (bB o.2).2=false∨o.1<0 then ((0,0,0),false)else ((o.1.tdiv 32,(bB o.2).1,(cy (bB o.2).1 (o.1.tmod 32)).1),(cy (bB o.2).1 (o.1.tmod 32)).2)
def l6(pages:Int)(o:Int×Int):(Int×Int)×Bool:=if (fu o).2=true then (((fu o).1.1,1),decide ((fu o).1.1<pages))else if (bw o.2).2≠0∨o.1<0∨o.1.tmod 32≠0 then ((0,0),false)
 else ((o.1.tdiv 32,(bw o.2).1),decide (o.1.tdiv 32≤pages)&&decide ((bw o.2).1≤pages-o.1.tdiv 32))
theorem uu{n:Int}(h:(bB n).2=true):(bw n).2≠0:=by
 obtain⟨h1,k,hk,h2,h3⟩:=lG h;have:=fW hk;unfold bw;rw[if_pos (by omega)];decide
theorem CS{pages:Int}{o:Int×Int}:(l6 pages o).2=(aM pages o).2∧((aM pages o).2=true→(l6 pages o).1=((aM pages o).1.page,(aM pages o).1.count)∧(fu o).2=(aM pages o).1.small∧((aM pages o).1.small=true→(fu o).1=((aM pages o).1.page,(aM pages o).1.cls,(aM pages o).1.cell))):=by
 unfold l6;by_cases ha:o.1<0
 ·have:(fu o).2=false:=by unfold fu;rw[if_pos (.inr ha)]
  rw[this];simp only[Bool.false_eq_true,if_false];rw[if_pos (.inr (.inl ha))];unfold aM;rw[if_pos ha];simp
 ·cases hc:(bB o.2).2 with
  | true=>
   have hp:=uu hc;have ec:fu o=((o.1.tdiv 32,(bB o.2).1,(cy (bB o.2).1 (o.1.tmod 32)).1),(cy (bB o.2).1 (o.1.tmod 32)).2):=by unfold fu;rw[if_neg (by simp[hc,ha])]
   have es:aM pages o=(⟨o.1.tdiv 32,1,true,(bB o.2).1,(cy (bB o.2).1 (o.1.tmod 32)).1⟩,(cy (bB o.2).1 (o.1.tmod 32)).2&&decide (o.1.tdiv 32<pages)):=by unfold aM;rw[if_neg ha,if_pos hc]
   rw[ec,es];simp only
   cases hw:(cy (bB o.2).1 (o.1.tmod 32)).2 with
   | true=>simp
   | false=>simp[hp]
  | false=>
   have ec:(fu o).2=false:=by unfold fu;rw[if_pos (.inl hc)]
   have es:aM pages o=(⟨o.1.tdiv 32,(bw o.2).1,false,(bB o.2).1,0⟩,decide ((bw o.2).2=0)&&decide (o.1.tmod 32=0)&&decide (o.1.tdiv 32<pages)&&decide ((bw o.2).1≤pages-o.1.tdiv 32)):=by
    unfold aM;rw[if_neg ha,if_neg (by simp[hc])]
   rw[ec,es];simp only[Bool.false_eq_true,if_false];by_cases hz:(bw o.2).2≠0∨o.1<0∨o.1.tmod 32≠0
   ·rw[if_pos hz];rcases hz with hz|hz|hz
    ·simp[hz]
    ·exact absurd hz ha
    ·simp[hz]
   ·rw[if_neg hz];have h1:(bw o.2).2=0:=Classical.byContradiction fun q=>hz (.inl q)
    have h2:o.1.tmod 32=0:=Classical.byContradiction fun q=>hz (.inr (.inr q))
    have h3:=wv h1;simp[h1,h2];rw[←Bool.decide_and,←Bool.decide_and];exact decide_eq_decide.2 (by omega)
theorem Bb{pages:Int}{l:List (Int×Int)}{st}(h:cR pages l=some st){c p k:Nat}(hc:c<6)(hp:p<st.1.length)(hk:nth st.1 p=c)(hkc:(k:Int)<(cellsS c).1) :
    (∃j,j<l.length∧(nth l j).1=32*(p:Int)+(cellS c k).1)↔(nth st.2 p).testBit k=true:=by
 have L:=tN h;obtain⟨h0,h1,_⟩:=ng h;have hw:=fW hc;have hcs:cellS c k=(4+k*nth aI c,0):=by unfold cellS;rw[if_neg (by omega)];simp
 rw[hcs];have hcl:(cellsS c).1=(28:Int).tdiv (nth aI c):=by unfold cellsS;rw[if_neg (by omega)];simp
 have hq:4+((k:Int)+1)*nth aI c≤32:=by
  rw[hcl]at hkc;have MZ:=(gY c hc).1;rw[hcl]at MZ;rcases hw with q|q|q|q|q|q<;>rw[q]at hkc ⊢ <;> simp at hkc<;>omega
 have hlen:=L.len;exact(qR L (fun j hj=>iB (h1 j hj)) hk hc (by omega) (by show _=32*(p:Int)+4+_;omega) hq).symm
set_option maxHeartbeats 4000000
open Go.aN
/- Facts about classes, for the document's walks. -/
theorem oD{j:Nat}(h:j<6):8*nth aI j≤120∧2≤nth aI j∧nth aI j≤15:=by have:=fW h;omega
theorem Ae{n:Int}{i:Nat}(hi:i<6)(h:1≤n∧n≤8*nth aI i)(hn:∀j,j<i→¬(1≤n∧n≤8*nth aI j)):bB n=((i:Int),true):=by
 have:=oD hi;unfold bB;rw[if_neg (by omega)]
 have hf:aI.findIdx? (fun w=>decide (n≤w*8))=some i:=by
  rw[List.findIdx?_eq_some_iff_getElem];refine⟨hi,by rw[←bC (l:=aI) hi];simp;omega,fun j hj=>?_⟩;have h6:j<aI.length:=Nat.lt_trans hj hi;have:=hn j hj;rw[←bC h6];simp;omega
 rw[hf]
theorem Af{n:Int}(hn:∀j,j<6→¬(1≤n∧n≤8*nth aI j)):bB n=(0,false):=by
 have:=hn 5 (by omega);have e:nth aI 5=15:=rfl;unfold bB;rw[if_pos (by omega)]
theorem y5:∀c:Nat,c<6→∀o:Nat,o<32→(∀k:Nat,k<14→(k:Int)<(cellsS c).1→(cellS c k).1≠(o:Int))→cy c o=(0,false):=by decide +kernel
theorem C7{c off:Int}{k:Nat}(hc:0≤c∧c<6)(hk:(k:Int)<(cellsS c).1)(h:(cellS c k).1=off):cy c off=((k:Int),true):=by
 obtain⟨d,rfl⟩:∃d:Nat,c=d:=⟨c.toNat,by omega⟩;have:=(gY d (by omega)).1;rw[←h];exact(oN d (by omega) k (by omega) hk).1
theorem C8{c off:Int}(hc:0≤c∧c<6)(ho:0≤off∧off<32)(h:∀k:Nat,(k:Int)<(cellsS c).1→(cellS c k).1≠off):cy c off=(0,false):=by
 obtain⟨d,rfl⟩:∃d:Nat,c=d:=⟨c.toNat,by omega⟩;obtain⟨o,rfl⟩:∃o:Nat,off=o:=⟨off.toNat,by omega⟩;exact y5 d (by omega) o (by omega) fun k _=>h k
theorem uq{c:Int}{k:Nat}(hc:0≤c∧c<6)(hk:(k:Int)<(cellsS c).1):cellS c k=(4+k*nth aI c.toNat,0)∧4+(k:Int)*nth aI c.toNat≤400∧0≤(k:Int)*nth aI c.toNat:=by
 obtain⟨d,rfl⟩:∃d:Nat,c=d:=⟨c.toNat,by omega⟩;have fe:=(gY d (by omega)).1;have hw:=oD (j:=d) (by omega);have h0:0≤(k:Int)*nth aI d:=Int.mul_nonneg (by omega) (by omega);refine⟨by unfold cellS;rw[if_neg (by omega)],?_,by simpa using h0⟩;have:(k:Int)*nth aI d≤14*15:=Int.mul_le_mul (by omega) (by omega) (by omega) (by omega);simp only[Int.toNat_natCast];omega
theorem qS{c:Int}(hc:0≤c∧c<6):1≤(cellsS c).1∧(cellsS c).1≤14∧(cellsS c).2=0∧(cellsS c).1=(28:Int).tdiv (nth aI c.toNat):=by
 obtain⟨d,rfl⟩:∃d:Nat,c=d:=⟨c.toNat,by omega⟩;have:=gY d (by omega);refine⟨this.2,this.1,?_,?_⟩<;>(unfold cellsS;rw[if_neg (by omega)])
def ff(l:List Slot)(i:Nat):List Nat:=(List.range i).filter fun j=>fj (nth l j)
theorem oj{l:List Slot}{i:Nat}(h:fj (nth l i)=true):ff l (i+1)=ff l i++[i]:=by simp[ff,List.range_succ,List.filter_append,h]
theorem oh{l:List Slot}{i:Nat}(h:fj (nth l i)=false):ff l (i+1)=ff l i:=by simp[ff,List.range_succ,List.filter_append,h]
theorem yr{l:List Slot}{i:Nat}:(ff l i).length≤i:=by
 have:=List.length_filter_le (fun j=>fj (nth l j)) (List.range i);simpa [ff]using this
def kH(l:List Slot):List Int:=(ff l l.length).map fun(j:Nat)=>(j:Int)
theorem pT{l:List Slot}:dh l=(ff l l.length).head?:=by
 unfold dh ff;rw[List.head?_filter]
theorem chain_nil{l:List Slot}(h:(kH l).length=0):dh l=none:=by
 rw[pT];simp only[kH,List.length_map]at h;rw[List.eq_nil_of_length_eq_zero h];rfl
theorem xj{l:List Slot}(h:(kH l).length≠0):(dh l).isSome=true∧nth (kH l) 0=(((dh l).getD 0:Nat):Int):=by
 rw[pT];simp only[kH,List.length_map]at h ⊢
 cases hz:ff l l.length with
 | nil=>rw[hz]at h;exact absurd rfl h
 | cons a t=>exact⟨rfl,rfl⟩
set_option maxRecDepth 4000
open Go.aN
attribute [simp] Tryz.f238 Tryz.f239
theorem EM(g:Gl)(c:Int):a9 Tryz.prog g 238 [vI c] (.bK [vI (cellsS c).1,vI (cellsS c).2]):=by
 refine xA Tryz.func238 fun B S=>?_
 refine xU ?_;refine ay ?_;refine xG [0] ?_;refine xO ?_;refine xC (EN g c) ?_;refine cW ?_;refine xF [4,5] ?_;refine ab (xU ?_);refine ay ?_;refine xQ [4,5,12] ?_ ?_
 ·intro h12;have hc:c<0∨6≤c:=Classical.byContradiction fun q=>by simp[q]at h12
  have hr:cellsS c=(0,1):=by unfold cellsS;rw[if_pos hc]
  refine xU ?_;refine dC [2,3] ?_;refine xZ ?_;simp[hr,hc]
 intro h12;have hc:¬(c<0∨6≤c):=by intro q;simp[q]at h12
 have hr:cellsS c=((28:Int).tdiv (nth aI c.toNat),0):=by unfold cellsS;rw[if_neg hc]
 have hw:=wZ (k:=c.toNat) (by omega);have hw0:nth aI c.toNat≠0:=by omega
 have e1:IntKind.i64.wrap ((28:Int).tdiv (nth aI c.toNat))=(28:Int).tdiv (nth aI c.toNat):=by rcases hw with h|h|h|h|h|h<;>rw[h]<;>decide
 refine af ?_;refine xT ?_;refine xO ?_;refine xO ?_ (h:=by simp[hc,hw0,e1];exact .mk);refine bU [2,3] ?_;refine xZ ?_;simp[hr,hc]
theorem JI(g:Gl)(c k:Int):a9 Tryz.prog g 239 [vI c,vI k] (.bK [vI (cellS c k).1,vI (cellS c k).2]):=by
 refine xA Tryz.func239 fun B S=>?_
 refine xU ?_;refine ay ?_;refine xG [0,1] ?_;refine xO ?_;refine xC (EM g c) ?_ (hi:=by simp[j4];exact .mk);refine cW ?_;refine xF [0,1,6,7] ?_;refine ab (xU ?_);refine aT ?_;iterate 2 refine xI ?_
 refine xP ?_;refine xB ?_;iterate 3 refine xI ?_
 refine xP ?_;refine xQ [0,1,23] ?_ ?_
 ·intro h23;have hc:c<0∨6≤c∨k<0∨(cellsS c).1≤k:=by by_cases q:c<0∨6≤c<;>simp[cellsS,q]at h23 ⊢ <;> omega
  have hr:cellS c k=(0,1):=by unfold cellS;rw[if_pos hc]
  refine xU ?_;refine bU [4,5] ?_;refine xZ ?_;simp[hr]
 intro h23;have hc:¬(c<0∨6≤c∨k<0∨(cellsS c).1≤k):=by by_cases q:c<0∨6≤c<;>simp[cellsS,q]at h23 ⊢ <;> omega
 have hr:cellS c k=(4+k*nth aI c.toNat,0):=by unfold cellS;rw[if_neg hc]
 obtain⟨m,rfl⟩:∃m:Nat,c=m:=⟨c.toNat,by omega⟩;have hm:m<6:=by omega
 have hml:m<aI.length:=hm;have hw:=wZ hm
 have hk:0≤k∧k<28:=by
  have h1:k<(cellsS m).1:=by omega
  have h2:(cellsS m).1=(28:Int).tdiv (nth aI m):=by unfold cellsS;rw[if_neg (by omega)];rfl
  rw[h2]at h1;rcases hw with h|h|h|h|h|h<;>rw[h]at h1<;>simp at h1<;>omega
 have e1:IntKind.i64.wrap (k*nth aI m)=k*nth aI m:=by rcases hw with h|h|h|h|h|h<;>rw[h]<;>exact wrap64 (by omega) (by omega)
 have e2:IntKind.i64.wrap (4+k*nth aI m)=4+k*nth aI m:=by rcases hw with h|h|h|h|h|h<;>rw[h]<;>exact wrap64 (by omega) (by omega)
 refine af ?_;refine xT ?_;refine xO ?_;refine xC (zh g) ?_ (hi:=by simp[j4];exact .mk);refine xO ?_;refine xO ?_ (h:=by simp[kO,pW,Ty.agg, -List.getElem?_map,ao hml,show (m:Int)<6 from by omega];exact .mk);refine xO ?_ (h:=by simp[e1];exact .mk);refine xO ?_ (h:=by simp[e1,e2];exact .mk);refine bU [4,5] ?_;refine xZ ?_;simp[hr]
open Go.aN
theorem GW(g:Gl)(a b:Int)(o:aN.Obj)(L:List (Int×Int))(hL:L.length≤2^40)(hab : -2^60≤b-a∧b-a≤2^60)(hlt:a<b):∀B S,a7 Tryz.prog g B S ⟨3,true⟩ 234 [.d (vI a),.d (vI b),.ptr 0 0 0] [.var 113 [.hdr 1 0 L.length],.row 2 (L.map aE),o]
    (fun x r=>x = .bK []∧r=[.var 113 [.hdr 4 0 (L.length+1)],.dead,o,.row 2 [aE (a,b-a)],.row 2 ((L++[(a,b-a)]).map aE)]):=by
 refine aL Tryz.func234 rfl (Nat.le_of_ble_eq_true rfl) fun B S=>?_
 have e1:IntKind.i64.wrap (b-a)=b-a:=wrap64 (by omega) (by omega);have e2:(L.length+1)*16≤140737488355328:=by omega
 have e3:L.length≤140737488355327:=by omega
 refine xU ?_;refine aT ?_;refine xQ [0,1,2,7] ?_ ?_
 ·intro h7;refine xY ?_;refine bx ?_;refine xO ?_ (h:=by simp[e1];exact .mk);refine aH ?_;refine xO ?_;refine xO ?_ (h:=by simp[rows,e2,e3];exact .mk);refine aH ?_;refine xE [] ?_;refine iT (by simp[Tryz.f234];exact .mk) ?_ ?_
  ·simp
  simp[aE]
 intro h7;simp at h7;omega
theorem GU(g:Gl)(a b:Int)(o:aN.Obj)(L:List (Int×Int))(hL:L.length≤2^40)(hab : -2^60≤b-a∧b-a≤2^60)(hlt:¬a<b):∀B S,a7 Tryz.prog g B S ⟨3,true⟩ 234 [.d (vI a),.d (vI b),.ptr 0 0 0] [.var 113 [.hdr 1 0 L.length],.row 2 (L.map aE),o]
    (fun x r=>x = .bK []∧r=[.var 113 [.hdr 1 0 L.length],.row 2 (L.map aE),o]):=by
 refine aL Tryz.func234 rfl (Nat.le_of_ble_eq_true rfl) fun B S=>?_
 have e1:IntKind.i64.wrap (b-a)=b-a:=wrap64 (by omega) (by omega);have e2:(L.length+1)*16≤140737488355328:=by omega
 have e3:L.length≤140737488355327:=by omega
 refine xU ?_;refine aT ?_;refine xQ [0,1,2,7] ?_ ?_
 ·intro h7;simp at h7;omega
 intro h7;refine af ?_;refine iT (by simp[Tryz.f234];exact .mk) ?_ ?_
 ·simp
 simp[aE]
theorem GX(g:Gl)(a b:Int)(L:List (Int×Int))(hL:L.length≤2^40)(hab : -2^60≤b-a∧b-a≤2^60)(hlt:a<b):∀B S,a7 Tryz.prog g B S ⟨2,true⟩ 234 [.d (vI a),.d (vI b),.ptr 0 0 0] [.var 113 [.hdr 1 0 L.length],.row 2 (L.map aE)]
    (fun x r=>x = .bK []∧r=[.var 113 [.hdr 3 0 (L.length+1)],.dead,.row 2 [aE (a,b-a)],.row 2 ((L++[(a,b-a)]).map aE)]):=by
 refine aL Tryz.func234 rfl (Nat.le_of_ble_eq_true rfl) fun B S=>?_
 have e1:IntKind.i64.wrap (b-a)=b-a:=wrap64 (by omega) (by omega);have e2:(L.length+1)*16≤140737488355328:=by omega
 have e3:L.length≤140737488355327:=by omega
 refine xU ?_;refine aT ?_;refine xQ [0,1,2,7] ?_ ?_
 ·intro h7;refine xY ?_;refine bx ?_;refine xO ?_ (h:=by simp[e1];exact .mk);refine aH ?_;refine xO ?_;refine xO ?_ (h:=by simp[rows,e2,e3];exact .mk);refine aH ?_;refine xE [] ?_;refine iT (by simp[Tryz.f234];exact .mk) ?_ ?_
  ·simp
  simp[aE]
 intro h7;simp at h7;omega
theorem GV(g:Gl)(a b:Int)(L:List (Int×Int))(hL:L.length≤2^40)(hab : -2^60≤b-a∧b-a≤2^60)(hlt:¬a<b):∀B S,a7 Tryz.prog g B S ⟨2,true⟩ 234 [.d (vI a),.d (vI b),.ptr 0 0 0] [.var 113 [.hdr 1 0 L.length],.row 2 (L.map aE)]
    (fun x r=>x = .bK []∧r=[.var 113 [.hdr 1 0 L.length],.row 2 (L.map aE)]):=by
 refine aL Tryz.func234 rfl (Nat.le_of_ble_eq_true rfl) fun B S=>?_
 have e1:IntKind.i64.wrap (b-a)=b-a:=wrap64 (by omega) (by omega);have e2:(L.length+1)*16≤140737488355328:=by omega
 have e3:L.length≤140737488355327:=by omega
 refine xU ?_;refine aT ?_;refine xQ [0,1,2,7] ?_ ?_
 ·intro h7;simp at h7;omega
 intro h7;refine af ?_;refine iT (by simp[Tryz.f234];exact .mk) ?_ ?_
 ·simp
 simp[aE]
theorem GD(g:Gl)(fr to:Int)(l:List (Int×Int))(hl:l.length≤2^39)(hG:dt fr to l=true):∀B S,a7 Tryz.prog g B S ⟨1,true⟩ 142 [.d (vI fr),.d (vI to),.d (rO l),.fn (.func 234) [] [.ptr 0 0 0]] [.var 113 [.d (.v (.slice none 0 0))]]
    (fun x r=>x = .d (.v (.bool true))∧r=[.var 113 [.hdr 1 0 (dr to fr l).length],.row 2 ((dr to fr l).map aE)]):=by
 refine aL Tryz.func142 rfl (Nat.le_of_ble_eq_true rfl) fun B S=>?_
 have hH:0≤fr∧fr≤to∧to≤2048∧fr.tmod 4=0∧to.tmod 4=0:=by simp[dt,eP]at hG;omega
 have hr0:dI to fr l=true:=by simp[dt]at hG;exact hG.2
 refine xU ?_;refine xH [0,1,2,3] ?_;refine ab (xU ?_);refine aT ?_;iterate 3 refine xI ?_
 refine xP ?_;refine xB ?_;iterate 2 refine xI ?_
 refine xP ?_;refine xB ?_;refine xI ?_;refine bI rfl (by simp;exact .mk) rfl rfl (by simp) (by simp;exact .mk) (by simp;exact .mk) (fun hb=>pH g fr) (by simp) (by simp;exact .mk) (by simp) ?_;refine xI ?_;refine xP ?_;refine xB ?_;refine xI ?_;refine bI rfl (by simp;exact .mk) rfl rfl (by simp) (by simp;exact .mk) (by simp;exact .mk) (fun hb=>pH g to) (by simp) (by simp;exact .mk) (by simp) ?_;refine xI ?_;refine xP ?_;refine xQ [0,1,2,3,32] ?_ ?_
 ·intro h32;simp at h32;omega
 intro h32;refine af ?_;refine xT ?_;refine bU [1,2,3,9] ?_;refine ab (xU ?_);refine dC [1,3,9,34,35,36] ?_;refine ag (aB (fun m σ o=>∃(i:Nat) (a:Int) (L:List (Int×Int)),m=l.length-i∧i≤l.length∧0≤a∧a≤to∧dI to a (l.drop i)=true∧dr to fr l=L++dr to a (l.drop i)∧L.length≤i∧σ=slots [(1,.d (vI to)),(3,.fn (.func 234) [] [.ptr 0 0 0]),(9,.d (vI a)),(34,.d (rO l)),(35,.d (vI l.length)),(36,.d (vI i))]∧o=[.var 113 [.hdr 1 0 L.length],.row 2 (L.map aE)]) l.length (Weak.kR 0 0 2 rfl rfl) ⟨0,fr,[],by simp,by simp,by omega,by omega,by simpa using hr0,by simp,by simp,rfl,rfl⟩ ?_);rintro m σ o ⟨i,a,L,rfl,hi,ha0,ha1,hinv,hgl,Ly,rfl,rfl⟩ _;refine xU ?_;refine xH [1,3,9,34,35,36,37] ?_;refine ab (bd rfl ?_ ?_)
 ·intro h37;have hi2:i<l.length:=by simpa using h37
  rw[jA hi2]at hinv;have hb:di to a (nth l i)=false:=by simp at hinv;exact hinv.1
  have hb2:a≤(nth l i).1∧(nth l i).1≤to∧4≤(nth l i).2∧(nth l i).2≤to-(nth l i).1:=by simp[di]at hb;omega
  have hb3:(nth l i).1.tmod 4=0∧(nth l i).2.tmod 4=0:=by simp[di]at hb;omega
  have w1:IntKind.i64.wrap (to-(nth l i).1)=to-(nth l i).1:=wrap64 (by omega) (by omega);have w2:IntKind.i64.wrap ((nth l i).1+(nth l i).2)=(nth l i).1+(nth l i).2:=wrap64 (by omega) (by omega);rw[rq hi2]at hgl;refine af fun _=>?_;refine ab (ag ?_);refine xU ?_;refine xO ?_ (h:=by simp[aE, *];exact .mk);refine xO ?_ (h:=by simp[aE];exact .mk);refine xO ?_;refine aH ?_;refine xF [1,3,9,11,34,35,36] ?_;refine ab (ag ?_);refine ab (xU ?_);refine xO ?_;refine xO ?_ (h:=by simp[aE];exact .mk);refine aT ?_;refine xQ [1,3,9,11,34,35,36,40] ?_ ?_
  ·intro Ar;exfalso;first|(simp[aE]at Ar;omega)|(simp[aE,hb3]at Ar)
  intro Ar;refine xU ?_;refine xO ?_;refine xO ?_ (h:=by simp[aE];exact .mk);refine aT ?_;refine xQ [1,3,9,11,34,35,36,40] ?_ ?_
  ·intro xX;exfalso;first|(simp[aE]at xX;omega)|(simp[aE,hb3]at xX)
  intro xX;refine xU ?_;refine xO ?_;refine xO ?_ (h:=by simp[aE];exact .mk);refine ay ?_;refine xQ [1,3,9,11,34,35,36,40] ?_ ?_
  ·intro ru;exfalso;first|(simp[aE]at ru;omega)|(simp[aE,hb3]at ru)
  intro ru;refine xU ?_;refine xO ?_;refine xO ?_ (h:=by simp[aE];exact .mk);refine ay ?_;refine xO ?_ (h:=by simp[aE];exact .mk);refine xO ?_ (h:=by simp[w1];exact .mk);refine ay ?_;refine xQ [1,3,9,11,34,35,36,40] ?_ ?_
  ·intro m6;exfalso;first|(simp[aE]at m6;omega)|(simp[aE,hb3]at m6)
  intro m6;refine xU ?_;refine xO ?_;refine xO ?_ (h:=by simp[aE];exact .mk);refine xC (pH g _) ?_;refine ay ?_;refine xQ [1,3,9,11,34,35,36,40] ?_ ?_
  ·intro kL;exfalso;first|(simp[aE]at kL;omega)|(simp[aE,hb3]at kL)
  intro kL;refine xY ?_;refine xO ?_;refine xO ?_ (h:=by simp[aE];exact .mk);refine xC (pH g _) ?_;refine ay ?_;refine xQ [1,3,9,11,34,35,36,40] ?_ ?_
  ·intro jZ;exfalso;first|(simp[aE]at jZ;omega)|(simp[aE,hb3]at jZ)
  intro jZ;refine af fun _=>?_;refine ab ?_;by_cases hlt:a<(nth l i).1
  ·skip
   skip
   refine xY ?_;refine aT ?_;refine xO ?_ (h:=by simp[aE];exact .mk);refine az rfl rfl rfl rfl (by simp;exact .mk) ⟨_,Tryz.func234,rfl,rfl⟩ (GW g a (nth l i).1 _ L (by omega) (by omega) hlt) (.inl (by simp)) ?_;refine xF [1,3,11,34,35,36] ?_;refine xY ?_;refine xO ?_;refine xO ?_ (h:=by simp[aE];exact .mk);refine xO ?_;refine xO ?_ (h:=by simp[aE];exact .mk);refine xO ?_ (h:=by simp[w2];exact .mk);refine xH [1,3,9,34,35,36] ?_;refine xY ?_;refine ay ?_;refine xE [1,3,9,34,35,36] ?_;refine ah [1,3,9,34,35,36] ?_;refine aC 1 4 1 (by decide) (by simp) (by decide) rfl rfl ?_;refine aq 2 [1,3,9,34,35,36] (by decide) (by rfl) (by rfl) ?_;refine ae (m':=l.length-(i+1)) (by omega) ⟨i+1,(nth l i).1+(nth l i).2,L++[(a,(nth l i).1-a)],rfl,by omega,by omega,by omega,by simp at hinv;exact hinv.2,by rw[hgl,iA,if_pos hlt];simp,by simp;omega,?_,?_⟩
   ·rw[wrap64 (by omega) (by omega)];simp;try rfl
   simp[aE];try rfl
  skip
  skip
  refine xY ?_;refine aT ?_;refine xO ?_ (h:=by simp[aE];exact .mk);refine az rfl rfl rfl rfl (by simp;exact .mk) ⟨_,Tryz.func234,rfl,rfl⟩ (GU g a (nth l i).1 _ L (by omega) (by omega) hlt) (.inl (by simp)) ?_;refine xF [1,3,11,34,35,36] ?_;refine xY ?_;refine xO ?_;refine xO ?_ (h:=by simp[aE];exact .mk);refine xO ?_;refine xO ?_ (h:=by simp[aE];exact .mk);refine xO ?_ (h:=by simp[w2];exact .mk);refine xH [1,3,9,34,35,36] ?_;refine xY ?_;refine ay ?_;refine xE [1,3,9,34,35,36] ?_;refine ah [1,3,9,34,35,36] ?_;refine aq 2 [1,3,9,34,35,36] (by decide) (by rfl) (by rfl) ?_;refine ae (m':=l.length-(i+1)) (by omega) ⟨i+1,(nth l i).1+(nth l i).2,L,rfl,by omega,by omega,by omega,by simp at hinv;exact hinv.2,by rw[hgl,iA,if_neg hlt];simp,by omega,?_,rfl⟩;rw[wrap64 (by omega) (by omega)];rfl
 intro h37;obtain rfl:i=l.length:=by simp at h37;omega
 rw[List.drop_length]at hgl;refine aP ?_;rintro -;refine ab ?_;by_cases hlt:a<to
 ·skip
  skip
  refine xY ?_;refine aT ?_;refine az rfl rfl rfl rfl (by simp;exact .mk) ⟨_,Tryz.func234,rfl,rfl⟩ (GX g a to L (by omega) (by omega) hlt) (.inl (by simp)) ?_;refine xE [] ?_;refine gF (Weak.perm [0,3,2,1] [0,3,2,1] rfl rfl rfl) ?_;refine xT ?_;refine xH [8] ?_;refine ar (aK 2 (by simp[Tryz.f142];exact .mk) ?_ ?_ (by simp) (by first|rfl|simp) (by first|rfl|simp))
  ·rfl
  first|(simp[hgl,dr,iA,hlt];done)|(simp[hgl,dr,iA,hlt,aE];try rfl)
 skip
 skip
 refine xY ?_;refine aT ?_;refine az rfl rfl rfl rfl (by simp;exact .mk) ⟨_,Tryz.func234,rfl,rfl⟩ (GV g a to L (by omega) (by omega) hlt) (.inl (by simp)) ?_;refine xG [] ?_;refine xH [8] ?_;refine ar (aK 2 (by simp[Tryz.f142];exact .mk) ?_ ?_ (by simp) (by first|rfl|simp) (by first|rfl|simp))
 ·rfl
 first|(simp[hgl,dr,iA,hlt];done)|(simp[hgl,dr,iA,hlt,aE];try rfl)
open Go.aN
attribute [simp] Tryz.f151 Tryz.f205
theorem Jt(g:Gl)(fr to:Int)(l:List (Int×Int))(hl:l.length≤2^39)(hG:dt fr to l=true):a9 Tryz.prog g 205 [vI fr,vI to,rO l] (.bK [oO (dr to fr l),vI 0]):=by
 refine xA Tryz.func205 fun B S=>?_
 refine xU ?_;refine ay ?_;refine xG [0,1,2] ?_;refine xO ?_;refine xG [0,1,2,8] ?_;refine bx ?_;refine az rfl rfl rfl rfl (by simp;exact .mk) ⟨_,Tryz.func142,rfl,rfl⟩ (GD g fr to l hl hG) (.inl (by simp)) ?_;refine xH [8,9] ?_;refine ab (xU ?_);refine ay ?_;refine xQ [8,16] ?_ ?_
 ·intro h16;simp at h16
 intro h16;refine af ?_;refine xT ?_;refine dC [6,7] ?_;refine xZ ?_;simp[ai]
theorem Je(g:Gl)(s:bF)(hs:s.Ok)(hR:bL s=true)(n:Int):a9 Tryz.prog g 151 [cr s,vI n] (.bK [vI ((qj s n).getD 0),.v (.bool (qj s n).isSome)]):=by
 refine xA Tryz.func151 fun B S=>?_
 simp only[cr,List.map,aO,cC];have q0:=hs.h1;have hb:=gP (ij hR);have hol:=mm (l:=s.slots);have hT:=jt (kq hR);refine xU ?_;refine aT ?_;refine xG [1,2] ?_;refine xO ?_;refine xC (JU g n) ?_ (he:=by simp[show D.cF∘aE=aE from funext eE];exact .mk);refine cW ?_;refine xF [2,6,7] ?_;refine ab (xU ?_);refine ay ?_;refine xQ [2,6,21] ?_ ?_
 ·intro h21;have hr:qj s n=none:=by unfold qj;rw[if_pos (by simpa using h21)]
  refine xU ?_;refine bU [4,5] ?_;refine xZ ?_;first|(simp[hr];done)|(simp[hr];cases b<;>simp[aE])
 intro h21;have hr:qj s n=(dy (dr (s.sh.pages*32) (s.base*32) (bV s.slots)) (cK n).1).map (·.1):=by unfold qj;rw[if_neg (by simpa using h21)]
 refine af ?_;refine xT ?_;refine xH [2,6,8] ?_;refine ab (xU ?_);refine xO ?_ (h:=by simp[a6];exact .mk);refine xC (JM g s hs) ?_ (he:=by simp[show D.cF∘aE=aE from funext eE];exact .mk);refine bU [2,6,8,23,24,25] ?_;refine ag ?_
 refine aB (fun m σ o=>∃i:Nat,m=(ca s.slots).length-i∧i≤(ca s.slots).length∧σ=slots [(2,.ptr 0 0 0),(6,.d (vI (cK n).1)),(8,.hdr 2 0 i),(23,.hdr 1 0 (ca s.slots).length),(24,.d (vI (ca s.slots).length)),(25,.d (vI i))]∧o=[.var 28 [.d (vI s.sh.pages),.d (vI s.sh.slots),.d (vI s.sh.roots),.d (vI s.sh.room),.d (vI s.mode),.d (vI s.base),.d (eG s.slots),.d (rR s.roots),.d (fL s.data)],.row 3 ((ca s.slots).map a6),.row 2 (((ca s.slots).take i).map fun b=>aE (fC b))]) (ca s.slots).length
  (Weak.trans (Weak.dJ 8 2 rfl) (Weak.kills [2,6,8,23,24,25] rfl) (fun _ _ _ h1 h2=>by rw[←h1.len];exact h2)) ⟨0,by simp,by simp,by simp,by simp⟩ ?_
 rintro m σ o ⟨i,rfl,hi,rfl,rfl⟩ _;refine xU ?_;refine xH [2,6,8,23,24,25,26] ?_;refine ab (bd rfl ?_ ?_)
 ·intro i8;have hi2:i<(ca s.slots).length:=by simpa using i8
  have e1:(i+1)*16≤140737488355328:=by omega
  have e2:i≤140737488355327:=by omega
  have htk:((ca s.slots).take i).length=i:=by simp;omega
  refine af fun _=>?_;refine ab (ag ?_);refine xU ?_;refine xO ?_ (h:=by simp[a6,hi2];exact .mk);refine xO ?_ (h:=by simp[-List.getElem?_map,ao hi2,a6];exact .mk);refine xO ?_;refine aH ?_;refine xF [2,6,8,10,23,24,25] ?_;refine xY ?_;refine ay ?_;refine xO ?_ (h:=by simp[a6];exact .mk);refine xO ?_;refine xO ?_ (h:=by simp[a6];exact .mk);refine aH ?_;refine xO ?_;refine xO ?_ (h:=by simp[rows,e1,e2,htk,Nat.min_eq_left hi];exact .mk);refine xH [2,6,8,23,24,25] ?_;refine xY ?_;refine ay ?_;refine xE [2,6,8,23,24,25] ?_;refine ah [2,6,8,23,24,25] ?_;refine aD [2,6,8,23,24,25] rfl ?_;refine aC 2 5 1 (by decide) (by simp) (by decide) rfl rfl ?_;refine aq 3 [2,6,8,23,24,25] (by decide) (by rfl) (by rfl) ?_;refine ae (m':=(ca s.slots).length-(i+1)) (by omega) ⟨i+1,rfl,by omega,?_,?_⟩
  ·rw[wrap64 (by omega) (by omega)];simp;try rfl
  rw[take_succ hi2];simp[aE,fC,a6];try rfl
 intro i8;obtain rfl:i=(ca s.slots).length:=by simp at i8;omega
 obtain⟨U,hU⟩:∃U,U=bV s.slots:=⟨_,rfl⟩;have hm:List.take (ca s.slots).length (List.map (fun b=>aE (fC b)) (ca s.slots))=U.map aE:=by rw[hU,bV,←List.map_take,List.take_length,List.map_map];rfl
 have hm2:(ca s.slots).length=U.length:=by rw[hU,bV,List.length_map]
 rw[hm,hm2];have e4:IntKind.i64.wrap (s.base*32)=s.base*32:=wrap64 (by omega) (by omega);have e5:IntKind.i64.wrap (s.sh.pages*32)=s.sh.pages*32:=wrap64 (by omega) (by omega);have hG:=pw hR;rw[←hU]at hG hr;have IJ:=Jt g (s.base*32) (s.sh.pages*32) U (by omega) hG;have hgl:=oW (to:=s.sh.pages*32) (l:=U) (a:=s.base*32);obtain⟨G,Pg⟩:∃G,G=dr (s.sh.pages*32) (s.base*32) U:=⟨_,rfl⟩;rw[←Pg]at hr IJ hgl;obtain⟨b,hbb⟩:∃b,b=dy G (cK n).1:=⟨_,rfl⟩;have IK:=Ju g G (by omega) (cK n).1;rw[←hbb]at hr IK;refine aP (xT ?_);refine xO ?_;refine xO ?_ (h:=by simp[a6];exact .mk);refine xO ?_ (h:=by simp[e4];exact .mk);refine ay ?_;refine xO ?_ (h:=by simp[a6];exact .mk);refine xO ?_ (h:=by simp[e5];exact .mk);refine xO ?_;refine xC (IJ) ?_ (he:=by simp[show D.cF∘aE=aE from funext eE];exact .mk);refine cW ?_;refine xG [6,11] ?_;refine ay ?_;refine xC (IK) ?_ (he:=by simp[show D.cF∘aE=aE from funext eE];exact .mk);refine bx ?_;refine aH ?_;refine xO ?_;refine xG [13,14] ?_;refine xO ?_;refine xO ?_ (h:=by simp[a6];exact .mk);refine dC [4,5] ?_;refine xZ ?_;first|(simp[hr];done)|(simp[hr];cases b<;>simp[aE])
end Go.Proofs
