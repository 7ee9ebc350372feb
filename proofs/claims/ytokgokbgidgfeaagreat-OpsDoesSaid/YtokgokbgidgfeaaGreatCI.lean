/- Contracts of the program's functions and plain facts, for arguments as each lemma says. -/
import Derived.Test.YtokgokbgidgfeaaGreatCH
import Derived.Test.YtokgokbgidgfeaaGreatCF
import Derived.Test.YtokgokbgidgfeaaGreatAwpD
import Derived.Test.YtokgokbgidgfeaaGreatCA
import Derived.Test.YtokgokbgidgfeaaGreatCD
set_option linter.all false
set_option maxHeartbeats 4000000
set_option maxRecDepth 4000
namespace Go.Proofs
open Go.aN
attribute [simp] Tryz.f181 Tryz.f215 Tryz.f216 Tryz.f217 Tryz.f218 Tryz.f241
theorem zg(g:Gl)(len:Nat)(off n:Int)(hl:len≤2^40):a9 Tryz.prog g 218 [vI len,vI off,vI n] (.v (.bool (cx len off n))):=by
 refine xA Tryz.func218 fun B S=>?_
 refine xU ?_;refine xO ?_;refine xG [0,1,2] ?_;refine aT ?_;iterate 3 refine xI ?_
 refine xP ?_;refine xB ?_;iterate 2 refine xI ?_
 refine xP ?_;refine xB ?_;iterate 5 refine xI ?_
 refine xP ?_;refine xB ?_;refine xF [6] ?_;refine xZ ?_;first|(simp[←tY hl,Bool.and_assoc];done)|(simp[←tY hl];grind)
theorem BJ(g:Gl)(l:List Root)(nm:ByteArray)(hl:l.length≤2^40):a9 Tryz.prog g 241 [rR l,vS nm] (vI (bO l nm).2):=by
 refine xA Tryz.func241 fun B S=>?_
 refine xU ?_;refine xO ?_;refine xG [0,1] ?_;refine xO ?_;refine xC (FX g l hl) ?_;refine xO ?_;refine xG [1,5] ?_;refine xO ?_;refine xC (BF g nm) ?_;refine xH [5,6] ?_;refine ab (xU ?_);refine ay ?_;refine xQ [6,12] ?_ ?_
 ·intro h12;have r1:ck l=false:=by simpa using h12
  refine xU ?_;refine xH [4] ?_;refine xZ ?_;first|(simp[bO,r1];done)|simp[bO,r1,r2]
 intro h12;have r1:ck l=true:=by simpa using h12
 refine af fun _=>?_;refine ab (xU ?_);refine ay ?_;refine xQ [14] ?_ ?_
 ·intro fe;have r2:cu nm=false:=by simpa using fe
  refine xU ?_;refine xH [4] ?_;refine xZ ?_;first|(simp[bO,r1];done)|simp[bO,r1,r2]
 intro fe;have r2:cu nm=true:=by simpa using fe
 refine af ?_;refine xT ?_;refine xH [4] ?_;refine xZ ?_;first|(simp[bO,r1];done)|simp[bO,r1,r2]
theorem EG(g:Gl)(l:List Root)(nm:ByteArray)(ix gn:Int)(hr:dQ l):a9 Tryz.prog g 215 [rR l,vS nm,.agg [vI ix,vI gn]] (.bK [oR (dg l nm ix gn).1,vI (dg l nm ix gn).2]):=by
 refine xA Tryz.func215 fun B S=>?_
 have q1:l.length*32≤140737488355328:=by have:=hr.h1;omega
 have q2:l.length≤140737488355328:=by have:=hr.h1;omega
 obtain⟨K,hK⟩:∃K,K=gD l nm:=⟨_,rfl⟩;refine xU ?_;refine aT ?_;refine xG [0,1,5] ?_;refine ay ?_;refine xC (BJ g l nm hr.h1) ?_;refine xH [0,1,5,8] ?_;refine ab (xU ?_);refine ay ?_;refine xQ [0,1,5,8,16] ?_ ?_
 ·intro h16;have hs:dg l nm ix gn=([],(bO l nm).2):=by unfold dg;rw[if_pos (by simpa using h16)]
  refine xU ?_;refine dC [6,7] ?_;refine xZ ?_;first|(simp[hs,ai];done)|(simp[hs,ai,List.map_set,ak];try rfl)
 intro h16;have h0:(bO l nm).2=0:=by simpa using h16
 have hf1:(bO l nm).1=cD l nm:=lJ h0;refine af ?_;refine xT ?_;refine xO ?_ (h:=by simp[ak];exact .mk);refine xC (Ex g ix gn) ?_;refine xH [0,1,5,9] ?_;refine ab (xU ?_);refine ay ?_;refine xQ [0,1,5,21] ?_ ?_
 ·intro h21;have hs:dg l nm ix gn=([],1):=by unfold dg;rw[if_neg (by simp[h0]),if_pos (by simpa using h21)]
  refine xU ?_;refine bU [6,7] ?_;refine xZ ?_;first|(simp[hs,ai];done)|(simp[hs,ai,List.map_set,ak];try rfl)
 intro h21;have hh:fZ ix gn=true:=by simpa using h21
 refine af ?_;refine xT ?_;refine ay ?_;refine xC (vn g l nm hr.h1) ?_;refine xH [0,1,5,10] ?_;refine ab (xU ?_);refine ay ?_;refine xQ [0,1,5,10,26] ?_ ?_
 ·intro i8;have N0:=vn g l ⟨#[]⟩ hr.h1;rw[show cD l ⟨#[]⟩=K by rw[hK];unfold gD;rw[if_pos (by simp at i8;omega)]]at N0;refine xY ?_;refine xO ?_;refine xC (N0) ?_;refine xH [0,1,5,10] ?_;refine ab (xU ?_);refine ay ?_;refine xQ [0,1,5,10,30] ?_ ?_
  ·intro fm;have hs:dg l nm ix gn=([],9):=by unfold dg;rw[if_neg (by simp[h0]),if_neg (by simp[hh]),if_pos (by simp at fm;omega)]
   refine xU ?_;refine bU [6,7] ?_;refine xZ ?_;first|(simp[hs,ai];done)|(simp[hs,ai,List.map_set,ak];try rfl)
  intro fm;obtain⟨k,hk,hkl⟩:=kn hr h0 (by simp at fm;omega);obtain rfl:K=(k:Int):=hK.trans hk;have hs:dg l nm ix gn=(l.set k ⟨nm,ix,gn⟩,0):=by unfold dg;rw[if_neg (by simp[h0]),if_neg (by simp[hh]),if_neg (by omega),hk];rfl
  refine af ?_;refine xT ?_;refine ay ?_;refine xO ?_ (h:=by simp[rows,q1,q2];exact .mk);refine xO ?_;refine xG [1,5,10,11] ?_;refine aT ?_;refine xO ?_ (h:=by simp[ak];exact .mk);refine aH ?_;refine xO ?_ (h:=by simp[ak,hkl];exact .mk);refine xO ?_ (h:=by simp[-List.getElem?_map,ao hkl,ak,br,dn,bJ,splice];exact .mk);refine xG [11] ?_;refine dC [6,7] ?_;refine xZ ?_;first|(simp[hs,ai];done)|(simp[hs,ai,List.map_set,ak];try rfl)
 intro i8;rw[show cD l nm=K by rw[hK];unfold gD;rw[if_neg (by simp at i8;omega)];exact hf1.symm];refine af fun _=>?_;refine ab (xU ?_);refine ay ?_;refine xQ [0,1,5,10,30] ?_ ?_
 ·intro fm;have hs:dg l nm ix gn=([],9):=by unfold dg;rw[if_neg (by simp[h0]),if_neg (by simp[hh]),if_pos (by simp at fm;omega)]
  refine xU ?_;refine bU [6,7] ?_;refine xZ ?_;first|(simp[hs,ai];done)|(simp[hs,ai,List.map_set,ak];try rfl)
 intro fm;obtain⟨k,hk,hkl⟩:=kn hr h0 (by simp at fm;omega);obtain rfl:K=(k:Int):=hK.trans hk;have hs:dg l nm ix gn=(l.set k ⟨nm,ix,gn⟩,0):=by unfold dg;rw[if_neg (by simp[h0]),if_neg (by simp[hh]),if_neg (by omega),hk];rfl
 refine af ?_;refine xT ?_;refine ay ?_;refine xO ?_ (h:=by simp[rows,q1,q2];exact .mk);refine xO ?_;refine xG [1,5,10,11] ?_;refine aT ?_;refine xO ?_ (h:=by simp[ak];exact .mk);refine aH ?_;refine xO ?_ (h:=by simp[ak,hkl];exact .mk);refine xO ?_ (h:=by simp[-List.getElem?_map,ao hkl,ak,br,dn,bJ,splice];exact .mk);refine xG [11] ?_;refine dC [6,7] ?_;refine xZ ?_;first|(simp[hs,ai];done)|(simp[hs,ai,List.map_set,ak];try rfl)
theorem EH(g:Gl)(l:List Root)(nm:ByteArray)(hr:dQ l):a9 Tryz.prog g 216 [rR l,vS nm] (.bK [.agg [vI (ef l nm).1,vI (ef l nm).2.1],vI (ef l nm).2.2]):=by
 refine xA Tryz.func216 fun B S=>?_
 refine xU ?_;refine ay ?_;refine xG [0,1,4] ?_;refine ay ?_;refine xC (BJ g l nm hr.h1) ?_;refine xH [0,1,4,6] ?_;refine ab (xU ?_);refine ay ?_;refine xQ [0,1,4,6,12] ?_ ?_
 ·intro h12;have hs:ef l nm=(0,0,(bO l nm).2):=by unfold ef;rw[if_pos (by simpa using h12)]
  refine xU ?_;refine aH ?_;refine xO ?_;refine aH ?_;refine xH [4,5] ?_;refine xZ ?_;simp[hs]
 intro h12;have h0:(bO l nm).2=0:=by simpa using h12
 have hf1:(bO l nm).1=cD l nm:=lJ h0;refine af ?_;refine xT ?_;refine ay ?_;refine xC (vn g l nm hr.h1) ?_;refine xH [0,4,7] ?_;refine ab (xU ?_);refine ay ?_;refine xQ [0,4,7,19] ?_ ?_
 ·intro h19;have hs:ef l nm=(0,0,11):=by unfold ef;rw[if_neg (by simp[h0]),if_pos (by simp at h19;omega)]
  refine xU ?_;iterate 2 (refine aH ?_)
  refine xH [4,5] ?_;refine xZ ?_;simp[hs]
 intro h19;obtain⟨k,hk,hkl⟩:=i6 hr h0 (by simp at h19;omega);rw[show cD l nm=(k:Int) by omega];have hs:ef l nm=((nth l k).ix,(nth l k).gen,0):=by unfold ef;rw[if_neg (by simp[h0]),if_neg (by simp at h19;omega),hk];rfl
 refine af ?_;refine xT ?_;refine ay ?_;refine xO ?_ (h:=by simp[ak,hkl];exact .mk);refine xO ?_;refine xO ?_ (h:=by simp[-List.getElem?_map,ao hkl,ak];exact .mk);refine aH ?_;refine xH [4,5] ?_;refine xZ ?_;simp[hs]
theorem EI(g:Gl)(l:List Root)(nm:ByteArray)(hr:dQ l):a9 Tryz.prog g 217 [rR l,vS nm] (.bK [oR (cJ l nm).1,vI (cJ l nm).2]):=by
 refine xA Tryz.func217 fun B S=>?_
 have q1:l.length*32≤140737488355328:=by have:=hr.h1;omega
 have q2:l.length≤140737488355328:=by have:=hr.h1;omega
 refine xU ?_;refine ay ?_;refine xG [0,1] ?_;refine ay ?_;refine xC (BJ g l nm hr.h1) ?_;refine xH [0,1,6] ?_;refine ab (xU ?_);refine ay ?_;refine xQ [0,1,6,13] ?_ ?_
 ·intro i7;have hs:cJ l nm=([],(bO l nm).2):=by unfold cJ;rw[if_pos (by simpa using i7)]
  refine xU ?_;refine dC [4,5] ?_;refine xZ ?_;first|(simp[hs,ai];done)|(simp[hs,ai,List.map_set,ak,fX];try rfl)
 intro i7;have h0:(bO l nm).2=0:=by simpa using i7
 have hf1:(bO l nm).1=cD l nm:=lJ h0;refine af ?_;refine xT ?_;refine ay ?_;refine xC (vn g l nm hr.h1) ?_;refine xH [0,7] ?_;refine ab (xU ?_);refine ay ?_;refine xQ [0,7,19] ?_ ?_
 ·intro h19;have hs:cJ l nm=([],11):=by unfold cJ;rw[if_neg (by simp[h0]),if_pos (by simp at h19;omega)]
  refine xU ?_;refine bU [4,5] ?_;refine xZ ?_;first|(simp[hs,ai];done)|(simp[hs,ai,List.map_set,ak,fX];try rfl)
 intro h19;obtain⟨k,hk,hkl⟩:=i6 hr h0 (by simp at h19;omega);rw[show cD l nm=(k:Int) by omega];have hs:cJ l nm=(l.set k fX,0):=by unfold cJ;rw[if_neg (by simp[h0]),if_neg (by simp at h19;omega),hk];rfl
 refine af ?_;refine xT ?_;refine ay ?_;refine xO ?_ (h:=by simp[rows,q1,q2];exact .mk);refine xO ?_;refine xG [7,8] ?_;refine ay ?_;refine aH ?_;refine xO ?_ (h:=by simp[ak,hkl];exact .mk);refine xO ?_ (h:=by simp[-List.getElem?_map,ao hkl,ak,br,dn,bJ,splice];exact .mk);refine xG [8] ?_;refine dC [4,5] ?_;refine xZ ?_;first|(simp[hs,ai];done)|(simp[hs,ai,List.map_set,ak,fX];try rfl)
theorem Jm(g:Gl)(a:dp)(ha:a.Ok)(hgd:a.data.length=a.aw.length)(ix gn:Int):a9 Tryz.prog g 181 [mz a,.agg [vI ix,vI gn]] (.v (.bool (cZ a ix gn))):=by
 refine xA Tryz.func181 fun B S=>?_
 simp only[mz,List.map,aO];refine xU ?_;refine dC [2,3] ?_;refine ab ?_;refine aS (by kernel_rfl) [] 4 [0,1,2,3,4,5,6,7,8,9,10,11,12,13,14,15,16,17,18,19,20,21,22,23,24,25,26,27,28,29,30,31,32] (by decide +kernel) ?_;refine bx ?_;iterate 6 refine xI ?_
 refine xP ?_;refine xB ?_;iterate 4 refine xI ?_
 refine bg rfl (by simp;exact .mk) rfl (by simp<;>first|omega|grind) (fun hb=>by simp at hb;simp[show 0≤ix∧ix<a.data.length from by omega];exact .mk) ?_;refine bg rfl (by simp;exact .mk) rfl (by simp<;>first|omega|grind) (fun hb=>by simp at hb;simp[-List.getElem?_map,ao (show ix.toNat<a.data.length by omega)];exact .mk) ?_;iterate 2 refine xI ?_
 refine xP ?_;refine xB ?_;iterate 4 refine xI ?_
 refine bg rfl (by simp;exact .mk) rfl (by simp<;>first|omega|grind) (fun hb=>by simp at hb;simp[show 0≤ix∧ix<a.aw.length from by omega];exact .mk) ?_;refine bg rfl (by simp;exact .mk) rfl (by simp<;>first|omega|grind) (fun hb=>by simp at hb;simp[-List.getElem?_map,ao (show ix.toNat<a.aw.length by omega)];exact .mk) ?_;iterate 3 refine xI ?_
 refine xP ?_;refine xB ?_;refine xF [4] ?_;refine xZ ?_;simp[cZ,Bool.and_assoc]
open Go.aN
theorem Jl(g:Gl)(a:dp)(ha:a.Ok):a9 Tryz.prog g 178 [mz a] (aJ a):=by
 refine xA Tryz.func178 fun B S=>?_
 simp only[mz,List.map,aO];have q1:=ha.h1;have q2:=ha.h2;have q3:=ha.h3;have e1:a.aw.length*8≤140737488355328:=by omega
 have e2:a.aw.length≤140737488355328:=by omega
 have e3:a.roots.length*32≤140737488355328:=by omega
 have e4:a.roots.length≤140737488355328:=by omega
 refine xU ?_;refine bU [1,2] ?_;refine ab ?_;refine qF (hard:=[]) [0,3,4,6,9,7] (aR (by decide)) (by kernel_rfl) 4 [1,2,5,0,3,4,6,9,7,8,10] [[1,2,5,0,3,4,6,7,8,9,10],[1,2,5,0,3,4,9,6,7,8,10],[1,2,5,0,3,6,4,9,7,8,10],[1,2,5,0,3,6,4,7,8,9,10],[1,2,5,0,3,6,9,4,7,8,10],[1,2,5,0,3,9,4,6,7,8,10],[1,2,5,0,3,9,6,4,7,8,10],[1,2,5,0,4,3,6,9,7,8,10],[1,2,5,0,4,3,6,7,8,9,10],[1,2,5,0,4,3,9,6,7,8,10],[1,2,5,0,4,6,3,9,7,8,10],[1,2,5,0,4,6,3,7,8,9,10],[1,2,5,0,4,6,9,3,7,8,10],[1,2,5,0,4,9,3,6,7,8,10],[1,2,5,0,4,9,6,3,7,8,10],[1,2,5,0,6,3,4,9,7,8,10],[1,2,5,0,6,3,4,7,8,9,10],[1,2,5,0,6,3,9,4,7,8,10],[1,2,5,0,6,4,3,9,7,8,10],[1,2,5,0,6,4,3,7,8,9,10],[1,2,5,0,6,4,9,3,7,8,10],[1,2,5,0,6,9,3,4,7,8,10],[1,2,5,0,6,9,4,3,7,8,10],[1,2,5,0,9,3,4,6,7,8,10],[1,2,5,0,9,3,6,4,7,8,10],[1,2,5,0,9,4,3,6,7,8,10],[1,2,5,0,9,4,6,3,7,8,10],[1,2,5,0,9,6,3,4,7,8,10],[1,2,5,0,9,6,4,3,7,8,10],[1,2,5,4,0,3,6,9,7,8,10],[1,2,5,4,0,3,6,7,8,9,10],[1,2,5,4,0,3,9,6,7,8,10],[1,2,5,4,0,6,3,9,7,8,10],[1,2,5,4,0,6,3,7,8,9,10],[1,2,5,4,0,6,9,3,7,8,10],[1,2,5,4,0,9,3,6,7,8,10],[1,2,5,4,0,9,6,3,7,8,10],[1,2,5,4,6,0,3,9,7,8,10],[1,2,5,4,6,0,3,7,8,9,10],[1,2,5,4,6,0,9,3,7,8,10],[1,2,5,4,6,9,0,3,7,8,10],[1,2,5,4,9,0,3,6,7,8,10],[1,2,5,4,9,0,6,3,7,8,10],[1,2,5,4,9,6,0,3,7,8,10],[1,2,5,6,0,3,4,9,7,8,10],[1,2,5,6,0,3,4,7,8,9,10],[1,2,5,6,0,3,9,4,7,8,10],[1,2,5,6,0,4,3,9,7,8,10],[1,2,5,6,0,4,3,7,8,9,10],[1,2,5,6,0,4,9,3,7,8,10],[1,2,5,6,0,9,3,4,7,8,10],[1,2,5,6,0,9,4,3,7,8,10],[1,2,5,6,4,0,3,9,7,8,10],[1,2,5,6,4,0,3,7,8,9,10],[1,2,5,6,4,0,9,3,7,8,10],[1,2,5,6,4,9,0,3,7,8,10],[1,2,5,6,9,0,3,4,7,8,10],[1,2,5,6,9,0,4,3,7,8,10],[1,2,5,6,9,4,0,3,7,8,10],[1,2,5,9,0,3,4,6,7,8,10],[1,2,5,9,0,3,6,4,7,8,10],[1,2,5,9,0,4,3,6,7,8,10],[1,2,5,9,0,4,6,3,7,8,10],[1,2,5,9,0,6,3,4,7,8,10],[1,2,5,9,0,6,4,3,7,8,10],[1,2,5,9,4,0,3,6,7,8,10],[1,2,5,9,4,0,6,3,7,8,10],[1,2,5,9,4,6,0,3,7,8,10],[1,2,5,9,6,0,3,4,7,8,10],[1,2,5,9,6,0,4,3,7,8,10],[1,2,5,9,6,4,0,3,7,8,10]] (by decide +kernel) ?_;refine xO ?_;refine xO ?_ (h:=by simp[ak];exact .mk);refine ay ?_;refine xO ?_ (h:=by simp[rows,e1,e2];exact .mk);refine xO ?_;refine xO ?_ (h:=by simp[ak];exact .mk);refine xO ?_;refine xO ?_ (h:=by simp[rows,e3,e4];exact .mk);iterate 2 (refine aH ?_)
 refine xE [1,2,3] ?_;refine⟨_,rfl,⟨?_,?_,?_,?_,?_,?_,?_,?_,?_,?_,?_,?_,?_,?_,?_,?_,?_,?_,?_,?_,?_,?_,?_,?_,?_,?_,?_,?_,?_,?_,?_,?_,?_,?_,?_,?_,?_,?_,?_,?_,?_,?_,?_,?_,?_,?_,?_,?_,?_,?_,?_,?_,?_,?_,?_,?_,?_,?_,?_,?_,?_,?_,?_,?_,?_,?_,?_,?_,?_,?_,?_,trivial⟩,?_⟩
 iterate 71
  ·iterate 11 refine xO ?_ (h:=by simp[rows,e1,e2,e3,e4,splice];exact .mk)
   refine xE [1,2,3] ?_
   first | exact Weak.perm [0,1,2,3,4,6,5] [0,1,2,3,4,6,5] rfl rfl rfl
         | exact Weak.perm [0,1,2,3,4,5,6] [0,1,2,3,4,5,6] rfl rfl rfl
         | exact Weak.perm [0,1,2,3,5,4,6] [0,1,2,3,5,4,6] rfl rfl rfl
         | exact Weak.perm [0,1,2,4,3,5,6] [0,1,2,4,3,5,6] rfl rfl rfl
         | exact Weak.perm [0,1,2,4,3,6,5] [0,1,2,4,3,6,5] rfl rfl rfl
         | exact Weak.perm [0,1,2,4,5,3,6] [0,1,2,5,3,4,6] rfl rfl rfl
         | exact Weak.perm [0,1,2,5,3,4,6] [0,1,2,4,5,3,6] rfl rfl rfl
         | exact Weak.perm [0,1,2,5,4,3,6] [0,1,2,5,4,3,6] rfl rfl rfl
         | exact Weak.perm [0,1,4,2,3,5,6] [0,1,3,4,2,5,6] rfl rfl rfl
         | exact Weak.perm [0,1,4,2,3,6,5] [0,1,3,4,2,6,5] rfl rfl rfl
         | exact Weak.perm [0,1,4,2,5,3,6] [0,1,3,5,2,4,6] rfl rfl rfl
         | exact Weak.perm [0,1,4,5,2,3,6] [0,1,4,5,2,3,6] rfl rfl rfl
         | exact Weak.perm [0,1,5,2,3,4,6] [0,1,3,4,5,2,6] rfl rfl rfl
         | exact Weak.perm [0,1,5,2,4,3,6] [0,1,3,5,4,2,6] rfl rfl rfl
         | exact Weak.perm [0,1,5,4,2,3,6] [0,1,4,5,3,2,6] rfl rfl rfl
 rintro -;refine ab (xU ?_);refine xH [1,2,3,4] ?_;refine ag (aB (fun m σ o=>∃i:Nat,m=a.data.length-i∧i≤a.data.length∧σ=slots [(1,.ptr 0 0 0),(2,.ptr 1 0 0),(3,.ptr 5 0 0),(4,.d (vI i))]∧o=[.var 67 [.d (rI a.aw),.d (fL a.data),.d (rR a.roots)],.var 67 [.d (.v (.slice none 0 0)),.d (.v (.slice none 0 0)),.d (.v (.slice none 0 0))],.dead,.row 1 (a.aw.map vI),.dead,.var 67 [.hdr 3 0 a.aw.length,.hdr 7 0 i,.hdr 6 0 a.roots.length],.row 3 (a.roots.map ak),.row 1 ((a.data.take i).map oB)]) a.data.length (Weak.kR 5 1 1 rfl rfl) ⟨0,by simp,by simp,rfl,rfl⟩ ?_);rintro m σ o ⟨i,rfl,hi,rfl,rfl⟩ _;refine ab (xU ?_);refine ay ?_;refine xO ?_ (h:=by simp[ak];exact .mk);refine ay ?_;refine xQ [1,2,3,4,18] ?_ ?_
 ·intro h18;have hi2:i<a.data.length:=by simpa using h18
  have hb:=ha.h4 i hi2;have f1:(nth a.data i).length≤140737488355328:=by omega
  have f2:(i+1)*24≤140737488355328:=by omega
  have f3:i≤140737488355327:=by omega
  have f5:(D.row M.own 1 ((nth a.data i).map vB)).cE=false:=by first|rfl|simp[kg]
  have f4:min i a.data.length=i:=by omega
  refine af fun _=>?_;refine ab (ag ?_);refine iP (hard:=[]) [1,2,8,9] (aR (by decide)) (by kernel_rfl) 4 [[0,1,3,4,5,6,7,2,8,9,10,11,12],[0,3,4,5,6,7,2,1,8,9,10,11,12],[0,3,4,5,6,7,2,8,1,9,10,11,12],[0,3,4,5,6,7,2,8,9,1,10,11,12]] (by decide +kernel) ⟨?_,?_,?_,?_,trivial⟩
  ·skip
   refine xO ?_;refine xO ?_ (h:=by simp[ak];exact .mk);refine xO ?_;refine xO ?_ (h:=by simp[ak];exact .mk);refine xO ?_;refine xO ?_ (h:=by simp[ak,hi2];exact .mk);refine xO ?_ (h:=by simp[-List.getElem?_map,ao hi2];exact .mk);refine xO ?_;refine xO ?_ (h:=by simp[rows,f1];exact .mk);refine xO ?_;refine xO ?_ (h:=by simp[rows,f5,f2,f3,f4];exact .mk);refine xO ?_;refine aH ?_;refine xF [1,2,3,4] ?_;refine xY ?_;refine aT ?_;refine xE [1,2,3,4] ?_;refine ah [1,2,3,4] ?_;refine aD [1,2,3,4] rfl ?_;refine aC 7 11 1 (by decide) (by simp) (by decide) rfl rfl ?_;refine aq 8 [1,2,3,4] (by decide) (by rfl) (by rfl) ?_;refine ae (m':=a.data.length-(i+1)) (by omega) ⟨i+1,rfl,by omega,?_,?_⟩
   ·rw[wrap64 (by omega) (by omega)];rfl
   rw[take_succ hi2];simp;try rfl
  ·skip
   refine ay ?_;refine xO ?_ (h:=by simp[ak];exact .mk);refine xO ?_;refine xO ?_ (h:=by simp[ak,hi2];exact .mk);refine xO ?_ (h:=by simp[-List.getElem?_map,ao hi2];exact .mk);refine xO ?_;refine xO ?_ (h:=by simp[ak];exact .mk);refine xO ?_ (h:=by simp[rows,f1];exact .mk);refine xO ?_;refine xO ?_ (h:=by simp[rows,f5,f2,f3,f4];exact .mk);refine xO ?_;refine aH ?_;refine xF [1,2,3,4] ?_;refine xY ?_;refine aT ?_;refine xE [1,2,3,4] ?_;refine ah [1,2,3,4] ?_;refine aD [1,2,3,4] rfl ?_;refine aC 7 11 1 (by decide) (by simp) (by decide) rfl rfl ?_;refine aq 8 [1,2,3,4] (by decide) (by rfl) (by rfl) ?_;refine ae (m':=a.data.length-(i+1)) (by omega) ⟨i+1,rfl,by omega,?_,?_⟩
   ·rw[wrap64 (by omega) (by omega)];rfl
   rw[take_succ hi2];simp;try rfl
  ·skip
   refine ay ?_;refine xO ?_ (h:=by simp[ak];exact .mk);refine xO ?_;refine xO ?_ (h:=by simp[ak,hi2];exact .mk);refine xO ?_ (h:=by simp[-List.getElem?_map,ao hi2];exact .mk);refine xO ?_;refine xO ?_ (h:=by simp[rows,f1];exact .mk);refine xO ?_ (h:=by simp[ak];exact .mk);refine xO ?_;refine xO ?_ (h:=by simp[rows,f5,f2,f3,f4];exact .mk);refine xO ?_;refine aH ?_;refine xF [1,2,3,4] ?_;refine xY ?_;refine aT ?_;refine xE [1,2,3,4] ?_;refine ah [1,2,3,4] ?_;refine aD [1,2,3,4] rfl ?_;refine aC 7 11 1 (by decide) (by simp) (by decide) rfl rfl ?_;refine aq 8 [1,2,3,4] (by decide) (by rfl) (by rfl) ?_;refine ae (m':=a.data.length-(i+1)) (by omega) ⟨i+1,rfl,by omega,?_,?_⟩
   ·rw[wrap64 (by omega) (by omega)];rfl
   rw[take_succ hi2];simp;try rfl
  skip
  refine ay ?_;refine xO ?_ (h:=by simp[ak];exact .mk);refine xO ?_;refine xO ?_ (h:=by simp[ak,hi2];exact .mk);refine xO ?_ (h:=by simp[-List.getElem?_map,ao hi2];exact .mk);refine xO ?_;refine xO ?_ (h:=by simp[rows,f1];exact .mk);refine xO ?_;refine xO ?_ (h:=by simp[ak];exact .mk);refine xO ?_ (h:=by simp[rows,f5,f2,f3,f4];exact .mk);refine xO ?_;refine aH ?_;refine xF [1,2,3,4] ?_;refine xY ?_;refine aT ?_;refine xE [1,2,3,4] ?_;refine ah [1,2,3,4] ?_;refine aD [1,2,3,4] rfl ?_;refine aC 7 11 1 (by decide) (by simp) (by decide) rfl rfl ?_;refine aq 8 [1,2,3,4] (by decide) (by rfl) (by rfl) ?_;refine ae (m':=a.data.length-(i+1)) (by omega) ⟨i+1,rfl,by omega,?_,?_⟩
  ·rw[wrap64 (by omega) (by omega)];rfl
  rw[take_succ hi2];simp;try rfl
 intro h18;obtain rfl:i=a.data.length:=by simp at h18;omega
 rw[show List.take a.data.length (a.data.map oB)=a.data.map oB by rw[List.take_of_length_le (by simp)]];refine aP (xT ?_);refine xO ?_ (h:=by simp[ak];exact .mk);refine aH ?_;refine xF [2] ?_;refine ar (aG (by simp[Tryz.f178];exact .mk) (by simp;exact .mk) ?_ (by simp[aJ]));simp[Tryz.f178,aJ,ai]
open Go.aN
theorem KE(g:Gl)(o0 o1 o2 o3 o7:aN.Obj)(a:dp)(ho:bE 8 [o0,o1,o2,o3,o7]=true)(ha:a.Ok)(hgd:a.data.length=a.aw.length)(n:Int)(k:Nat)(hx:gH a=some k)(hz:b7 n=true):∀B S,a7 Tryz.prog g B S ⟨8,true⟩ 179 [.agg [.hdr 4 0 a.aw.length,.hdr 5 0 a.data.length,.hdr 6 0 a.roots.length],.d (vI n)] [o0,o1,o2,o3,.row 1 (a.aw.map vI),.row 1 (a.data.map oB),.row 3 (a.roots.map ak),o7]
    (fun x q=>x = .bK [.agg [.hdr 4 0 a.aw.length,.hdr 5 0 a.data.length,.hdr 6 0 a.roots.length],.agg [.d (vI k),.d (vI (nth a.aw k)),.d (.v (.slice none 0 0))],.d (vI 0)]∧q=[o0,o1,o2,o3,.row 1 (a.aw.map vI),.row 1 ((a.data.set k (List.replicate n.toNat 0)).map oB),.row 3 (a.roots.map ak),o7]):=by
 refine aL Tryz.func179 rfl (Nat.le_of_ble_eq_true rfl) fun B S=>?_
 obtain⟨z0,z1,z2,z3,z7⟩:o0.lt 8=true∧o1.lt 8=true∧o2.lt 8=true∧o3.lt 8=true∧o7.lt 8=true:=by simpa using ho
 have q1:=ha.h1;refine xU ?_;refine bx ?_;refine xF [1,2,4,5] ?_;refine ab (xU ?_);refine aT ?_;iterate 2 refine xI ?_
 refine xP ?_;refine xQ [1,2,4,5,13] ?_ ?_
 ·intro i7;exfalso;simp[b7]at hz i7;omega
 intro i7;have hs:b7 n=true:=by simp at i7;simp[b7];omega
 have hn:1≤n∧n≤2048:=by simpa [b7]using hs
 have e1:0≤n:=by omega
 have e2:n≤140737488355328:=by omega
 refine af fun _=>?_;refine ab (xU ?_);refine xH [1,2,4,5,7] ?_;refine ag (aB (fun m σ q=>∃i:Nat,m=a.aw.length-i∧i≤a.aw.length∧(∀j,j<i→fJ a j=false)∧σ=slots [(1,.d (vI n)),(2,.ptr 8 0 0),(4,.ptr 9 0 0),(5,.ptr 10 0 0),(7,.d (vI i))]∧q=[o0,o1,o2,o3,.row 1 (a.aw.map vI),.row 1 (a.data.map oB),.row 3 (a.roots.map ak),o7,.var 67 [.hdr 4 0 a.aw.length,.hdr 5 0 a.data.length,.hdr 6 0 a.roots.length],.var 67 [.d (.v (.slice none 0 0)),.d (.v (.slice none 0 0)),.d (.v (.slice none 0 0))],.var 77 [.d (vI 0),.d (vI 0),.d (.v (.slice none 0 0))]]) a.aw.length .refl ⟨0,by simp,by simp,by simp,rfl,rfl⟩ ?_);rintro m σ q ⟨i,rfl,hi,hinv,rfl,rfl⟩ _;refine ab (xU ?_);refine cW ?_;refine xQ [1,2,4,5,7,20] ?_ ?_
 ·intro h20;have hi2:i<a.aw.length:=by simpa using h20
  have hi3:i<a.data.length:=by omega
  refine af fun _=>?_;refine ab (ag ?_);refine xU ?_;refine aT ?_;refine xO ?_ (h:=by simp[hi3];exact .mk);refine xO ?_ (h:=by simp[-List.getElem?_map,ao hi3];exact .mk);refine aT ?_;iterate 3 refine xI ?_
  refine xI ?_ (h:=fun hb=>by simp[hi2];exact .mk);refine xI ?_ (h:=fun hb=>by simp[-List.getElem?_map,ao hi2];exact .mk);refine xI ?_;refine xP ?_;refine xQ [1,2,4,5,7,37] ?_ ?_
  ·intro h37;obtain rfl:k=i:=by have:=kE hi2 hinv (by simp[fJ]at *;exact h37);rw[hx]at this;cases this;rfl
   refine ab ?_;refine aS (by kernel_rfl) [] 4 [0,1,2,3,4,5,6] (by decide +kernel) ?_;refine bx ?_;refine xO ?_ (h:=by simp[e1,e2];exact .mk);refine xO ?_ (h:=by simp[hi3];exact .mk);refine xO ?_ (h:=by simp[-List.getElem?_map,ao hi3,br,dn,bJ,splice];exact .mk);refine xF [2,4,5,7] ?_;refine ab ?_;refine iP (hard:=[]) [3,5,6,9] (aR (by decide)) (by kernel_rfl) 4 [[0,1,2,3,4,5,6,7,8,9,10,11],[0,1,2,3,4,5,9,6,7,8,10,11],[0,1,2,3,4,9,5,6,7,8,10,11],[0,1,2,4,9,3,5,6,7,8,10,11]] (by decide +kernel) ⟨?_,?_,?_,?_,trivial⟩
   ·skip
    refine cW ?_;refine xO ?_ (h:=by simp[hi2];exact .mk);refine xO ?_ (h:=by simp[-List.getElem?_map,ao hi2];exact .mk);iterate 4 (refine aH ?_)
    refine xH [4,5,6] ?_;refine ar (aK 8 (by simp[Tryz.f179];exact .mk) ?_ ?_ (by simp) (by first|rfl|simp) (by simp[z0,z1,z2,z3,z7]))
    ·simp
    simp[List.map_set,ai];try rfl
   ·skip
    refine cW ?_;refine xO ?_ (h:=by simp[hi2];exact .mk);refine aH ?_;refine xO ?_ (h:=by simp[-List.getElem?_map,ao hi2];exact .mk);iterate 3 (refine aH ?_)
    refine xH [4,5,6] ?_;refine ar (aK 8 (by simp[Tryz.f179];exact .mk) ?_ ?_ (by simp) (by first|rfl|simp) (by simp[z0,z1,z2,z3,z7]))
    ·simp
    simp[List.map_set,ai];try rfl
   ·skip
    refine cW ?_;refine aH ?_;refine xO ?_ (h:=by simp[hi2];exact .mk);refine xO ?_ (h:=by simp[-List.getElem?_map,ao hi2];exact .mk);iterate 3 (refine aH ?_)
    refine xH [4,5,6] ?_;refine ar (aK 8 (by simp[Tryz.f179];exact .mk) ?_ ?_ (by simp) (by first|rfl|simp) (by simp[z0,z1,z2,z3,z7]))
    ·simp
    simp[List.map_set,ai];try rfl
   skip
   refine bx ?_;refine aH ?_;refine xO ?_;refine xO ?_ (h:=by simp[hi2];exact .mk);refine xO ?_ (h:=by simp[-List.getElem?_map,ao hi2];exact .mk);iterate 3 (refine aH ?_)
   refine xH [4,5,6] ?_;refine ar (aK 8 (by simp[Tryz.f179];exact .mk) ?_ ?_ (by simp) (by first|rfl|simp) (by simp[z0,z1,z2,z3,z7]))
   ·simp
   simp[List.map_set,ai];try rfl
  intro h37;refine af fun _=>?_;refine xY ?_;refine aT ?_;refine xE [1,2,4,5,7] ?_;refine ah [1,2,4,5,7] ?_;refine ae (m':=a.aw.length-(i+1)) (by omega) ⟨i+1,rfl,by omega,?_,?_,rfl⟩
  ·intro j hj;rcases Nat.lt_succ_iff_lt_or_eq.1 hj with hj|rfl
   ·exact hinv j hj
   simp[fJ]at *;exact h37
  rw[wrap64 (by omega) (by omega)];rfl
 intro h20;exfalso;have:=iR (a:=a) (fun j hj=>hinv j (by simp at h20;omega));rw[this]at hx;cases hx
theorem GF(g:Gl)(o0 o1 o2 o3 o7:aN.Obj)(a:dp)(ho:bE 8 [o0,o1,o2,o3,o7]=true)(ha:a.Ok)(hgd:a.data.length=a.aw.length)(n:Int)(he:(cf a n).e≠0):∀B S,a7 Tryz.prog g B S ⟨8,true⟩ 179 [.agg [.hdr 4 0 a.aw.length,.hdr 5 0 a.data.length,.hdr 6 0 a.roots.length],.d (vI n)] [o0,o1,o2,o3,.row 1 (a.aw.map vI),.row 1 (a.data.map oB),.row 3 (a.roots.map ak),o7]
    (fun x q=>x = .bK [.agg [.d (.v (.slice none 0 0)),.d (.v (.slice none 0 0)),.d (.v (.slice none 0 0))],.agg [.d (vI 0),.d (vI 0),.d (.v (.slice none 0 0))],.d (vI (cf a n).e)]∧q=[o0,o1,o2,o3,.row 1 (a.aw.map vI),.row 1 (a.data.map oB),.row 3 (a.roots.map ak),o7]):=by
 refine aL Tryz.func179 rfl (Nat.le_of_ble_eq_true rfl) fun B S=>?_
 obtain⟨z0,z1,z2,z3,z7⟩:o0.lt 8=true∧o1.lt 8=true∧o2.lt 8=true∧o3.lt 8=true∧o7.lt 8=true:=by simpa using ho
 have q1:=ha.h1;refine xU ?_;refine bx ?_;refine xF [1,2,4,5] ?_;refine ab (xU ?_);refine aT ?_;iterate 2 refine xI ?_
 refine xP ?_;refine xQ [1,2,4,5,13] ?_ ?_
 ·intro i7;have hz:b7 n=false:=by simp at i7;simp[b7];omega
  have hr:(cf a n).e=1:=by simp[cf,hz]
  refine xU ?_;iterate 4 (refine aH ?_)
  refine xH [4,5,6] ?_;refine ar (aK 8 (by simp[Tryz.f179];exact .mk) ?_ ?_ (by simp) (by first|rfl|simp) (by simp[z0,z1,z2,z3,z7]))
  ·simp[hr]
  simp
 intro i7;have hs:b7 n=true:=by simp at i7;simp[b7];omega
 have hn:1≤n∧n≤2048:=by simpa [b7]using hs
 have e1:0≤n:=by omega
 have e2:n≤140737488355328:=by omega
 refine af fun _=>?_;refine ab (xU ?_);refine xH [1,2,4,5,7] ?_;refine ag (aB (fun m σ q=>∃i:Nat,m=a.aw.length-i∧i≤a.aw.length∧(∀j,j<i→fJ a j=false)∧σ=slots [(1,.d (vI n)),(2,.ptr 8 0 0),(4,.ptr 9 0 0),(5,.ptr 10 0 0),(7,.d (vI i))]∧q=[o0,o1,o2,o3,.row 1 (a.aw.map vI),.row 1 (a.data.map oB),.row 3 (a.roots.map ak),o7,.var 67 [.hdr 4 0 a.aw.length,.hdr 5 0 a.data.length,.hdr 6 0 a.roots.length],.var 67 [.d (.v (.slice none 0 0)),.d (.v (.slice none 0 0)),.d (.v (.slice none 0 0))],.var 77 [.d (vI 0),.d (vI 0),.d (.v (.slice none 0 0))]]) a.aw.length .refl ⟨0,by simp,by simp,by simp,rfl,rfl⟩ ?_);rintro m σ q ⟨i,rfl,hi,hinv,rfl,rfl⟩ _;refine ab (xU ?_);refine cW ?_;refine xQ [1,2,4,5,7,20] ?_ ?_
 ·intro h20;have hi2:i<a.aw.length:=by simpa using h20
  have hi3:i<a.data.length:=by omega
  refine af fun _=>?_;refine ab (ag ?_);refine xU ?_;refine aT ?_;refine xO ?_ (h:=by simp[hi3];exact .mk);refine xO ?_ (h:=by simp[-List.getElem?_map,ao hi3];exact .mk);refine aT ?_;iterate 3 refine xI ?_
  refine xI ?_ (h:=fun hb=>by simp[hi2];exact .mk);refine xI ?_ (h:=fun hb=>by simp[-List.getElem?_map,ao hi2];exact .mk);refine xI ?_;refine xP ?_;refine xQ [1,2,4,5,7,37] ?_ ?_
  ·intro h37;exfalso;have:=kE hi2 hinv (by simp[fJ]at *;exact h37);exact he (by simp[cf,hs,this])
  intro h37;refine af fun _=>?_;refine xY ?_;refine aT ?_;refine xE [1,2,4,5,7] ?_;refine ah [1,2,4,5,7] ?_;refine ae (m':=a.aw.length-(i+1)) (by omega) ⟨i+1,rfl,by omega,?_,?_,rfl⟩
  ·intro j hj;rcases Nat.lt_succ_iff_lt_or_eq.1 hj with hj|rfl
   ·exact hinv j hj
   simp[fJ]at *;exact h37
  rw[wrap64 (by omega) (by omega)];rfl
 intro h20;have:=iR (a:=a) (fun j hj=>hinv j (by simp at h20;omega));have hr:(cf a n).e=9:=by simp[cf,hs,this]
 refine aP (xT ?_);iterate 4 (refine aH ?_)
 refine xH [4,5,6] ?_;refine ar (aK 8 (by simp[Tryz.f179];exact .mk) ?_ ?_ (by simp) (by first|rfl|simp) (by simp[z0,z1,z2,z3,z7]))
 ·simp[hr]
 simp
open Go.aN
attribute [simp] Tryz.f180
theorem GI(g:Gl)(o0 o1 o2 o3 o7:aN.Obj)(a:dp)(ho:bE 8 [o0,o1,o2,o3,o7]=true)(ha:a.Ok)(hgd:a.data.length=a.aw.length)(o:Op)(hact:o.act=6)(hr:dQ a.roots)(he:(dg a.roots o.name o.ix o.gen).2=0):∀B S,a7 Tryz.prog g B S ⟨8,true⟩ 180 [.agg [.hdr 4 0 a.aw.length,.hdr 5 0 a.data.length,.hdr 6 0 a.roots.length],.agg [.d (vI o.act),.d (vI o.ix),.d (vI o.gen),.d (vI o.n),.d (vI o.off),.d (rB o.b),.d (vS o.name)]] [o0,o1,o2,o3,.row 1 (a.aw.map vI),.row 1 (a.data.map oB),.row 3 (a.roots.map ak),o7]
    (fun x q=>x = .bK [.agg [.hdr 4 0 a.aw.length,.hdr 5 0 a.data.length,.hdr 13 0 (dg a.roots o.name o.ix o.gen).1.length],.agg [.d (vI 0),.d (vI 0),.d (.v (.slice none 0 0))],.d (vI 0)]∧q=[o0,o1,o2,o3,.row 1 (a.aw.map vI),.row 1 (a.data.map oB),.row 3 (a.roots.map ak),o7,.var 67 [.hdr 4 0 a.aw.length,.hdr 5 0 a.data.length,.hdr 13 0 (dg a.roots o.name o.ix o.gen).1.length],.var 73 [.d (vI o.act),.d (vI o.ix),.d (vI o.gen),.d (vI o.n),.d (vI o.off),.d (rB o.b),.d (vS o.name)],.var 67 [.hdr 4 0 a.aw.length,.hdr 5 0 a.data.length,.hdr 13 0 (dg a.roots o.name o.ix o.gen).1.length],.var 77 [.d (vI 0),.d (vI 0),.d (.v (.slice none 0 0))],.var 77 [.d (vI 0),.d (vI 0),.d (.v (.slice none 0 0))],.row 3 ((dg a.roots o.name o.ix o.gen).1.map ak)]):=by
 refine aL Tryz.func180 rfl (Nat.le_of_ble_eq_true rfl) fun B S=>?_
 obtain⟨z0,z1,z2,z3,z7⟩:o0.lt 8=true∧o1.lt 8=true∧o2.lt 8=true∧o3.lt 8=true∧o7.lt 8=true:=by simpa using ho
 refine xU ?_;refine cW ?_;refine xG [2,3,4,5] ?_;refine xO ?_;refine xG [2,3,4,5,7] ?_;refine xO ?_;refine xO ?_ (h:=by simp[ak];exact .mk);refine xO ?_;refine xG [2,3,4,5,7,8] ?_;refine xH [2,3,4,5,7,8,9] ?_;refine ab (xU ?_);refine xO ?_;refine xO ?_ (h:=by simp[ak];exact .mk);refine xF [2,3,4,5,7,8,9,13] ?_;refine ag (xU ?_);refine ay ?_;refine xQ [2,3,4,5,7,8,9,13,14] ?_ ?_
 ·intro fe;refine xY ?_;refine xO ?_;refine xO ?_ (h:=by simp[ak];exact .mk);refine xO ?_;refine xO ?_ (h:=by simp[ak];exact .mk);refine xO ?_;refine xO ?_ (h:=by simp[ak];exact .mk);refine xC (EG g a.roots o.name o.ix o.gen hr) ?_ (he:=by simp[au,Function.comp_def];exact .mk);refine cW ?_;refine xF [2,4,5,7,8,9] ?_;refine ab (xU ?_);refine ay ?_;refine xQ [2,4,5,7,8,9,48] ?_ ?_
  ·intro h48;exfalso;simp at h48;exact absurd he h48
  intro h48;refine af ?_;refine xT ?_;refine ay ?_;refine aH ?_;refine xF [2,4,5,7] ?_;refine ab ?_;refine il (hard:=[]) [1,2] (aR (by decide)) (by kernel_rfl) 4 [[0,1,2,3,4],[0,2,1,3,4]] (by decide +kernel) ⟨?_,?_,trivial⟩
  ·skip
   iterate 2 (refine xO ?_ (h:=by simp[ak];exact .mk))
   iterate 2 (refine aH ?_)
   refine xH [4,5,6] ?_;refine ar (al (by simp;exact .mk) ?_ ?_)
   ·simp
   simp
  skip
  refine xO ?_ (h:=by simp[ak];exact .mk);refine aH ?_;refine xO ?_ (h:=by simp[ak];exact .mk);refine aH ?_;refine xH [4,5,6] ?_;refine ar (al (by simp;exact .mk) ?_ ?_)
  ·simp
  simp
 intro fe;simp[hact]at fe
theorem DT(g:Gl)(o0 o1 o2 o3 o7:aN.Obj)(a:dp)(ho:bE 8 [o0,o1,o2,o3,o7]=true)(ha:a.Ok)(hgd:a.data.length=a.aw.length)(o:Op)(hact:o.act=6)(hr:dQ a.roots)(he:(dg a.roots o.name o.ix o.gen).2≠0):∀B S,a7 Tryz.prog g B S ⟨8,true⟩ 180 [.agg [.hdr 4 0 a.aw.length,.hdr 5 0 a.data.length,.hdr 6 0 a.roots.length],.agg [.d (vI o.act),.d (vI o.ix),.d (vI o.gen),.d (vI o.n),.d (vI o.off),.d (rB o.b),.d (vS o.name)]] [o0,o1,o2,o3,.row 1 (a.aw.map vI),.row 1 (a.data.map oB),.row 3 (a.roots.map ak),o7]
    (fun x q=>x = .bK [.agg [.d (.v (.slice none 0 0)),.d (.v (.slice none 0 0)),.d (.v (.slice none 0 0))],.agg [.d (vI 0),.d (vI 0),.d (.v (.slice none 0 0))],.d (vI (dg a.roots o.name o.ix o.gen).2)]∧q=[o0,o1,o2,o3,.row 1 (a.aw.map vI),.row 1 (a.data.map oB),.row 3 (a.roots.map ak),o7]):=by
 refine aL Tryz.func180 rfl (Nat.le_of_ble_eq_true rfl) fun B S=>?_
 obtain⟨z0,z1,z2,z3,z7⟩:o0.lt 8=true∧o1.lt 8=true∧o2.lt 8=true∧o3.lt 8=true∧o7.lt 8=true:=by simpa using ho
 refine xU ?_;refine cW ?_;refine xG [2,3,4,5] ?_;refine xO ?_;refine xG [2,3,4,5,7] ?_;refine xO ?_;refine xO ?_ (h:=by simp[ak];exact .mk);refine xO ?_;refine xG [2,3,4,5,7,8] ?_;refine xH [2,3,4,5,7,8,9] ?_;refine ab (xU ?_);refine xO ?_;refine xO ?_ (h:=by simp[ak];exact .mk);refine xF [2,3,4,5,7,8,9,13] ?_;refine ag (xU ?_);refine ay ?_;refine xQ [2,3,4,5,7,8,9,13,14] ?_ ?_
 ·intro fe;refine xY ?_;refine xO ?_;refine xO ?_ (h:=by simp[ak];exact .mk);refine xO ?_;refine xO ?_ (h:=by simp[ak];exact .mk);refine xO ?_;refine xO ?_ (h:=by simp[ak];exact .mk);refine xC (EG g a.roots o.name o.ix o.gen hr) ?_ (he:=by simp[au,Function.comp_def];exact .mk);refine cW ?_;refine xF [2,4,5,7,8,9] ?_;refine ab (xU ?_);refine ay ?_;refine xQ [2,4,5,7,8,9,48] ?_ ?_
  ·intro h48;refine xU ?_;iterate 2 (refine aH ?_)
   refine xO ?_;iterate 2 (refine aH ?_)
   refine xH [4,5,6] ?_;refine ar (aK 8 (by simp;exact .mk) ?_ ?_ (by simp) (by first|rfl|simp) (by simp[z0,z1,z2,z3,z7]))
   ·simp[*]
   simp
  intro h48;exfalso;simp at h48;exact he h48
 intro fe;simp[hact]at fe
theorem GH(g:Gl)(o0 o1 o2 o3 o7:aN.Obj)(a:dp)(ho:bE 8 [o0,o1,o2,o3,o7]=true)(ha:a.Ok)(hgd:a.data.length=a.aw.length)(o:Op)(hact:o.act=7)(hr:dQ a.roots)(he:(ef a.roots o.name).2.2=0):∀B S,a7 Tryz.prog g B S ⟨8,true⟩ 180 [.agg [.hdr 4 0 a.aw.length,.hdr 5 0 a.data.length,.hdr 6 0 a.roots.length],.agg [.d (vI o.act),.d (vI o.ix),.d (vI o.gen),.d (vI o.n),.d (vI o.off),.d (rB o.b),.d (vS o.name)]] [o0,o1,o2,o3,.row 1 (a.aw.map vI),.row 1 (a.data.map oB),.row 3 (a.roots.map ak),o7]
    (fun x q=>x = .bK [.agg [.hdr 4 0 a.aw.length,.hdr 5 0 a.data.length,.hdr 6 0 a.roots.length],.agg [.d (vI (ef a.roots o.name).1),.d (vI (ef a.roots o.name).2.1),.d (.v (.slice none 0 0))],.d (vI 0)]∧q=[o0,o1,o2,o3,.row 1 (a.aw.map vI),.row 1 (a.data.map oB),.row 3 (a.roots.map ak),o7]):=by
 refine aL Tryz.func180 rfl (Nat.le_of_ble_eq_true rfl) fun B S=>?_
 obtain⟨z0,z1,z2,z3,z7⟩:o0.lt 8=true∧o1.lt 8=true∧o2.lt 8=true∧o3.lt 8=true∧o7.lt 8=true:=by simpa using ho
 refine xU ?_;refine cW ?_;refine xG [2,3,4,5] ?_;refine xO ?_;refine xG [2,3,4,5,7] ?_;refine xO ?_;refine xO ?_ (h:=by simp[ak];exact .mk);refine xO ?_;refine xG [2,3,4,5,7,8] ?_;refine xH [2,3,4,5,7,8,9] ?_;refine ab (xU ?_);refine xO ?_;refine xO ?_ (h:=by simp[ak];exact .mk);refine xF [2,3,4,5,7,8,9,13] ?_;refine ag (xU ?_);refine ay ?_;refine xQ [2,3,4,5,7,8,9,13,14] ?_ ?_
 ·intro fe;simp[hact]at fe
 intro fe;refine xU ?_;refine ay ?_;refine xQ [2,3,4,5,7,8,9,13,26] ?_ ?_
 ·intro i8;refine xY ?_;refine xO ?_;refine xO ?_ (h:=by simp[ak];exact .mk);refine xO ?_;refine xO ?_ (h:=by simp[ak];exact .mk);refine xC (EH g a.roots o.name hr) ?_ (he:=by simp[au,Function.comp_def];exact .mk);refine bx ?_;refine aH ?_;refine xH [2,4,5,7,8,9] ?_;refine ab (xU ?_);refine ay ?_;refine xQ [2,4,5,7,8,9,48] ?_ ?_
  ·intro h48;exfalso;simp at h48;exact absurd he h48
  intro h48;refine af ?_;refine xT ?_;refine ay ?_;refine aH ?_;refine xF [2,4,5,7] ?_;refine ab ?_;refine il (hard:=[]) [1,2] (aR (by decide)) (by kernel_rfl) 4 [[0,1,2,3,4],[0,2,1,3,4]] (by decide +kernel) ⟨?_,?_,trivial⟩
  ·skip
   iterate 2 (refine xO ?_ (h:=by simp[ak];exact .mk))
   iterate 2 (refine aH ?_)
   refine xH [4,5,6] ?_;refine ar (aK 8 (by simp;exact .mk) ?_ ?_ (by simp) (by first|rfl|simp) (by simp[z0,z1,z2,z3,z7]))
   ·simp
   simp
  skip
  refine xO ?_ (h:=by simp[ak];exact .mk);refine aH ?_;refine xO ?_ (h:=by simp[ak];exact .mk);refine aH ?_;refine xH [4,5,6] ?_;refine ar (aK 8 (by simp;exact .mk) ?_ ?_ (by simp) (by first|rfl|simp) (by simp[z0,z1,z2,z3,z7]))
  ·simp
  simp
 intro i8;simp[hact]at i8
theorem DS(g:Gl)(o0 o1 o2 o3 o7:aN.Obj)(a:dp)(ho:bE 8 [o0,o1,o2,o3,o7]=true)(ha:a.Ok)(hgd:a.data.length=a.aw.length)(o:Op)(hact:o.act=7)(hr:dQ a.roots)(he:(ef a.roots o.name).2.2≠0):∀B S,a7 Tryz.prog g B S ⟨8,true⟩ 180 [.agg [.hdr 4 0 a.aw.length,.hdr 5 0 a.data.length,.hdr 6 0 a.roots.length],.agg [.d (vI o.act),.d (vI o.ix),.d (vI o.gen),.d (vI o.n),.d (vI o.off),.d (rB o.b),.d (vS o.name)]] [o0,o1,o2,o3,.row 1 (a.aw.map vI),.row 1 (a.data.map oB),.row 3 (a.roots.map ak),o7]
    (fun x q=>x = .bK [.agg [.d (.v (.slice none 0 0)),.d (.v (.slice none 0 0)),.d (.v (.slice none 0 0))],.agg [.d (vI 0),.d (vI 0),.d (.v (.slice none 0 0))],.d (vI (ef a.roots o.name).2.2)]∧q=[o0,o1,o2,o3,.row 1 (a.aw.map vI),.row 1 (a.data.map oB),.row 3 (a.roots.map ak),o7]):=by
 refine aL Tryz.func180 rfl (Nat.le_of_ble_eq_true rfl) fun B S=>?_
 obtain⟨z0,z1,z2,z3,z7⟩:o0.lt 8=true∧o1.lt 8=true∧o2.lt 8=true∧o3.lt 8=true∧o7.lt 8=true:=by simpa using ho
 refine xU ?_;refine cW ?_;refine xG [2,3,4,5] ?_;refine xO ?_;refine xG [2,3,4,5,7] ?_;refine xO ?_;refine xO ?_ (h:=by simp[ak];exact .mk);refine xO ?_;refine xG [2,3,4,5,7,8] ?_;refine xH [2,3,4,5,7,8,9] ?_;refine ab (xU ?_);refine xO ?_;refine xO ?_ (h:=by simp[ak];exact .mk);refine xF [2,3,4,5,7,8,9,13] ?_;refine ag (xU ?_);refine ay ?_;refine xQ [2,3,4,5,7,8,9,13,14] ?_ ?_
 ·intro fe;simp[hact]at fe
 intro fe;refine xU ?_;refine ay ?_;refine xQ [2,3,4,5,7,8,9,13,26] ?_ ?_
 ·intro i8;refine xY ?_;refine xO ?_;refine xO ?_ (h:=by simp[ak];exact .mk);refine xO ?_;refine xO ?_ (h:=by simp[ak];exact .mk);refine xC (EH g a.roots o.name hr) ?_ (he:=by simp[au,Function.comp_def];exact .mk);refine bx ?_;refine aH ?_;refine xH [2,4,5,7,8,9] ?_;refine ab (xU ?_);refine ay ?_;refine xQ [2,4,5,7,8,9,48] ?_ ?_
  ·intro h48;refine xU ?_;iterate 2 (refine aH ?_)
   refine xO ?_;iterate 2 (refine aH ?_)
   refine xH [4,5,6] ?_;refine ar (aK 8 (by simp;exact .mk) ?_ ?_ (by simp) (by first|rfl|simp) (by simp[z0,z1,z2,z3,z7]))
   ·simp[*]
   simp
  intro h48;exfalso;simp at h48;exact he h48
 intro i8;simp[hact]at i8
theorem GG(g:Gl)(o0 o1 o2 o3 o7:aN.Obj)(a:dp)(ho:bE 8 [o0,o1,o2,o3,o7]=true)(ha:a.Ok)(hgd:a.data.length=a.aw.length)(o:Op)(hact:o.act=8)(hr:dQ a.roots)(he:(cJ a.roots o.name).2=0):∀B S,a7 Tryz.prog g B S ⟨8,true⟩ 180 [.agg [.hdr 4 0 a.aw.length,.hdr 5 0 a.data.length,.hdr 6 0 a.roots.length],.agg [.d (vI o.act),.d (vI o.ix),.d (vI o.gen),.d (vI o.n),.d (vI o.off),.d (rB o.b),.d (vS o.name)]] [o0,o1,o2,o3,.row 1 (a.aw.map vI),.row 1 (a.data.map oB),.row 3 (a.roots.map ak),o7]
    (fun x q=>x = .bK [.agg [.hdr 4 0 a.aw.length,.hdr 5 0 a.data.length,.hdr 13 0 (cJ a.roots o.name).1.length],.agg [.d (vI 0),.d (vI 0),.d (.v (.slice none 0 0))],.d (vI 0)]∧q=[o0,o1,o2,o3,.row 1 (a.aw.map vI),.row 1 (a.data.map oB),.row 3 (a.roots.map ak),o7,.var 67 [.hdr 4 0 a.aw.length,.hdr 5 0 a.data.length,.hdr 13 0 (cJ a.roots o.name).1.length],.var 73 [.d (vI o.act),.d (vI o.ix),.d (vI o.gen),.d (vI o.n),.d (vI o.off),.d (rB o.b),.d (vS o.name)],.var 67 [.hdr 4 0 a.aw.length,.hdr 5 0 a.data.length,.hdr 13 0 (cJ a.roots o.name).1.length],.var 77 [.d (vI 0),.d (vI 0),.d (.v (.slice none 0 0))],.var 77 [.d (vI 0),.d (vI 0),.d (.v (.slice none 0 0))],.row 3 ((cJ a.roots o.name).1.map ak)]):=by
 refine aL Tryz.func180 rfl (Nat.le_of_ble_eq_true rfl) fun B S=>?_
 obtain⟨z0,z1,z2,z3,z7⟩:o0.lt 8=true∧o1.lt 8=true∧o2.lt 8=true∧o3.lt 8=true∧o7.lt 8=true:=by simpa using ho
 refine xU ?_;refine cW ?_;refine xG [2,3,4,5] ?_;refine xO ?_;refine xG [2,3,4,5,7] ?_;refine xO ?_;refine xO ?_ (h:=by simp[ak];exact .mk);refine xO ?_;refine xG [2,3,4,5,7,8] ?_;refine xH [2,3,4,5,7,8,9] ?_;refine ab (xU ?_);refine xO ?_;refine xO ?_ (h:=by simp[ak];exact .mk);refine xF [2,3,4,5,7,8,9,13] ?_;refine ag (xU ?_);refine ay ?_;refine xQ [2,3,4,5,7,8,9,13,14] ?_ ?_
 ·intro fe;simp[hact]at fe
 intro fe;refine xU ?_;refine ay ?_;refine xQ [2,3,4,5,7,8,9,13,26] ?_ ?_
 ·intro i8;simp[hact]at i8
 intro i8;refine xU ?_;refine ay ?_;refine xQ [2,3,4,5,7,8,9,37] ?_ ?_
 ·intro h37;refine xY ?_;refine xO ?_;refine xO ?_ (h:=by simp[ak];exact .mk);refine xO ?_;refine xO ?_ (h:=by simp[ak];exact .mk);refine xC (EI g a.roots o.name hr) ?_ (he:=by simp[au,Function.comp_def];exact .mk);refine cW ?_;refine xF [2,4,5,7,8,9] ?_;refine ab (xU ?_);refine ay ?_;refine xQ [2,4,5,7,8,9,48] ?_ ?_
  ·intro h48;exfalso;simp at h48;exact absurd he h48
  intro h48;refine af ?_;refine xT ?_;refine ay ?_;refine aH ?_;refine xF [2,4,5,7] ?_;refine ab ?_;refine il (hard:=[]) [1,2] (aR (by decide)) (by kernel_rfl) 4 [[0,1,2,3,4],[0,2,1,3,4]] (by decide +kernel) ⟨?_,?_,trivial⟩
  ·skip
   iterate 2 (refine xO ?_ (h:=by simp[ak];exact .mk))
   iterate 2 (refine aH ?_)
   refine xH [4,5,6] ?_;refine ar (al (by simp;exact .mk) ?_ ?_)
   ·simp
   simp
  skip
  refine xO ?_ (h:=by simp[ak];exact .mk);refine aH ?_;refine xO ?_ (h:=by simp[ak];exact .mk);refine aH ?_;refine xH [4,5,6] ?_;refine ar (al (by simp;exact .mk) ?_ ?_)
  ·simp
  simp
 intro h37;simp[hact]at h37
theorem DR(g:Gl)(o0 o1 o2 o3 o7:aN.Obj)(a:dp)(ho:bE 8 [o0,o1,o2,o3,o7]=true)(ha:a.Ok)(hgd:a.data.length=a.aw.length)(o:Op)(hact:o.act=8)(hr:dQ a.roots)(he:(cJ a.roots o.name).2≠0):∀B S,a7 Tryz.prog g B S ⟨8,true⟩ 180 [.agg [.hdr 4 0 a.aw.length,.hdr 5 0 a.data.length,.hdr 6 0 a.roots.length],.agg [.d (vI o.act),.d (vI o.ix),.d (vI o.gen),.d (vI o.n),.d (vI o.off),.d (rB o.b),.d (vS o.name)]] [o0,o1,o2,o3,.row 1 (a.aw.map vI),.row 1 (a.data.map oB),.row 3 (a.roots.map ak),o7]
    (fun x q=>x = .bK [.agg [.d (.v (.slice none 0 0)),.d (.v (.slice none 0 0)),.d (.v (.slice none 0 0))],.agg [.d (vI 0),.d (vI 0),.d (.v (.slice none 0 0))],.d (vI (cJ a.roots o.name).2)]∧q=[o0,o1,o2,o3,.row 1 (a.aw.map vI),.row 1 (a.data.map oB),.row 3 (a.roots.map ak),o7]):=by
 refine aL Tryz.func180 rfl (Nat.le_of_ble_eq_true rfl) fun B S=>?_
 obtain⟨z0,z1,z2,z3,z7⟩:o0.lt 8=true∧o1.lt 8=true∧o2.lt 8=true∧o3.lt 8=true∧o7.lt 8=true:=by simpa using ho
 refine xU ?_;refine cW ?_;refine xG [2,3,4,5] ?_;refine xO ?_;refine xG [2,3,4,5,7] ?_;refine xO ?_;refine xO ?_ (h:=by simp[ak];exact .mk);refine xO ?_;refine xG [2,3,4,5,7,8] ?_;refine xH [2,3,4,5,7,8,9] ?_;refine ab (xU ?_);refine xO ?_;refine xO ?_ (h:=by simp[ak];exact .mk);refine xF [2,3,4,5,7,8,9,13] ?_;refine ag (xU ?_);refine ay ?_;refine xQ [2,3,4,5,7,8,9,13,14] ?_ ?_
 ·intro fe;simp[hact]at fe
 intro fe;refine xU ?_;refine ay ?_;refine xQ [2,3,4,5,7,8,9,13,26] ?_ ?_
 ·intro i8;simp[hact]at i8
 intro i8;refine xU ?_;refine ay ?_;refine xQ [2,3,4,5,7,8,9,37] ?_ ?_
 ·intro h37;refine xY ?_;refine xO ?_;refine xO ?_ (h:=by simp[ak];exact .mk);refine xO ?_;refine xO ?_ (h:=by simp[ak];exact .mk);refine xC (EI g a.roots o.name hr) ?_ (he:=by simp[au,Function.comp_def];exact .mk);refine cW ?_;refine xF [2,4,5,7,8,9] ?_;refine ab (xU ?_);refine ay ?_;refine xQ [2,4,5,7,8,9,48] ?_ ?_
  ·intro h48;refine xU ?_;iterate 2 (refine aH ?_)
   refine xO ?_;iterate 2 (refine aH ?_)
   refine xH [4,5,6] ?_;refine ar (aK 8 (by simp;exact .mk) ?_ ?_ (by simp) (by first|rfl|simp) (by simp[z0,z1,z2,z3,z7]))
   ·simp[*]
   simp
  intro h48;exfalso;simp at h48;exact he h48
 intro h37;simp[hact]at h37
open Go.aN
theorem CM{d:List UInt8}{n i:Nat}(h1:i<n)(h2:i<d.length):(d.take i++List.replicate (n-i) 0).set i (nth d i)=d.take (i+1)++List.replicate (n-(i+1)) 0:=by
 have hl:(d.take i).length=i:=by simp;omega
 rw[List.set_append_right _ _ (by omega),hl,Nat.sub_self,show n-i=(n-(i+1))+1 by omega,List.replicate_succ,List.set_cons_zero,List.take_succ_eq_append_getElem h2,bC h2];simp only[List.append_assoc,List.cons_append,List.nil_append]
theorem Ck{b:List UInt8}:Go.splice (List.replicate (b.length+1) (vB 0)) 0 (b.map vB)=(b++[0]).map vB:=by
 simp[Go.splice,List.drop_replicate]
theorem Cs{b:List UInt8}:nth (b++[77]) b.length=77:=by
 rw[bC (by simp)];simp
theorem Eb{d:List UInt8}{n i:Nat}(h1:i≤n)(h2:i≤d.length)(h:¬(i<n∧i<d.length)):d.take i++List.replicate (n-i) 0=d.take n++List.replicate (n-d.length) (0:UInt8):=by
 rcases Nat.lt_or_ge i d.length with q|q
 ·obtain rfl:i=n:=by omega
  rw[show i-d.length=i-i by omega]
 ·obtain rfl:i=d.length:=by omega
  rw[List.take_of_length_le (Nat.le_refl _),List.take_of_length_le h1]
theorem Eg{d b:List UInt8}{f i:Nat}(h1:i<b.length)(h2:f+b.length≤d.length):(Go.splice d f (b.take i)).set (f+i) (nth b i)=Go.splice d f (b.take (i+1)):=by
 refine List.ext_getElem? fun j=>?_
 have hi:(b.take i).length=i:=by simp;omega
 have hi1:(b.take (i+1)).length=i+1:=by simp;omega
 have hd:(d.take f).length=f:=by simp;omega
 have hs:(Go.splice d f (b.take i)).length=d.length:=Go.length_splice _ _ _ (by omega);rw[List.getElem?_set];by_cases e:f+i=j
 ·subst e;rw[if_pos rfl,if_pos (by omega)];simp only[Go.splice];rw[List.getElem?_append_right (by omega),hd,List.getElem?_append_left (by omega),show f+i-f=i by omega,List.getElem?_take,if_pos (by omega),List.getElem?_eq_getElem h1,bC h1]
 ·rw[if_neg e];simp only[Go.splice];simp only[List.getElem?_append,hd,hi,hi1,List.getElem?_take,List.getElem?_drop]
  repeat' split
  all_goals first|rfl|omega|(congr 1;omega)
open Go.aN
attribute [simp] Tryz.f182
theorem GJ(g:Gl)(o0 o1 o2 o3 o7:aN.Obj)(a:dp)(ho:bE 8 [o0,o1,o2,o3,o7]=true)(ha:a.Ok)(hgd:a.data.length=a.aw.length)(o:Op)(k:Nat)(hix:o.ix=k)(hk:k<a.data.length)(hd:(nth a.data k).length≤2^40)(hact:o.act=2)(hk2:k<a.aw.length)(hgn:0≤nth a.aw k∧nth a.aw k≤65535):∀B S,a7 Tryz.prog g B S ⟨8,true⟩ 182 [.agg [.hdr 4 0 a.aw.length,.hdr 5 0 a.data.length,.hdr 6 0 a.roots.length],.agg [.d (vI o.act),.d (vI o.ix),.d (vI o.gen),.d (vI o.n),.d (vI o.off),.d (rB o.b),.d (vS o.name)]] [o0,o1,o2,o3,.row 1 (a.aw.map vI),.row 1 (a.data.map oB),.row 3 (a.roots.map ak),o7]
    (fun x q=>x = .bK [.agg [.hdr 4 0 a.aw.length,.hdr 5 0 a.data.length,.hdr 6 0 a.roots.length],.agg [.d (vI 0),.d (vI 0),.d (.v (.slice none 0 0))],.d (vI 0)]∧q=[o0,o1,o2,o3,.row 1 ((cz a k).a.aw.map vI),.row 1 ((cz a k).a.data.map oB),.row 3 (a.roots.map ak),o7]):=by
 refine aL Tryz.func182 rfl (Nat.le_of_ble_eq_true rfl) fun B S=>?_
 obtain⟨z0,z1,z2,z3,z7⟩:o0.lt 8=true∧o1.lt 8=true∧o2.lt 8=true∧o3.lt 8=true∧o7.lt 8=true:=by simpa using ho
 simp only[hix];refine xU ?_;refine cW ?_;refine xG [2,3,4,5] ?_;refine bx ?_;refine xG [2,3,4,5,7] ?_;refine aT ?_;refine xO ?_ (h:=by simp[hk];exact .mk);refine xO ?_ (h:=by simp[-List.getElem?_map,ao hk];exact .mk);refine xO ?_;refine xG [2,3,4,5,7,8] ?_;refine xO ?_;refine xG [2,3,4,5,7,8,9] ?_;refine xH [2,3,4,5,7,8,9,10] ?_;refine ab (xU ?_);refine bU [2,3,4,5,7,8,9,10,23] ?_;refine ag (xU ?_);refine ay ?_;refine xQ [2,3,4,5,7,8,9,10,23,24] ?_ ?_
 ·intro cv;refine xU ?_;refine aT ?_;refine xO ?_ (h:=by simp[hk];exact .mk);refine xO ?_ (h:=by simp[-List.getElem?_map,ao hk,br,dn,bJ,splice];exact .mk);refine xF [2,4,5,7,9,10] ?_;have e1:IntKind.i64.wrap (nth a.aw k+1)=nth a.aw k+1:=wrap64 (by omega) (by omega);have em:(if 65535<nth a.aw k+1 then (65535:Int)else nth a.aw k+1)=min (nth a.aw k+1) 65535:=by omega
  refine aS (by kernel_rfl) [] 4 [0,1,2,3,4,5,6,7,8,9,10,11] (by decide +kernel) ?_;iterate 6 refine xO ?_
  refine xO ?_ (h:=by simp[hk2];exact .mk);refine xO ?_ (h:=by simp[-List.getElem?_map,ao hk2];exact .mk);refine xO ?_ (h:=by simp[e1];exact .mk);refine xO ?_ (h:=by simp[D0];exact .mk);refine xO ?_ (h:=by simp[hk2];exact .mk);refine xO ?_ (h:=by simp[-List.getElem?_map,ao hk2,br,dn,bJ,splice];exact .mk);refine xF [2,4,5,9,10] ?_;refine ab (xU ?_);refine xO ?_;refine xQ [2,4,5,9,137] ?_ ?_
  ·intro jX;simp at jX
  intro jX;refine af fun _=>?_;refine ab ?_;refine il (hard:=[]) [1,2] (aR (by decide)) (by kernel_rfl) 4 [[0,1,2,3,4],[0,2,1,3,4]] (by decide +kernel) ⟨?_,?_,trivial⟩
  ·skip
   refine ay ?_;iterate 2 (refine aH ?_)
   refine xH [4,5,6] ?_;refine ar (aK 8 (by simp;exact .mk) ?_ ?_ (by simp) (by first|rfl|simp) (by simp[z0,z1,z2,z3,z7]))
   ·simp
   simp[cz,em,List.map_set,ai,br];try rfl
  skip
  refine xO ?_;refine aH ?_;refine xO ?_;refine aH ?_;refine xH [4,5,6] ?_;refine ar (aK 8 (by simp;exact .mk) ?_ ?_ (by simp) (by first|rfl|simp) (by simp[z0,z1,z2,z3,z7]))
  ·simp
  simp[cz,em,List.map_set,ai,br];try rfl
 intro cv;simp[hact]at cv
theorem GK(g:Gl)(o0 o1 o2 o3 o7:aN.Obj)(a:dp)(ho:bE 8 [o0,o1,o2,o3,o7]=true)(ha:a.Ok)(hgd:a.data.length=a.aw.length)(o:Op)(k:Nat)(hix:o.ix=k)(hk:k<a.data.length)(hd:(nth a.data k).length≤2^40)(hact:o.act=3)(hs:b7 o.n=true):∀B S,a7 Tryz.prog g B S ⟨8,true⟩ 182 [.agg [.hdr 4 0 a.aw.length,.hdr 5 0 a.data.length,.hdr 6 0 a.roots.length],.agg [.d (vI o.act),.d (vI o.ix),.d (vI o.gen),.d (vI o.n),.d (vI o.off),.d (rB o.b),.d (vS o.name)]] [o0,o1,o2,o3,.row 1 (a.aw.map vI),.row 1 (a.data.map oB),.row 3 (a.roots.map ak),o7]
    (fun x q=>x = .bK [.agg [.hdr 4 0 a.aw.length,.hdr 5 0 a.data.length,.hdr 6 0 a.roots.length],.agg [.d (vI 0),.d (vI 0),.d (.v (.slice none 0 0))],.d (vI 0)]∧q=[o0,o1,o2,o3,.row 1 (a.aw.map vI),.row 1 ((a.data.set k ((nth a.data k).take o.n.toNat++List.replicate (o.n.toNat-(nth a.data k).length) 0)).map oB),.row 3 (a.roots.map ak),o7]):=by
 refine aL Tryz.func182 rfl (Nat.le_of_ble_eq_true rfl) fun B S=>?_
 obtain⟨z0,z1,z2,z3,z7⟩:o0.lt 8=true∧o1.lt 8=true∧o2.lt 8=true∧o3.lt 8=true∧o7.lt 8=true:=by simpa using ho
 simp only[hix];refine xU ?_;refine cW ?_;refine xG [2,3,4,5] ?_;refine bx ?_;refine xG [2,3,4,5,7] ?_;refine aT ?_;refine xO ?_ (h:=by simp[hk];exact .mk);refine xO ?_ (h:=by simp[-List.getElem?_map,ao hk];exact .mk);refine xO ?_;refine xG [2,3,4,5,7,8] ?_;refine xO ?_;refine xG [2,3,4,5,7,8,9] ?_;refine xH [2,3,4,5,7,8,9,10] ?_;refine ab (xU ?_);refine bU [2,3,4,5,7,8,9,10,23] ?_;refine ag (xU ?_);refine ay ?_;refine xQ [2,3,4,5,7,8,9,10,23,24] ?_ ?_
 ·intro cv;simp[hact]at cv
 intro cv;refine xU ?_;refine ay ?_;refine xQ [2,3,4,5,7,8,9,10,23,41] ?_ ?_
 ·intro j0;refine xU ?_;refine bx ?_;iterate 3 refine xI ?_
  refine xP ?_;refine xB ?_;refine xG [2,3,4,5,7,8,9,10] ?_;refine ay ?_;refine xQ [2,3,4,5,7,8,9,10,52] ?_ ?_
  ·intro Dc;have hb0:(decide (o.n<1)||decide (2048<o.n))=false:=by simpa using Dc
   rw[hb0];refine ab ?_;have hn:1≤o.n∧o.n≤2048:=by simpa [b7]using hs
   have e1:0≤o.n:=by omega
   have e2:o.n≤140737488355328:=by omega
   have e3:((o.n.toNat:Nat):Int)=o.n:=Int.toNat_of_nonneg e1;refine xY ?_;refine ay ?_;refine xO ?_ (h:=by simp[e1,e2];exact .mk);refine xH [2,3,4,5,7,8,9,10,11] ?_;refine ab (xU ?_);refine xH [2,3,4,5,7,8,9,10,11,12] ?_;refine ag (aB (fun m σ q=>∃(i:Nat) (R:List UInt8),m=o.n.toNat-i∧i≤o.n.toNat∧i≤(nth a.data k).length∧R=((nth a.data k).take i++List.replicate (o.n.toNat-i) 0)∧σ=slots [(2,.ptr 8 0 0),(3,.ptr 9 0 0),(4,.ptr 10 0 0),(5,.ptr 11 0 0),(7,.d (vI k)),(8,.d (mK 1 vB (nth a.data k))),(9,.ptr 12 0 0),(10,.d (vT false)),(11,.hdr 13 0 o.n.toNat),(12,.d (vI i))]∧q=[o0,o1,o2,o3,.row 1 (a.aw.map vI),.row 1 (a.data.map oB),.row 3 (a.roots.map ak),o7,.var 67 [.hdr 4 0 a.aw.length,.hdr 5 0 a.data.length,.hdr 6 0 a.roots.length],.var 73 [.d (vI o.act),.d (vI k),.d (vI o.gen),.d (vI o.n),.d (vI o.off),.d (rB o.b),.d (vS o.name)],.var 67 [.d (.v (.slice none 0 0)),.d (.v (.slice none 0 0)),.d (.v (.slice none 0 0))],.var 77 [.d (vI 0),.d (vI 0),.d (.v (.slice none 0 0))],.var 77 [.d (vI 0),.d (vI 0),.d (.v (.slice none 0 0))],.row 1 (R.map vB)]) o.n.toNat .refl ⟨0,List.replicate o.n.toNat 0,by simp,by simp,by simp,by simp,rfl,by simp⟩ ?_);rintro m σ q ⟨i,R,rfl,hi,hi2,hR,rfl,rfl⟩ _;refine ab (xU ?_);refine cW ?_;refine xI ?_;refine xI ?_ (h:=fun hb=>by simp[e3];exact .mk);iterate 2 refine xI ?_
   refine xP ?_;refine xQ [2,3,4,5,7,8,9,10,11,12,65] ?_ ?_
   ·intro lO;have hh:i<o.n.toNat∧i<(nth a.data k).length:=by simp at lO;omega
    have h1:=hh.1;have h2:=hh.2;have h5:(i:Int)<max o.n 0:=by omega
    have h6:i<R.length:=by rw[hR];simp;omega
    refine af fun _=>?_;refine ab (ag ?_);refine xY ?_;refine bx ?_;refine xO ?_ (h:=by simp[h2];exact .mk);refine xO ?_ (h:=by simp[-List.getElem?_map,ao h2];exact .mk);refine xO ?_ (h:=by simp[h1,h5];exact .mk);refine xO ?_ (h:=by simp[-List.getElem?_map,ao h6,br,dn,bJ,splice];exact .mk);refine xF [2,3,4,5,7,8,9,10,11,12] ?_;refine xY ?_;refine aT ?_;refine xE [2,3,4,5,7,8,9,10,11,12] ?_;refine ah [2,3,4,5,7,8,9,10,11,12] ?_;refine ae (m':=o.n.toNat-(i+1)) (by omega) ⟨i+1,R.set i (nth (nth a.data k) i),rfl,by omega,by omega,by rw[hR,CM h1 h2],?_,?_⟩
    ·rw[wrap64 (by omega) (by omega)];rfl
    rw[List.map_set];try rfl
   intro lO;have hh:¬(i<o.n.toNat∧i<(nth a.data k).length):=by simp at lO;omega
   have hfin:=Eb (d:=nth a.data k) (n:=o.n.toNat) (i:=i) hi hi2 hh;rw[hfin]at hR;have hl:R.length=o.n.toNat:=by rw[hR];simp;omega
   refine aP ?_;rintro -;refine xY ?_;refine bx ?_;refine xO ?_ (h:=by simp[hk];exact .mk);refine xO ?_ (h:=by simp[-List.getElem?_map,ao hk,br,dn,bJ,splice,hl];exact .mk);refine xF [2,4,5,9,10] ?_;refine ab (xU ?_);refine xO ?_;refine xQ [2,4,5,9,137] ?_ ?_
   ·intro jX;simp at jX
   intro jX;refine af fun _=>?_;refine ab ?_;refine il (hard:=[]) [1,2] (aR (by decide)) (by kernel_rfl) 4 [[0,1,2,3,4],[0,2,1,3,4]] (by decide +kernel) ⟨?_,?_,trivial⟩
   ·skip
    refine ay ?_;iterate 2 (refine aH ?_)
    refine xH [4,5,6] ?_;refine ar (aK 8 (by simp;exact .mk) ?_ ?_ (by simp) (by first|rfl|simp) (by simp[z0,z1,z2,z3,z7]))
    ·simp
    rw[←hR];simp[List.map_set,ai];try rfl
   skip
   refine xO ?_;refine aH ?_;refine xO ?_;refine aH ?_;refine xH [4,5,6] ?_;refine ar (aK 8 (by simp;exact .mk) ?_ ?_ (by simp) (by first|rfl|simp) (by simp[z0,z1,z2,z3,z7]))
   ·simp
   rw[←hR];simp[List.map_set,ai];try rfl
  intro Dc;exfalso;simp[b7]at hs Dc;omega
 intro j0;simp[hact]at j0
theorem DU(g:Gl)(o0 o1 o2 o3 o7:aN.Obj)(a:dp)(ho:bE 8 [o0,o1,o2,o3,o7]=true)(ha:a.Ok)(hgd:a.data.length=a.aw.length)(o:Op)(k:Nat)(hix:o.ix=k)(hk:k<a.data.length)(hd:(nth a.data k).length≤2^40)(hact:o.act=3)(hs:b7 o.n=false):∀B S,a7 Tryz.prog g B S ⟨8,true⟩ 182 [.agg [.hdr 4 0 a.aw.length,.hdr 5 0 a.data.length,.hdr 6 0 a.roots.length],.agg [.d (vI o.act),.d (vI o.ix),.d (vI o.gen),.d (vI o.n),.d (vI o.off),.d (rB o.b),.d (vS o.name)]] [o0,o1,o2,o3,.row 1 (a.aw.map vI),.row 1 (a.data.map oB),.row 3 (a.roots.map ak),o7]
    (fun x q=>x = .bK [.agg [.d (.v (.slice none 0 0)),.d (.v (.slice none 0 0)),.d (.v (.slice none 0 0))],.agg [.d (vI 0),.d (vI 0),.d (.v (.slice none 0 0))],.d (vI 1)]∧q=[o0,o1,o2,o3,.row 1 (a.aw.map vI),.row 1 (a.data.map oB),.row 3 (a.roots.map ak),o7]):=by
 refine aL Tryz.func182 rfl (Nat.le_of_ble_eq_true rfl) fun B S=>?_
 obtain⟨z0,z1,z2,z3,z7⟩:o0.lt 8=true∧o1.lt 8=true∧o2.lt 8=true∧o3.lt 8=true∧o7.lt 8=true:=by simpa using ho
 simp only[hix];refine xU ?_;refine cW ?_;refine xG [2,3,4,5] ?_;refine bx ?_;refine xG [2,3,4,5,7] ?_;refine aT ?_;refine xO ?_ (h:=by simp[hk];exact .mk);refine xO ?_ (h:=by simp[-List.getElem?_map,ao hk];exact .mk);refine xO ?_;refine xG [2,3,4,5,7,8] ?_;refine xO ?_;refine xG [2,3,4,5,7,8,9] ?_;refine xH [2,3,4,5,7,8,9,10] ?_;refine ab (xU ?_);refine bU [2,3,4,5,7,8,9,10,23] ?_;refine ag (xU ?_);refine ay ?_;refine xQ [2,3,4,5,7,8,9,10,23,24] ?_ ?_
 ·intro cv;simp[hact]at cv
 intro cv;refine xU ?_;refine ay ?_;refine xQ [2,3,4,5,7,8,9,10,23,41] ?_ ?_
 ·intro j0;refine xU ?_;refine bx ?_;iterate 3 refine xI ?_
  refine xP ?_;refine xB ?_;refine xG [2,3,4,5,7,8,9,10] ?_;refine ay ?_;refine xQ [2,3,4,5,7,8,9,10,52] ?_ ?_
  ·intro Dc;exfalso;simp[b7]at hs Dc;omega
  intro Dc;have hb0:(decide (o.n<1)||decide (2048<o.n))=true:=by simp[b7]at hs ⊢;omega
  rw[hb0];refine af fun _=>?_;refine ab (xU ?_);refine xO ?_;refine xQ [2,4,5,9,137] ?_ ?_
  ·intro jX;refine xU ?_;iterate 4 (refine aH ?_)
   refine xH [4,5,6] ?_;refine ar (aK 8 (by simp;exact .mk) ?_ ?_ (by simp) (by first|rfl|simp) (by simp[z0,z1,z2,z3,z7]))
   ·simp
   simp
  intro jX;simp at jX
 intro j0;simp[hact]at j0
theorem GL(g:Gl)(o0 o1 o2 o3 o7:aN.Obj)(a:dp)(ho:bE 8 [o0,o1,o2,o3,o7]=true)(ha:a.Ok)(hgd:a.data.length=a.aw.length)(o:Op)(k:Nat)(hix:o.ix=k)(hk:k<a.data.length)(hd:(nth a.data k).length≤2^40)(hact:o.act=4)(hq:cx (nth a.data k).length o.off o.n=true):∀B S,a7 Tryz.prog g B S ⟨8,true⟩ 182 [.agg [.hdr 4 0 a.aw.length,.hdr 5 0 a.data.length,.hdr 6 0 a.roots.length],.agg [.d (vI o.act),.d (vI o.ix),.d (vI o.gen),.d (vI o.n),.d (vI o.off),.d (rB o.b),.d (vS o.name)]] [o0,o1,o2,o3,.row 1 (a.aw.map vI),.row 1 (a.data.map oB),.row 3 (a.roots.map ak),o7]
    (fun x q=>x = .bK [.agg [.hdr 4 0 a.aw.length,.hdr 5 0 a.data.length,.hdr 6 0 a.roots.length],.agg [.d (vI 0),.d (vI 0),.hdr 14 0 (((nth a.data k).drop o.off.toNat).take o.n.toNat).length],.d (vI 0)]∧q=[o0,o1,o2,o3,.row 1 (a.aw.map vI),.row 1 (a.data.map oB),.row 3 (a.roots.map ak),o7,.var 67 [.hdr 4 0 a.aw.length,.hdr 5 0 a.data.length,.hdr 6 0 a.roots.length],.var 73 [.d (vI o.act),.d (vI k),.d (vI o.gen),.d (vI o.n),.d (vI o.off),.d (rB o.b),.d (vS o.name)],.var 67 [.hdr 4 0 a.aw.length,.hdr 5 0 a.data.length,.hdr 6 0 a.roots.length],.var 77 [.d (vI 0),.d (vI 0),.hdr 14 0 (((nth a.data k).drop o.off.toNat).take o.n.toNat).length],.var 77 [.d (vI 0),.d (vI 0),.hdr 14 0 (((nth a.data k).drop o.off.toNat).take o.n.toNat).length],.dead,.row 1 ((((nth a.data k).drop o.off.toNat).take o.n.toNat).map vB)]):=by
 refine aL Tryz.func182 rfl (Nat.le_of_ble_eq_true rfl) fun B S=>?_
 obtain⟨z0,z1,z2,z3,z7⟩:o0.lt 8=true∧o1.lt 8=true∧o2.lt 8=true∧o3.lt 8=true∧o7.lt 8=true:=by simpa using ho
 simp only[hix];refine xU ?_;refine cW ?_;refine xG [2,3,4,5] ?_;refine bx ?_;refine xG [2,3,4,5,7] ?_;refine aT ?_;refine xO ?_ (h:=by simp[hk];exact .mk);refine xO ?_ (h:=by simp[-List.getElem?_map,ao hk];exact .mk);refine xO ?_;refine xG [2,3,4,5,7,8] ?_;refine xO ?_;refine xG [2,3,4,5,7,8,9] ?_;refine xH [2,3,4,5,7,8,9,10] ?_;refine ab (xU ?_);refine bU [2,3,4,5,7,8,9,10,23] ?_;refine ag (xU ?_);refine ay ?_;refine xQ [2,3,4,5,7,8,9,10,23,24] ?_ ?_
 ·intro cv;simp[hact]at cv
 intro cv;refine xU ?_;refine ay ?_;refine xQ [2,3,4,5,7,8,9,10,23,41] ?_ ?_
 ·intro j0;simp[hact]at j0
 intro j0;refine xU ?_;refine ay ?_;refine xQ [2,3,4,5,8,9,10,23,80] ?_ ?_
 ·intro h80;refine ab ?_;have c93:=zg g (nth a.data k).length o.off o.n hd;rw[hq]at c93;refine xY ?_;iterate 6 refine xO ?_
  refine xC (c93) ?_;refine ay ?_;refine xG [2,3,4,5,8,9,10] ?_;refine ay ?_;refine xQ [2,3,4,5,8,9,10,91] ?_ ?_
  ·intro Ke;have hx:0≤o.off∧o.off≤(nth a.data k).length∧0≤o.n∧o.n≤(nth a.data k).length-o.off:=by rw[cx]at hq;simp at hq;omega
   have e1:IntKind.i64.wrap (o.off+o.n)=o.off+o.n:=wrap64 (by omega) (by omega);have e2:(o.off+o.n).toNat-o.off.toNat=o.n.toNat:=by omega
   have e3:min o.n.toNat ((nth a.data k).length-o.off.toNat)≤140737488355328:=by omega
   refine xY ?_;iterate 8 refine xO ?_
   refine xO ?_ (h:=by simp[e1];exact .mk);refine xO ?_ (h:=by simp[ew,hx.1,show o.off≤o.off+o.n from by omega,show o.off+o.n ≤ ↑(nth a.data k).length from by omega,e2];exact .mk);refine xO ?_ (h:=by simp[rows,mK,e3];exact .mk);refine xO ?_;refine aH ?_;refine xF [2,4,5,9,10] ?_;refine ab (xU ?_);refine xO ?_;refine xQ [2,4,5,9,137] ?_ ?_
   ·intro jX;simp at jX
   intro jX;refine af fun _=>?_;refine ab ?_;refine il (hard:=[]) [1,2] (aR (by decide)) (by kernel_rfl) 4 [[0,1,2,3,4],[0,2,1,3,4]] (by decide +kernel) ⟨?_,?_,trivial⟩
   ·skip
    refine ay ?_;iterate 2 (refine aH ?_)
    refine xH [4,5,6] ?_;refine ar (al (by simp;exact .mk) ?_ ?_)
    ·simp[rows,e2]
    simp[rows,e2]
   skip
   refine xO ?_;refine aH ?_;refine xO ?_;refine aH ?_;refine xH [4,5,6] ?_;refine ar (al (by simp;exact .mk) ?_ ?_)
   ·simp[rows,e2]
   simp[rows,e2]
  intro Ke;simp at Ke
 intro h80;simp[hact]at h80
theorem DV(g:Gl)(o0 o1 o2 o3 o7:aN.Obj)(a:dp)(ho:bE 8 [o0,o1,o2,o3,o7]=true)(ha:a.Ok)(hgd:a.data.length=a.aw.length)(o:Op)(k:Nat)(hix:o.ix=k)(hk:k<a.data.length)(hd:(nth a.data k).length≤2^40)(hact:o.act=4)(hq:cx (nth a.data k).length o.off o.n=false):∀B S,a7 Tryz.prog g B S ⟨8,true⟩ 182 [.agg [.hdr 4 0 a.aw.length,.hdr 5 0 a.data.length,.hdr 6 0 a.roots.length],.agg [.d (vI o.act),.d (vI o.ix),.d (vI o.gen),.d (vI o.n),.d (vI o.off),.d (rB o.b),.d (vS o.name)]] [o0,o1,o2,o3,.row 1 (a.aw.map vI),.row 1 (a.data.map oB),.row 3 (a.roots.map ak),o7]
    (fun x q=>x = .bK [.agg [.d (.v (.slice none 0 0)),.d (.v (.slice none 0 0)),.d (.v (.slice none 0 0))],.agg [.d (vI 0),.d (vI 0),.d (.v (.slice none 0 0))],.d (vI 1)]∧q=[o0,o1,o2,o3,.row 1 (a.aw.map vI),.row 1 (a.data.map oB),.row 3 (a.roots.map ak),o7]):=by
 refine aL Tryz.func182 rfl (Nat.le_of_ble_eq_true rfl) fun B S=>?_
 obtain⟨z0,z1,z2,z3,z7⟩:o0.lt 8=true∧o1.lt 8=true∧o2.lt 8=true∧o3.lt 8=true∧o7.lt 8=true:=by simpa using ho
 simp only[hix];refine xU ?_;refine cW ?_;refine xG [2,3,4,5] ?_;refine bx ?_;refine xG [2,3,4,5,7] ?_;refine aT ?_;refine xO ?_ (h:=by simp[hk];exact .mk);refine xO ?_ (h:=by simp[-List.getElem?_map,ao hk];exact .mk);refine xO ?_;refine xG [2,3,4,5,7,8] ?_;refine xO ?_;refine xG [2,3,4,5,7,8,9] ?_;refine xH [2,3,4,5,7,8,9,10] ?_;refine ab (xU ?_);refine bU [2,3,4,5,7,8,9,10,23] ?_;refine ag (xU ?_);refine ay ?_;refine xQ [2,3,4,5,7,8,9,10,23,24] ?_ ?_
 ·intro cv;simp[hact]at cv
 intro cv;refine xU ?_;refine ay ?_;refine xQ [2,3,4,5,7,8,9,10,23,41] ?_ ?_
 ·intro j0;simp[hact]at j0
 intro j0;refine xU ?_;refine ay ?_;refine xQ [2,3,4,5,8,9,10,23,80] ?_ ?_
 ·intro h80;refine ab ?_;have c93:=zg g (nth a.data k).length o.off o.n hd;rw[hq]at c93;refine xY ?_;iterate 6 refine xO ?_
  refine xC (c93) ?_;refine ay ?_;refine xG [2,3,4,5,8,9,10] ?_;refine ay ?_;refine xQ [2,3,4,5,8,9,10,91] ?_ ?_
  ·intro Ke;simp at Ke
  intro Ke;refine af fun _=>?_;refine ab (xU ?_);refine xO ?_;refine xQ [2,4,5,9,137] ?_ ?_
  ·intro jX;refine xU ?_;iterate 4 (refine aH ?_)
   refine xH [4,5,6] ?_;refine ar (aK 8 (by simp;exact .mk) ?_ ?_ (by simp) (by first|rfl|simp) (by simp[z0,z1,z2,z3,z7]))
   ·simp
   simp
  intro jX;simp at jX
 intro h80;simp[hact]at h80
open Go.aN
theorem GM(g:Gl)(o0 o1 o2 o3 o7:aN.Obj)(a:dp)(ho:bE 8 [o0,o1,o2,o3,o7]=true)(ha:a.Ok)(hgd:a.data.length=a.aw.length)(o:Op)(k:Nat)(hix:o.ix=k)(hk:k<a.data.length)(hd:(nth a.data k).length≤2^40)(hact:o.act=5)(fx:dA [o0,o1,o2,o3,o7]=true)(qe:o.b.length≤2^40)(hq:cx (nth a.data k).length o.off o.b.length=true):∀B S,a7 Tryz.prog g B S ⟨8,false⟩ 182 [.agg [.hdr 4 0 a.aw.length,.hdr 5 0 a.data.length,.hdr 6 0 a.roots.length],.agg [.d (vI o.act),.d (vI o.ix),.d (vI o.gen),.d (vI o.n),.d (vI o.off),.d (rB o.b),.d (vS o.name)]] [o0,o1,o2,o3,.row 1 (a.aw.map vI),.row 1 (a.data.map oB),.row 3 (a.roots.map ak),o7]
    (fun x q=>x = .bK [.agg [.hdr 4 0 a.aw.length,.hdr 5 0 a.data.length,.hdr 6 0 a.roots.length],.agg [.d (vI 0),.d (vI 0),.d (.v (.slice none 0 0))],.d (vI 0)]∧q=[o0,o1,o2,o3,.row 1 (a.aw.map vI),.row 1 ((a.data.set k (Go.splice (nth a.data k) o.off.toNat o.b)).map oB),.row 3 (a.roots.map ak),o7]):=by
 refine aL Tryz.func182 rfl (Nat.le_of_ble_eq_true rfl) fun B S=>?_
 obtain⟨z0,z1,z2,z3,z7⟩:o0.lt 8=true∧o1.lt 8=true∧o2.lt 8=true∧o3.lt 8=true∧o7.lt 8=true:=by simpa using ho
 simp only[hix];refine xU ?_;refine cW ?_;refine xG [2,3,4,5] ?_;refine bx ?_;refine xF [2,3,4,5,7] ?_;refine ab ?_;simp only[dA,Bool.and_eq_true,and_true]at fx;refine fq (s2:=slots [(2,.ptr 8 0 0),(3,.ptr 9 0 0),(4,.ptr 10 0 0),(5,.ptr 11 0 0),(7,.d (vI k))]) (aZ:=[o0,o1,o2,o3,.row 1 (a.aw.map vI),.hole k 12 (nth a.data k).length (a.data.map oB),.row 3 (a.roots.map ak),o7,.var 67 [.hdr 4 0 a.aw.length,.hdr 5 0 a.data.length,.hdr 6 0 a.roots.length],.var 73 [.d (vI o.act),.d (vI k),.d (vI o.gen),.d (vI o.n),.d (vI o.off),.d (rB o.b),.d (vS o.name)],.var 67 [.d (.v (.slice none 0 0)),.d (.v (.slice none 0 0)),.d (.v (.slice none 0 0))],.var 77 [.d (vI 0),.d (vI 0),.d (.v (.slice none 0 0))],.row 1 ((nth a.data k).map vB)]) (Weak.open (xs:=a.data.map oB) (ys:=(nth a.data k).map vB) 5 k rfl rfl (ao (f:=oB) hk) ?_ ?_ (by simp)) ?_
 ·simp
 ·simp[fx,ak]
 refine xY ?_;refine aT ?_;refine xO ?_ (h:=by simp[hk];exact .mk);refine ay ?_;refine xG [2,3,4,5,7,8] ?_;refine xO ?_;refine xG [2,3,4,5,7,8,9] ?_;refine xH [2,3,4,5,7,8,9,10] ?_;refine ab (xU ?_);refine bU [2,3,4,5,7,8,9,10,23] ?_;refine ag (xU ?_);refine ay ?_;refine xQ [2,3,4,5,7,8,9,10,23,24] ?_ ?_
 ·intro cv;simp[hact]at cv
 intro cv;refine xU ?_;refine ay ?_;refine xQ [2,3,4,5,7,8,9,10,23,41] ?_ ?_
 ·intro j0;simp[hact]at j0
 intro j0;refine xU ?_;refine ay ?_;refine xQ [2,3,4,5,8,9,10,23,80] ?_ ?_
 ·intro h80;simp[hact]at h80
 intro h80;refine xU ?_;refine ay ?_;refine xQ [2,3,4,5,8,9,10,104] ?_ ?_
 ·intro BT;refine ab ?_;have c93:=zg g (nth a.data k).length o.off o.b.length hd;rw[hq]at c93;refine xY ?_;iterate 7 refine xO ?_
  refine xC (c93) ?_;refine bU [2,3,4,5,8,9,10] ?_;refine ab ?_;have hx:0≤o.off∧o.off≤(nth a.data k).length∧(o.b.length:Int)≤(nth a.data k).length-o.off:=by rw[cx]at hq;simp at hq;omega
  obtain⟨F,hF⟩:∃F:Nat,o.off=F:=⟨o.off.toNat,by omega⟩;have MP:o.off.toNat=F:=by omega
  rw[MP];have N7:F+o.b.length≤(nth a.data k).length:=by omega
  refine xY ?_;refine xH [2,3,4,5,8,9,10,13] ?_;refine ag (aB (fun m σ q=>∃i:Nat,m=o.b.length-i∧i≤o.b.length∧σ=slots [(2,.ptr 8 0 0),(3,.ptr 9 0 0),(4,.ptr 10 0 0),(5,.ptr 11 0 0),(8,.hdr 12 0 (nth a.data k).length),(9,.ptr 13 0 0),(10,.d (vT false)),(13,.d (vI i))]∧q=[o0,o1,o2,o3,.row 1 (a.aw.map vI),.hole k 12 (nth a.data k).length (a.data.map oB),.row 3 (a.roots.map ak),o7,.var 67 [.hdr 4 0 a.aw.length,.hdr 5 0 a.data.length,.hdr 6 0 a.roots.length],.var 73 [.d (vI o.act),.d (vI k),.d (vI o.gen),.d (vI o.n),.d (vI o.off),.d (rB o.b),.d (vS o.name)],.var 67 [.d (.v (.slice none 0 0)),.d (.v (.slice none 0 0)),.d (.v (.slice none 0 0))],.var 77 [.d (vI 0),.d (vI 0),.d (.v (.slice none 0 0))],.row 1 (((Go.splice (nth a.data k) F (o.b.take i)).map vB)),.var 77 [.d (vI 0),.d (vI 0),.d (.v (.slice none 0 0))]]) o.b.length .refl ⟨0,by simp,by simp,rfl,by simp[Go.splice]⟩ ?_);rintro m σ q ⟨i,rfl,hi,rfl,rfl⟩ _;refine ab (xU ?_);iterate 6 refine xO ?_
  iterate 2 refine xI ?_
  refine xP ?_;refine xQ [2,3,4,5,8,9,10,13,123] ?_ ?_
  ·intro Aq;have h1:i<o.b.length:=by simpa using Aq
   have e1:IntKind.i64.wrap (o.off+(i:Int))=((F+i:Nat):Int):=by rw[wrap64 (by omega) (by omega)];omega
   have h3:F+i<(nth a.data k).length:=by omega
   have h4:(Go.splice (nth a.data k) F (o.b.take i)).length=(nth a.data k).length:=Go.length_splice _ _ _ (by simp;omega);have h5:0≤(F:Int)+i∧(F:Int)+i<((nth a.data k).length:Int):=by omega
   have h6:((F:Int)+i).toNat=F+i:=by omega
   obtain⟨R,hR⟩:∃R,R=Go.splice (nth a.data k) F (o.b.take i):=⟨_,rfl⟩;rw[←hR]at h4 ⊢;have h7:F+i<R.length:=by omega
   refine af fun _=>?_;refine ab (ag ?_);refine aS (by kernel_rfl) [] 4 [0,1,2,3,4,5,6,7,8,9,10,11] (by decide +kernel) ?_;refine bx ?_;refine xO ?_ (h:=by simp[e1];exact .mk);refine aT ?_;refine xO ?_ (h:=by simp[h1];exact .mk);refine xO ?_ (h:=by simp[-List.getElem?_map,ao h1];exact .mk);refine xO ?_ (h:=by simp[h5,h6];exact .mk);refine xO ?_ (h:=by simp[-List.getElem?_map,ao h7,br,dn,bJ,splice];exact .mk);refine xF [2,3,4,5,8,9,10,13] ?_;refine xY ?_;refine aT ?_;refine xE [2,3,4,5,8,9,10,13] ?_;refine ah [2,3,4,5,8,9,10,13] ?_;refine ae (m':=o.b.length-(i+1)) (by omega) ⟨i+1,rfl,by omega,?_,?_⟩
   ·rw[wrap64 (by omega) (by omega)];rfl
   rw[←Eg h1 N7,←hR];simp
  intro Aq;obtain rfl:i=o.b.length:=by simp at Aq;omega
  rw[List.take_length];refine fq (aZ:=[o0,o1,o2,o3,.row 1 (a.aw.map vI),.row 1 ((a.data.map oB).set k (.row .own 1 ((Go.splice (nth a.data k) F o.b).map vB))),.row 3 (a.roots.map ak),o7,.var 67 [.hdr 4 0 a.aw.length,.hdr 5 0 a.data.length,.hdr 6 0 a.roots.length],.var 73 [.d (vI o.act),.d (vI k),.d (vI o.gen),.d (vI o.n),.d (vI o.off),.d (rB o.b),.d (vS o.name)],.var 67 [.d (.v (.slice none 0 0)),.d (.v (.slice none 0 0)),.d (.v (.slice none 0 0))],.var 77 [.d (vI 0),.d (vI 0),.d (.v (.slice none 0 0))],.dead,.var 77 [.d (vI 0),.d (vI 0),.d (.v (.slice none 0 0))]]) (Weak.close (i:=k) (r':=12) (k:=1) (xs:=a.data.map oB) (ys:=(Go.splice (nth a.data k) F o.b).map vB) (len:=(nth a.data k).length) 5 rfl rfl ?_) ?_
  ·rw[List.length_map,Go.length_splice _ _ _ N7]
  refine aP ?_;rintro -;refine ab (xU ?_);refine xO ?_;refine xQ [2,4,5,9,137] ?_ ?_
  ·intro jX;simp at jX
  intro jX;refine af fun _=>?_;refine ab ?_;refine il (hard:=[]) [1,2] (aR (by decide)) (by kernel_rfl) 4 [[0,1,2,3,4],[0,2,1,3,4]] (by decide +kernel) ⟨?_,?_,trivial⟩
  ·skip
   refine ay ?_;iterate 2 (refine aH ?_)
   refine xH [4,5,6] ?_;refine ar (aK 8 (by simp[Tryz.f182];exact .mk) ?_ ?_ (by simp) (by first|rfl|simp) (by simp[z0,z1,z2,z3,z7]))
   ·simp
   simp[List.map_set,ai,MP,Go.splice]
  skip
  refine xO ?_;refine aH ?_;refine xO ?_;refine aH ?_;refine xH [4,5,6] ?_;refine ar (aK 8 (by simp[Tryz.f182];exact .mk) ?_ ?_ (by simp) (by first|rfl|simp) (by simp[z0,z1,z2,z3,z7]))
  ·simp
  simp[List.map_set,ai,MP,Go.splice]
 intro BT;simp[hact]at BT
theorem DW(g:Gl)(o0 o1 o2 o3 o7:aN.Obj)(a:dp)(ho:bE 8 [o0,o1,o2,o3,o7]=true)(ha:a.Ok)(hgd:a.data.length=a.aw.length)(o:Op)(k:Nat)(hix:o.ix=k)(hk:k<a.data.length)(hd:(nth a.data k).length≤2^40)(hact:o.act=5)(fx:dA [o0,o1,o2,o3,o7]=true)(qe:o.b.length≤2^40)(hq:cx (nth a.data k).length o.off o.b.length=false):∀B S,a7 Tryz.prog g B S ⟨8,false⟩ 182 [.agg [.hdr 4 0 a.aw.length,.hdr 5 0 a.data.length,.hdr 6 0 a.roots.length],.agg [.d (vI o.act),.d (vI o.ix),.d (vI o.gen),.d (vI o.n),.d (vI o.off),.d (rB o.b),.d (vS o.name)]] [o0,o1,o2,o3,.row 1 (a.aw.map vI),.row 1 (a.data.map oB),.row 3 (a.roots.map ak),o7]
    (fun x q=>x = .bK [.agg [.d (.v (.slice none 0 0)),.d (.v (.slice none 0 0)),.d (.v (.slice none 0 0))],.agg [.d (vI 0),.d (vI 0),.d (.v (.slice none 0 0))],.d (vI 1)]∧q=[o0,o1,o2,o3,.row 1 (a.aw.map vI),.row 1 (a.data.map oB),.row 3 (a.roots.map ak),o7]):=by
 refine aL Tryz.func182 rfl (Nat.le_of_ble_eq_true rfl) fun B S=>?_
 obtain⟨z0,z1,z2,z3,z7⟩:o0.lt 8=true∧o1.lt 8=true∧o2.lt 8=true∧o3.lt 8=true∧o7.lt 8=true:=by simpa using ho
 simp only[hix];refine xU ?_;refine cW ?_;refine xG [2,3,4,5] ?_;refine bx ?_;refine xF [2,3,4,5,7] ?_;refine ab ?_;simp only[dA,Bool.and_eq_true,and_true]at fx;refine fq (s2:=slots [(2,.ptr 8 0 0),(3,.ptr 9 0 0),(4,.ptr 10 0 0),(5,.ptr 11 0 0),(7,.d (vI k))]) (aZ:=[o0,o1,o2,o3,.row 1 (a.aw.map vI),.hole k 12 (nth a.data k).length (a.data.map oB),.row 3 (a.roots.map ak),o7,.var 67 [.hdr 4 0 a.aw.length,.hdr 5 0 a.data.length,.hdr 6 0 a.roots.length],.var 73 [.d (vI o.act),.d (vI k),.d (vI o.gen),.d (vI o.n),.d (vI o.off),.d (rB o.b),.d (vS o.name)],.var 67 [.d (.v (.slice none 0 0)),.d (.v (.slice none 0 0)),.d (.v (.slice none 0 0))],.var 77 [.d (vI 0),.d (vI 0),.d (.v (.slice none 0 0))],.row 1 ((nth a.data k).map vB)]) (Weak.open (xs:=a.data.map oB) (ys:=(nth a.data k).map vB) 5 k rfl rfl (ao (f:=oB) hk) ?_ ?_ (by simp)) ?_
 ·simp
 ·simp[fx,ak]
 refine xY ?_;refine aT ?_;refine xO ?_ (h:=by simp[hk];exact .mk);refine ay ?_;refine xG [2,3,4,5,7,8] ?_;refine xO ?_;refine xG [2,3,4,5,7,8,9] ?_;refine xH [2,3,4,5,7,8,9,10] ?_;refine ab (xU ?_);refine bU [2,3,4,5,7,8,9,10,23] ?_;refine ag (xU ?_);refine ay ?_;refine xQ [2,3,4,5,7,8,9,10,23,24] ?_ ?_
 ·intro cv;simp[hact]at cv
 intro cv;refine xU ?_;refine ay ?_;refine xQ [2,3,4,5,7,8,9,10,23,41] ?_ ?_
 ·intro j0;simp[hact]at j0
 intro j0;refine xU ?_;refine ay ?_;refine xQ [2,3,4,5,8,9,10,23,80] ?_ ?_
 ·intro h80;simp[hact]at h80
 intro h80;refine xU ?_;refine ay ?_;refine xQ [2,3,4,5,8,9,10,104] ?_ ?_
 ·intro BT;refine ab ?_;have c93:=zg g (nth a.data k).length o.off o.b.length hd;rw[hq]at c93;refine xY ?_;iterate 7 refine xO ?_
  refine xC (c93) ?_;refine ay ?_;refine xG [2,3,4,5,8,9,10] ?_;refine xH [2,3,4,5,8,9,10,13] ?_;refine ag (aB (fun m σ q=>m=0∧σ=slots [(2,.ptr 8 0 0),(3,.ptr 9 0 0),(4,.ptr 10 0 0),(5,.ptr 11 0 0),(8,.hdr 12 0 (nth a.data k).length),(9,.ptr 13 0 0),(10,.d (vT true)),(13,.d (vI 0))]∧q=[o0,o1,o2,o3,.row 1 (a.aw.map vI),.hole k 12 (nth a.data k).length (a.data.map oB),.row 3 (a.roots.map ak),o7,.var 67 [.hdr 4 0 a.aw.length,.hdr 5 0 a.data.length,.hdr 6 0 a.roots.length],.var 73 [.d (vI o.act),.d (vI k),.d (vI o.gen),.d (vI o.n),.d (vI o.off),.d (rB o.b),.d (vS o.name)],.var 67 [.d (.v (.slice none 0 0)),.d (.v (.slice none 0 0)),.d (.v (.slice none 0 0))],.var 77 [.d (vI 0),.d (vI 0),.d (.v (.slice none 0 0))],.row 1 (((nth a.data k).map vB)),.var 77 [.d (vI 0),.d (vI 0),.d (.v (.slice none 0 0))]]) 0 .refl ⟨rfl,rfl,rfl⟩ ?_);rintro m σ q ⟨rfl,rfl,rfl⟩ _;refine ab (xU ?_);iterate 6 refine xO ?_
  iterate 2 refine xI ?_
  refine xP ?_;refine xQ [2,3,4,5,8,9,10,13,123] ?_ ?_
  ·intro Aq;simp at Aq
  intro Aq;refine fq (aZ:=[o0,o1,o2,o3,.row 1 (a.aw.map vI),.row 1 ((a.data.map oB).set k (.row .own 1 ((nth a.data k).map vB))),.row 3 (a.roots.map ak),o7,.var 67 [.hdr 4 0 a.aw.length,.hdr 5 0 a.data.length,.hdr 6 0 a.roots.length],.var 73 [.d (vI o.act),.d (vI k),.d (vI o.gen),.d (vI o.n),.d (vI o.off),.d (rB o.b),.d (vS o.name)],.var 67 [.d (.v (.slice none 0 0)),.d (.v (.slice none 0 0)),.d (.v (.slice none 0 0))],.var 77 [.d (vI 0),.d (vI 0),.d (.v (.slice none 0 0))],.dead,.var 77 [.d (vI 0),.d (vI 0),.d (.v (.slice none 0 0))]]) (Weak.close (i:=k) (r':=12) (k:=1) (xs:=a.data.map oB) (ys:=(nth a.data k).map vB) (len:=(nth a.data k).length) 5 rfl rfl ?_) ?_
  ·simp
  refine aP ?_;rintro -;refine ab (xU ?_);refine xO ?_;refine xQ [2,4,5,9,137] ?_ ?_
  ·intro jX;refine xU ?_;iterate 4 (refine aH ?_)
   refine xH [4,5,6] ?_;refine ar (aK 8 (by simp[Tryz.f182];exact .mk) ?_ ?_ (by simp) (by first|rfl|simp) (by simp[z0,z1,z2,z3,z7]))
   ·simp
   simp[l4 hk]
  intro jX;simp at jX
 intro BT;simp[hact]at BT
open Go.aN
section
variable {a:dp} {o:Op}
theorem ux{e:Nat}(hR:bH a=true)(he:0<e)(h:bq a o = -(e:Int)):dR a o=aF e:=by
 have hE:bG a o=⟨a,0,0,[],e⟩:=by
  unfold bG;rw[if_neg (by omega),if_neg (by omega),if_neg (by omega),if_neg (by omega),if_neg (by omega),if_neg (by omega),h];simp
 have:=c9 (o:=o) hR (by rw[hE];show (e:Int)≠0;omega);rw[hE]at this;exact this
theorem Gb(h:bH a=false∨o.act<1∨8<o.act):dR a o=aF 1:=by
 cases hR:bH a with
 | false=>simp[dR,hR]
 | true=>
  have h:o.act<1∨8<o.act:=by simpa [hR]using h
  refine ux (e:=1) hR (by omega) ?_;unfold bq;rw[if_neg (by omega),if_neg (by omega),if_pos h];rfl
theorem DC(hR:bH a=true)(h:o.act=6)(hn:cu o.name=false):dR a o=aF 3:=by
 refine ux (e:=3) hR (by omega) ?_;unfold bq;rw[if_neg (by omega),if_neg (by omega),if_neg (by omega),if_pos ⟨h,hn⟩];rfl
theorem DB(hR:bH a=true)(h1:1≤o.act∧o.act≤8)(h2:o.act≠1)(h3:¬(o.act=7∨o.act=8))(hn:¬(o.act=6∧cu o.name=false))(hg:cZ a o.ix o.gen=false):dR a o=aF 8:=by
 refine ux (e:=8) hR (by omega) ?_;unfold bq;rw[if_neg h2,if_neg h3,if_neg (by omega),if_neg hn,if_pos hg];rfl
theorem EO(h:o.act=1):bG a o=cf a o.n:=by
 have:bq a o=186:=by unfold bq;rw[if_pos h]
 unfold bG;rw[if_pos this]
theorem jV(h:o.act=7∨o.act=8∨(o.act=6∧cu o.name=true∧cZ a o.ix o.gen=true)):bG a o=dE a o:=by
 have:bq a o=187:=by
  unfold bq;rw[if_neg (by omega)];by_cases q:o.act=7∨o.act=8
  ·rw[if_pos q]
  ·have h:=(h.resolve_left (fun e=>q (.inl e))).resolve_left (fun e=>q (.inr e));rw[if_neg q,if_neg (by omega),if_neg (by simp[h.2.1]),if_neg (by simp[h.2.2]),if_neg (by omega),if_neg (by omega),if_neg (by omega),if_neg (by omega)]
 unfold bG;rw[if_neg (by omega),if_pos this]
theorem nY(hg:cZ a o.ix o.gen=true)(h:2≤o.act∧o.act≤5):bq a o=188+o.act:=by
 unfold bq;rw[if_neg (by omega),if_neg (by omega),if_neg (by omega),if_neg (by omega),if_neg (by simp[hg])]
 (repeat' split)<;>omega
theorem JZ{k:Nat}(hg:cZ a o.ix o.gen=true)(hk:o.ix=k)(h:o.act=2):bG a o=cz a k:=by
 have:=nY hg (by omega);unfold bG;rw[if_neg (by omega),if_neg (by omega),if_pos (by omega),hk];rfl
theorem EP{k:Nat}(hg:cZ a o.ix o.gen=true)(hk:o.ix=k)(h:o.act=3):bG a o=bX a k o.n:=by
 have:=nY hg (by omega);unfold bG;rw[if_neg (by omega),if_neg (by omega),if_neg (by omega),if_pos (by omega),hk];rfl
theorem ER{k:Nat}(hg:cZ a o.ix o.gen=true)(hk:o.ix=k)(h:o.act=4):bG a o=fA a k o.off o.n:=by
 have:=nY hg (by omega);unfold bG;rw[if_neg (by omega),if_neg (by omega),if_neg (by omega),if_neg (by omega),if_pos (by omega),hk];rfl
theorem ES{k:Nat}(hg:cZ a o.ix o.gen=true)(hk:o.ix=k)(h:o.act=5):bG a o=dx a k o.off o.b:=by
 have:=nY hg (by omega);unfold bG;rw[if_neg (by omega),if_neg (by omega),if_neg (by omega),if_neg (by omega),if_neg (by omega),if_pos (by omega),hk];rfl
theorem Bs{n:Int}(h:(cf a n).e=0):∃k:Nat,gH a=some k∧b7 n=true∧cf a n=⟨{a with data:=a.data.set k (List.replicate n.toNat 0)},k,nth a.aw k,[],0⟩:=by
 unfold cf at h ⊢;by_cases q:b7 n=false
 ·rw[if_pos q]at h;cases h
 ·rw[if_neg q]at h ⊢
  cases hx:gH a with
  | none=>rw[hx]at h;cases h
  | some k=>exact⟨k,rfl,by simpa using q,rfl⟩
end
set_option maxHeartbeats 4000000
set_option maxRecDepth 4000
open Go.aN
attribute [simp] Tryz.f130
theorem I6(g:Gl)(a:dp)(o:Op)(ha:a.Ok)(qe:o.b.length≤2^40):a9 Tryz.prog g 130 [mz a,mE o] (.bK [aJ (dR a o).a,.agg [vI (dR a o).ix,vI (dR a o).gen,oB (dR a o).b],vI (dR a o).e]):=by
 refine xA Tryz.func130 fun B S=>?_
 simp only[mz,mE,List.map,aO];refine xU ?_;refine cW ?_;refine xG [2,3,4,5] ?_;refine xO ?_;refine xC (Jk g a ha) ?_ (hi:=by simp[aJ];exact .mk);refine xH [2,3,4,5,7] ?_;refine ab (xU ?_);refine aT ?_;iterate 3 refine xI ?_
 refine xP ?_;refine xB ?_;iterate 3 refine xI ?_
 refine xP ?_;refine xQ [2,3,4,5,24] ?_ ?_
 ·intro cv;have hdo:=Gb (a:=a) (o:=o) (by cases hq:bH a<;>simp[hq]at cv ⊢;omega);refine xU ?_;iterate 4 (refine aH ?_)
  refine xH [4,5,6] ?_;refine xZ ?_;first|(simp[hdo,aF,aY,aJ,ai];done)|(simp[hdo,aF,aY,aJ,ai,he];done)|(simp[hdo,aF,aY,aJ,ai,cz];done)|(simp[hdo,aF,aY,aJ,ai,Go.splice,List.map_set];done)
 intro cv;have N8:bH a=true∧1≤o.act∧o.act≤8:=by cases hq:bH a<;>simp[hq]at cv ⊢;omega
 have hR:=N8.1;have hac:=N8.2;have hgd:=(sw hR).1;refine af ?_;refine xT ?_;refine xO ?_;refine xC (Jl g a ha) ?_ (hi:=by simp[aJ];exact .mk);refine xO ?_;refine aH ?_;refine xF [2,3,4,5,8] ?_;refine ab (xU ?_);refine aT ?_;refine xQ [2,3,4,5,8,31] ?_ ?_
 ·intro h31;have hact:o.act=1:=by simpa using h31
  refine ab ?_;rcases Classical.em ((cf a o.n).e=0)with he|he
  ·skip
   obtain⟨k,hx,hz,hal⟩:=Bs he;have hE:bG a o=cf a o.n:=EO hact;have hdo:=(ep (o:=o) hR (by rw[hE];exact he)).trans hE
   rw[hal]at hdo;refine xY ?_;refine aT ?_;refine az rfl rfl rfl rfl (by simp;exact .mk) ⟨_,Tryz.func179,rfl,rfl⟩ (KE g _ _ _ _ _ a (by simp) ha hgd o.n k hx hz) (.inl (by simp)) ?_;refine aT ?_;iterate 2 (refine aH ?_)
   refine xH [4,5,6] ?_;refine xZ ?_;first|(simp[hdo,aF,aY,aJ,ai];done)|(simp[hdo,aF,aY,aJ,ai,he];done)|(simp[hdo,aF,aY,aJ,ai,cz];done)|(simp[hdo,aF,aY,aJ,ai,Go.splice,List.map_set];done)
  skip
  have hE:bG a o=cf a o.n:=EO hact;have hdo:=c9 (o:=o) hR (by rw[hE];exact he)
  rw[hE]at hdo;refine xY ?_;refine aT ?_;refine az rfl rfl rfl rfl (by simp;exact .mk) ⟨_,Tryz.func179,rfl,rfl⟩ (GF g _ _ _ _ _ a (by simp) ha hgd o.n he) (.inl (by simp)) ?_;refine aT ?_;iterate 2 (refine aH ?_)
  refine xH [4,5,6] ?_;refine xZ ?_;first|(simp[hdo,aF,aY,aJ,ai];done)|(simp[hdo,aF,aY,aJ,ai,he];done)|(simp[hdo,aF,aY,aJ,ai,cz];done)|(simp[hdo,aF,aY,aJ,ai,Go.splice,List.map_set];done)
 intro h31;have k1:o.act≠1:=by simpa using h31
 refine af fun _=>?_;refine ab (xU ?_);refine bx ?_;iterate 3 refine xI ?_
 refine xP ?_;refine xQ [2,3,4,5,8,46] ?_ ?_
 ·intro h46;have hor:o.act=7∨o.act=8:=by simp at h46;omega
  refine ab ?_;have hact:(o.act=7∧(ef a.roots o.name).2.2=0)∨(o.act=7∧(ef a.roots o.name).2.2≠0)∨(o.act=8∧(cJ a.roots o.name).2=0)∨(o.act=8∧(cJ a.roots o.name).2≠0):=by have:=Classical.em ((ef a.roots o.name).2.2=0);have:=Classical.em ((cJ a.roots o.name).2=0);grind
  rcases hact with ⟨hact,he⟩|⟨hact,he⟩|⟨hact,he⟩|⟨hact,he⟩
  ·skip
   have hE:bG a o=dE a o:=jV (.inl hact);have hE2:dE a o=⟨a,(ef a.roots o.name).1,(ef a.roots o.name).2.1,[],(ef a.roots o.name).2.2⟩:=by simp[dE,hact]
   rw[hE2]at hE;have hdo:=(ep (o:=o) hR (by rw[hE];exact he)).trans hE;refine xY ?_;refine ay ?_;refine az rfl rfl rfl rfl (by simp;exact .mk) ⟨_,Tryz.func180,rfl,rfl⟩ (GH g _ _ _ _ _ a (by simp) ha hgd o hact ⟨ha.h3,ha.h5⟩ he) (.inl (by simp)) ?_;refine aT ?_;iterate 2 (refine aH ?_)
   refine xH [4,5,6] ?_;refine xZ ?_;first|(simp[hdo,aF,aY,aJ,ai];done)|(simp[hdo,aF,aY,aJ,ai,he];done)|(simp[hdo,aF,aY,aJ,ai,cz];done)|(simp[hdo,aF,aY,aJ,ai,Go.splice,List.map_set];done)
  ·skip
   have hE:bG a o=dE a o:=jV (.inl hact);have hE2:dE a o=⟨a,(ef a.roots o.name).1,(ef a.roots o.name).2.1,[],(ef a.roots o.name).2.2⟩:=by simp[dE,hact]
   rw[hE2]at hE;have hdo:=c9 (o:=o) hR (by rw[hE];exact he)
   rw[hE]at hdo;refine xY ?_;refine ay ?_;refine az rfl rfl rfl rfl (by simp;exact .mk) ⟨_,Tryz.func180,rfl,rfl⟩ (DS g _ _ _ _ _ a (by simp) ha hgd o hact ⟨ha.h3,ha.h5⟩ he) (.inl (by simp)) ?_;refine aT ?_;iterate 2 (refine aH ?_)
   refine xH [4,5,6] ?_;refine xZ ?_;first|(simp[hdo,aF,aY,aJ,ai];done)|(simp[hdo,aF,aY,aJ,ai,he];done)|(simp[hdo,aF,aY,aJ,ai,cz];done)|(simp[hdo,aF,aY,aJ,ai,Go.splice,List.map_set];done)
  ·skip
   have hE:bG a o=dE a o:=jV (.inr (.inl hact));have hE2:dE a o=⟨{a with roots:=(cJ a.roots o.name).1},0,0,[],(cJ a.roots o.name).2⟩:=by simp[dE,hact]
   rw[hE2]at hE;have hdo:=(ep (o:=o) hR (by rw[hE];exact he)).trans hE;refine xY ?_;refine ay ?_;refine az rfl rfl rfl rfl (by simp;exact .mk) ⟨_,Tryz.func180,rfl,rfl⟩ (GG g _ _ _ _ _ a (by simp) ha hgd o hact ⟨ha.h3,ha.h5⟩ he) (.inr ⟨_,rfl⟩) ?_;refine aT ?_;iterate 2 (refine aH ?_)
   refine xH [4,5,6] ?_;refine xZ ?_;first|(simp[hdo,aF,aY,aJ,ai];done)|(simp[hdo,aF,aY,aJ,ai,he];done)|(simp[hdo,aF,aY,aJ,ai,cz];done)|(simp[hdo,aF,aY,aJ,ai,Go.splice,List.map_set];done)
  skip
  have hE:bG a o=dE a o:=jV (.inr (.inl hact));have hE2:dE a o=⟨{a with roots:=(cJ a.roots o.name).1},0,0,[],(cJ a.roots o.name).2⟩:=by simp[dE,hact]
  rw[hE2]at hE;have hdo:=c9 (o:=o) hR (by rw[hE];exact he)
  rw[hE]at hdo;refine xY ?_;refine ay ?_;refine az rfl rfl rfl rfl (by simp;exact .mk) ⟨_,Tryz.func180,rfl,rfl⟩ (DR g _ _ _ _ _ a (by simp) ha hgd o hact ⟨ha.h3,ha.h5⟩ he) (.inl (by simp)) ?_;refine aT ?_;iterate 2 (refine aH ?_)
  refine xH [4,5,6] ?_;refine xZ ?_;first|(simp[hdo,aF,aY,aJ,ai];done)|(simp[hdo,aF,aY,aJ,ai,he];done)|(simp[hdo,aF,aY,aJ,ai,cz];done)|(simp[hdo,aF,aY,aJ,ai,Go.splice,List.map_set];done)
 intro h46;have k2:¬(o.act=7∨o.act=8):=by simp at h46;omega
 refine af ?_;refine xT ?_;refine ay ?_;refine xC (BF g o.name) ?_ (hi:=by simp[aJ];exact .mk);refine xH [2,3,4,5,8,9] ?_;refine ab (xU ?_);refine bx ?_;iterate 2 refine xI ?_
 refine xP ?_;refine xQ [2,3,4,5,8,62] ?_ ?_
 ·intro lh;have hdo:=DC hR (by simp at lh;exact lh.1) (by simp at lh;exact lh.2);refine xU ?_;iterate 4 (refine aH ?_)
  refine xH [4,5,6] ?_;refine xZ ?_;first|(simp[hdo,aF,aY,aJ,ai];done)|(simp[hdo,aF,aY,aJ,ai,he];done)|(simp[hdo,aF,aY,aJ,ai,cz];done)|(simp[hdo,aF,aY,aJ,ai,Go.splice,List.map_set];done)
 intro lh;have k3:¬(o.act=6∧cu o.name=false):=by simp at lh;grind
 refine af ?_;refine xT ?_;refine aT ?_;refine xC (Jm g a ha hgd o.ix o.gen) ?_ (hi:=by simp[aJ];exact .mk);refine xH [3,4,5,8,10] ?_;refine ab (xU ?_);refine ay ?_;refine xQ [3,4,5,8,70] ?_ ?_
 ·intro Gu;have hdo:=DB hR hac k1 k2 k3 (by simpa using Gu);refine xU ?_;iterate 4 (refine aH ?_)
  refine xH [4,5,6] ?_;refine xZ ?_;first|(simp[hdo,aF,aY,aJ,ai];done)|(simp[hdo,aF,aY,aJ,ai,he];done)|(simp[hdo,aF,aY,aJ,ai,cz];done)|(simp[hdo,aF,aY,aJ,ai,Go.splice,List.map_set];done)
 intro Gu;have hg:cZ a o.ix o.gen=true:=by simpa using Gu
 refine af fun _=>?_;refine ab (xU ?_);refine aT ?_;refine xQ [3,4,5,8,75] ?_ ?_
 ·intro MG;have hact:o.act=6:=by simpa using MG
  have hnm:cu o.name=true:=by cases q:cu o.name<;>simp_all
  refine ab ?_;rcases Classical.em ((dg a.roots o.name o.ix o.gen).2=0)with he|he
  ·skip
   have hE:bG a o=dE a o:=jV (.inr (.inr ⟨hact,hnm,hg⟩));have hE2:dE a o=⟨{a with roots:=(dg a.roots o.name o.ix o.gen).1},0,0,[],(dg a.roots o.name o.ix o.gen).2⟩:=by simp[dE,hact]
   rw[hE2]at hE;have hdo:=(ep (o:=o) hR (by rw[hE];exact he)).trans hE;refine xY ?_;refine ay ?_;refine az rfl rfl rfl rfl (by simp;exact .mk) ⟨_,Tryz.func180,rfl,rfl⟩ (GI g _ _ _ _ _ a (by simp) ha hgd o hact ⟨ha.h3,ha.h5⟩ he) (.inr ⟨_,rfl⟩) ?_;refine aT ?_;iterate 2 (refine aH ?_)
   refine xH [4,5,6] ?_;refine xZ ?_;first|(simp[hdo,aF,aY,aJ,ai];done)|(simp[hdo,aF,aY,aJ,ai,he];done)|(simp[hdo,aF,aY,aJ,ai,cz];done)|(simp[hdo,aF,aY,aJ,ai,Go.splice,List.map_set];done)
  skip
  have hE:bG a o=dE a o:=jV (.inr (.inr ⟨hact,hnm,hg⟩));have hE2:dE a o=⟨{a with roots:=(dg a.roots o.name o.ix o.gen).1},0,0,[],(dg a.roots o.name o.ix o.gen).2⟩:=by simp[dE,hact]
  rw[hE2]at hE;have hdo:=c9 (o:=o) hR (by rw[hE];exact he)
  rw[hE]at hdo;refine xY ?_;refine ay ?_;refine az rfl rfl rfl rfl (by simp;exact .mk) ⟨_,Tryz.func180,rfl,rfl⟩ (DT g _ _ _ _ _ a (by simp) ha hgd o hact ⟨ha.h3,ha.h5⟩ he) (.inl (by simp)) ?_;refine aT ?_;iterate 2 (refine aH ?_)
  refine xH [4,5,6] ?_;refine xZ ?_;first|(simp[hdo,aF,aY,aJ,ai];done)|(simp[hdo,aF,aY,aJ,ai,he];done)|(simp[hdo,aF,aY,aJ,ai,cz];done)|(simp[hdo,aF,aY,aJ,ai,Go.splice,List.map_set];done)
 intro MG;have k4:o.act≠6:=by simpa using MG
 refine af fun _=>?_;refine ab ?_;obtain⟨k,hix,hk2,hk3,hk4⟩:=fD hg;have hkd:k<a.data.length:=by omega
 have hsl:=gC hR hk2;have hd:(nth a.data k).length≤2^40:=by omega
 have hfo:(o.act=2)∨(o.act=3∧b7 o.n=true)∨(o.act=3∧b7 o.n=false)∨(o.act=4∧cx (nth a.data k).length o.off o.n=true)∨(o.act=4∧cx (nth a.data k).length o.off o.n=false)∨(o.act=5∧cx (nth a.data k).length o.off o.b.length=true)∨(o.act=5∧cx (nth a.data k).length o.off o.b.length=false):=by cases b7 o.n<;>cases cx (nth a.data k).length o.off o.n<;>cases cx (nth a.data k).length o.off o.b.length<;>simp<;>omega
 rcases hfo with hact|⟨hact,hq⟩|⟨hact,hq⟩|⟨hact,hq⟩|⟨hact,hq⟩|⟨hact,hq⟩|⟨hact,hq⟩
 ·skip
  have hE:bG a o=cz a k:=JZ hg hix hact;have hdo:=(ep (o:=o) hR (by rw[hE];exact rfl)).trans hE;refine xY ?_;refine ay ?_;refine az rfl rfl rfl rfl (by simp;exact .mk) ⟨_,Tryz.func182,rfl,rfl⟩ (GJ g _ _ _ _ _ a (by simp) ha hgd o k hix hkd hd hact hk2 ⟨hsl.1,hsl.2.1⟩) (.inl (by simp)) ?_;refine aT ?_;iterate 2 (refine aH ?_)
  refine xH [4,5,6] ?_;refine xZ ?_;first|(simp[hdo,aF,aY,aJ,ai];done)|(simp[hdo,aF,aY,aJ,ai,he];done)|(simp[hdo,aF,aY,aJ,ai,cz];done)|(simp[hdo,aF,aY,aJ,ai,Go.splice,List.map_set];done)
 ·skip
  have hE:bG a o=⟨{a with data:=a.data.set k ((nth a.data k).take o.n.toNat++List.replicate (o.n.toNat-(nth a.data k).length) 0)},0,0,[],0⟩:=(EP hg hix hact).trans (by simp[bX,hq]);have hdo:=(ep (o:=o) hR (by rw[hE])).trans hE;refine xY ?_;refine ay ?_;refine az rfl rfl rfl rfl (by simp;exact .mk) ⟨_,Tryz.func182,rfl,rfl⟩ (GK g _ _ _ _ _ a (by simp) ha hgd o k hix hkd hd hact hq) (.inl (by simp)) ?_;refine aT ?_;iterate 2 (refine aH ?_)
  refine xH [4,5,6] ?_;refine xZ ?_;first|(simp[hdo,aF,aY,aJ,ai];done)|(simp[hdo,aF,aY,aJ,ai,he];done)|(simp[hdo,aF,aY,aJ,ai,cz];done)|(simp[hdo,aF,aY,aJ,ai,Go.splice,List.map_set];done)
 ·skip
  have hE:bG a o=⟨a,0,0,[],1⟩:=(EP hg hix hact).trans (by simp[bX,hq]);have hdo:=c9 (o:=o) hR (by rw[hE];exact by show (1:Int)≠0;decide)
  rw[hE]at hdo;refine xY ?_;refine ay ?_;refine az rfl rfl rfl rfl (by simp;exact .mk) ⟨_,Tryz.func182,rfl,rfl⟩ (DU g _ _ _ _ _ a (by simp) ha hgd o k hix hkd hd hact hq) (.inl (by simp)) ?_;refine aT ?_;iterate 2 (refine aH ?_)
  refine xH [4,5,6] ?_;refine xZ ?_;first|(simp[hdo,aF,aY,aJ,ai];done)|(simp[hdo,aF,aY,aJ,ai,he];done)|(simp[hdo,aF,aY,aJ,ai,cz];done)|(simp[hdo,aF,aY,aJ,ai,Go.splice,List.map_set];done)
 ·skip
  have hE:bG a o=⟨a,0,0,(((nth a.data k).drop o.off.toNat).take o.n.toNat),0⟩:=(ER hg hix hact).trans (by simp[fA,hq]);have hdo:=(ep (o:=o) hR (by rw[hE])).trans hE;refine xY ?_;refine ay ?_;refine az rfl rfl rfl rfl (by simp;exact .mk) ⟨_,Tryz.func182,rfl,rfl⟩ (GL g _ _ _ _ _ a (by simp) ha hgd o k hix hkd hd hact hq) (.inr ⟨_,rfl⟩) ?_;refine aT ?_;iterate 2 (refine aH ?_)
  refine xH [4,5,6] ?_;refine xZ ?_;first|(simp[hdo,aF,aY,aJ,ai];done)|(simp[hdo,aF,aY,aJ,ai,he];done)|(simp[hdo,aF,aY,aJ,ai,cz];done)|(simp[hdo,aF,aY,aJ,ai,Go.splice,List.map_set];done)
 ·skip
  have hE:bG a o=⟨a,0,0,[],1⟩:=(ER hg hix hact).trans (by simp[fA,hq]);have hdo:=c9 (o:=o) hR (by rw[hE];exact by show (1:Int)≠0;decide)
  rw[hE]at hdo;refine xY ?_;refine ay ?_;refine az rfl rfl rfl rfl (by simp;exact .mk) ⟨_,Tryz.func182,rfl,rfl⟩ (DV g _ _ _ _ _ a (by simp) ha hgd o k hix hkd hd hact hq) (.inl (by simp)) ?_;refine aT ?_;iterate 2 (refine aH ?_)
  refine xH [4,5,6] ?_;refine xZ ?_;first|(simp[hdo,aF,aY,aJ,ai];done)|(simp[hdo,aF,aY,aJ,ai,he];done)|(simp[hdo,aF,aY,aJ,ai,cz];done)|(simp[hdo,aF,aY,aJ,ai,Go.splice,List.map_set];done)
 ·skip
  have hE:bG a o=⟨{a with data:=a.data.set k (Go.splice (nth a.data k) o.off.toNat o.b)},0,0,[],0⟩:=(ES hg hix hact).trans (by simp[dx,hq]);have hdo:=(ep (o:=o) hR (by rw[hE])).trans hE;refine gG rfl [1002] rfl ?_;refine ay ?_;refine dX rfl rfl rfl rfl (by simp;exact .mk) ⟨_,Tryz.func182,rfl,rfl⟩ (cg (by simp) (cg (by simp) (cT (by simp)))) (GM g _ _ _ _ _ a (by simp) ha hgd o k hix hkd hd hact (by simp) qe hq) (by simp) (by decide) ?_;refine aT ?_;iterate 2 (refine aH ?_)
  refine xH [4,5,6] ?_;refine xZ ?_;first|(simp[hdo,aF,aY,aJ,ai];done)|(simp[hdo,aF,aY,aJ,ai,he];done)|(simp[hdo,aF,aY,aJ,ai,cz];done)|(simp[hdo,aF,aY,aJ,ai,Go.splice,List.map_set];done)
 skip
 have hE:bG a o=⟨a,0,0,[],1⟩:=(ES hg hix hact).trans (by simp[dx,hq]);have hdo:=c9 (o:=o) hR (by rw[hE];exact by show (1:Int)≠0;decide)
 rw[hE]at hdo;refine gG rfl [1002] rfl ?_;refine ay ?_;refine dX rfl rfl rfl rfl (by simp;exact .mk) ⟨_,Tryz.func182,rfl,rfl⟩ (cg (by simp) (cg (by simp) (cT (by simp)))) (DW g _ _ _ _ _ a (by simp) ha hgd o k hix hkd hd hact (by simp) qe hq) (by simp) (by decide) ?_;refine aT ?_;iterate 2 (refine aH ?_)
 refine xH [4,5,6] ?_;refine xZ ?_;first|(simp[hdo,aF,aY,aJ,ai];done)|(simp[hdo,aF,aY,aJ,ai,he];done)|(simp[hdo,aF,aY,aJ,ai,cz];done)|(simp[hdo,aF,aY,aJ,ai,Go.splice,List.map_set];done)
open Go.aN
attribute [simp] Tryz.f64 Tryz.f66 Tryz.f69
theorem Ni(g:Gl)(os:List aN.Obj)(b:List UInt8)(hb:b.length≤2^40):∀B S,a7 Tryz.prog g B S ⟨os.length,true⟩ 64 [.d (rB b)] os
    (fun x q=>x = .hdr os.length 0 b.length∧q=os++[.row 1 ((b++[77]).map vB)]):=by
 refine aL Tryz.func64 rfl (Nat.le_of_ble_eq_true rfl) fun B S=>?_
 have e1:IntKind.i64.wrap ((b.length:Int)+1)=(b.length:Int)+1:=wrap64 (by omega) (by omega);have e2:(b.length:Int)+1≤140737488355328:=by omega
 have e3:b.length+1≤140737488355328:=by omega
 have e4:(b.length:Int)≤(b.length:Int)+1:=by omega
 have h5:b.length<(b++[0]).length:=by simp
 have e6:(b.length:Int)<(b.length:Int)+1:=by omega
 refine xU ?_;refine xO ?_;refine xG [0] ?_;refine bx ?_;refine xO ?_ (h:=by simp[e1];exact .mk);refine xO ?_ (h:=by simp[e2,e3,e4];exact .mk);refine xO ?_;refine xE [0,3] ?_;rw[show List.replicate (b.length+1) (D.v (Value.int .u8 0))=(List.replicate (b.length+1) (0:UInt8)).map vB from by simp];refine xT ?_;refine ay ?_;refine xO ?_ (h:=by simp[qV,e4, -List.map_replicate];exact .mk);refine xE [0,3] ?_;rw[Ck];refine xT ?_;refine aT ?_;refine xO ?_ (h:=by simp[e1];exact .mk);refine xO ?_ (h:=by simp[ew, *];exact .mk);refine ay ?_;refine xO ?_ (h:=by simp[-List.map_append,e6];exact .mk);refine xO ?_ (h:=by simp[-List.getElem?_map, -List.map_append,ao h5,br,dn,bJ,splice];exact .mk);refine xG [3] ?_;refine bU [2] ?_;refine ar (al (by simp;exact .mk) ?_ ?_)
 ·simp
 simp
theorem Nj(g:Gl)(os tl:List aN.Obj)(b:List UInt8)(hb:b.length≤2^40):∀B S,a7 Tryz.prog g B S ⟨(os++aN.Obj.row 1 ((b++[77]).map vB)::tl).length,true⟩ 66 [.hdr os.length 0 b.length,.d (rB b)] (os ++ .row 1 ((b++[77]).map vB)::tl)
    (fun x q=>x = .d (vT true)∧q=os ++ .row 1 ((b++[77]).map vB)::tl):=by
 refine aL Tryz.func66 rfl (Nat.le_of_ble_eq_true rfl) fun B S=>?_
 have e1:IntKind.i64.wrap ((b.length:Int)+1)=(b.length:Int)+1:=wrap64 (by omega) (by omega);have e6:(b.length:Int)<(b.length:Int)+1:=by omega
 have e4:0≤(b.length:Int)+1:=by omega
 have h7:b.length<(b++[77]).length:=by simp
 refine xU ?_;refine xO ?_;refine xG [0,1] ?_;refine xO ?_;refine xO ?_ (h:=by simp[fO,fE,gx,gM,gL,zm,List.take_append,tq,pF];exact .mk);refine xO ?_;refine xO ?_ (h:=by simp[qr];exact .mk);refine ay ?_;iterate 3 refine xI ?_
 refine xI ?_ (h:=fun hb=>by simp[e1];exact .mk);refine xI ?_ (h:=fun hb=>by simp[ew,e4];exact .mk);iterate 2 refine xI ?_
 refine xI ?_ (h:=fun hb=>by simp[e6];exact .mk);refine xI ?_ (h:=fun hb=>by simp[-List.getElem?_map, -List.map_append,ao h7,Cs];exact .mk);refine xI ?_;refine xP ?_;refine xB ?_;refine xF [4] ?_;refine ar (al (by simp;exact .mk) ?_ ?_)
 ·simp
 simp
theorem JT(g:Gl)(i gn:Int)(b:List UInt8):a9 Tryz.prog g 69 [.agg [vI i,vI gn,rB b],.agg [vI i,vI gn,rB b]] (.v (.bool true)):=by
 refine xA Tryz.func69 fun B S=>?_
 skip
 refine xU ?_;refine aT ?_;refine xG [2,3] ?_;iterate 6 refine xO ?_
 iterate 2 refine xI ?_
 refine xI ?_ (h:=fun hb=>by simp[qr];exact .mk);iterate 2 refine xI ?_
 refine xI ?_ (h:=fun hb=>by simp[qr];exact .mk);refine xI ?_;refine xP ?_;refine xB ?_;refine xF [4] ?_;refine xZ ?_;simp
end Go.Proofs
