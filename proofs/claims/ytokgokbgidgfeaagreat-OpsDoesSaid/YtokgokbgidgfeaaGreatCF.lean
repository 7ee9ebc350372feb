/- Contracts of the program's functions and plain facts, for arguments as each lemma says. -/
import Derived.Test.YtokgokbgidgfeaaGreatCE
import Derived.Test.YtokgokbgidgfeaaGreatAwpD
import Derived.Test.YtokgokbgidgfeaaGreatCD
set_option linter.all false
set_option maxHeartbeats 4000000
set_option maxRecDepth 4000
namespace Go.Proofs
open Go.aN
attribute [simp] Tryz.f210 Tryz.f240
theorem JJ(g:Gl)(ks:List Int)(hl:ks.length≤2^39):a9 Tryz.prog g 240 [rI ks] (oO (kj ks)):=by
 refine xA Tryz.func240 fun B S=>?_
 refine xU ?_;refine xO ?_;refine xG [0] ?_;refine xO ?_;refine xG [0,3] ?_;refine xH [0,3,4] ?_;refine ab (xU ?_);refine dC [3,4,8,9,10] ?_;refine ag ?_
 refine aB (fun m σ o=>∃i:Nat,m=ks.length-i∧i≤ks.length∧σ=slots [(3,.hdr 0 0 (b8 ks i).1.length),(4,.d (vT (b8 ks i).2)),(8,.d (rI ks)),(9,.d (vI ks.length)),(10,.d (vI i))]∧o=[.row 2 ((b8 ks i).1.map aE)]) ks.length
  (Weak.trans (Weak.dJ 3 2 rfl) (Weak.kills [3,4,8,9,10] rfl) (fun _ _ _ h1 h2=>by rw[←h1.len];exact h2)) ⟨0,by simp,by simp,by simp[b8],by simp[b8]⟩ ?_
 rintro m σ o ⟨i,rfl,hi,rfl,rfl⟩ _;refine xU ?_;refine xH [3,4,8,9,10,11] ?_;refine ab (bd rfl ?_ ?_)
 ·intro h11;have hi2:i<ks.length:=by simpa using h11
  have hin:=ic (ks:=ks) (i:=i);have e2:((b8 ks i).1.length+1)*16≤140737488355328:=by omega
  have e3:(b8 ks i).1.length≤140737488355327:=by omega
  refine af fun _=>?_;refine ab (ag ?_);refine xU ?_;refine xO ?_;refine xO ?_ (h:=by simp[*];exact .mk);refine aT ?_;refine xG [3,4,5,6,8,9,10] ?_;refine dC [3,4,5,7,8,9,10] ?_;refine ab (ag ?_);refine xU ?_;refine ay ?_;refine xI ?_;refine xP ?_;refine xB ?_;refine xQ [3,5,7,8,9,10,17] ?_ ?_
  ·intro uC;have hk:nth ks i = -1∧(b8 ks i).2=true:=by simpa using uC
   have hst:b8 ks (i+1)=(lF (b8 ks i).1,true):=by rw[b8,if_pos hk.1,if_pos hk.2]
   obtain⟨R,hRR⟩:∃R,R=(b8 ks i).1:=⟨_,rfl⟩;obtain⟨m,hm,hm1,hm2⟩:∃m,R.length=m+1∧1≤(nth R m).2∧(nth R m).2≤i:=by rw[hRR];exact AY hk.2
   rw[←hRR]at hst hin ⊢;clear hRR;have e1:IntKind.i64.wrap (m:Int)=m:=wrap64 (by omega) (by omega);have em:m<R.length:=by omega
   have e4:IntKind.i64.wrap ((nth R m).2+1)=(nth R m).2+1:=wrap64 (by omega) (by omega);refine xY ?_;refine ay ?_;refine xO ?_ (h:=by simp[hm];exact .mk);refine xO ?_ (h:=by simp[hm,e1];exact .mk);refine xO ?_ (h:=by simp[em];exact .mk);refine xO ?_;refine xO ?_ (h:=by simp[-List.getElem?_map,ao em,aE];exact .mk);refine xO ?_ (h:=by simp[e4];exact .mk);refine xO ?_ (h:=by simp[em];exact .mk);refine xO ?_;refine xO ?_ (h:=by simp[-List.getElem?_map,ao em,aE,br,dn,bJ,splice];exact .mk);refine xF [3,7,8,9,10] ?_;refine xY ?_;refine bU [3,4,8,9,10] ?_;refine xY ?_;refine ay ?_;refine xE [3,4,8,9,10] ?_;refine ah [3,4,8,9,10] ?_;first
   | (refine aq 1 [3,4,8,9,10] (by decide) (by rfl) (by rfl) ?_
      refine ae (m' := ks.length - (i+1)) (by omega) ⟨i+1, rfl, by omega, ?_, ?_⟩
      · rw [wrap64 (by omega) (by omega), hst]; simp [lF, *]; try rfl
      rw [hst]; simp [lF, List.map_set, aE, br, dn, bJ, splice, *]; try rfl)
   | (refine aD [3,4,8,9,10] rfl ?_
      refine aC 0 2 1 (by decide) (by simp) (by decide) rfl rfl ?_
      refine aq 1 [3,4,8,9,10] (by decide) (by rfl) (by rfl) ?_
      refine ae (m' := ks.length - (i+1)) (by omega) ⟨i+1, rfl, by omega, ?_, ?_⟩
      · rw [wrap64 (by omega) (by omega), hst]; simp [hk2]; try rfl
      rw [hst]; simp [aE]; try rfl)
  intro uC;have hk:¬(nth ks i = -1∧(b8 ks i).2=true):=by simpa using uC
  refine xU ?_;refine ay ?_;refine xQ [3,5,7,8,9,10,32] ?_ ?_
  ·intro h32;have hk2:nth ks i = -1:=by simpa using h32
   have hst:b8 ks (i+1)=((b8 ks i).1++[((i:Int),1)],true):=by rw[b8,if_pos hk2,if_neg (fun h=>hk ⟨hk2,h⟩)]
   refine xY ?_;refine ay ?_;refine aH ?_;refine xO ?_;refine xO ?_ (h:=by simp[rows,e2,e3];exact .mk);refine xH [3,7,8,9,10] ?_;refine xY ?_;refine bU [3,4,8,9,10] ?_;refine xY ?_;refine ay ?_;refine xE [3,4,8,9,10] ?_;refine ah [3,4,8,9,10] ?_;first
   | (refine aq 1 [3,4,8,9,10] (by decide) (by rfl) (by rfl) ?_
      refine ae (m' := ks.length - (i+1)) (by omega) ⟨i+1, rfl, by omega, ?_, ?_⟩
      · rw [wrap64 (by omega) (by omega), hst]; simp [lF, *]; try rfl
      rw [hst]; simp [lF, List.map_set, aE, br, dn, bJ, splice, *]; try rfl)
   | (refine aD [3,4,8,9,10] rfl ?_
      refine aC 0 2 1 (by decide) (by simp) (by decide) rfl rfl ?_
      refine aq 1 [3,4,8,9,10] (by decide) (by rfl) (by rfl) ?_
      refine ae (m' := ks.length - (i+1)) (by omega) ⟨i+1, rfl, by omega, ?_, ?_⟩
      · rw [wrap64 (by omega) (by omega), hst]; simp [hk2]; try rfl
      rw [hst]; simp [aE]; try rfl)
  intro h32;have hk2:nth ks i ≠ -1:=by simpa using h32
  have hst:b8 ks (i+1)=((b8 ks i).1,false):=by rw[b8,if_neg hk2]
  refine af fun _=>?_;refine xY ?_;refine bU [3,4,8,9,10] ?_;refine xY ?_;refine ay ?_;refine xE [3,4,8,9,10] ?_;refine ah [3,4,8,9,10] ?_;first
  | (refine aq 1 [3,4,8,9,10] (by decide) (by rfl) (by rfl) ?_
     refine ae (m' := ks.length - (i+1)) (by omega) ⟨i+1, rfl, by omega, ?_, ?_⟩
     · rw [wrap64 (by omega) (by omega), hst]; simp [lF, *]; try rfl
     rw [hst]; simp [lF, List.map_set, aE, br, dn, bJ, splice, *]; try rfl)
  | (refine aD [3,4,8,9,10] rfl ?_
     refine aC 0 2 1 (by decide) (by simp) (by decide) rfl rfl ?_
     refine aq 1 [3,4,8,9,10] (by decide) (by rfl) (by rfl) ?_
     refine ae (m' := ks.length - (i+1)) (by omega) ⟨i+1, rfl, by omega, ?_, ?_⟩
     · rw [wrap64 (by omega) (by omega), hst]; simp [hk2]; try rfl
     rw [hst]; simp [aE]; try rfl)
 intro h11;obtain rfl:i=ks.length:=by simp at h11;omega
 refine aP (xT ?_);refine bU [2] ?_;refine xZ ?_;simp[ai,kj]
theorem Jv(g:Gl)(ks:List Int)(hl:ks.length≤2^39)(n:Int):a9 Tryz.prog g 210 [rI ks,vI n] (.bK [vI ((gJ ks n).getD (0,0)).1,.v (.bool (gJ ks n).isSome)]):=by
 refine xA Tryz.func210 fun B S=>?_
 refine xU ?_;refine ay ?_;refine xG [0,1,4,5] ?_;refine xH [0,1,4,5,6] ?_;refine ab (xU ?_);refine xO ?_;refine xC (JJ g ks hl) ?_;refine ay ?_;refine xF [1,4,5,6,10,11,12] ?_;refine ag ?_;obtain⟨R,hR⟩:∃R,R=kj ks:=⟨_,rfl⟩;have hbb:gJ ks n=R.foldl (aU n) none:=by rw[hR];rfl
 have hRl:R.length≤ks.length:=by rw[hR];exact ic
 rw[hbb];simp only[←hR];refine aB (fun m σ o=>∃i:Nat,m=R.length-i∧i≤R.length∧σ=slots [(1,.d (vI n)),(4,.d (vI (((R.take i).foldl (aU n) none).getD (0,0)).1)),(5,.d (vT ((R.take i).foldl (aU n) none).isSome)),(6,.d (vI (((R.take i).foldl (aU n) none).getD (0,0)).2)),(10,.hdr 0 0 R.length),(11,.d (vI R.length)),(12,.d (vI i))]∧o=[.row 2 (R.map aE)]) R.length (Weak.kills [1,4,5,6,10,11,12] rfl) ⟨0,by simp,by simp,by simp,by simp⟩ ?_;rintro m σ o ⟨i,rfl,hi,rfl,rfl⟩ _;refine xU ?_;refine xH [1,4,5,6,10,11,12,13] ?_;refine ab (bd rfl ?_ ?_)
 ·intro i7;have hi2:i<R.length:=by simpa using i7
  have hst:(R.take (i+1)).foldl (aU n) none=aU n ((R.take i).foldl (aU n) none) (nth R i):=by rw[take_succ hi2,List.foldl_append];rfl
  obtain⟨b,hb⟩:∃b,b=(R.take i).foldl (aU n) none:=⟨_,rfl⟩;rw[←hb]at hst ⊢;refine af fun _=>?_;refine ab (ag ?_);refine xU ?_;refine xO ?_ (h:=by simp[aE,hi2];exact .mk);refine xO ?_ (h:=by simp[-List.getElem?_map,ao hi2,aE];exact .mk);refine xO ?_;refine aH ?_;refine xF [1,4,5,6,8,10,11,12] ?_;refine ab ?_;rcases b with _|b
  ·skip
   skip
   refine xY ?_;refine aT ?_;refine xI ?_;refine xI ?_ (h:=fun hb=>by simp[aE];exact .mk);iterate 2 refine xI ?_
   refine xP ?_;refine xB ?_;iterate 4 refine xI ?_
   refine xI ?_ (h:=fun hb=>by simp[aE];exact .mk);iterate 2 refine xI ?_
   iterate 2 refine xP ?_
   refine xQ [1,4,5,6,8,10,11,12,33] ?_ ?_
   ·intro ta;have hs:(R.take (i+1)).foldl (aU n) none=some (nth R i):=by rw[hst,aU,if_pos (by simp at ta ⊢;omega)]
    refine aS (by kernel_rfl) [] 4 [0,1,2,3,4,5,6] (by decide +kernel) ?_;refine xO ?_;refine xO ?_ (h:=by simp[aE];exact .mk);refine xO ?_;refine xO ?_ (h:=by simp[aE];exact .mk);refine dC [1,4,5,6,10,11,12] ?_;refine xY ?_;refine ay ?_;refine xE [1,4,5,6,10,11,12] ?_;refine aq 1 [1,4,5,6,10,11,12] (by simp) (by simp) (by simp) ?_;refine ae (m':=R.length-(i+1)) (by omega) ⟨i+1,rfl,by omega,?_,rfl⟩;rw[wrap64 (by omega) (by omega),hs];rfl
   intro ta;have hs:(R.take (i+1)).foldl (aU n) none=none:=by rw[hst,aU,if_neg (by simp at ta ⊢;omega)]
   refine af fun _=>?_;refine xY ?_;refine ay ?_;refine xE [1,4,5,6,10,11,12] ?_;refine aq 1 [1,4,5,6,10,11,12] (by simp) (by simp) (by simp) ?_;refine ae (m':=R.length-(i+1)) (by omega) ⟨i+1,rfl,by omega,?_,rfl⟩;rw[wrap64 (by omega) (by omega),hs];rfl
  skip
  skip
  refine xY ?_;refine aT ?_;refine xI ?_;refine xI ?_ (h:=fun hb=>by simp[aE];exact .mk);iterate 2 refine xI ?_
  refine xP ?_;refine xB ?_;iterate 4 refine xI ?_
  refine xI ?_ (h:=fun hb=>by simp[aE];exact .mk);iterate 2 refine xI ?_
  iterate 2 refine xP ?_
  refine xQ [1,4,5,6,8,10,11,12,33] ?_ ?_
  ·intro ta;have hs:(R.take (i+1)).foldl (aU n) none=some (nth R i):=by rw[hst,aU,if_pos (by simp at ta ⊢;omega)]
   refine aS (by kernel_rfl) [] 4 [0,1,2,3,4,5,6] (by decide +kernel) ?_;refine xO ?_;refine xO ?_ (h:=by simp[aE];exact .mk);refine xO ?_;refine xO ?_ (h:=by simp[aE];exact .mk);refine dC [1,4,5,6,10,11,12] ?_;refine xY ?_;refine ay ?_;refine xE [1,4,5,6,10,11,12] ?_;refine aq 1 [1,4,5,6,10,11,12] (by simp) (by simp) (by simp) ?_;refine ae (m':=R.length-(i+1)) (by omega) ⟨i+1,rfl,by omega,?_,rfl⟩;rw[wrap64 (by omega) (by omega),hs];rfl
  intro ta;have hs:(R.take (i+1)).foldl (aU n) none=some b:=by rw[hst,aU,if_neg (by simp at ta ⊢;omega)]
  refine af fun _=>?_;refine xY ?_;refine ay ?_;refine xE [1,4,5,6,10,11,12] ?_;refine aq 1 [1,4,5,6,10,11,12] (by simp) (by simp) (by simp) ?_;refine ae (m':=R.length-(i+1)) (by omega) ⟨i+1,rfl,by omega,?_,rfl⟩;rw[wrap64 (by omega) (by omega),hs];rfl
 intro i7;obtain rfl:i=R.length:=by simp at i7;omega
 rw[List.take_length];refine aP (xT ?_);refine bx ?_;refine xF [4,5] ?_;refine xZ ?_;simp
open Go.aN
attribute [simp] Tryz.f208
theorem KN(g:Gl)(ks:List Int)(ms:List Nat)(h1:ms.length=64)(h2:ks.length≤64)(h3:∀i,i<64→nth ms i<2^64)(c:Nat)(hc:c<6):∀B S,a7 Tryz.prog g B S ⟨4,true⟩ 208 [.ptr 3 0 0,.d (vI c)] [.var 157 [.ptr 3 0 0],.var 4 [.d (vT true)],.row 1 (ks.map vI),.var 163 (AV.hdr 2 0 ks.length::ms.map cU)]
    (fun x r=>x = .bK [.d (vI ((jx ks ms c).getD 0)),.d (vT (jx ks ms c).isSome)]∧r=[.var 157 [.ptr 3 0 0],.var 4 [.d (vT true)],.row 1 (ks.map vI),.var 163 (AV.hdr 2 0 ks.length::ms.map cU)]):=by
 refine aL Tryz.func208 rfl (Nat.le_of_ble_eq_true rfl) fun B S=>?_
 obtain⟨m,hm⟩:∃m:Nat,(cellsS c).1=m:=⟨(cellsS c).1.toNat,by have:=gY c hc;omega⟩;have hmm:(cellsS c).1.toNat=m:=by omega
 have Ps:m≤14:=by have:=gY c hc;omega
 refine xU ?_;refine ay ?_;refine xG [0,1] ?_;refine xO ?_;refine xC (EM g c) ?_;refine cW ?_;refine xF [0,1,6] ?_;refine ab (xU ?_);iterate 6 refine xO ?_
 refine xF [0,1,6,23,24,25] ?_;refine ag (aB (fun f σ o=>∃p:Nat,f=ks.length-p∧p≤ks.length∧(∀q,q<p→(jD ks ms c m q).isSome=false)∧σ=slots [(0,.ptr 3 0 0),(1,.d (vI c)),(6,.d (vI m)),(23,.hdr 2 0 ks.length),(24,.d (vI ks.length)),(25,.d (vI p))]∧o=[.var 157 [.ptr 3 0 0],.var 4 [.d (vT true)],.row 1 (ks.map vI),.var 163 (AV.hdr 2 0 ks.length::ms.map cU)]) ks.length (Weak.kills [0,1,6,23,24,25] (by simp[eu,hm])) ⟨0,by simp,by simp,by simp,rfl,rfl⟩ ?_);rintro f σ o ⟨p,rfl,hp,hinv,rfl,rfl⟩ _;refine xU ?_;refine xH [0,1,6,23,24,25,26] ?_;refine ab (bd rfl ?_ ?_)
 ·intro i8;have hp2:p<ks.length:=by simpa using i8
  have q1:(p:Int)<64:=by omega
  have r1:p<ms.length:=by omega
  have d1:=mD (f:=cU) r1;refine af fun _=>?_;refine ab (ag ?_);refine xU ?_;refine xO ?_;refine xO ?_ (h:=by simp[hp2];exact .mk);refine xO ?_ (h:=by simp[-List.getElem?_map,ao hp2];exact .mk);refine ay ?_;refine xG [0,1,6,8,9,23,24,25] ?_;refine bU [0,1,6,8,9,23,24,25,30,31] ?_;refine ag (aB (fun f σ o=>∃k:Nat,f=m-k∧k≤m∧(nth ks p=c→∀j,j<k→(nth ms p).testBit j=true)∧σ=slots [(0,.ptr 3 0 0),(1,.d (vI c)),(6,.d (vI m)),(8,.d (vI p)),(9,.d (vI (nth ks p))),(23,.hdr 2 0 ks.length),(24,.d (vI ks.length)),(25,.d (vI p)),(30,.d (vI m)),(31,.d (vI k))]∧o=[.var 157 [.ptr 3 0 0],.var 4 [.d (vT true)],.row 1 (ks.map vI),.var 163 (AV.hdr 2 0 ks.length::ms.map cU)]) m .refl ⟨0,by simp,by simp,by simp,rfl,rfl⟩ ?_);rintro f σ o ⟨k,rfl,hk,hin2,rfl,rfl⟩ _;refine xU ?_;refine xH [0,1,6,8,9,23,24,25,30,31,32] ?_;refine ab (bd rfl ?_ ?_)
  ·intro h32;have hk2:k<m:=by simpa using h32
   have Ki:k<64:=by omega
   have hg:=h3 p (by omega);obtain⟨z,hz⟩:∃z:Nat,z=nth ms p >>> k:=⟨_,rfl⟩;have b1:=NN (m:=nth ms p) Ki;rw[←hz]at b1;have Nf:z<2^64:=by rw[hz,Nat.shiftRight_eq_div_pow];exact Nat.lt_of_le_of_lt (Nat.div_le_self _ _) hg
   have b2:=ID (b:=1) Nf (by decide);have hbit:=LY hz;refine af fun _=>?_;refine ab (ag ?_);refine xU ?_;refine ay ?_;refine xG [0,1,6,8,9,10,23,24,25,30,31] ?_;refine bx ?_;iterate 4 refine xI ?_
   refine xI ?_ (h:=fun hb=>by simp[cL,q1];exact .mk);refine xI ?_ (h:=fun hb=>by simp[cU,d1];exact .mk);refine xI ?_;refine xI ?_ (h:=fun hb=>by simp[b1];exact .mk);refine xI ?_ (h:=fun hb=>by simp[b2];exact .mk);refine xI ?_;refine xP ?_;refine xQ [0,1,6,8,9,10,23,24,25,30,31,48] ?_ ?_
   ·intro h48;have hh:nth ks p=c∧(nth ms p).testBit k=false:=by rw[hbit];simp at h48 ⊢;omega
    have ho:jD ks ms c m p=some k:=r9 hh.1 hk2 (hin2 hh.1) hh.2;have hsl:ov ks ms c=some p:=sO (m:=m) hmm hp2 hinv ho;have hr:jx ks ms c=some ((p:Int)*32+(cellS c k).1):=by unfold jx;rw[hsl];simp only;rw[hmm,ho];rfl
    have ct:=oN c hc k (by omega) (by omega);have w1:IntKind.i64.wrap ((p:Int)*32)=(p:Int)*32:=wrap64 (by omega) (by omega);have w2:IntKind.i64.wrap ((p:Int)*32+(cellS c k).1)=(p:Int)*32+(cellS c k).1:=wrap64 (by omega) (by omega);refine xU ?_;refine ay ?_;refine xC (JI g c k) ?_;refine cW ?_;refine xG [8,11] ?_;refine xO ?_;refine xO ?_ (h:=by simp[w1];exact .mk);refine xO ?_;refine xO ?_ (h:=by simp[w1,w2];exact .mk);refine bU [4,5] ?_;refine ar (al (by simp;exact .mk) ?_ ?_)
    ·simp[hr]
    rfl
   intro h48;refine af fun _=>?_;refine xY ?_;refine ay ?_;refine xE [0,1,6,8,9,23,24,25,30,31] ?_;refine ah [0,1,6,8,9,23,24,25,30,31] ?_;refine ae (m':=m-(k+1)) (by omega) ⟨k+1,rfl,by omega,fun e j hj=>?_,?_,rfl⟩
   ·rcases Nat.lt_succ_iff_lt_or_eq.1 hj with hj|rfl
    ·exact hin2 e j hj
    rw[hbit];simp[e]at h48 ⊢;omega
   rw[wrap64 (by omega) (by omega)];rfl
  intro h32;obtain rfl:k=m:=by simp at h32;omega
  refine aP ?_;rintro -;refine xY ?_;refine ay ?_;refine xE [0,1,6,23,24,25] ?_;refine ah [0,1,6,23,24,25] ?_;refine ae (m':=ks.length-(p+1)) (by omega) ⟨p+1,rfl,by omega,fun q hq=>?_,?_,rfl⟩
  ·rcases Nat.lt_succ_iff_lt_or_eq.1 hq with hq|rfl
   ·exact hinv q hq
   exact r8 hin2
  rw[wrap64 (by omega) (by omega)];rfl
 intro i8;obtain rfl:p=ks.length:=by simp at i8;omega
 have hsl:ov ks ms c=none:=sK (m:=m) hmm hinv;have hr0:jx ks ms c=(vL ks).map fun(p:Nat)=>(p:Int)*32+4:=by unfold jx;rw[hsl]
 refine aP ?_;rintro -;refine ab (xU ?_);iterate 6 refine xO ?_
 refine xF [64,65,66] ?_;refine ag (aB (fun f σ o=>∃p:Nat,f=ks.length-p∧p≤ks.length∧(∀q,q<p→nth ks q ≠ -1)∧σ=slots [(64,.hdr 2 0 ks.length),(65,.d (vI ks.length)),(66,.d (vI p))]∧o=[.var 157 [.ptr 3 0 0],.var 4 [.d (vT true)],.row 1 (ks.map vI),.var 163 (AV.hdr 2 0 ks.length::ms.map cU)]) ks.length .refl ⟨0,by simp,by simp,by simp,rfl,rfl⟩ ?_);rintro f σ o ⟨p,rfl,hp,Gx,rfl,rfl⟩ _;refine xU ?_;refine xH [64,65,66,67] ?_;refine ab (bd rfl ?_ ?_)
 ·intro BW;have hp2:p<ks.length:=by simpa using BW
  refine af fun _=>?_;refine ab (ag ?_);refine xU ?_;refine xO ?_;refine xO ?_ (h:=by simp[hp2];exact .mk);refine xO ?_ (h:=by simp[-List.getElem?_map,ao hp2];exact .mk);refine ay ?_;refine xG [13,14,64,65,66] ?_;refine ay ?_;refine xQ [13,64,65,66,72] ?_ ?_
  ·intro h72;have hk:nth ks p = -1:=by simpa using h72
   have hr:jx ks ms c=some ((p:Int)*32+4):=by rw[hr0,rm hp2 hk Gx];rfl
   have w1:IntKind.i64.wrap ((p:Int)*32)=(p:Int)*32:=wrap64 (by omega) (by omega);have w2:IntKind.i64.wrap ((p:Int)*32+4)=(p:Int)*32+4:=wrap64 (by omega) (by omega);refine xU ?_;refine xO ?_;refine xO ?_ (h:=by simp[w1];exact .mk);refine xO ?_ (h:=by simp[w1,w2];exact .mk);refine bU [4,5] ?_;refine ar (al (by simp;exact .mk) ?_ ?_)
   ·simp[hr]
   rfl
  intro h72;refine af fun _=>?_;refine xY ?_;refine ay ?_;refine xE [64,65,66] ?_;refine ah [64,65,66] ?_;refine ae (m':=ks.length-(p+1)) (by omega) ⟨p+1,rfl,by omega,fun q hq=>?_,?_,rfl⟩
  ·rcases Nat.lt_succ_iff_lt_or_eq.1 hq with hq|rfl
   ·exact Gx q hq
   simpa using h72
  rw[wrap64 (by omega) (by omega)];rfl
 intro BW;have hr:jx ks ms c=none:=by rw[hr0,rk (fun q hq=>Gx q (by simp at BW;omega))];rfl
 refine aP (xT ?_);refine bU [4,5] ?_;refine ar (al (by simp;exact .mk) ?_ ?_)
 ·simp[hr]
 rfl
open Go.aN
attribute [simp] Tryz.f152
theorem Jf(g:Gl)(pages:Int)(l:List (Int×Int))(hl:l.length≤2^40)(ho:∀i,i<l.length→(nth l i).1≤2^40)(n:Int):a9 Tryz.prog g 152 [vI pages,rO l,vI n] (.bK [vI ((db pages l n).getD 0),.v (.bool (db pages l n).isSome)]):=by
 refine xA Tryz.func152 fun B S=>?_
 have hc:=E7 g pages l hl ho;refine xU ?_;refine bU [0,1,2] ?_;refine ab ?_;cases hr0:cR pages l
 ·skip
  simp only[hr0]at hc;have hr:db pages l n=none:=by unfold db;rw[hr0]
  refine xY ?_;refine ay ?_;refine az rfl rfl rfl rfl (by simp;exact .mk) ⟨_,Tryz.func141,rfl,rfl⟩ hc (.inl (by simp)) ?_;refine cW ?_;refine xF [2,8,9] ?_;refine ab (xU ?_);refine ay ?_;refine xQ [2,8,23] ?_ ?_
  ·intro h23;refine xU ?_;refine bU [6,7] ?_;refine xZ ?_;first|(simp[hr];done)|(simp[hr];cases b<;>simp)
  intro h23;simp at h23
 skip
 rename_i y;simp only[hr0]at hc;have L:=tN hr0;obtain⟨hp0,Pt,hy⟩:=ng hr0;have hlt:=u1 (pages:=pages) (l:=l) (i:=l.length);rw[←hy]at hlt;obtain⟨ks,ms⟩:=y;simp only at hc L hlt;have hks:=L.len;rw[←hks]at hc;refine xY ?_;refine ay ?_;refine az rfl rfl rfl rfl (by simp;exact .mk) ⟨_,Tryz.func141,rfl,rfl⟩ hc (.inl (by simp)) ?_;refine cW ?_;refine xF [2,8,9] ?_;refine ab (xU ?_);refine ay ?_;refine xQ [2,8,23] ?_ ?_
 ·intro h23;simp at h23
 intro h23;refine af fun _=>?_;refine ab (xU ?_);refine xO ?_;refine xC (EC g n) ?_ (he:=by simp[show (D.cF∘vI)=vI from funext fun _=>gp _];exact .mk);refine cW ?_;refine xG [2,8,10,11] ?_;refine xO ?_;refine xQ [2,8,10,29] ?_ ?_
 ·intro qd;have hcl:(bB n).2=true:=qd;obtain⟨c,hc6,hcn⟩:=nJ hcl;have hr:db pages l n=jx ks ms c:=by unfold db;rw[hr0];simp only;rw[if_pos hcl,hcn]
  rw[hcn];refine xU ?_;refine ay ?_;refine az rfl rfl rfl rfl (by simp;exact .mk) ⟨_,Tryz.func208,rfl,rfl⟩ (KN g ks ms L.len2 (by have:=L.len;omega) hlt c hc6) (.inl (by simp)) ?_;refine bx ?_;refine xF [6,7] ?_;refine xZ ?_;first|(simp[hr];done)|(simp[hr];cases b<;>simp)
 intro qd;have hcl:¬(bB n).2=true:=by simpa using qd
 refine af ?_;refine xT ?_;refine xO ?_;refine xC (ED g n) ?_ (he:=by simp[show (D.cF∘vI)=vI from funext fun _=>gp _];exact .mk);refine cW ?_;refine xF [8,12,13] ?_;refine ab (xU ?_);refine ay ?_;refine xQ [8,12,41] ?_ ?_
 ·intro j0;have hr:db pages l n=none:=by unfold db;rw[hr0];simp only;rw[if_neg hcl,if_pos (by simpa using j0)]
  refine xU ?_;refine bU [6,7] ?_;refine xZ ?_;first|(simp[hr];done)|(simp[hr];cases b<;>simp)
 intro j0;have hr:db pages l n=(gJ ks (bw n).1).map fun g=>g.1*32:=by unfold db;rw[hr0];simp only;rw[if_neg hcl,if_neg (by simpa using j0)]
 have hbb:=zd (ks:=ks) (n:=(bw n).1);have IL:=Jv g ks (by have:=L.len;omega) (bw n).1;obtain⟨b,hb⟩:∃b,b=gJ ks (bw n).1:=⟨_,rfl⟩;rw[←hb]at hr hbb IL;have w1:IntKind.i64.wrap ((b.getD (0,0)).1*32)=(b.getD (0,0)).1*32:=wrap64 (by omega) (by omega);refine af ?_;refine xT ?_;refine cW ?_;refine xC (IL) ?_ (he:=by simp[show (D.cF∘vI)=vI from funext fun _=>gp _];exact .mk);refine cW ?_;refine xG [14,15] ?_;refine xO ?_;refine xO ?_ (h:=by simp[w1];exact .mk);refine dC [6,7] ?_;refine xZ ?_;first|(simp[hr];done)|(simp[hr];cases b<;>simp)
open Go.aN
attribute [simp] Tryz.f38 Tryz.f103
theorem IX(g:Gl)(s:bF)(hs:s.Ok)(hR:bL s=true)(two:Bool)(n:Int):a9 Tryz.prog g 103 [cr s,vT two,vI n] (.bK [vI ((mH s two n).getD 0),.v (.bool (mH s two n).isSome)]):=by
 refine xA Tryz.func103 fun B S=>?_
 simp only[cr,List.map,aO,cC];have hb:=gP (ij hR);have hT:=kq hR;have M4:=jt hT;have htl:=mv (l:=s.slots);refine xU ?_;refine dC [1,2,3] ?_;refine ab (xU ?_);refine ay ?_;refine xQ [2,3,11] ?_ ?_
 ·intro h11;have hr:mH s two n=qj s n:=by unfold mH;rw[if_neg (by simpa using h11)]
  refine xU ?_;refine ay ?_;refine xC (Je g s hs hR n) ?_;refine bx ?_;refine xF [6,7] ?_;refine xZ ?_;simp[hr]
 intro h11;have hr:mH s two n=db s.base (bW s.slots) n:=by unfold mH;rw[if_pos (by simpa using h11)]
 refine af ?_;refine xT ?_;refine xO ?_;refine xC (Jx g s hs) ?_;refine cW ?_;refine xG [2,3,8] ?_;refine bx ?_;refine xC (Jf g s.base (bW s.slots) (by omega) (s6 hT) n) ?_;refine bx ?_;refine xF [6,7] ?_;refine xZ ?_;simp[hr]
theorem L8(g:Gl)(s:bF)(hs:s.Ok)(two:Bool)(n:Int):a9 Tryz.prog g 38 [cr s,vT two,vI n] (.bK [vI ((cH s two n).getD 0),.v (.bool (cH s two n).isSome)]):=by
 refine xA Tryz.func38 fun B S=>?_
 simp only[cr,List.map,aO,cC];refine xU ?_;refine dC [1,2,3] ?_;refine ab (xU ?_);refine xO ?_;refine xC (Ag g s hs) ?_;refine ay ?_;refine xI ?_;refine bI rfl (by simp;exact .mk) rfl rfl (by simp) (by simp;exact .mk) (by simp;exact .mk) (fun hb=>Bx g n) (by simp) (by simp;exact .mk) (by simp) ?_;refine xI ?_;refine xP ?_;refine xQ [1,2,3,15] ?_ ?_
 ·intro jY;have hr:cH s two n=none:=by unfold cH;rw[if_neg];simp at jY ⊢;grind
  refine xU ?_;refine bU [6,7] ?_;refine xZ ?_;simp[hr]
 intro jY;have hR:bL s=true∧cV n=true:=by simp at jY;grind
 have hr:cH s two n=mH s two n:=by unfold cH;rw[if_pos (by simp[hR])]
 refine af ?_;refine xT ?_;refine aT ?_;refine xC (IX g s hs hR.1 two n) ?_;refine bx ?_;refine xF [6,7] ?_;refine xZ ?_;simp[hr]
open Go.aN
attribute [simp] Tryz.f107 Tryz.f159
theorem Kv(g:Gl)(o0 o1 o2 o3 o4:aN.Obj)(mode:Int):∀B S,a7 Tryz.prog g B S ⟨5,true⟩ 107 [.d (vI mode)] [o0,o1,o2,o3,o4]
    (fun x r=>x = .fn (.func 159) [] [.ptr 5 0 0]∧r=[o0,o1,o2,o3,o4,.var 3 [.d (vI mode)]]):=by
 refine aL Tryz.func107 rfl (Nat.le_of_ble_eq_true rfl) fun B S=>?_
 refine xU ?_;refine ay ?_;refine xE [1] ?_;refine xT ?_;refine ay ?_;refine xE [2] fun _=>?_;refine ar (al (by simp;exact .mk) ?_ ?_)
 ·simp
 simp
theorem Ky(g:Gl)(mode:Int)(b lb:Nat)(c:vc)(L:List (Nat×AV))(hc1:c.params.size=1)(hc2:∀p∈c.params.toList,p<c.n)(a0 a1 a2 a3 a4:aN.Obj)(d2 d3 d4:Bool→aN.Obj)(ok:Bool→Bool)
    (z0:a0.lt 8=true) (z1:a1.lt 8=true) (z2:a2.lt 8=true) (z3:a3.lt 8=true) (z4:a4.lt 8=true) (y2:∀t,(d2 t).lt 8=true) (y3:∀t,(d3 t).lt 8=true) (y4:∀t,(d4 t).lt 8=true) (zL:(L.all fun p=>p.2.lt 8)=true)
    (iK:∀two,∀B S,ky Tryz.prog g B S lb 7 c L [.d (vT two)] [a0,a1,a2,a3,a4,.var 3 [.d (vI mode)],.blk b,.lp lb c L .ready none] (fun bb o=>bb=ok two∧o=if ok two=true then [a0,a1,a2,a3,a4,.var 3 [.d (vI mode)],.blk b,.lp lb c L .ready none]else [a0,a1,d2 two,d3 two,d4 two,.var 3 [.d (vI mode)],.blk b,.lp lb c L .done (some .ret)])) :
    ∀B S,a7 Tryz.prog g B S ⟨8,true⟩ 159 [.fn (.yield lb) [] [],.ptr 5 0 0] [a0,a1,a2,a3,a4,.var 3 [.d (vI mode)],.blk b,.lp lb c L .ready none] (fun x r=>x = .bK []∧r=(match dD mode ok with|none=>[a0,a1,a2,a3,a4,.var 3 [.d (vI mode)],.blk b,.lp lb c L .ready none]|some two=>[a0,a1,d2 two,d3 two,d4 two,.var 3 [.d (vI mode)],.blk b,.lp lb c L .done (some .ret)])):=by
 refine ma Tryz.func159 rfl (Nat.le_of_ble_eq_true rfl) fun B S=>?_
 refine cd ?_;refine cB rfl ?_ (by decide +kernel);refine xO ?_;refine xE [0,3] fun _=>?_;refine fM ?_;refine cd ?_;refine cB rfl ?_ (by decide +kernel);refine ay ?_;refine xE [0,3,4] fun _=>?_;refine fY rfl ?_ ?_
 ·intro h4;have hm:mode=1:=by simpa using h4
  refine qp rfl ?_;refine kB [0] [1] rfl (by decide +kernel) ?_;refine xB ?_;refine jF ?_;refine iY (fun bb o=>bb=ok false∧o=if ok false=true then [a0,a1,a2,a3,a4,.var 3 [.d (vI mode)],.blk b,.lp lb c L .ready none]else [a0,a1,d2 false,d3 false,d4 false,.var 3 [.d (vI mode)],.blk b,.lp lb c L .done (some .ret)]) rfl (by simp;exact .mk) rfl rfl rfl (by simp) (by simp;exact .mk) (by simp;exact .mk) rfl hc1 hc2 (iK false) ?_;rintro bb o2 ⟨rfl,rfl⟩;cases Km:ok false
  ·skip
   have hr:dD mode ok=some false:=by simp[dD,gN, *]
   simp only[Bool.false_eq_true,if_false];refine fN [] (by decide +kernel) ?_;refine xE [] ?_;try simp only[cm,cp,bQ,cM,bY,cn,bN,if_true]
   refine cG (fn:=Tryz.f159) (rs:=[]) 8 .nil ?_ (Nat.le_refl _) ?_ ?_ ?_
   ·simp;exact .mk
   ·rfl
   ·simp[z0,z1,z2,z3,z4,y2,y3,y4,zL]
   exact⟨rfl,by rw[hr];rfl⟩
  skip
  have hr:dD mode ok=none:=by simp[dD,gN, *]
  simp only[if_true];refine fN [] (by decide +kernel) ?_;refine xE [] ?_;try simp only[cm,cp,bQ,cM,bY,cn,bN,if_true]
  refine cG (fn:=Tryz.f159) (rs:=[]) 8 .nil ?_ (Nat.le_refl _) ?_ ?_ ?_
  ·simp;exact .mk
  ·rfl
  ·simp[z0,z1,z2,z3,z4,y2,y3,y4,zL]
  exact⟨rfl,by rw[hr];rfl⟩
 intro h4;have n1:¬mode=1:=by simpa using h4
 refine cd ?_;refine cB rfl ?_ (by decide +kernel);refine ay ?_;refine xE [0,3,8] fun _=>?_;refine fY rfl ?_ ?_
 ·intro h8;have hm:mode=2:=by simpa using h8
  refine qp rfl ?_;refine kB [0] [1] rfl (by decide +kernel) ?_;refine xB ?_;refine jF ?_;refine iY (fun bb o=>bb=ok true∧o=if ok true=true then [a0,a1,a2,a3,a4,.var 3 [.d (vI mode)],.blk b,.lp lb c L .ready none]else [a0,a1,d2 true,d3 true,d4 true,.var 3 [.d (vI mode)],.blk b,.lp lb c L .done (some .ret)]) rfl (by simp;exact .mk) rfl rfl rfl (by simp) (by simp;exact .mk) (by simp;exact .mk) rfl hc1 hc2 (iK true) ?_;rintro bb o2 ⟨rfl,rfl⟩;cases Ko:ok true
  ·skip
   have hr:dD mode ok=some true:=by simp[dD,gN, *]
   simp only[Bool.false_eq_true,if_false];refine fN [] (by decide +kernel) ?_;refine xE [] ?_;try simp only[cm,cp,bQ,cM,bY,cn,bN,if_true]
   refine cG (fn:=Tryz.f159) (rs:=[]) 8 .nil ?_ (Nat.le_refl _) ?_ ?_ ?_
   ·simp;exact .mk
   ·rfl
   ·simp[z0,z1,z2,z3,z4,y2,y3,y4,zL]
   exact⟨rfl,by rw[hr];rfl⟩
  skip
  have hr:dD mode ok=none:=by simp[dD,gN, *]
  simp only[if_true];refine fN [] (by decide +kernel) ?_;refine xE [] ?_;try simp only[cm,cp,bQ,cM,bY,cn,bN,if_true]
  refine cG (fn:=Tryz.f159) (rs:=[]) 8 .nil ?_ (Nat.le_refl _) ?_ ?_ ?_
  ·simp;exact .mk
  ·rfl
  ·simp[z0,z1,z2,z3,z4,y2,y3,y4,zL]
  exact⟨rfl,by rw[hr];rfl⟩
 intro h8;have n2:¬mode=2:=by simpa using h8
 refine cd ?_;refine cB rfl ?_ (by decide +kernel);refine ay ?_;refine xE [0,3,12] fun _=>?_;refine fY rfl ?_ ?_
 ·intro h12;have hm:mode=3:=by simpa using h12
  refine qp rfl ?_;refine kB [0] [1,2,3,4,5] rfl (by decide +kernel) ?_;refine xB ?_;refine jF ?_;refine iY (fun bb o=>bb=ok true∧o=if ok true=true then [a0,a1,a2,a3,a4,.var 3 [.d (vI mode)],.blk b,.lp lb c L .ready none]else [a0,a1,d2 true,d3 true,d4 true,.var 3 [.d (vI mode)],.blk b,.lp lb c L .done (some .ret)]) rfl (by simp;exact .mk) rfl rfl rfl (by simp) (by simp;exact .mk) (by simp;exact .mk) rfl hc1 hc2 (iK true) ?_;rintro bb o2 ⟨rfl,rfl⟩;cases Ko:ok true
  ·skip
   have hr:dD mode ok=some true:=by simp[dD,gN, *]
   simp only[Bool.false_eq_true,if_false];refine fN [2,3,4,5] (by decide +kernel) ?_;refine xB ?_;iterate 2 (refine mo (av:=.d (.v (.bool false))) rfl (by simp;exact .mk) rfl ?_)
   refine xP ?_;refine xE [] ?_;try simp only[cm,cp,bQ,cM,bY,cn,bN,if_true]
   refine cG (fn:=Tryz.f159) (rs:=[]) 8 .nil ?_ (Nat.le_refl _) ?_ ?_ ?_
   ·simp;exact .mk
   ·rfl
   ·simp[z0,z1,z2,z3,z4,y2,y3,y4,zL]
   exact⟨rfl,by rw[hr];rfl⟩
  skip
  simp only[if_true];refine kB [2,3] [4,5] rfl (by decide +kernel) ?_;refine xB ?_;refine xI ?_;refine jF ?_;refine iY (fun bb o=>bb=ok false∧o=if ok false=true then [a0,a1,a2,a3,a4,.var 3 [.d (vI mode)],.blk b,.lp lb c L .ready none]else [a0,a1,d2 false,d3 false,d4 false,.var 3 [.d (vI mode)],.blk b,.lp lb c L .done (some .ret)]) rfl (by simp;exact .mk) rfl rfl rfl (by simp) (by simp;exact .mk) (by simp;exact .mk) rfl hc1 hc2 (iK false) ?_;rintro bb o2 ⟨rfl,rfl⟩;cases Km:ok false
  ·skip
   have hr:dD mode ok=some false:=by simp[dD,gN, *]
   simp only[Bool.false_eq_true,if_false];refine fN [5] (by decide +kernel) ?_;refine xP ?_;refine xE [] ?_;try simp only[cm,cp,bQ,cM,bY,cn,bN,if_true]
   refine cG (fn:=Tryz.f159) (rs:=[]) 8 .nil ?_ (Nat.le_refl _) ?_ ?_ ?_
   ·simp;exact .mk
   ·rfl
   ·simp[z0,z1,z2,z3,z4,y2,y3,y4,zL]
   exact⟨rfl,by rw[hr];rfl⟩
  skip
  have hr:dD mode ok=none:=by simp[dD,gN, *]
  simp only[if_true];refine fN [5] (by decide +kernel) ?_;refine xP ?_;refine xE [] ?_;try simp only[cm,cp,bQ,cM,bY,cn,bN,if_true]
  refine cG (fn:=Tryz.f159) (rs:=[]) 8 .nil ?_ (Nat.le_refl _) ?_ ?_ ?_
  ·simp;exact .mk
  ·rfl
  ·simp[z0,z1,z2,z3,z4,y2,y3,y4,zL]
  exact⟨rfl,by rw[hr];rfl⟩
 intro h12;have n3:¬mode=3:=by simpa using h12
 refine cd ?_;refine cB rfl ?_ (by decide +kernel);refine ay ?_;refine xE [0,20] fun _=>?_;refine fY rfl ?_ ?_
 ·intro h20;have hm:mode=4:=by simpa using h20
  refine qp rfl ?_;refine kB [0] [1,2,3,4,5] rfl (by decide +kernel) ?_;refine xB ?_;refine jF ?_;refine iY (fun bb o=>bb=ok false∧o=if ok false=true then [a0,a1,a2,a3,a4,.var 3 [.d (vI mode)],.blk b,.lp lb c L .ready none]else [a0,a1,d2 false,d3 false,d4 false,.var 3 [.d (vI mode)],.blk b,.lp lb c L .done (some .ret)]) rfl (by simp;exact .mk) rfl rfl rfl (by simp) (by simp;exact .mk) (by simp;exact .mk) rfl hc1 hc2 (iK false) ?_;rintro bb o2 ⟨rfl,rfl⟩;cases Km:ok false
  ·skip
   have hr:dD mode ok=some false:=by simp[dD,gN, *]
   simp only[Bool.false_eq_true,if_false];refine fN [2,3,4,5] (by decide +kernel) ?_;refine xB ?_;iterate 2 (refine mo (av:=.d (.v (.bool false))) rfl (by simp;exact .mk) rfl ?_)
   refine xP ?_;refine xE [] ?_;try simp only[cm,cp,bQ,cM,bY,cn,bN,if_true]
   refine cG (fn:=Tryz.f159) (rs:=[]) 8 .nil ?_ (Nat.le_refl _) ?_ ?_ ?_
   ·simp;exact .mk
   ·rfl
   ·simp[z0,z1,z2,z3,z4,y2,y3,y4,zL]
   exact⟨rfl,by rw[hr];rfl⟩
  skip
  simp only[if_true];refine kB [2,3] [4,5] rfl (by decide +kernel) ?_;refine xB ?_;refine xI ?_;refine jF ?_;refine iY (fun bb o=>bb=ok true∧o=if ok true=true then [a0,a1,a2,a3,a4,.var 3 [.d (vI mode)],.blk b,.lp lb c L .ready none]else [a0,a1,d2 true,d3 true,d4 true,.var 3 [.d (vI mode)],.blk b,.lp lb c L .done (some .ret)]) rfl (by simp;exact .mk) rfl rfl rfl (by simp) (by simp;exact .mk) (by simp;exact .mk) rfl hc1 hc2 (iK true) ?_;rintro bb o2 ⟨rfl,rfl⟩;cases Ko:ok true
  ·skip
   have hr:dD mode ok=some true:=by simp[dD,gN, *]
   simp only[Bool.false_eq_true,if_false];refine fN [5] (by decide +kernel) ?_;refine xP ?_;refine xE [] ?_;try simp only[cm,cp,bQ,cM,bY,cn,bN,if_true]
   refine cG (fn:=Tryz.f159) (rs:=[]) 8 .nil ?_ (Nat.le_refl _) ?_ ?_ ?_
   ·simp;exact .mk
   ·rfl
   ·simp[z0,z1,z2,z3,z4,y2,y3,y4,zL]
   exact⟨rfl,by rw[hr];rfl⟩
  skip
  have hr:dD mode ok=none:=by simp[dD,gN, *]
  simp only[if_true];refine fN [5] (by decide +kernel) ?_;refine xP ?_;refine xE [] ?_;try simp only[cm,cp,bQ,cM,bY,cn,bN,if_true]
  refine cG (fn:=Tryz.f159) (rs:=[]) 8 .nil ?_ (Nat.le_refl _) ?_ ?_ ?_
  ·simp;exact .mk
  ·rfl
  ·simp[z0,z1,z2,z3,z4,y2,y3,y4,zL]
  exact⟨rfl,by rw[hr];rfl⟩
 intro h20;have n4:¬mode=4:=by simpa using h20
 have hr:dD mode ok=none:=by simp[dD,gN, *]
 refine kz ?_;try simp only[cm,cp,bQ,cM,bY,cn,bN,if_true]
 refine cG (fn:=Tryz.f159) (rs:=[]) 8 .nil ?_ (Nat.le_refl _) ?_ ?_ ?_
 ·simp;exact .mk
 ·rfl
 ·simp[z0,z1,z2,z3,z4,y2,y3,y4,zL]
 exact⟨rfl,by rw[hr];rfl⟩
open Go.aN
theorem Nh(g:Gl)(s:bF)(hs:s.Ok)(n:Int):∀B S,a7 Tryz.prog g B S ⟨0,true⟩ 40 ([cr s,vI n].map qJ) [] (fun x r=>x = .bK [.d (vT ((b9 s n).getD (false,0)).1),.d (vI ((b9 s n).getD (false,0)).2),.d (vT (b9 s n).isSome)]∧r=[]):=by
 refine ma Tryz.func40 rfl (Nat.le_of_ble_eq_true rfl) fun B S=>?_
 simp only[cr,List.map,aO,cC];refine cd ?_;refine cB rfl ?_ (by decide +kernel);refine cW ?_;refine xE [2,3,4,5,6] fun _=>?_;refine cd ?_;refine cd ?_;refine cB rfl ?_ (by decide +kernel);refine ay ?_;refine az rfl rfl rfl rfl (by simp;exact .mk) ⟨_,Tryz.func107,rfl,rfl⟩ (Kv g _ _ _ _ _ s.mode) (.inl (by simp)) ?_;refine xE [2,3,4,5,6,12] fun _=>?_;refine fM ?_;refine nC [2,3,4,5,6] (by simp;exact .mk) ⟨_,Tryz.func159,rfl,rfl⟩ (by simp;exact .mk) _ (fun fn b lb B S=>Ky g s.mode b lb _ _ rfl ?_ _ _ _ _ _ (fun two=>.var 4 [.d (vT two)]) (fun two=>.var 3 [.d (vI ((cH s two n).getD 0))]) (fun _=>.var 4 [.d (vT true)]) (fun two=>(cH s two n).isNone) rfl rfl rfl rfl rfl (fun _=>rfl) (fun _=>rfl) (fun _=>rfl) rfl (fun two B S=>?_) B S) ?_
 ·intro p hp2;have hp3:p=13:=by simpa using hp2
  show p<24
  rw[hp3];decide
 ·skip
  unfold ky;refine kA (Weak.kills [2,3,4,5,6,13] (L:=[(2,.ptr 0 0 0),(3,.ptr 1 0 0),(4,.ptr 2 0 0),(5,.ptr 3 0 0),(6,.ptr 4 0 0),(13,.d (vT two))]) rfl) ?_;refine cB rfl ?_ (by decide +kernel);refine xO ?_;refine xE [2,3,4,5,6,7] ?_;refine⟨rfl,rfl,rfl,fun _=>?_⟩;refine fM ?_;refine cd ?_;refine cB rfl ?_ (by decide +kernel);refine aT ?_;refine xC (L8 g s hs two n) ?_;refine cW ?_;refine xE [4,5,6,7,8,9] fun _=>?_;refine cd ?_;refine cB rfl ?_ (by decide +kernel);refine xO ?_;refine xE [4,5,6,7,8,21] fun _=>?_;refine fY rfl ?_ ?_
  ·intro h21;have hf:(cH s two n).isNone=false:=by cases hq:cH s two n<;>simp[hq]at h21 ⊢
   refine cd ?_;refine cB rfl ?_ (by decide +kernel);refine ay ?_;iterate 3 (refine aH ?_)
   refine xE [4,5,6] fun _=>?_;refine mO ?_;simp only[cm,bQ];refine⟨rfl,hf.symm,?_⟩;rw[if_neg (by simp[hf])];rfl
  intro h21;have hf:(cH s two n).isNone=true:=by cases hq:cH s two n<;>simp[hq]at h21 ⊢
  refine kz ?_;simp only[bN];refine⟨rfl,hf.symm,?_⟩;rw[if_pos hf];rfl
 rintro fn b lb av o ⟨rfl,rfl⟩
 cases hf:dD s.mode (fun two=>(cH s two n).isNone)with
 | none=>
  refine⟨_,_,rfl,by simp,?_⟩;have hr:b9 s n=none:=by rw[vE,hf];rfl
  simp only[oo,bN];rintro -;refine cd ?_;refine cB rfl ?_ (by decide +kernel);iterate 3 (refine aH ?_)
  refine xE [4,5,6] fun _=>?_;refine mO ?_;try simp only[cm,cp,bQ,cM,bY,cn,bN,if_true]
  refine gZ (fn:=Tryz.f40) (rs:=[.d (vT false),.d (vI 0),.d (vT false)]) 0 (.cons (r:=6) rfl .nil) ?_ (Nat.zero_le _) ?_ ?_ ?_
  ·simp[Tryz.f40];exact .mk
  ·rfl
  ·rfl
  rw[hr];exact⟨rfl,rfl⟩
 | some two=>
  refine⟨_,_,rfl,by simp,?_⟩;have hr:b9 s n=some (two,(cH s two n).getD 0):=by rw[vE,hf];rfl
  simp only[pX,cm,bQ];refine gZ (fn:=Tryz.f40) (rs:=[.d (vT two),.d (vI ((cH s two n).getD 0)),.d (vT true)]) 0 (.cons (r:=6) rfl .nil) ?_ (Nat.zero_le _) ?_ ?_ ?_
  ·simp[Tryz.f40];exact .mk
  ·rfl
  ·rfl
  rw[hr];exact⟨rfl,rfl⟩
theorem JO(g:Gl)(s:bF)(hs:s.Ok)(n:Int):a9 Tryz.prog g 40 [cr s,vI n] (.bK [vT ((b9 s n).getD (false,0)).1,vI ((b9 s n).getD (false,0)).2,vT (b9 s n).isSome]):=
 tf Tryz.func40 rfl rfl (Nh g s hs n) (by simp) (by simp)
open Go.aN
theorem Ma(g:Gl)(s:bF)(hs:s.Ok)(n:Int):a9 Tryz.prog g 42 [cr s,vI n] (.bK [ax (dF s n).1,.agg [vI (dF s n).2.1.1,vI (dF s n).2.1.2],vI (dF s n).2.2]):=by
 refine xA Tryz.func42 fun B S=>?_
 simp only[cr,List.map,aO,cC];refine xU ?_;refine bx ?_;refine xG [1,2,4,5] ?_;refine xH [1,2,4,5,7] ?_;refine ab (xU ?_);refine cq ?_;refine xC (Ag g s hs) ?_ (hi:=by simp[ax];exact .mk);refine ay ?_;refine xI ?_;refine bI rfl (by simp;exact .mk) rfl rfl (by simp) (by simp;exact .mk) (by simp;exact .mk) (fun hb=>Bx g n) (by simp) (by simp[ax];exact .mk) (by simp) ?_;refine xI ?_;refine xP ?_;refine xQ [1,2,4,5,7,24] ?_ ?_
 ·intro cv;have hr:dF s n=(bn,(0,0),1):=by unfold dF;rw[if_neg];simp at cv ⊢;grind
  refine xU ?_;refine xO ?_;refine xC (Bz g 1) ?_ (hi:=by simp[ax];exact .mk);refine aT ?_;iterate 2 (refine aH ?_)
  refine xH [4,5,6] ?_;refine ar (aG (by simp[Tryz.f42];exact .mk) (by simp;exact .mk) ?_ (by simp[ax]));first|(simp[Tryz.f42,hr,ax,bn,ai];done)|(simp[Tryz.f42,hr,ax,bn,ai,putAt,d8,List.map_set];try exact⟨rfl,rfl⟩)
 intro cv;have hR:bL s=true∧cV n=true:=by simp at cv;grind
 have hR2:(bL s&&cV n)=true:=by simp[hR]
 have hn:=dY.1 hR.2;refine af fun _=>?_;refine ab (xU ?_);refine xO ?_;refine cq ?_;refine xC (En g s.slots hs.h1) ?_ (hi:=by simp[ax];exact .mk);refine cW ?_;refine xG [1,2,4,5,7,9] ?_;refine ay ?_;refine xQ [1,2,4,5,7,37] ?_ ?_
 ·intro h37;have hx:dh s.slots=none:=by simpa using h37
  have hr:dF s n=(bn,(0,0),9):=by unfold dF;rw[if_pos hR2,hx]
  refine xU ?_;refine xO ?_;refine xC (Bz g 9) ?_ (hi:=by simp[ax];exact .mk);refine aT ?_;iterate 2 (refine aH ?_)
  refine xH [4,5,6] ?_;refine ar (aG (by simp[Tryz.f42];exact .mk) (by simp;exact .mk) ?_ (by simp[ax]));first|(simp[Tryz.f42,hr,ax,bn,ai];done)|(simp[Tryz.f42,hr,ax,bn,ai,putAt,d8,List.map_set];try exact⟨rfl,rfl⟩)
 intro h37;obtain⟨k,hk⟩:∃k,dh s.slots=some k:=Option.isSome_iff_exists.1 (by simpa using h37);obtain⟨hkl,hko,_⟩:=fv hk;refine af ?_;refine xT ?_;refine cq ?_;refine xO ?_;refine xC (JO g s hs n) ?_ (hi:=by simp[ax];exact .mk);iterate 7 refine xO ?_
 refine xF [1,2,4,5,7,10,11,12] ?_;refine ab (xU ?_);refine ay ?_;refine xQ [1,2,4,5,7,10,11,51] ?_ ?_
 ·intro tb;have hx:b9 s n=none:=by simpa using tb
  have hr:dF s n=(bn,(0,0),10):=by unfold dF;rw[if_pos hR2,hk];simp only;rw[hx]
  refine xU ?_;refine xO ?_;refine xC (Bz g 10) ?_ (hi:=by simp[ax];exact .mk);refine aT ?_;iterate 2 (refine aH ?_)
  refine xH [4,5,6] ?_;refine ar (aG (by simp[Tryz.f42];exact .mk) (by simp;exact .mk) ?_ (by simp[ax]));first|(simp[Tryz.f42,hr,ax,bn,ai];done)|(simp[Tryz.f42,hr,ax,bn,ai,putAt,d8,List.map_set];try exact⟨rfl,rfl⟩)
 intro tb;obtain⟨p,hp⟩:∃p,b9 s n=some p:=Option.isSome_iff_exists.1 (by simpa using tb);have hr:dF s n=(putAt s k (eh (nth s.slots k).gen n p.1 p.2) (d8 n),((k:Int),(nth s.slots k).gen),0):=by unfold dF;rw[if_pos hR2,hk];simp only;rw[hp]
 obtain⟨two,a⟩:=p;have ht:c0 s.slots ⟨0,false,two,a,n⟩=(s.slots.set k (eh (nth s.slots k).gen n two a),((k:Int),(nth s.slots k).gen),0):=wF hR.1 hR.2 hk hp;have c70:=I1 g s.slots hs.h1 ⟨0,false,two,a,n⟩;rw[ht]at c70;rw[hp];have hkd:k<s.data.length:=by have:=ib (dw hR.1);omega
 have e1:0≤n:=by omega
 have e2:n≤140737488355328:=by omega
 refine af ?_;refine xT ?_;refine cq ?_;refine xC (vq g s hs) ?_ (hi:=by simp[ax];exact .mk);refine xO ?_;refine aH ?_;refine xG [1,2,4,5,7,10,11,13] ?_;refine xO ?_;refine cq ?_;refine aT ?_;refine aH ?_;refine xC (c70) ?_ (hi:=by simp[ax];exact .mk);iterate 6 refine xO ?_
 refine aH ?_;refine xH [1,4,5,7,13,14,15,16] ?_;refine ab (xU ?_);refine ay ?_;refine xQ [1,4,5,7,13,14,15,16,71] ?_ ?_
 ·intro lj;simp at lj
 intro lj;refine af fun _=>?_;refine ab ?_;refine jS (hard:=[]) [3,6,8] (aR (by decide)) (by kernel_rfl) 4 [0,1,2,3,4,5,7,6,8,9,10] [[0,1,2,3,4,5,7,8,6,9,10],[0,1,2,4,5,7,6,3,8,9,10],[0,1,2,4,5,7,6,8,3,9,10],[0,1,2,4,5,7,8,3,6,9,10],[0,1,2,4,5,7,8,6,3,9,10]] (by decide +kernel) ?_;refine xO ?_;refine cq ?_;refine xO ?_;refine cq ?_;refine aT ?_;refine xO ?_ (h:=by simp[e1,e2];exact .mk);refine aH ?_;refine xO ?_ (h:=by simp[aA,hkd];exact .mk);refine xO ?_ (h:=by simp[splice,hkd,br,dn,bJ];exact .mk);refine xE [4,5,13,15] ?_;refine⟨_,rfl,⟨?_,?_,?_,?_,?_,trivial⟩,?_⟩
 ·skip
  refine xO ?_;refine cq ?_;refine xO ?_;refine cq ?_;refine aT ?_;refine aH ?_;refine xO ?_ (h:=by simp[e1,e2];exact .mk);refine xO ?_ (h:=by simp[aA,hkd];exact .mk);refine xO ?_ (h:=by simp[splice,hkd,br,dn,bJ];exact .mk);refine xE [4,5,13,15] ?_;exact Weak.perm [0,1,2,3,4,5,6,7,8,9] [0,1,2,3,4,5,6,7,8,9] rfl rfl rfl
 ·skip
  refine xO ?_;refine cq ?_;refine bx ?_;refine xO ?_ (h:=by simp[e1,e2];exact .mk);refine cq ?_;refine aH ?_;refine xO ?_ (h:=by simp[aA,hkd];exact .mk);refine xO ?_ (h:=by simp[splice,hkd,br,dn,bJ];exact .mk);refine xE [4,5,13,15] ?_;exact Weak.perm [0,1,2,3,4,5,6,7,8,9] [0,1,2,3,4,5,6,7,8,9] rfl rfl rfl
 ·skip
  refine xO ?_;refine cq ?_;refine bx ?_;refine xO ?_ (h:=by simp[e1,e2];exact .mk);refine aH ?_;refine cq ?_;refine xO ?_ (h:=by simp[aA,hkd];exact .mk);refine xO ?_ (h:=by simp[splice,hkd,br,dn,bJ];exact .mk);refine xE [4,5,13,15] ?_;exact Weak.perm [0,1,2,3,4,5,6,7,8,9] [0,1,2,3,4,5,6,7,8,9] rfl rfl rfl
 ·skip
  refine xO ?_;refine cq ?_;refine bx ?_;refine aH ?_;refine cq ?_;refine xO ?_ (h:=by simp[e1,e2];exact .mk);refine xO ?_ (h:=by simp[aA,hkd];exact .mk);refine xO ?_ (h:=by simp[splice,hkd,br,dn,bJ];exact .mk);refine xE [4,5,13,15] ?_;exact Weak.perm [0,1,2,3,4,5,6,7,8,9] [0,1,2,3,4,5,6,7,8,9] rfl rfl rfl
 ·skip
  refine xO ?_;refine cq ?_;refine bx ?_;refine aH ?_;refine xO ?_ (h:=by simp[e1,e2];exact .mk);refine cq ?_;refine xO ?_ (h:=by simp[aA,hkd];exact .mk);refine xO ?_ (h:=by simp[splice,hkd,br,dn,bJ];exact .mk);refine xE [4,5,13,15] ?_;exact Weak.perm [0,1,2,3,4,5,6,7,8,9] [0,1,2,3,4,5,6,7,8,9] rfl rfl rfl
 rintro -;refine ab ?_;refine jS (hard:=[]) [1,2] (aR (by decide)) (by kernel_rfl) 4 [0,1,2,3,4] [[0,2,1,3,4]] (by decide +kernel) ?_;iterate 2 (refine cq ?_)
 iterate 2 (refine aH ?_)
 refine xO ?_;refine xE [4,5,6] ?_;refine⟨_,rfl,⟨?_,trivial⟩,?_⟩
 ·skip
  refine cq ?_;refine aH ?_;refine cq ?_;refine aH ?_;refine xO ?_;refine xE [4,5,6] ?_;exact Weak.perm [0,1,2,3,4,5,6,7,8,9] [0,1,2,3,4,5,6,7,8,9] rfl rfl rfl
 rintro -;refine ar (aG (by simp[Tryz.f42];exact .mk) (by simp;exact .mk) ?_ (by simp[ax]));first|(simp[Tryz.f42,hr,ax,bn,ai];done)|(simp[Tryz.f42,hr,ax,bn,ai,putAt,d8,List.map_set];try exact⟨rfl,rfl⟩)
open Go.aN
theorem Mc(g:Gl)(s:bF)(hs:s.Ok)(k n:Int):a9 Tryz.prog g 44 [cr s,vI k,vI n] (.bK [ax (gq s k n).1,vI (gq s k n).2]):=by
 refine xA Tryz.func44 fun B S=>?_
 simp only[cr,List.map,aO,cC];refine xU ?_;refine dC [1,2,3,6] ?_;refine ab (xU ?_);refine cq ?_;refine xO ?_;refine xC (Eo g s hs k) ?_ (he:=by simp[au,Function.comp_def];exact .mk) (hi:=by simp[ax];exact .mk);refine ay ?_;refine xI ?_;refine bI rfl (by simp;exact .mk) rfl rfl (by simp) (by simp;exact .mk) (by simp[au,Function.comp_def];exact .mk) (fun hb=>Bx g n) (by simp) (by simp[ax];exact .mk) (by simp) ?_;refine xI ?_;refine xP ?_;refine xQ [1,2,3,6,21] ?_ ?_
 ·intro h21;have hr:gq s k n=(bn,1):=by unfold gq;rw[if_neg];simp at h21 ⊢;grind
  refine xU ?_;iterate 2 (refine aH ?_)
  refine xH [6,7] ?_;refine ar (aG (by simp[Tryz.f44];exact .mk) (by simp;exact .mk) ?_ (by simp[ax]));first|(simp[Tryz.f44,hr,ax,bn,ai];done)|(simp[Tryz.f44,hr,ax,bn,ai,putAt,d8,List.map_set];try exact⟨rfl,rfl⟩)
 intro h21;have hR:fI s k=true∧cV n=true:=by simp at h21;grind
 have hR2:(fI s k&&cV n)=true:=by simp[hR]
 have hn:=dY.1 hR.2;obtain⟨m,rfl,hm,hml,hmd,hg⟩:=j9 hR.1;have e1:0≤n:=by omega
 have e2:n≤140737488355328:=by omega
 have hz:(nq (nth s.data m) n).length=n.toNat:=by have:=ou (d:=nth s.data m) e1;omega
 have hr0:gq s m n=(if bL (eb s m n)=true then (eb s m n,(0:Int))else match b9 s n with
   | none => (bn, 10)
   | some p => (j6 (eb s m n) m p.1 p.2, 0)) := by unfold gq; rw [if_pos hR2]; rfl
 refine af ?_;refine xT ?_;refine cq ?_;refine xC (vq g s hs) ?_ (he:=by simp[au,Function.comp_def];exact .mk) (hi:=by simp[ax];exact .mk);refine xO ?_;refine aH ?_;refine xG [1,2,3,6,8] ?_;refine xO ?_;refine xO ?_ (h:=by simp[e1,e2];exact .mk);refine xO ?_;refine xG [1,2,3,6,8,9] ?_;refine ay ?_;refine cq ?_;refine xO ?_;refine xO ?_ (h:=by simp[aA,hmd];exact .mk);refine xO ?_ (h:=by simp[aA, -List.getElem?_map,ao hmd];exact .mk);refine xO ?_ (h:=by simp[qV];exact .mk);refine xF [1,2,3,6,8,9] ?_;refine ab ?_;rw[su,show (nth s.data m).take n.toNat++List.replicate (n.toNat-(nth s.data m).length) 0=nq (nth s.data m) n from rfl];refine jS (hard:=[]) [4,10] (aR (by decide)) (by kernel_rfl) 4 [0,1,2,3,4,5,6,7,8,9,10,11,12] [[0,1,2,3,5,6,7,8,9,10,4,11,12]] (by decide +kernel) ?_;refine xO ?_;refine cq ?_;refine ay ?_;refine cq ?_;refine aT ?_;refine xO ?_ (h:=by simp[aA,hm];exact .mk);refine xO ?_;refine xO ?_ (h:=by simp[-List.getElem?_map,ao hm,aA,br,dn,bJ,splice];exact .mk);refine xO ?_ (h:=by simp[aA,hmd];exact .mk);refine xO ?_ (h:=by simp[splice,hz, -List.getElem?_map,ao hmd];exact .mk);refine xE [1,2,3,6,8] ?_;refine⟨_,rfl,⟨?_,trivial⟩,?_⟩
 ·skip
  refine xO ?_;refine cq ?_;refine cW ?_;refine xO ?_ (h:=by simp[aA,hm];exact .mk);refine xO ?_;refine xO ?_ (h:=by simp[-List.getElem?_map,ao hm,aA,br,dn,bJ,splice];exact .mk);refine cq ?_;refine xO ?_ (h:=by simp[aA,hmd];exact .mk);refine xO ?_ (h:=by simp[splice,hz, -List.getElem?_map,ao hmd];exact .mk);refine xE [1,2,3,6,8] ?_;exact Weak.perm [0,1,2,3,4,5,6] [0,1,2,3,4,5,6] rfl rfl rfl
 erw [tX]
 simp only[vK,vJ];obtain⟨SL,HU⟩:∃x,x=s.slots.set m (uJ (nth s.slots m) n):=⟨_,rfl⟩;obtain⟨DL,Kf⟩:∃x,x=s.data.set m (nq (nth s.data m) n):=⟨_,rfl⟩;have hX:eb s m n=⟨s.sh,s.mode,s.base,SL,s.roots,DL⟩:=by rw[HU,Kf];rfl
 rw[show s.slots.length=(s.slots.set m (uJ (nth s.slots m) n)).length by simp,show s.data.length=(s.data.set m (nq (nth s.data m) n)).length by simp,←HU,←Kf];rintro -;refine ab (xU ?_);refine cq ?_;refine bA rfl rfl rfl rfl (by simp;exact .mk) (by simp[au,Function.comp_def];exact .mk) (by have:=Ag g (eb s m n) (km hs hn);rw[hX]at this;exact this) (by simp) (by simp[ax];exact .mk) ?_;refine xQ [1,2,3,6,8,46] ?_ ?_
 ·intro h46;have hr:gq s m n=(⟨s.sh,s.mode,s.base,SL,s.roots,DL⟩,0):=by rw[hr0,hX,if_pos (by simpa using h46)]
  refine xU ?_;refine cq ?_;refine aH ?_;refine xH [6,7] ?_;refine ar (aG (by simp[Tryz.f44];exact .mk) (by simp;exact .mk) ?_ (by simp[ax]));first|(simp[Tryz.f44,hr,ax,bn,ai];done)|(simp[Tryz.f44,hr,ax,bn,ai,putAt,d8,List.map_set];try exact⟨rfl,rfl⟩)
 intro h46;rw[hX,if_neg (by simpa using h46)]at hr0;refine af ?_;refine xT ?_;refine cq ?_;refine xO ?_;refine xC (JO g s hs n) ?_ (he:=by simp[au,Function.comp_def];exact .mk) (hi:=by simp[ax];exact .mk);iterate 7 refine xO ?_
 refine xF [1,6,8,10,11,12] ?_;refine ab (xU ?_);refine ay ?_;refine xQ [1,6,8,10,11,56] ?_ ?_
 ·intro Dd;have hx:b9 s n=none:=by simpa using Dd
  rw[hx]at hr0;have hr:=hr0;refine xU ?_;iterate 2 (refine aH ?_)
  refine xH [6,7] ?_;refine ar (aG (by simp[Tryz.f44];exact .mk) (by simp;exact .mk) ?_ (by simp[ax]));first|(simp[Tryz.f44,hr,ax,bn,ai];done)|(simp[Tryz.f44,hr,ax,bn,ai,putAt,d8,List.map_set];try exact⟨rfl,rfl⟩)
 intro Dd;obtain⟨p,hp⟩:∃p,b9 s n=some p:=Option.isSome_iff_exists.1 (by simpa using Dd);rw[hp]at hr0 ⊢;have hr:=hr0;refine af ?_;refine xT ?_;refine cq ?_;refine aT ?_;refine bA rfl rfl rfl rfl (by simp;exact .mk) (by simp[au,Function.comp_def];exact .mk) (by have:=I3 g (eb s m n) (km hs hn) m p.1 p.2 (by simpa [eb,putAt]using hm);rw[hX]at this;exact this) (by simp) (by simp[ax];exact .mk) ?_;refine aH ?_;refine xH [6,7] ?_;refine ar (aG (by simp[Tryz.f44];exact .mk) (by simp;exact .mk) ?_ (by simp[ax]));first|(simp[Tryz.f44,hr,ax,bn,ai];done)|(simp[Tryz.f44,hr,ax,bn,ai,putAt,d8,List.map_set];try exact⟨rfl,rfl⟩)
open Go.aN
theorem gR:bn.Ok:=⟨by decide,by decide,by decide,fun i hi=>absurd hi (Nat.not_lt_zero _),fun i hi=>absurd hi (Nat.not_lt_zero _)⟩
theorem wE{s:bF}{k:Nat}{y:Slot}{d:List UInt8}(h:s.Ok)(hd:d.length≤2^40):(putAt s k y d).Ok:=by
 refine⟨by simpa [putAt]using h.h1,h.h2,by simpa [putAt]using h.h3,fun i hi=>?_,h.h5⟩;simp only[putAt,List.length_set]at hi ⊢;by_cases hm:k<s.data.length
 ·rw[bT hm];split
  ·exact hd
  ·exact h.h4 i hi
 ·rw[List.set_eq_of_length_le (by omega)];exact h.h4 i hi
theorem D5{s:bF}{n:Int}(h:s.Ok):(dF s n).1.Ok:=by
 unfold dF;split
 ·rename_i hr;simp only[Bool.and_eq_true]at hr;have hn:=dY.1 hr.2
  cases dh s.slots with
  | none=>exact gR
  | some k=>cases b9 s n with
   | none=>exact gR
   | some p=>exact wE h (by simp[d8];omega)
 ·exact gR
theorem Ea{s:bF}{k n:Int}(h:s.Ok):(gq s k n).1.Ok:=by
 unfold gq;split
 ·rename_i hr;simp only[Bool.and_eq_true]at hr;have hn:=dY.1 hr.2;split
  ·exact km h hn
  ·cases b9 s n with
   | none=>exact gR
   | some p=>exact Cf (km h hn)
 ·exact gR
theorem CX{s:bF}{k:Int}(h:s.Ok):(fk s k).1.Ok:=by
 unfold fk;split
 ·exact wE (y:=iN (nth s.slots k.toNat)) (d:=[]) h (by simp)
 ·exact gR
def Lm:Shape:=⟨1,2,2,30⟩
def PJ:bF:=dN Lm 1
def stA:bF:=(dF PJ 16).1
def PI:bF:=(dF stA 16).1
def Ql:bF:=(gq PI 0 17).1
def yT:bF:=dN Lm 2
def Qm:bF:=(dF yT 121).1
theorem K1:newS Lm 2=(yT,0):=by kernel_rfl
theorem u2:yT.Ok:=DJ (sh:=Lm) (mode:=2) (base:=1) (by kernel_rfl)
def uP(a b:bF)(k:Int)(i:Nat):Bool:=decide ((i:Int)=k)||(eY (nth a.slots i) (nth b.slots i)&&(str (nth a.data i)).toList==(str (nth b.data i)).toList)
def uQ(a b:bF)(k:Int):Bool:=decide (a.slots.length=b.slots.length)&&(decide (a.data.length=b.data.length)&&(a.mode==b.mode&&(a.base==b.base&&(sameShape a.sh b.sh&&(List.range (min a.slots.length a.data.length)).all (uP a b k)))))
open Go.aN
theorem tj(x:Slot):eY x x=true:=by simp[eY]
theorem uR{s:bF}{k:Nat}{y:Slot}{d:List UInt8}(hk:k<s.slots.length)(hkd:k<s.data.length):uQ s (putAt s k y d) k=true:=by
 have h:(List.range (min s.slots.length s.data.length)).all (uP s (putAt s k y d) k)=true:=all_good fun i hi=>by
  unfold uP;by_cases e:i=k
  ·simp[e]
  ·have e1:nth (putAt s k y d).slots i=nth s.slots i:=by
    show nth (s.slots.set k y) i=_
    rw[bT hk,if_neg (by omega)]
   have e2:nth (putAt s k y d).data i=nth s.data i:=by
    show nth (s.data.set k d) i=_
    rw[bT hkd,if_neg (by omega)]
   rw[e1,e2,tj];simp
 unfold uQ;rw[h];simp[putAt,sameShape]
theorem yg{s:bF}{k:Nat}{y:Slot}{d:List UInt8}(hk:k<s.slots.length):(eK (putAt s k y d).slots (putAt s k y d).slots.length:Int)=eK s.slots s.slots.length+((if y.live=true then 1 else 0)-(if (nth s.slots k).live=true then 1 else 0)):=by
 have:(putAt s k y d).slots.length=s.slots.length:=by simp[putAt]
 rw[this];exact rM hk hk
theorem sj{s:bF}{n:Int}(he:(dF s n).2.2=0):∃(k:Nat) (two:Bool) (a:Int),bL s=true∧cV n=true∧dh s.slots=some k∧b9 s n=some (two,a)∧dF s n=(putAt s k (eh (nth s.slots k).gen n two a) (d8 n),((k:Int),(nth s.slots k).gen),0):=by
 unfold dF at he ⊢;split at he
 ·rename_i hr;rw[if_pos hr];simp only[Bool.and_eq_true]at hr
  cases hk:dh s.slots with
  | none=>rw[hk]at he;cases he
  | some k=>
   rw[hk]at he;simp only at he
   cases hp:b9 s n with
   | none=>rw[hp]at he;cases he
   | some p=>exact⟨k,p.1,p.2,hr.1,hr.2,rfl,rfl,rfl⟩
 ·cases he
theorem D6{s:bF}{n:Int}(he:(dF s n).2.2=0):bL (dF s n).1=true∧uQ s (dF s n).1 (dF s n).2.1.1=true∧(eK (dF s n).1.slots (dF s n).1.slots.length:Int)=eK s.slots s.slots.length+1:=by
 obtain⟨k,two,a,h,hn,hk,hp,e⟩:=sj he;obtain⟨h1,h2⟩:=mW hp;obtain⟨hkl,hko,_⟩:=fv hk;have hkd:k<s.data.length:=by rw[ib (dw h)];exact hkl
 rw[e];refine⟨AR h hn hkl h1 h2,uR hkl hkd,?_⟩;rw[yg hkl,(AK.1 hko).1];simp[eh]
theorem v8{s:bF}{k:Int}(h:fI s k=true):bL s=true:=by
 simp only[fI,Bool.and_eq_true]at h;exact h.1
theorem yI{s:bF}{k n:Int}(he:(gq s k n).2=0):∃(m:Nat) (y:Slot),k=m∧fI s m=true∧cV n=true∧m<s.slots.length∧(nth s.slots m).live=true∧m<s.data.length ∧
    gq s k n=(putAt s m y (nq (nth s.data m) n),0)∧y.live=true∧y.len=n∧y.gen=(nth s.slots m).gen∧bL (putAt s m y (nq (nth s.data m) n))=true:=by
 unfold gq at he ⊢;split at he
 ·rename_i hr;rw[if_pos hr];simp only[Bool.and_eq_true]at hr;obtain⟨m,rfl,h1,h2,h3,_⟩:=j9 hr.1;simp only[Int.toNat_natCast]at he ⊢;split at he
  ·rename_i hq;rw[if_pos hq];exact⟨m,uJ (nth s.slots m) n,rfl,hr.1,hr.2,h1,h2,h3,rfl,h2,rfl,rfl,hq⟩
  ·rename_i hq;rw[if_neg hq]
   cases hp:b9 s n with
   | none=>rw[hp]at he;cases he
   | some p=>
    obtain⟨q1,q2⟩:=mW (two:=p.1) (a:=p.2) hp;have:=yL (v8 hr.1) hr.2 h1 h2 q1 q2;rw[nh h1 h2]at this;exact⟨m,eh (nth s.slots m).gen n p.1 p.2,rfl,hr.1,hr.2,h1,h2,h3,by simp only;rw[nh h1 h2],rfl,rfl,rfl,this⟩
 ·cases he
open Go.aN
open Go.aN
theorem xq(g:Gl)(s:bF)(hs:s.Ok):a9 Tryz.prog g 21 [cr s] (ax s):=by
 refine xA Tryz.func21 fun B S=>?_
 simp only[cr,List.map,aO,cC];have q0:=hs.h1;have q1:=hs.h2;have q3:=hs.h3;have e1:s.slots.length*32≤140737488355328:=by omega
 have e2:s.slots.length≤140737488355328:=by omega
 have e3:s.roots.length*32≤140737488355328:=by omega
 have e4:s.roots.length≤140737488355328:=by omega
 refine xU ?_;refine ay ?_;refine xG [1,2] ?_;refine cq ?_;refine xO ?_;refine aH ?_;refine xG [1,2,3] ?_;refine ay ?_;refine cq ?_;refine xO ?_ (h:=by simp[rows,e1,e2];exact .mk);refine xO ?_;refine aH ?_;refine xG [1,2,3] ?_;refine ay ?_;refine cq ?_;refine xO ?_ (h:=by simp[rows,e3,e4];exact .mk);refine xO ?_;refine aH ?_;refine xG [1,2,3] ?_;refine xO ?_;refine aH ?_;refine xF [1,2,3] ?_;refine ab (xU ?_);refine xH [1,2,3,4] ?_;refine ag (aB (fun m σ o=>∃i:Nat,m=s.data.length-i∧i≤s.data.length∧σ=slots [(1,.ptr 0 0 0),(2,.ptr 1 0 0),(3,.ptr 2 0 0),(4,.d (vI i))]∧o=[.var 28 [.d (vI s.sh.pages),.d (vI s.sh.slots),.d (vI s.sh.roots),.d (vI s.sh.room),.d (vI s.mode),.d (vI s.base),.d (eG s.slots),.d (rR s.roots),.d (fL s.data)],.var 28 [.d (vI 0),.d (vI 0),.d (vI 0),.d (vI 0),.d (vI 0),.d (vI 0),.d (.v (.slice none 0 0)),.d (.v (.slice none 0 0)),.d (.v (.slice none 0 0))],.var 28 [.d (vI s.sh.pages),.d (vI s.sh.slots),.d (vI s.sh.roots),.d (vI s.sh.room),.d (vI s.mode),.d (vI s.base),.hdr 4 0 s.slots.length,.hdr 6 0 s.roots.length,.hdr 7 0 i],.dead,.row 5 (s.slots.map aA),.dead,.row 3 (s.roots.map ak),.row 1 ((s.data.take i).map oB)]) s.data.length (Weak.kR 2 8 1 rfl rfl) ⟨0,by simp,by simp,rfl,rfl⟩ ?_);rintro m σ o ⟨i,rfl,hi,rfl,rfl⟩ _;refine ab (xU ?_);refine ay ?_;refine cq ?_;refine ay ?_;refine xQ [1,2,3,4,21] ?_ ?_
 ·intro h21;have hi2:i<s.data.length:=by simpa using h21
  have hb:=hs.h4 i hi2;have f1:(nth s.data i).length≤140737488355328:=by omega
  have f2:(i+1)*24≤140737488355328:=by omega
  have f3:i≤140737488355327:=by omega
  have f5:(D.row M.own 1 ((nth s.data i).map vB)).cE=false:=by first|rfl|simp[kg]
  have f4:min i s.data.length=i:=by omega
  refine af fun _=>?_;refine ab (ag ?_);refine iP (hard:=[]) [1,2,8,9] (aR (by decide)) (by kernel_rfl) 4 [[0,1,3,4,5,6,7,2,8,9,10,11,12],[0,3,4,5,6,7,2,1,8,9,10,11,12],[0,3,4,5,6,7,2,8,1,9,10,11,12],[0,3,4,5,6,7,2,8,9,1,10,11,12]] (by decide +kernel) ⟨?_,?_,?_,?_,trivial⟩
  ·skip
   refine xO ?_;refine cq ?_;refine xO ?_;refine cq ?_;refine xO ?_;refine xO ?_ (h:=by simp[aA,hi2];exact .mk);refine xO ?_ (h:=by simp[-List.getElem?_map,ao hi2];exact .mk);refine xO ?_;refine xO ?_ (h:=by simp[rows,f1];exact .mk);refine xO ?_;refine xO ?_ (h:=by simp[rows,f5,f2,f3,f4];exact .mk);refine xO ?_;refine aH ?_;refine xF [1,2,3,4] ?_;refine xY ?_;refine aT ?_;refine xE [1,2,3,4] ?_;refine ah [1,2,3,4] ?_;refine aD [1,2,3,4] rfl ?_;refine aC 7 11 1 (by decide) (by simp) (by decide) rfl rfl ?_;refine aq 8 [1,2,3,4] (by decide) (by rfl) (by rfl) ?_;refine ae (m':=s.data.length-(i+1)) (by omega) ⟨i+1,rfl,by omega,?_,?_⟩
   ·rw[wrap64 (by omega) (by omega)];rfl
   rw[take_succ hi2];simp;try rfl
  ·skip
   refine ay ?_;refine cq ?_;refine xO ?_;refine xO ?_ (h:=by simp[aA,hi2];exact .mk);refine xO ?_ (h:=by simp[-List.getElem?_map,ao hi2];exact .mk);refine xO ?_;refine cq ?_;refine xO ?_ (h:=by simp[rows,f1];exact .mk);refine xO ?_;refine xO ?_ (h:=by simp[rows,f5,f2,f3,f4];exact .mk);refine xO ?_;refine aH ?_;refine xF [1,2,3,4] ?_;refine xY ?_;refine aT ?_;refine xE [1,2,3,4] ?_;refine ah [1,2,3,4] ?_;refine aD [1,2,3,4] rfl ?_;refine aC 7 11 1 (by decide) (by simp) (by decide) rfl rfl ?_;refine aq 8 [1,2,3,4] (by decide) (by rfl) (by rfl) ?_;refine ae (m':=s.data.length-(i+1)) (by omega) ⟨i+1,rfl,by omega,?_,?_⟩
   ·rw[wrap64 (by omega) (by omega)];rfl
   rw[take_succ hi2];simp;try rfl
  ·skip
   refine ay ?_;refine cq ?_;refine xO ?_;refine xO ?_ (h:=by simp[aA,hi2];exact .mk);refine xO ?_ (h:=by simp[-List.getElem?_map,ao hi2];exact .mk);refine xO ?_;refine xO ?_ (h:=by simp[rows,f1];exact .mk);refine cq ?_;refine xO ?_;refine xO ?_ (h:=by simp[rows,f5,f2,f3,f4];exact .mk);refine xO ?_;refine aH ?_;refine xF [1,2,3,4] ?_;refine xY ?_;refine aT ?_;refine xE [1,2,3,4] ?_;refine ah [1,2,3,4] ?_;refine aD [1,2,3,4] rfl ?_;refine aC 7 11 1 (by decide) (by simp) (by decide) rfl rfl ?_;refine aq 8 [1,2,3,4] (by decide) (by rfl) (by rfl) ?_;refine ae (m':=s.data.length-(i+1)) (by omega) ⟨i+1,rfl,by omega,?_,?_⟩
   ·rw[wrap64 (by omega) (by omega)];rfl
   rw[take_succ hi2];simp;try rfl
  skip
  refine ay ?_;refine cq ?_;refine xO ?_;refine xO ?_ (h:=by simp[aA,hi2];exact .mk);refine xO ?_ (h:=by simp[-List.getElem?_map,ao hi2];exact .mk);refine xO ?_;refine xO ?_ (h:=by simp[rows,f1];exact .mk);refine xO ?_;refine cq ?_;refine xO ?_ (h:=by simp[rows,f5,f2,f3,f4];exact .mk);refine xO ?_;refine aH ?_;refine xF [1,2,3,4] ?_;refine xY ?_;refine aT ?_;refine xE [1,2,3,4] ?_;refine ah [1,2,3,4] ?_;refine aD [1,2,3,4] rfl ?_;refine aC 7 11 1 (by decide) (by simp) (by decide) rfl rfl ?_;refine aq 8 [1,2,3,4] (by decide) (by rfl) (by rfl) ?_;refine ae (m':=s.data.length-(i+1)) (by omega) ⟨i+1,rfl,by omega,?_,?_⟩
  ·rw[wrap64 (by omega) (by omega)];rfl
  rw[take_succ hi2];simp;try rfl
 intro h21;obtain rfl:i=s.data.length:=by simp at h21;omega
 rw[show List.take s.data.length (s.data.map oB)=s.data.map oB by rw[List.take_of_length_le (by simp)]];refine aP (xT ?_);refine cq ?_;refine aH ?_;refine xF [2] ?_;refine ar (aG (by simp[Tryz.f21];exact .mk) (by simp;exact .mk) ?_ (by simp[ax]));simp[Tryz.f21,ax,ai]
open Go.aN
open Go.aN
def sZ(s:bF)(mode step:Int):bF := {s with mode:=mode,base:=s.base+step}
def IU(fr:Int)(g:Int×Int):Int×Int:=if 0<fr-g.1 then (fr,g.2-(fr-g.1))else g
def IV(fr:Int)(l:List (Int×Int)):List (Int×Int):=(l.map (IU fr)).filter fun g=>decide (0<g.2)
def Gi(s:bF):List (Int×Int):=dr (s.sh.pages*32) (s.base*32) (bV s.slots)
def Dt(s:bF)(fr size:Int):Option Int:=(dy (IV fr (Gi s)) size).map (·.1)
def KV(s:bF)(k:Int):Int:=(nth s.slots k.toNat).len
def HI(s:bF):bF×Int:=
 if s.base=s.sh.pages then (sZ s 2 0,0)
 else if ca s.slots=[]∨(s.base+1)*32≤(nth (ca s.slots) 0).at_ then (sZ s s.mode 1,0)
 else match cH s true (KV s (nth (ca s.slots) 0).slot)with
  | some a=>zz s (nth (ca s.slots) 0).slot true a
  | none=>match Dt s ((s.base+1)*32) (nth (ca s.slots) 0).len with
   | some a=>zz s (nth (ca s.slots) 0).slot false a
   | none=>(bn,10)
def xp(pages:Int)(page:Int)(o:Int×Int):Bool:=decide ((aM pages o).1.page≤page)&&decide (page-(aM pages o).1.page<(aM pages o).1.count)
def ni(pages:Int)(l:List (Int×Int))(page:Int):List Nat:=(List.range l.length).filter fun i=>xp pages page (nth l i)
def uH(l:List (Int×Int)):List Nat→Nat
 | []=>0
 | i::t=>t.foldl (fun m j=>if (nth l j).1<(nth l m).1 then j else m) i
def Ld(l:List (Int×Int))(ms:List Nat):List (Int×Int):=((List.range l.length).filter fun i => !ms.contains i).map (nth l)
def BP(s:bF):bF×Int:=
 if s.base=0 then (sZ s 1 0,0)
 else if ni s.base (bW s.slots) (s.base-1)=[]then (sZ s s.mode (-1),0)
 else match cH s false (nth (bW s.slots) (uH (bW s.slots) (ni s.base (bW s.slots) (s.base-1)))).2 with
  | some a=>zz s (nth (ud s.slots) (uH (bW s.slots) (ni s.base (bW s.slots) (s.base-1)))) false a
  | none=>match db (s.base-1) (Ld (bW s.slots) (ni s.base (bW s.slots) (s.base-1))) (nth (bW s.slots) (uH (bW s.slots) (ni s.base (bW s.slots) (s.base-1)))).2 with
   | some a=>zz s (nth (ud s.slots) (uH (bW s.slots) (ni s.base (bW s.slots) (s.base-1)))) true a
   | none=>(bn,10)
def CU(s:bF):bF×Int:=if bL s=true then (if s.mode=3 then HI s else if s.mode=4 then BP s else (bn,12))else (bn,1)
def Gg(s:bF)(x:Slot):Bool:=dV x&&decide (x.at_<(s.base+1)*32)
def Gh(s:bF):Nat:=((List.range s.slots.length).filter fun i=>Gg s (nth s.slots i)).length
def KU(s:bF):Nat:=if s.base=s.sh.pages then 1 else 9*(s.sh.pages-s.base-1).toNat+Gh s+2
open Go.aN
/- The document's answers, in plain Lean: blocks in order, rows of free pages. -/
def qg:List ik→ik→List ik
 | [],b=>[b]
 | x::l,b=>if b.at_<x.at_ then b::x::l else x::qg l b
theorem zq{b:ik}:∀ {l:List ik} {k:Nat},k≤l.length→(∀j,j<k→(nth l j).at_≤b.at_)→(k<l.length→b.at_<(nth l k).at_)→qg l b=l.take k++b::l.drop k
 | [],k,h,_,_=>by
  obtain rfl:k=0:=by simpa using h
  rfl
 | x::l,0,_,_,h2=>by
  have:=h2 (by simp);unfold qg;rw[if_pos (by simpa [nth]using this)];rfl
 | x::l,k+1,h,h1,h2=>by
  have h0:=h1 0 (by omega)
  unfold qg; rw [if_neg (by
    have : x.at_ ≤ b.at_ := by simpa [nth] using h0
    omega)]
  rw[zq (l:=l) (k:=k) (by simpa using h) (fun j hj=>by have:=h1 (j+1) (by omega);simpa [nth]using this) (fun hk=>by have:=h2 (by simpa using hk);simpa [nth]using this)];rfl
theorem oX{b:ik}:∀ {l:List ik},(qg l b).Perm (b::l)
 | []=>.refl _
 | x::l=>by
  unfold qg;split
  ·exact .refl _
  ·exact(List.Perm.cons x (oX (l:=l))).trans (List.Perm.swap b x l)
theorem pQ{b:ik}:∀ {l:List ik},l.Pairwise ey→(∀y∈l,y.slot<b.slot)→(qg l b).Pairwise ey
 | [],_,_=>by simp[qg]
 | x::l,h,h2=>by
  rw[List.pairwise_cons]at h;unfold qg;split
  ·rename_i hx;rw[List.pairwise_cons];refine⟨fun y hy=>?_,List.pairwise_cons.2 h⟩;rcases List.mem_cons.1 hy with rfl|hy
   ·exact .inl hx
   ·have:=h.1 y hy;unfold ey at *;omega
  ·rename_i hx;rw[List.pairwise_cons];refine⟨fun y hy=>?_,pQ h.2 fun y hy=>h2 y (by simp[hy])⟩;rcases List.mem_cons.1 (oX.mem_iff.1 hy)with rfl|hy
   ·have:=h2 x (by simp);unfold ey;omega
   ·exact h.1 y hy
theorem pD:∀ {l m:List ik},l.Perm m→l.Pairwise ey→m.Pairwise ey→l=m
 | [],m,h,_,_=>(List.nil_perm.1 h).symm
 | a::l,[],h,_,_=>by simpa using h.length_eq
 | a::l,b::m,h,h1,h2=>by
  rw[List.pairwise_cons]at h1 h2;by_cases e:a=b
  ·subst e;rw[pD (List.Perm.cons_inv h) h1.2 h2.2]
  ·exfalso;have q1:a∈m:=(List.mem_cons.1 (h.mem_iff.1 (by simp))).resolve_left e;have q2:b∈l:=(List.mem_cons.1 (h.mem_iff.2 (by simp))).resolve_left fun q=>e q.symm
   have:=h1.1 b q2;have:=h2.1 a q1;unfold ey at *;omega
def jv(l:List Slot):Nat→List ik
 | 0=>[]
 | i+1=>if dV (nth l i)=true then qg (jv l i) (gv l i)else jv l i
theorem j5{l:List Slot}:∀ {i:Nat},(jv l i).Perm ((fy l i).map (gv l))
 | 0=>.refl _
 | i+1=>by
  unfold jv;split
  ·rename_i h;rw[og h,List.map_append];exact oX.trans ((List.Perm.cons _ j5).trans (List.perm_append_comm (l₁:=[gv l i])))
  ·rename_i h;rw[oe (by simpa using h)];exact j5
theorem Au{l:List Slot}{i:Nat}:∀b∈jv l i,b.slot<(i:Int):=fun b hb=>by
 have:=j5.mem_iff.1 hb;simp only[List.mem_map]at this;obtain⟨k,hk,rfl⟩:=this;have:=(pf hk).1
 show (k:Int)<i;omega
theorem lQ{l:List Slot}:∀ {i:Nat},(jv l i).Pairwise ey
 | 0=>List.Pairwise.nil
 | i+1=>by
  unfold jv;split
  ·exact pQ lQ fun y hy=>Au y hy
  ·exact lQ
theorem B9{l:List Slot}{i:Nat}:(jv l i).length≤i:=by
 rw[j5.length_eq,List.length_map];exact pe
theorem x9{l:List Slot}:jv l l.length=ca l:=pD (j5.trans (iH _).symm) lQ kS
theorem kW{ks:List Int}{i:Nat}(h:nth ks i ≠ -1):b8 ks (i+1)=((b8 ks i).1,false):=by
 conv=>lhs;unfold b8
 rw[if_neg h]
theorem sJ{ks:List Int}{i:Nat}(hf:(b8 ks i).2=false):∀ {n:Nat},(∀t,t<n+1→nth ks (i+t) = -1)→b8 ks (i+(n+1))=((b8 ks i).1++[((i:Int),((n+1:Nat):Int))],true)
 | 0,h=>by
  show b8 ks (i+1)=_
  conv=>lhs;unfold b8
  rw[if_pos (by simpa using h 0 (by omega)),if_neg (by simp[hf])];rfl
 | n+1,h=>by
  have ih:=sJ hf (n:=n) fun t ht=>h t (by omega)
  show b8 ks ((i+(n+1))+1)=_
  conv=>lhs;unfold b8
  rw[if_pos (h (n+1) (by omega)),ih];simp only[if_true];rw[qP];rfl
def pM(fr to:Int)(l:List (Int×Int)):List (Int×Int)×Int:=if dt fr to l=true then (dr to fr l,0)else ([],1)
open Go.aN
attribute [simp] Tryz.f92 Tryz.f93 Tryz.f144 Tryz.f145 Tryz.f202 Tryz.f233
theorem JH(g:Gl):a9 Tryz.prog g 233 [vI 64] (vI 13):=by
 refine xA Tryz.func233 fun B S=>?_
 refine xU ?_;refine xH [0] ?_;refine ab (xU ?_);refine ay ?_;refine xQ [0,5] ?_ ?_
 ·intro h5;simp at h5
 intro h5;refine af ?_;refine xT ?_;iterate 7 refine xO ?_
 refine xG [0] ?_;refine aT ?_;refine xG [0] ?_;refine bU [0,3] ?_;refine ab (ag ?_);refine aB (fun m σ o=>((m=3∧σ=slots [(0,.d (vI 10)),(3,.d (vI 10))])∨(m=2∧σ=slots [(0,.d (vI 2)),(3,.d (vI 12))])∨(m=1∧σ=slots [(0,.d (vI 1)),(3,.d (vI 13))]))∧o=[]) 3 .refl ⟨.inl ⟨rfl,rfl⟩,rfl⟩ ?_;rintro m σ o ⟨⟨rfl,rfl⟩|⟨rfl,rfl⟩|⟨rfl,rfl⟩,rfl⟩ _
 ·skip
  skip
  refine ab (xU ?_);refine ay ?_;refine xQ [0,3,16] ?_ ?_
  ·intro h16;refine af fun _=>?_;refine ag (xU ?_);iterate 7 refine xO ?_
   refine xF [0,3] ?_;refine xY ?_;refine bx ?_;refine xE [0,3] ?_;refine ah [0,3] ?_;exact ae (m':=2) (by omega) ⟨.inr (.inl ⟨rfl,rfl⟩),rfl⟩
  intro h16;simp at h16
 ·skip
  skip
  refine ab (xU ?_);refine ay ?_;refine xQ [0,3,16] ?_ ?_
  ·intro h16;refine af fun _=>?_;refine ag (xU ?_);iterate 7 refine xO ?_
   refine xF [0,3] ?_;refine xY ?_;refine bx ?_;refine xE [0,3] ?_;refine ah [0,3] ?_;exact ae (m':=1) (by omega) ⟨.inr (.inr ⟨rfl,rfl⟩),rfl⟩
  intro h16;simp at h16
 skip
 skip
 refine ab (xU ?_);refine ay ?_;refine xQ [0,3,16] ?_ ?_
 ·intro h16;simp at h16
 intro h16;refine aP (xT ?_);refine bU [2] ?_;refine xZ ?_;simp
theorem Jq(g:Gl)(s:Shape)(hs:de s=true):a9 Tryz.prog g 202 [fc s] (.agg [vI 1,vI 2,vI s.room,vI (jh s),vI (js s),vI (jn s),vI (l9 s),vI (mF s),vI (jN s)]):=by
 refine xA Tryz.func202 fun B S=>?_
 simp only[fc,List.map,aO];have hb:1≤s.pages∧s.pages≤64∧1≤s.room∧s.room≤4096∧2≤s.slots∧s.slots≤32∧2≤s.roots∧s.roots≤8:=by simp[de]at hs;omega
 have d1:0≤s.slots.tdiv 2∧s.slots.tdiv 2≤16:=by rw[Int.tdiv_eq_ediv_of_nonneg (by omega)];omega
 have d2:0≤s.roots.tdiv 2∧s.roots.tdiv 2≤4:=by rw[Int.tdiv_eq_ediv_of_nonneg (by omega)];omega
 have q1:jh s=2+s.room*2:=rfl;have q2:js s=jh s+1:=rfl;have q3:jn s=js s+s.slots.tdiv 2:=rfl;have q4:l9 s=jn s+s.roots.tdiv 2:=rfl;have q5:mF s=l9 s+26:=rfl;have q6:jN s=mF s+s.pages*4:=rfl;have e1:IntKind.i64.wrap (2*s.room)=2*s.room:=wrap64 (by omega) (by omega);have e2:IntKind.i64.wrap (2+2*s.room)=jh s:=(wrap64 (by omega) (by omega)).trans (by omega);have e3:IntKind.i64.wrap (jh s+1)=js s:=(wrap64 (by omega) (by omega)).trans (by omega);have e4:IntKind.i64.wrap (s.slots.tdiv 2)=s.slots.tdiv 2:=wrap64 (by omega) (by omega);have e5:IntKind.i64.wrap (js s+s.slots.tdiv 2)=jn s:=(wrap64 (by omega) (by omega)).trans (by omega);have e6:IntKind.i64.wrap (s.roots.tdiv 2)=s.roots.tdiv 2:=wrap64 (by omega) (by omega);have e7:IntKind.i64.wrap (jn s+s.roots.tdiv 2)=l9 s:=(wrap64 (by omega) (by omega)).trans (by omega);have e8:IntKind.i64.wrap 26=26:=rfl;have e9:IntKind.i64.wrap (l9 s+26)=mF s:=(wrap64 (by omega) (by omega)).trans (by omega);have e10:IntKind.i64.wrap (4*s.pages)=4*s.pages:=wrap64 (by omega) (by omega);have e11:IntKind.i64.wrap (mF s+4*s.pages)=jN s:=(wrap64 (by omega) (by omega)).trans (by omega);refine xU ?_;refine ay ?_;refine xG [1,2] ?_;refine ay ?_;iterate 2 (refine aH ?_)
 refine xO ?_;refine aH ?_;refine xG [1,2,3] ?_;refine ay ?_;refine xO ?_ (h:=by simp[e1];exact .mk);refine xO ?_ (h:=by simp[e2];exact .mk);refine xO ?_;refine aH ?_;refine xG [1,2,3] ?_;refine ay ?_;refine xO ?_ (h:=by simp[e3];exact .mk);refine xO ?_;refine aH ?_;refine xG [1,2,3] ?_;refine bx ?_;refine xO ?_ (h:=by simp[e4];exact .mk);refine xO ?_ (h:=by simp[e5];exact .mk);refine xO ?_;refine aH ?_;refine xG [1,2,3] ?_;refine bx ?_;refine xO ?_ (h:=by simp[e6];exact .mk);refine xO ?_ (h:=by simp[e7];exact .mk);refine xO ?_;refine aH ?_;refine xF [1,2,3] ?_;refine ab ?_;refine aS (by kernel_rfl) [] 4 [0,1,2,3,4,5,6] (by decide +kernel) ?_;refine ay ?_;refine xC (JH g) ?_;refine xO ?_ (h:=by simp[e8];exact .mk);refine xO ?_ (h:=by simp[e9];exact .mk);refine xO ?_;refine aH ?_;refine xG [1,2,3] ?_;refine bx ?_;refine xO ?_ (h:=by simp[e10];exact .mk);refine xO ?_ (h:=by simp[e11];exact .mk);refine xO ?_;refine aH ?_;refine xG [2,3] ?_;refine xO ?_;refine aH ?_;refine xF [2] ?_;refine xZ ?_;simp
theorem Jc(g:Gl)(s:Shape):a9 Tryz.prog g 144 [fc s] (.v (.bool (eN s))):=by
 refine xA Tryz.func144 fun B S=>?_
 simp only[fc,List.map,aO];have m1:2≤s.slots→(s.slots.tmod 2=0∨s.slots.tmod 2=1):=fun h=>by rw[Int.tmod_eq_emod_of_nonneg (by omega)];omega
 have m2:2≤s.roots→(s.roots.tmod 2=0∨s.roots.tmod 2=1):=fun h=>by rw[Int.tmod_eq_emod_of_nonneg (by omega)];omega
 refine xU ?_;refine bU [1] ?_;refine ab (xU ?_);refine bx ?_;iterate 3 refine xI ?_
 refine xP ?_;refine xB ?_;iterate 3 refine xI ?_
 refine xP ?_;refine xB ?_;iterate 3 refine xI ?_
 refine xP ?_;refine xB ?_;iterate 4 refine xI ?_
 refine xP ?_;refine xB ?_;iterate 3 refine xI ?_
 refine xP ?_;refine xB ?_;iterate 3 refine xI ?_
 refine xP ?_;refine xB ?_;iterate 4 refine xI ?_
 refine xP ?_;refine xB ?_;iterate 3 refine xI ?_
 refine xP ?_;refine xB ?_;iterate 3 refine xI ?_
 refine xP ?_;refine xQ [1,52] ?_ ?_
 ·intro Dc;have hz:de s=false:=by simp[de]at Dc ⊢;omega
  have hr:eN s=false:=by simp[eN,hz]
  refine xU ?_;refine xH [2] ?_;refine xZ ?_;simp[hr]
 intro Dc;have hz:de s=true:=by simp[de]at Dc ⊢;omega
 have hr:eN s=decide (jN s≤4096):=by simp[eN,hz]
 refine af ?_;refine xT ?_;refine xO ?_;refine xC (Jq g s hz) ?_;refine dC [2] ?_;refine xZ ?_;simp[hr]
theorem Mu(g:Gl)(s:Shape)(mode base:Int):a9 Tryz.prog g 92 [fc s,vI mode,vI base] (.v (.bool (cI s mode base))):=by
 refine xA Tryz.func92 fun B S=>?_
 simp only[fc,List.map,aO,cC];refine xU ?_;refine ay ?_;refine xG [1,2,3] ?_;refine xO ?_;refine xC (Jc g s) ?_;refine xH [1,2,3,7] ?_;refine ab (xU ?_);refine aT ?_;iterate 2 refine xI ?_
 refine xP ?_;refine xB ?_;iterate 4 refine xI ?_
 refine xP ?_;refine xQ [1,2,3,21] ?_ ?_
 ·intro h21;refine xU ?_;refine xH [6] ?_;refine xZ ?_;first|(simp[cI, *];done)|(simp[cI]at *;grind)
 intro h21;refine af fun _=>?_;refine ab (xU ?_);refine xH [2,3,22] ?_;refine ag (xU ?_);refine ay ?_;refine xQ [2,3,22,23] ?_ ?_
 ·intro h23;refine xU ?_;refine dC [6] ?_;refine xZ ?_;first|(simp[cI, *];done)|(simp[cI]at *;grind)
 intro h23;refine xU ?_;refine ay ?_;refine xQ [2,3,22,27] ?_ ?_
 ·intro h27;refine xU ?_;refine cW ?_;refine xF [6] ?_;refine xZ ?_;first|(simp[cI, *];done)|(simp[cI]at *;grind)
 intro h27;refine ab (xU ?_);refine ay ?_;refine xQ [22,33] ?_ ?_
 ·intro ta;refine af fun _=>?_;refine bd rfl ?_ ?_
  ·intro Ka;refine xU ?_;refine xH [6] ?_;refine xZ ?_;first|(simp[cI, *];done)|(simp[cI]at *;grind)
  intro hq;cases ta.symm.trans hq
 intro ta;refine xY ?_;refine ay ?_;refine xQ [33] ?_ ?_
 ·intro Ka;refine xU ?_;refine xH [6] ?_;refine xZ ?_;first|(simp[cI, *];done)|(simp[cI]at *;grind)
 intro Ka;refine af ?_;refine xT ?_;refine xH [6] ?_;refine xZ ?_;first|(simp[cI, *];done)|(simp[cI]at *;grind)
theorem Ew(g:Gl)(s:Slot):a9 Tryz.prog g 145 [aA s] (.v (.bool (dv s))):=by
 refine xA Tryz.func145 fun B S=>?_
 simp only[aA,List.map,aO];refine xU ?_;refine bU [1] ?_;refine ab (xU ?_);refine bx ?_;iterate 3 refine xI ?_
 refine xP ?_;refine xQ [1,10] ?_ ?_
 ·intro h10;refine xU ?_;refine xH [2] ?_;refine xZ ?_;simp[dv]at *;grind
 intro h10;refine af fun _=>?_;refine ab (xU ?_);refine aT ?_;refine xQ [1,13] ?_ ?_
 ·intro i7;refine xU ?_;refine bx ?_;iterate 3 refine xI ?_
  refine xP ?_;refine xB ?_;iterate 3 refine xI ?_
  refine xP ?_;refine xB ?_;refine xF [2] ?_;refine xZ ?_;simp[dv]at *;grind
 intro i7;refine af ?_;refine xT ?_;refine bx ?_;iterate 3 refine xI ?_
 refine xP ?_;refine xB ?_;iterate 3 refine xI ?_
 refine xP ?_;refine xB ?_;iterate 3 refine xI ?_
 refine xP ?_;refine xB ?_;refine xF [2] ?_;refine xZ ?_;simp[dv]at *;grind
theorem FW(g:Gl)(l:List Slot)(hl:l.length≤2^40):a9 Tryz.prog g 93 [eG l] (.v (.bool (df l))):=by
 refine xA Tryz.func93 fun B S=>?_
 refine xU ?_;refine xH [0] ?_;refine ab (xU ?_);refine xH [0,3] ?_;refine ag (aB (fun m σ o=>∃i:Nat,m=l.length-i∧i≤l.length∧(∀j,j<i→dv (nth l j)=true)∧σ=slots [(0,.d (eG l)),(3,.d (vI i))]∧o=[]) l.length .refl ⟨0,by simp,by simp,by simp,rfl,rfl⟩ ?_);rintro m σ o ⟨i,rfl,hi,hinv,rfl,rfl⟩ _;refine ab (xU ?_);refine bx ?_;refine xQ [0,3,8] ?_ ?_
 ·intro h8;have hi2:i<l.length:=by simpa using h8
  refine af fun _=>?_;refine ab (ag ?_);refine xU ?_;refine ay ?_;refine xO ?_ (h:=by simp[aA,hi2];exact .mk);refine xO ?_ (h:=by simp[-List.getElem?_map,ao hi2,aA];exact .mk);refine xC (Ew g (nth l i)) ?_;refine xO ?_;refine xG [0,3,4] ?_;refine ay ?_;refine xQ [0,3,17] ?_ ?_
  ·intro uC;have hr:df l=false:=by unfold df;rw[im hi2 (by simpa using uC)];rfl
   refine xU ?_;refine xH [2] ?_;refine xZ ?_;first|(simp[hr];done)|(simp[hr,eO,Bool.and_assoc];try (first|done|grind))
  intro uC;refine af fun _=>?_;refine xY ?_;refine aT ?_;refine xE [0,3] ?_;refine aq 0 [0,3] (by simp) (by simp) (by simp) ?_;refine ae (m':=l.length-(i+1)) (by omega) ⟨i+1,rfl,by omega,?_,?_,rfl⟩
  ·intro j hj;rcases Nat.lt_succ_iff_lt_or_eq.1 hj with hj|rfl
   ·exact hinv j hj
   simpa using uC
  rw[wrap64 (by omega) (by omega)];rfl
 intro h8;have hr:df l=eO l.length:=by unfold df;rw[all_good (fun j hj=>hinv j (by simp at h8;omega))];rfl
 refine aP (xT ?_);refine bx ?_;iterate 3 refine xI ?_
 refine xP ?_;refine xB ?_;iterate 4 refine xI ?_
 refine xP ?_;refine xB ?_;refine xF [2] ?_;refine xZ ?_;first|(simp[hr];done)|(simp[hr,eO,Bool.and_assoc];try (first|done|grind))
end Go.Proofs
