/- Contracts of the program's functions and plain facts, for arguments as each lemma says. -/
import Derived.Test.YtokgokbgidgfeaaGreatAwpD
import Derived.Test.YtokgokbgidgfeaaGreatCF
import Derived.Test.YtokgokbgidgfeaaGreatCE
set_option linter.all false
set_option maxHeartbeats 4000000
set_option maxRecDepth 4000
namespace Go.Proofs
open Go.aN
attribute [simp] Tryz.f115 Tryz.f149 Tryz.f150 Tryz.f153 Tryz.f154 Tryz.f156 Tryz.f157 Tryz.f163 Tryz.f204 Tryz.f211 Tryz.f213
theorem Jj(g:Gl)(l:List Slot)(hl:l.length≤2^40):a9 Tryz.prog g 163 [eG l] (oI (kH l)):=by
 refine xA Tryz.func163 fun B S=>?_
 refine xU ?_;refine xO ?_;refine xG [0] ?_;refine xH [0,3] ?_;refine ab (xU ?_);refine xH [0,3,4] ?_;refine ag (aB (fun m σ o=>∃i:Nat,m=l.length-i∧i≤l.length∧σ=slots [(0,.d (eG l)),(3,.hdr 0 0 (ff l i).length),(4,.d (vI i))]∧o=[.row 1 ((ff l i).map fun(j:Nat)=>vI j)]) l.length (Weak.trans (Weak.dJ 3 1 rfl) (Weak.kills [0,3,4] rfl) (fun _ _ _ h1 h2=>by rw[←h1.len];exact h2)) ⟨0,by simp,by simp,by simp[ff],by simp[ff]⟩ ?_);rintro m σ o ⟨i,rfl,hi,rfl,rfl⟩ _;have hle:=yr (l:=l) (i:=i);refine ab (xU ?_);refine bx ?_;refine xQ [0,3,4,8] ?_ ?_
 ·intro h8;have hi2:i<l.length:=by simpa using h8
  refine af fun _=>?_;refine ab (ag ?_);refine xU ?_;refine ay ?_;refine xO ?_ (h:=by simp[aA,hi2];exact .mk);refine xO ?_;refine xO ?_ (h:=by simp[-List.getElem?_map,hi2,ao hi2,aA];exact .mk);refine ay ?_;iterate 2 refine xI ?_
  refine xI ?_ (h:=fun hb=>by simp[aA,hi2];exact .mk);refine xI ?_;refine xI ?_ (h:=fun hb=>by simp[-List.getElem?_map,hi2,ao hi2,aA];exact .mk);refine xI ?_;refine xP ?_;refine xQ [0,3,4,24] ?_ ?_
  ·intro cv;have h2:fj (nth l i)=true:=by simpa [fj]using cv
   have e1:((ff l i).length+1)*8≤140737488355328:=by omega
   have e2:(ff l i).length≤140737488355327:=by omega
   refine xY ?_;refine aT ?_;refine xO ?_ (h:=by simp[rows,e1,e2];exact .mk);refine xH [0,3,4] ?_;refine xY ?_;refine aT ?_;refine xE [0,3,4] ?_;refine ah [0,3,4] ?_;first
   | (refine aD [0,3,4] rfl ?_
      refine aq 1 [0,3,4] (by decide) (by rfl) (by rfl) ?_
      refine ae (m' := l.length - (i+1)) (by omega) ⟨i+1, rfl, by omega, ?_, ?_⟩
      · rw [wrap64 (by omega) (by omega), oh h2]; rfl
      rw [oh h2]; rfl)
   | (refine aD [0,3,4] rfl ?_
      refine aC 0 2 1 (by decide) (by simp) (by decide) rfl rfl ?_
      refine aq 1 [0,3,4] (by decide) (by rfl) (by rfl) ?_
      refine ae (m' := l.length - (i+1)) (by omega) ⟨i+1, rfl, by omega, ?_, ?_⟩
      · rw [wrap64 (by omega) (by omega), oj h2]; simp; try rfl
      rw [oj h2]; simp; try rfl)
  intro cv;have h2:fj (nth l i)=false:=by simpa [fj]using cv
  refine af fun _=>?_;refine xY ?_;refine aT ?_;refine xE [0,3,4] ?_;refine ah [0,3,4] ?_;first
  | (refine aD [0,3,4] rfl ?_
     refine aq 1 [0,3,4] (by decide) (by rfl) (by rfl) ?_
     refine ae (m' := l.length - (i+1)) (by omega) ⟨i+1, rfl, by omega, ?_, ?_⟩
     · rw [wrap64 (by omega) (by omega), oh h2]; rfl
     rw [oh h2]; rfl)
  | (refine aD [0,3,4] rfl ?_
     refine aC 0 2 1 (by decide) (by simp) (by decide) rfl rfl ?_
     refine aq 1 [0,3,4] (by decide) (by rfl) (by rfl) ?_
     refine ae (m' := l.length - (i+1)) (by omega) ⟨i+1, rfl, by omega, ?_, ?_⟩
     · rw [wrap64 (by omega) (by omega), oj h2]; simp; try rfl
     rw [oj h2]; simp; try rfl)
 intro h8;obtain rfl:i=l.length:=by simp at h8;omega
 refine aP (xT ?_);refine bU [2] ?_;refine xZ ?_;simp[ai,kH];try rfl
theorem Er(g:Gl)(l:List Slot)(hl:l.length≤2^40):a9 Tryz.prog g 115 [eG l] (.bK [vI (((dh l).getD 0:Nat):Int),.v (.bool (dh l).isSome)]):=by
 refine xA Tryz.func115 fun B S=>?_
 refine xU ?_;refine ay ?_;refine xG [0] ?_;refine xO ?_;refine xC (Jj g l hl) ?_;refine xH [4] ?_;refine ab (xU ?_);refine aT ?_;refine xQ [4,9] ?_ ?_
 ·intro h9;have hr:=chain_nil (l:=l) (by simpa using h9);refine xU ?_;refine bU [2,3] ?_;refine xZ ?_;first|(simp[hr];done)|simp[hr,hr2]
 intro h9;have hr0:=xj (l:=l) (by simpa using h9);have hc:0<(kH l).length:=Nat.pos_of_ne_zero (by simpa using h9);have hr:=hr0.1;have hr2:(kH l)[0]=(((dh l).getD 0:Nat):Int):=by rw[←bC hc];exact hr0.2
 refine af ?_;refine xT ?_;refine xO ?_;refine xO ?_ (h:=by simp[hc];exact .mk);refine xO ?_ (h:=by simp[-List.getElem?_map,hc,ao hc];exact .mk);refine bU [2,3] ?_;refine xZ ?_;first|(simp[hr];done)|simp[hr,hr2]
theorem EE(g:Gl):a9 Tryz.prog g 211 [] (oI aI):=by
 refine xA Tryz.func211 fun B S=>?_
 refine xU ?_;refine xO ?_;refine xG [] ?_;refine bU [0] ?_;refine xZ ?_;simp[ai,aI]
theorem Ez(g:Gl)(n:Int):a9 Tryz.prog g 153 [vI n] (.bK [vI (bB n).1,.v (.bool (bB n).2)]):=by
 refine xA Tryz.func153 fun B S=>?_
 refine xU ?_;refine ay ?_;refine xG [0] ?_;refine xC (EE g) ?_;refine xH [0,4] ?_;refine ab (xU ?_);refine xH [0,4,5] ?_;refine ag (aB (fun m σ o=>∃i:Nat,m=6-i∧i≤6∧(∀j,j<i→¬(1≤n∧n≤8*nth aI j))∧σ=slots [(0,.d (vI n)),(4,.hdr 0 0 6),(5,.d (vI i))]∧o=[.row 1 (aI.map vI)]) 6 .refl ⟨0,by simp,by simp,by simp,rfl,rfl⟩ ?_);rintro m σ o ⟨i,rfl,hi,hinv,rfl,rfl⟩ _;refine ab (xU ?_);refine bx ?_;refine xQ [0,4,5,10] ?_ ?_
 ·intro h10;have hi2:i<6:=by simp at h10;omega
  have hi4:(i:Int)<6:=by omega
  have hi3:i<aI.length:=hi2;have hw:=oD hi2;have w1:IntKind.i64.wrap (8*nth aI i)=8*nth aI i:=wrap64 (by omega) (by omega);refine af fun _=>?_;refine ab (ag ?_);refine xU ?_;refine aT ?_;iterate 3 refine xI ?_
  refine xI ?_ (h:=fun hb=>by simp[hi2,hi3,hi4];exact .mk);refine xI ?_ (h:=fun hb=>by simp[-List.getElem?_map,hi2,ao hi3];exact .mk);refine xI ?_ (h:=fun hb=>by simp[w1];exact .mk);refine xI ?_;refine xP ?_;refine xQ [0,4,5,23] ?_ ?_
  ·intro h23;have hr:=Ae hi2 (by simpa using h23) hinv;refine xU ?_;refine dC [2,3] ?_;refine xZ ?_;simp[hr]
  intro h23;have hno:¬(1≤n∧n≤8*nth aI i):=by simpa using h23
  refine af fun _=>?_;refine xY ?_;refine aT ?_;refine xE [0,4,5] ?_;refine ah [0,4,5] ?_;refine ae (m':=6-(i+1)) (by omega) ⟨i+1,rfl,by omega,?_,?_,rfl⟩
  ·intro j hj;rcases Nat.lt_succ_iff_lt_or_eq.1 hj with hj|rfl
   ·exact hinv j hj
   exact hno
  rw[wrap64 (by omega) (by omega)];rfl
 intro h10;have hr:bB n=(0,false):=Af (fun j hj=>hinv j (by simp at h10;omega));refine aP (xT ?_);refine bU [2,3] ?_;refine xZ ?_;simp[hr]
theorem EF(g:Gl)(c:Int):a9 Tryz.prog g 213 [vI c] (.bK [vI (if c<0∨6≤c then 0 else nth aI c.toNat),vI (if c<0∨6≤c then 1 else 0)]):=by
 refine xA Tryz.func213 fun B S=>?_
 refine xU ?_;refine ay ?_;refine xG [0] ?_;refine xC (EE g) ?_;refine xH [0,4] ?_;refine ab (xU ?_);refine aT ?_;iterate 4 refine xI ?_
 refine xP ?_;refine xQ [0,4,13] ?_ ?_
 ·intro i7;have hr:c<0∨6≤c:=by simpa [aI]using i7
  refine xU ?_;refine bU [2,3] ?_;refine xZ ?_;first|(simp[hr];done)|simp[hr,bC hc]
 intro i7;have hr:¬(c<0∨6≤c):=by simp[aI]at i7 ⊢;omega
 have hc:c.toNat<aI.length:=by show c.toNat<6;omega
 have hc2:0≤c∧c<6:=by omega
 have hc3:c<(aI.length:Int):=hc2.2;refine af ?_;refine xT ?_;refine ay ?_;refine xO ?_ (h:=by simp[hc,hc2,hc3];exact .mk);refine xO ?_ (h:=by simp[-List.getElem?_map,hc,ao hc];exact .mk);refine bU [2,3] ?_;refine xZ ?_;first|(simp[hr];done)|simp[hr,bC hc]
theorem BG(g:Gl)(c:Int):a9 Tryz.prog g 156 [vI c] (.bK [vI (cellsS c).1,vI (cellsS c).2]):=by
 refine xA Tryz.func156 fun B S=>?_
 have c213:=EF g c;obtain⟨w,hw⟩:∃w,w=(if c<0∨6≤c then 0 else nth aI c.toNat):=⟨_,rfl⟩;obtain⟨e,he⟩:∃e:Int,e=(if c<0∨6≤c then 1 else 0):=⟨_,rfl⟩;rw[←hw,←he]at c213;refine xU ?_;refine ay ?_;refine xG [0] ?_;refine xO ?_;refine xC (c213) ?_;refine cW ?_;refine xF [4,5] ?_;refine ab (xU ?_);refine ay ?_;refine xQ [4,5,12] ?_ ?_
 ·intro h12;have hz:e≠0:=by simpa using h12
  have hc:c<0∨6≤c:=Classical.byContradiction fun q=>by rw[if_neg q]at he;exact hz he
  rw[if_pos hc]at he;have hr:cellsS c=(0,1):=by unfold cellsS;rw[if_pos hc]
  refine xU ?_;refine dC [2,3] ?_;refine xZ ?_;simp[hr, *]
 intro h12;have hz:e=0:=by simpa using h12
 have hc:¬(c<0∨6≤c):=fun q=>by rw[if_pos q]at he;omega
 rw[if_neg hc]at hw;have hw8:=oD (j:=c.toNat) (by omega);have hw0:w≠0:=by omega
 have hd:0≤(28:Int).tdiv w∧(28:Int).tdiv w≤28:=⟨Int.tdiv_nonneg (by omega) (by omega),by rw[Int.tdiv_eq_ediv_of_nonneg (by omega)];exact Int.ediv_le_self _ (by omega)⟩;have w1:IntKind.i64.wrap ((28:Int).tdiv w)=(28:Int).tdiv w:=wrap64 (by omega) (by omega);have hr:cellsS c=((28:Int).tdiv w,0):=by unfold cellsS;rw[if_neg hc,hw]
 refine af ?_;refine xT ?_;refine xO ?_;refine xO ?_ (h:=by simp[hw0,w1];exact .mk);refine bU [2,3] ?_;refine xZ ?_;simp[hr, *]
theorem BH(g:Gl)(c:Int)(k:Nat)(hc:0≤c∧c<6)(hk:k≤14):a9 Tryz.prog g 157 [vI c,vI k] (.bK [vI (cellS c k).1,vI (cellS c k).2]):=by
 refine xA Tryz.func157 fun B S=>?_
 have c156:=BG g c;have c213:=EF g c;obtain⟨b1,b2,b3,b4⟩:=qS hc;rw[b3]at c156;rw[if_neg (by omega),if_neg (by omega)]at c213;refine xU ?_;refine ay ?_;refine xG [0,1] ?_;refine xO ?_;refine xC (c156) ?_;refine cW ?_;refine xF [0,1,6,7] ?_;refine ab (xU ?_);refine aT ?_;iterate 2 refine xI ?_
 refine xP ?_;refine xB ?_;iterate 3 refine xI ?_
 refine xP ?_;refine xQ [0,1,25] ?_ ?_
 ·intro mA;have hr:cellS c k=(0,1):=by unfold cellS;rw[if_pos];simp at mA;omega
  refine xU ?_;refine bU [4,5] ?_;refine xZ ?_;first|(simp[hr];done)|simp[d1]
 intro mA;have hkc:(k:Int)<(cellsS c).1:=by simp at mA;omega
 obtain⟨d1,d2,d3⟩:=uq hc hkc;have w1:IntKind.i64.wrap (nth aI c.toNat*(k:Int))=(k:Int)*nth aI c.toNat:=(wrap64 (by rw[Int.mul_comm];omega) (by rw[Int.mul_comm];omega)).trans (Int.mul_comm _ _);have w2:IntKind.i64.wrap (4+(k:Int)*nth aI c.toNat)=4+(k:Int)*nth aI c.toNat:=wrap64 (by omega) (by omega);refine af ?_;refine xT ?_;refine xO ?_;refine xC (c213) ?_;refine cW ?_;refine xG [1,8] ?_;refine ay ?_;refine xO ?_ (h:=by simp[w1];exact .mk);refine xO ?_ (h:=by simp[w2];exact .mk);refine bU [4,5] ?_;refine xZ ?_;first|(simp[hr];done)|simp[d1]
theorem Js(g:Gl)(c off:Int)(hc:0≤c∧c<6)(ho:0≤off∧off<32):a9 Tryz.prog g 204 [vI c,vI off] (.bK [vI (cy c off).1,.v (.bool (cy c off).2)]):=by
 refine xA Tryz.func204 fun B S=>?_
 have c156:=BG g c;obtain⟨b1,b2,b3,b4⟩:=qS hc;rw[b3]at c156;obtain⟨N,hN⟩:∃N:Nat,(cellsS c).1=N:=⟨(cellsS c).1.toNat,by omega⟩;refine xU ?_;refine ay ?_;refine xG [0,1] ?_;refine xO ?_;refine xC (c156) ?_;refine cW ?_;refine xF [0,1,6] ?_;refine ab (xU ?_);refine xH [0,1,6,8] ?_;refine ag (aB (fun m σ o=>∃i:Nat,m=N-i∧i≤N∧(∀j,j<i→(cellS c j).1≠off)∧σ=slots [(0,.d (vI c)),(1,.d (vI off)),(6,.d (vI (cellsS c).1)),(8,.d (vI i))]∧o=[]) (N) .refl ⟨0,by simp,by simp,by simp,rfl,rfl⟩ ?_);rintro m σ o ⟨i,rfl,hi,hinv,rfl,rfl⟩ _;refine ab (xU ?_);refine aT ?_;refine xQ [0,1,6,8,18] ?_ ?_
 ·intro h18;have hi2:i<N:=by rw[hN]at h18;simpa using h18
  refine af fun _=>?_;refine ab (ag ?_);refine xU ?_;refine ay ?_;refine xC (BH g c i hc (by omega)) ?_;refine cW ?_;refine xG [0,1,6,8,9] ?_;refine aT ?_;refine xQ [0,1,6,8,29] ?_ ?_
  ·intro qd;have hr:=C7 (k:=i) hc (by omega) (by simpa using qd);refine xU ?_;refine dC [4,5] ?_;refine xZ ?_;simp[hr]
  intro qd;have hno:(cellS c i).1≠off:=by simpa using qd
  refine af fun _=>?_;refine xY ?_;refine aT ?_;refine xE [0,1,6,8] ?_;refine ah [0,1,6,8] ?_;refine ae (m':=N-(i+1)) (by omega) ⟨i+1,rfl,by omega,?_,?_,rfl⟩
  ·intro j hj;rcases Nat.lt_succ_iff_lt_or_eq.1 hj with hj|rfl
   ·exact hinv j hj
   exact hno
  rw[wrap64 (by omega) (by omega)];rfl
 intro h18;have hr:cy c off=(0,false):=C8 hc ho (fun j hj=>hinv j (by rw[hN]at h18;simp at h18;omega));refine aP (xT ?_);refine bU [4,5] ?_;refine xZ ?_;simp[hr]
theorem EA(g:Gl)(n:Int):a9 Tryz.prog g 154 [vI n] (.bK [vI (bw n).1,vI (bw n).2]):=by
 refine xA Tryz.func154 fun B S=>?_
 refine xU ?_;refine bU [0] ?_;refine ab (xU ?_);refine aT ?_;iterate 2 refine xI ?_
 refine xP ?_;refine xQ [0,9] ?_ ?_
 ·intro h9;have hr:bw n=(0,1):=by unfold bw;rw[if_pos];simp at h9;omega
  refine xU ?_;refine bU [2,3] ?_;refine xZ ?_;simp[hr]
 intro h9;have hn:¬(n≤120∨2048<n):=by simp at h9;omega
 have hr:bw n=((n+256-1).tdiv 256,0):=by unfold bw;rw[if_neg hn]
 have w1:IntKind.i64.wrap (n+256)=n+256:=wrap64 (by omega) (by omega);have w2:IntKind.i64.wrap (n+256-1)=n+256-1:=wrap64 (by omega) (by omega);have w3:IntKind.i64.wrap ((n+256-1).tdiv 256)=(n+256-1).tdiv 256:=wrap64 (by rw[Int.tdiv_eq_ediv_of_nonneg (by omega)];omega) (by rw[Int.tdiv_eq_ediv_of_nonneg (by omega)];omega);refine af ?_;refine xT ?_;refine xO ?_;refine xO ?_ (h:=by simp[w1];exact .mk);refine xO ?_ (h:=by simp[w2];exact .mk);refine xO ?_ (h:=by simp[w3];exact .mk);refine bU [2,3] ?_;refine xZ ?_;simp[hr]
theorem Ey(g:Gl)(o:Int×Int)(hb:o.1≤2^62):a9 Tryz.prog g 150 [aE o] (.bK [vI (fu o).1.1,vI (fu o).1.2.1,vI (fu o).1.2.2,.v (.bool (fu o).2)]):=by
 refine xA Tryz.func150 fun B S=>?_
 simp only[aE,List.map,aO];refine xU ?_;refine cW ?_;refine xG [1] ?_;refine ay ?_;refine xC (Ez g o.2) ?_;refine cW ?_;refine xF [1,6,7] ?_;refine ab (xU ?_);refine aT ?_;iterate 3 refine xI ?_
 refine xP ?_;refine xQ [1,6,22] ?_ ?_
 ·intro h22;have hr:fu o=((0,0,0),false):=by unfold fu;rw[if_pos];simp at h22;grind
  refine xU ?_;refine bx ?_;refine xF [2,3,4,5] ?_;refine xZ ?_;simp[hr]
 intro h22;have hz:(bB o.2).2=true∧¬o.1<0:=by simp at h22;grind
 have hr:fu o=((o.1.tdiv 32,(bB o.2).1,(cy (bB o.2).1 (o.1.tmod 32)).1),(cy (bB o.2).1 (o.1.tmod 32)).2):=by unfold fu;rw[if_neg (by simp[hz])]
 obtain⟨c,hc6,hcc⟩:=nJ hz.1;have hm:0≤o.1.tmod 32∧o.1.tmod 32<32:=by rw[Int.tmod_eq_emod_of_nonneg (by omega)];omega
 have w1:IntKind.i64.wrap (o.1.tmod 32)=o.1.tmod 32:=wrap64 (by omega) (by omega);have hd:0≤o.1.tdiv 32∧o.1.tdiv 32≤o.1:=by rw[Int.tdiv_eq_ediv_of_nonneg (by omega)];omega
 have w2:IntKind.i64.wrap (o.1.tdiv 32)=o.1.tdiv 32:=wrap64 (by omega) (by omega);have cw:=Js g (bB o.2).1 (o.1.tmod 32) (by omega) hm;refine af ?_;refine xT ?_;refine aT ?_;refine xO ?_ (h:=by simp[w1];exact .mk);refine xC (cw) ?_;refine cW ?_;refine xG [1,6,8,9] ?_;refine ay ?_;refine xO ?_ (h:=by simp[w2];exact .mk);iterate 7 refine xO ?_
 refine xF [2,3,4,5] ?_;refine xZ ?_;simp[hr]
theorem Jd(g:Gl)(pages:Int)(o:Int×Int)(hp:0≤pages∧pages≤64)(hb:o.1≤2^62):a9 Tryz.prog g 149 [vI pages,aE o] (.bK [aE (l6 pages o).1,.v (.bool (l6 pages o).2)]):=by
 refine xA Tryz.func149 fun B S=>?_
 simp only[aE,List.map,aO,cC];have IM:=Ey g o hb;simp only[aE]at IM;have c154:=EA g o.2;refine xU ?_;refine aT ?_;refine xG [0,3,4] ?_;refine xO ?_;refine xC (IM) ?_ (he:=by simp[aE];exact .mk);iterate 9 refine xO ?_
 refine xF [0,3,4,6,9] ?_;refine ab (xU ?_);refine xO ?_;refine xQ [0,3,4,6,20] ?_ ?_
 ·intro h20;have hz:(fu o).2=true:=by simpa using h20
  have hr:l6 pages o=(((fu o).1.1,1),decide ((fu o).1.1<pages)):=by unfold l6;rw[if_pos hz]
  refine xU ?_;refine xO ?_;refine aH ?_;refine aT ?_;refine aH ?_;refine xH [4,5] ?_;refine xZ ?_;simp[hr,aE]
 intro h20;have hz:(fu o).2=false:=by simpa using h20
 refine af ?_;refine xT ?_;refine ay ?_;refine xC (c154) ?_ (he:=by simp[aE];exact .mk);refine cW ?_;refine xF [0,3,4,10,11] ?_;refine ab (xU ?_);refine aT ?_;iterate 3 refine xI ?_
 refine xP ?_;refine xB ?_;iterate 4 refine xI ?_
 refine xP ?_;refine xQ [0,3,4,10,44] ?_ ?_
 ·intro BV;have hq:(bw o.2).2≠0∨o.1<0∨o.1.tmod 32≠0:=by simp at BV;grind
  have hr:l6 pages o=((0,0),false):=by unfold l6;rw[if_neg (by simp[hz]),if_pos hq]
  refine xU ?_;iterate 2 (refine aH ?_)
  refine xH [4,5] ?_;refine xZ ?_;simp[hr,aE]
 intro BV;have hq:¬((bw o.2).2≠0∨o.1<0∨o.1.tmod 32≠0):=by simp at BV;grind
 have hr:l6 pages o=((o.1.tdiv 32,(bw o.2).1),decide (o.1.tdiv 32≤pages)&&decide ((bw o.2).1≤pages-o.1.tdiv 32)):=by unfold l6;rw[if_neg (by simp[hz]),if_neg hq]
 have hd:0≤o.1.tdiv 32∧o.1.tdiv 32≤o.1:=by rw[Int.tdiv_eq_ediv_of_nonneg (by omega)];omega
 have w2:IntKind.i64.wrap (o.1.tdiv 32)=o.1.tdiv 32:=wrap64 (by omega) (by omega);have w3:IntKind.i64.wrap (pages-o.1.tdiv 32)=pages-o.1.tdiv 32:=wrap64 (by omega) (by omega);refine af ?_;refine xT ?_;refine ay ?_;refine xO ?_ (h:=by simp[w2];exact .mk);refine xO ?_;refine aH ?_;refine xO ?_;refine aH ?_;refine xF [0,4,12] ?_;refine ab ?_;refine il (hard:=[]) [7,10,14] (aR (by decide)) (by kernel_rfl) 4 [[0,1,2,3,4,5,6,7,8,9,10,11,12,13,14,15],[0,1,2,3,4,5,6,7,8,9,14,10,11,12,13,15],[0,1,2,3,4,5,6,8,9,10,7,11,12,13,14,15],[0,1,2,3,4,5,6,8,9,10,11,14,7,12,13,15],[0,1,2,3,4,5,6,8,9,14,7,10,11,12,13,15],[0,1,2,3,4,5,6,8,9,14,10,7,11,12,13,15]] (by decide +kernel) ⟨?_,?_,?_,?_,?_,?_,trivial⟩
 ·skip
  iterate 6 refine xO ?_
  iterate 5 refine xI ?_
  refine xI ?_ (h:=fun hb=>by simp[w3];exact .mk);refine xI ?_;refine xP ?_;refine bM rfl rfl rfl (by simp<;>first|omega|grind) (by simp[splice];exact .mk) ?_;refine xB ?_;refine xF [4,5] ?_;refine xZ ?_;simp[hr,aE]
 ·skip
  iterate 6 refine xO ?_
  iterate 4 refine xI ?_
  refine bM rfl rfl rfl (by simp<;>first|omega|grind) (by simp[splice];exact .mk) ?_;refine xI ?_;refine xI ?_ (h:=fun hb=>by simp[w3];exact .mk);refine xI ?_;refine xP ?_;refine xB ?_;refine xF [4,5] ?_;refine xZ ?_;simp[hr,aE]
 ·skip
  iterate 6 refine xO ?_
  iterate 5 refine xI ?_
  refine xI ?_ (h:=fun hb=>by simp[w3];exact .mk);refine xI ?_;refine xP ?_;refine bM rfl rfl rfl (by simp<;>first|omega|grind) (by simp[splice];exact .mk) ?_;refine xB ?_;refine xF [4,5] ?_;refine xZ ?_;simp[hr,aE]
 ·skip
  iterate 6 refine xO ?_
  iterate 4 refine xI ?_
  refine xI ?_ (h:=fun hb=>by simp[w3];exact .mk);refine bM rfl rfl rfl (by simp<;>first|omega|grind) (by simp[splice];exact .mk) ?_;iterate 2 refine xI ?_
  refine xP ?_;refine xB ?_;refine xF [4,5] ?_;refine xZ ?_;simp[hr,aE]
 ·skip
  iterate 6 refine xO ?_
  iterate 3 refine xI ?_
  refine bM rfl rfl rfl (by simp<;>first|omega|grind) (by simp[splice];exact .mk) ?_;iterate 2 refine xI ?_
  refine xI ?_ (h:=fun hb=>by simp[w3];exact .mk);refine xI ?_;refine xP ?_;refine xB ?_;refine xF [4,5] ?_;refine xZ ?_;simp[hr,aE]
 skip
 iterate 6 refine xO ?_
 iterate 3 refine xI ?_
 refine bM rfl rfl rfl (by simp<;>first|omega|grind) (by simp[splice];exact .mk) ?_;iterate 2 refine xI ?_
 refine xI ?_ (h:=fun hb=>by simp[w3];exact .mk);refine xI ?_;refine xP ?_;refine xB ?_;refine xF [4,5] ?_;refine xZ ?_;simp[hr,aE]
open Go.aN
attribute [simp] Tryz.f97
theorem JY(g:Gl)(pages:Int)(l:List (Int×Int))(hl:l.length≤2^40)(hb:∀i,i<l.length→(nth l i).1≤2^62):a9 Tryz.prog g 97 [vI pages,rO l] (.bK [oI (er pages l).1,.v (.bool (er pages l).2)]):=by
 refine xA Tryz.func97 fun B S=>?_
 refine xU ?_;refine bU [0,1] ?_;refine ab (xU ?_);refine aT ?_;iterate 2 refine xI ?_
 refine xP ?_;refine xQ [0,1,22] ?_ ?_
 ·intro h22;have hr:er pages l=([],false):=yc (by simp at h22;omega);refine xU ?_;refine bU [4,5] ?_;refine xZ ?_;simp[hr,ai]
 intro h22;have h0:0≤pages∧pages≤64:=by simp at h22;omega
 obtain⟨N,rfl⟩:∃N:Nat,pages=N:=⟨pages.toNat,by omega⟩;have n1:(N:Int)*8≤140737488355328:=by omega
 have n2:(N:Int)≤140737488355328:=by omega
 have n3:(8:Int)*N≤140737488355328:=by omega
 have n4:8*N≤140737488355328:=by omega
 have n5:N≤140737488355328:=by omega
 refine af ?_;refine xT ?_;refine xO ?_;refine xO ?_ (h:=by simp[n1,n2,n3,n4,n5];exact .mk);refine xH [0,1,6] ?_;refine ab (xU ?_);refine xH [0,1,6,7] ?_;refine ag (aB (fun m σ o=>∃i:Nat,m=N-i∧i≤N∧σ=slots [(0,.d (vI N)),(1,.d (rO l)),(6,.hdr 0 0 N),(7,.d (vI i))]∧o=[.row 1 ((jz N i).map vI)]) (N) .refl ⟨0,by simp,by simp,by simp,by rw[zk];simp⟩ ?_);rintro m σ o ⟨i,rfl,hi,rfl,rfl⟩ _;refine ab (xU ?_);refine aT ?_;refine xQ [0,1,6,7,27] ?_ ?_
 ·intro h27;have hi2:i<N:=by simp at h27;omega
  have r1:i<(jz N i).length:=by rw[tB hi];exact hi2
  refine af fun _=>?_;refine ab (ag ?_);refine xY ?_;refine ay ?_;refine xO ?_ (h:=by simp[aE,hi2];exact .mk);refine xO ?_ (h:=by simp[splice,hi2,r1,br,dn,bJ];exact .mk);refine xF [0,1,6,7] ?_;refine xY ?_;refine aT ?_;refine xE [0,1,6,7] ?_;refine ah [0,1,6,7] ?_;exact ae (m':=N-(i+1)) (by omega) ⟨i+1,rfl,by omega,by rw[wrap64 (by omega) (by omega)];rfl,by simp[tC hi2]⟩
 intro h27;obtain rfl:i=N:=by simp at h27;omega
 rw[show jz i i=(ei (i:Int) l 0).1 by rw[zl];simp[ei]];obtain⟨N,rfl⟩:∃N,N=i:=⟨_,rfl⟩;refine aP ?_;rintro -;refine ab (xU ?_);refine xH [0,1,6,8] ?_;refine ag (aB (fun m σ o=>∃i:Nat,m=l.length-i∧i≤l.length∧(∀j,j<i→lu (N:Int) l j=true)∧σ=slots [(0,.d (vI N)),(1,.d (rO l)),(6,.hdr 0 0 N),(8,.d (vI i))]∧o=[.row 1 ((ei (N:Int) l i).1.map vI)]) l.length .refl ⟨0,by simp,by simp,by simp,rfl,rfl⟩ ?_);rintro m σ o ⟨i,rfl,hi,hinv,rfl,rfl⟩ _;have hkl:(ei (N:Int) l i).1.length=N:=by rw[ek.1];simp
 refine ab (xU ?_);refine bx ?_;refine xQ [0,1,6,8,36] ?_ ?_
 ·intro Gr;have hi2:i<l.length:=by simpa using Gr
  obtain⟨q1,q2⟩:=CS (pages:=(N:Int)) (o:=nth l i);refine af fun _=>?_;refine ab (ag ?_);refine xU ?_;refine aT ?_;refine xO ?_ (h:=by simp[aE,hi2];exact .mk);refine xO ?_ (h:=by simp[-List.getElem?_map,ao hi2,aE];exact .mk);refine xC (Jd g N (nth l i) h0 (hb i hi2)) ?_;refine bx ?_;refine aH ?_;refine xH [0,1,6,8,9,10] ?_;refine ab (xU ?_);refine ay ?_;refine xQ [0,1,6,8,9,49] ?_ ?_
  ·intro Kc;have hr:er (N:Int) l=([],false):=kP hi2 (D2 (by rw[←q1];simpa using Kc));refine xU ?_;refine bU [4,5] ?_;refine xZ ?_;simp[hr,ai]
  intro Kc;have hs:(aM (N:Int) (nth l i)).2=true:=by rw[←q1];simpa using Kc
  obtain⟨q3,q4,q5⟩:=q2 hs;rw[q3];refine af ?_;refine xT ?_;refine ay ?_;refine xO ?_ (h:=by simp[aE,hi2];exact .mk);refine xO ?_ (h:=by simp[-List.getElem?_map,ao hi2,aE];exact .mk);refine xC (Ey g (nth l i) (hb i hi2)) ?_;iterate 9 refine xO ?_
  refine xF [0,1,6,8,9,11,12,14] ?_;refine ab (xU ?_);refine xO ?_;refine xQ [0,1,6,8,9,11,12,60] ?_ ?_
  ·intro MF;have hsm:(bo (N:Int) l i).small=true:=by show (aM (N:Int) (nth l i)).1.small=true;rw[←q4];simpa using MF
   have q6:=q5 hsm;obtain⟨p,c,k,e1,e2,e3,hc6,Pv,Ki,ha,hq⟩:=pv hs hsm;have hp2:p<N:=by omega
   have hpl:p<(ei (N:Int) l i).1.length:=by omega
   have hpt:(bo (N:Int) l i).page.toNat=p:=by show (aM (N:Int) (nth l i)).1.page.toNat=p;omega
   have hct:(bo (N:Int) l i).cls=c:=e2;simp only[q6,e1,e2];refine ab (xU ?_);refine ay ?_;refine xO ?_ (h:=by simp[aE,hp2];exact .mk);refine xO ?_ (h:=by simp[-List.getElem?_map,ao hpl];exact .mk);refine ay ?_;iterate 2 refine xI ?_
   refine xI ?_ (h:=fun hb=>by simp[aE,hp2];exact .mk);refine xI ?_ (h:=fun hb=>by simp[-List.getElem?_map,ao hpl];exact .mk);iterate 2 refine xI ?_
   refine xP ?_;refine xQ [0,1,6,8,11,12,73] ?_ ?_
   ·intro HS;have hr:er (N:Int) l=([],false):=kP hi2 (yO hs hsm (by rw[hpt];simp at HS;exact HS.1) (by rw[hpt,hct];simp at HS;exact HS.2));refine xU ?_;refine bU [4,5] ?_;refine xZ ?_;simp[hr,ai]
   intro HS;have hk:nth (ei (N:Int) l i).1 p = -1∨nth (ei (N:Int) l i).1 p=c:=by simp at HS;grind
   refine af fun _=>?_;refine ab (xU ?_);refine xH [0,1,6,8,11,12,15] ?_;refine ag (aB (fun m σ o=>∃j:Nat,m=i-j∧j≤i∧(∀t,t<j→(nth l t).1≠(nth l i).1)∧σ=slots [(0,.d (vI N)),(1,.d (rO l)),(6,.hdr 0 0 N),(8,.d (vI i)),(11,.d (vI p)),(12,.d (vI c)),(15,.d (vI j))]∧o=[.row 1 ((ei (N:Int) l i).1.map vI),.var 115 [.d (vI (p:Int)),.d (vI (aM (N:Int) (nth l i)).1.count)]]) i .refl ⟨0,by simp,by simp,by simp,rfl,rfl⟩ ?_);rintro m σ o ⟨j,rfl,hj,et,rfl,rfl⟩ _;refine ab (xU ?_);refine aT ?_;refine xQ [0,1,6,8,11,12,15,76] ?_ ?_
   ·intro MH;have hj2:j<i:=by simpa using MH
    have hj3:j<l.length:=by omega
    refine af fun _=>?_;refine ab (ag ?_);refine ab ?_;refine aS (by kernel_rfl) [] 4 [0,1,2,3,4,5,6,7,8,9,10] (by decide +kernel) ?_;refine ay ?_;refine xO ?_ (h:=by simp[aE,hj3];exact .mk);refine xO ?_;refine xO ?_ (h:=by simp[-List.getElem?_map,ao hj3,aE];exact .mk);refine ay ?_;refine xO ?_ (h:=by simp[aE,hi2];exact .mk);refine xO ?_;refine xO ?_ (h:=by simp[-List.getElem?_map,ao hi2,aE];exact .mk);refine xO ?_;refine xQ [0,1,6,8,11,12,15,89] ?_ ?_
    ·intro lk;have hr:er (N:Int) l=([],false):=kP hi2 (A7 h0 hi2 hinv hs hsm hj2 (by simpa using lk));refine xU ?_;refine bU [4,5] ?_;refine xZ ?_;simp[hr,ai]
    intro lk;have hne:(nth l j).1≠(nth l i).1:=by simpa using lk
    refine af fun _=>?_;refine xY ?_;refine aT ?_;refine xE [0,1,6,8,11,12,15] ?_;refine ah [0,1,6,8,11,12,15] ?_;refine ae (m':=i-(j+1)) (by omega) ⟨j+1,rfl,by omega,?_,?_,rfl⟩
    ·intro t ht;rcases Nat.lt_succ_iff_lt_or_eq.1 ht with ht|rfl
     ·exact et t ht
     exact hne
    rw[wrap64 (by omega) (by omega)];rfl
   intro MH;have hok:=CR h0 hi2 hinv hs hsm (by rw[hpt,hct];exact hk) (fun t ht=>et t (by simp at MH;omega));rw[hpt,hct]at hok;refine aP (xT ?_);refine aT ?_;refine xO ?_ (h:=by simp[aE,hp2];exact .mk);refine xO ?_ (h:=by simp[splice,hp2,hpl];exact .mk);refine xF [0,1,6,8] ?_;refine aP ?_;rintro -;refine xY ?_;refine aT ?_;refine xE [0,1,6,8] ?_;refine ah [0,1,6,8] ?_;refine aq 1 [0,1,6,8] (by decide) (by rfl) (by rfl) ?_;refine ae (m':=l.length-(i+1)) (by omega) ⟨i+1,rfl,by omega,?_,?_,?_⟩
   ·intro j hj;rcases Nat.lt_succ_iff_lt_or_eq.1 hj with hj|rfl
    ·exact hinv j hj
    exact hok.1
   ·rw[wrap64 (by omega) (by omega)];rfl
   rw[hok.2,List.map_set];rfl
  intro MF;have hsm:(bo (N:Int) l i).small=false:=by show (aM (N:Int) (nth l i)).1.small=false;rw[←q4];simpa using MF
  obtain⟨p,n,c,e0,Pv,hn1,hpn,_⟩:=uZ hs;have e1:(aM (N:Int) (nth l i)).1.page=p:=by rw[e0]
  have e2:(aM (N:Int) (nth l i)).1.count=n:=by rw[e0]
  have hp2:p<N:=by omega
  obtain⟨l1,l2⟩:=Ce hs hsm;have hpt:(bo (N:Int) l i).page.toNat=p:=by show (aM (N:Int) (nth l i)).1.page.toNat=p;omega
  have hnt:(bo (N:Int) l i).count.toNat=n:=by show (aM (N:Int) (nth l i)).1.count.toNat=n;omega
  rw[hpt,hnt]at l1 l2;have w1:IntKind.i64.wrap ((p:Int)+n)=p+n:=wrap64 (by omega) (by omega);simp only[e1,e2];refine af fun _=>?_;refine ab (xU ?_);refine xO ?_;refine xO ?_ (h:=by simp[aE];exact .mk);refine xH [0,1,6,8,9,16] ?_;refine ag (aB (fun m σ o=>∃(t:Nat) (cur:List Int),m=n-t∧t≤n∧cur.length=N∧ed p (n-t) t cur=ed p n 0 (ei (N:Int) l i).1∧σ=slots [(0,.d (vI N)),(1,.d (rO l)),(6,.hdr 0 0 N),(8,.d (vI i)),(9,.ptr 1 0 0),(16,.d (vI ((p+t:Nat):Int)))]∧o=[.row 1 (cur.map vI),.var 115 [.d (vI (p:Int)),.d (vI (n:Int))]]) n .refl ⟨0,_,by simp,by simp,hkl,rfl,rfl,rfl⟩ ?_);rintro m σ o ⟨t,cur,rfl,ht,hcl,hfl,rfl,rfl⟩ _;refine ab (xU ?_);refine ay ?_;refine xO ?_ (h:=by simp[aE];exact .mk);refine xO ?_;refine xO ?_ (h:=by simp[aE];exact .mk);refine xO ?_ (h:=by simp[w1];exact .mk);refine xO ?_;refine xQ [0,1,6,8,9,16,102] ?_ ?_
  ·intro xL;have ht2:t<n:=by simp at xL;omega
   have ht3:p+t<N:=by omega
   have Oc:p+t<cur.length:=by omega
   have Od:(p:Int)+t<N:=by omega
   have Oe:(0:Int)≤(p:Int)+t:=by omega
   have Of:((p:Int)+t).toNat=p+t:=by omega
   obtain⟨f,hf⟩:∃f,n-t=f+1:=⟨n-t-1,by omega⟩;rw[hf]at hfl;refine af fun _=>?_;refine ab (ag ?_);refine ab (xU ?_);refine ay ?_;refine xO ?_ (h:=by simp[aE,ht3,Od,Oe,Of];exact .mk);refine xO ?_ (h:=by simp[-List.getElem?_map,ao Oc];exact .mk);refine xO ?_;refine xQ [0,1,6,8,9,16,109] ?_ ?_
   ·intro xM;have hr:er (N:Int) l=([],false):=kP hi2 (by rw[l1,←hfl,uz (by simpa using xM)]);refine xU ?_;refine bU [4,5] ?_;refine xZ ?_;simp[hr,ai]
   intro xM;rw[qt (by simpa using xM)]at hfl;refine af fun _=>?_;refine xY ?_;refine ay ?_;refine xO ?_ (h:=by simp[aE,ht3,Od,Oe,Of];exact .mk);refine xO ?_ (h:=by simp[splice,ht3,Oc];exact .mk);refine xF [0,1,6,8,9,16] ?_;refine xY ?_;refine aT ?_;refine xE [0,1,6,8,9,16] ?_;refine ah [0,1,6,8,9,16] ?_;refine ae (m':=n-(t+1)) (by omega) ⟨t+1,cur.set (p+t) 7,rfl,by omega,by simpa using hcl,by rw[←hfl,show n-(t+1)=f by omega],?_,?_⟩
   ·rw[wrap64 (by omega) (by omega)];rfl
   rw[List.map_set];rfl
  intro xL;obtain rfl:t=n:=by simp at xL;omega
  rw[Nat.sub_self]at hfl;have MY:(true,cur)=ed p t 0 (ei (N:Int) l i).1:=hfl;rw[←MY]at l1 l2;have hok:lu (N:Int) l i=true∧(ei (N:Int) l (i+1)).1=cur.set p 6:=⟨l1,l2 l1⟩;have hpc:p<cur.length:=by omega
  refine aP ?_;rintro -;refine xY ?_;refine ay ?_;refine xO ?_ (h:=by simp[aE];exact .mk);refine xO ?_ (h:=by simp[aE,hp2];exact .mk);refine xO ?_ (h:=by simp[splice,hp2,hpc];exact .mk);refine xF [0,1,6,8] ?_;refine xY ?_;refine aT ?_;refine xE [0,1,6,8] ?_;refine ah [0,1,6,8] ?_;refine aq 1 [0,1,6,8] (by decide) (by rfl) (by rfl) ?_;refine ae (m':=l.length-(i+1)) (by omega) ⟨i+1,rfl,by omega,?_,?_,?_⟩
  ·intro j hj;rcases Nat.lt_succ_iff_lt_or_eq.1 hj with hj|rfl
   ·exact hinv j hj
   exact hok.1
  ·rw[wrap64 (by omega) (by omega)];rfl
  rw[hok.2,List.map_set];rfl
 intro Gr;obtain rfl:i=l.length:=by simp at Gr;omega
 have hr:=vZ h0 hinv;obtain⟨K,hK⟩:∃K,K=(ei (N:Int) l l.length).1:=⟨_,rfl⟩;rw[←hK]at hr hkl ⊢;subst hkl;refine aP (xT ?_);refine dC [4,5] ?_;refine xZ ?_;simp[hr,ai]
open Go.aN
/- Facts for the document's walks: taken cells, places, mates. -/
def l7(l:List (Int×Int))(a:Int):Bool:=(List.range l.length).any fun j=>(nth l j).1==a
theorem CZ{l:List (Int×Int)}{a:Int}{j:Nat}(hj:j<l.length)(h:((nth l j).1==a)=true):l7 l a=true:=by
 unfold l7;rw[List.any_eq_true];exact⟨j,by simpa using hj,h⟩
theorem CY{l:List (Int×Int)}{a:Int}(h:∀j,j<l.length→((nth l j).1==a)=false):l7 l a=false:=by
 unfold l7;rw[List.any_eq_false];intro j hj;simpa using h j (by simpa using hj)
theorem sU{l:List (Int×Int)}{a:Int}:l7 l a=true↔∃j,j<l.length∧(nth l j).1=a:=by
 unfold l7;simp[List.any_eq_true]
theorem Ac{ks:List Int}{n:Int}(h:¬1≤n):gJ ks n=none:=by
 have:∀l:List (Int×Int),l.foldl (aU n) none=none:=by
  intro l
  induction l with
  | nil=>rfl
  | cons a l ih=>rw[List.foldl_cons,show aU n none a=none by unfold aU;simp[h],ih]
 exact this _
theorem CF{pages n:Int}{l:List (Int×Int)}(h:cR pages l=none):db pages l n=none:=by unfold db;rw[h]
theorem wA{pages n:Int}{l:List (Int×Int)}{st}(h:cR pages l=some st)(hc:(bB n).2=false) :
    (db pages l n).getD 0=((gJ st.1 (bw n).1).getD (0,0)).1*32∧(db pages l n).isSome=((gJ st.1 (bw n).1).isSome&&decide ((bw n).2=0)):=by
 unfold db;rw[h];simp only;rw[if_neg (by simp[hc])];by_cases he:(bw n).2=0
 ·rw[if_neg (by simp[he])];cases gJ st.1 (bw n).1<;>simp[he]
 ·have e0:(bw n).1=0:=by unfold bw at he ⊢;split at he<;>simp_all
  rw[if_pos he,e0,Ac (by omega)];simp
theorem wB{pages n:Int}{l:List (Int×Int)}{st}(h:cR pages l=some st)(hc:(bB n).2=true):db pages l n=jx st.1 st.2 (bB n).1:=by
 unfold db;rw[h];simp only;rw[if_pos hc]
theorem yd{pages:Int}{l:List (Int×Int)}(h:(er pages l).2=false):cR pages l=none:=by
 unfold er at h;split at h
 ·cases h
 ·assumption
theorem ye{pages:Int}{l:List (Int×Int)}(h:(er pages l).2=true):∃st,cR pages l=some st∧er pages l=(st.1,true):=by
 cases hl:cR pages l with
 | none=>unfold er at h;rw[hl]at h;cases h
 | some st=>exact⟨st,rfl,by unfold er;rw[hl]⟩
def Nu(pages:Int)(l:List (Int×Int))(page:Int)(i:Nat):List Nat:=(List.range i).filter fun j=>xp pages page (nth l j)
def Nv(pages:Int)(l:List (Int×Int))(page:Int):List Nat:=if (cR pages l).isSome=true then ni pages l page else []
open Go.aN
attribute [simp] Tryz.f155 Tryz.f158 Tryz.f212
theorem Jh(g:Gl)(l:List (Int×Int))(hl:l.length≤2^40)(a:Int):a9 Tryz.prog g 158 [rO l,vI a] (.v (.bool (l7 l a))):=by
 refine xA Tryz.func158 fun B S=>?_
 refine xU ?_;refine xH [0,1] ?_;refine ab (xU ?_);refine xH [0,1,5] ?_;refine ag (aB (fun m σ o=>∃i:Nat,m=l.length-i∧i≤l.length∧(∀j,j<i→((nth l j).1==a)=false)∧σ=slots [(0,.d (rO l)),(1,.d (vI a)),(5,.d (vI i))]∧o=[]) l.length .refl ⟨0,by simp,by simp,by simp,rfl,rfl⟩ ?_);rintro m σ o ⟨i,rfl,hi,hinv,rfl,rfl⟩ _;refine ab (xU ?_);refine bx ?_;refine xQ [0,1,5,9] ?_ ?_
 ·intro h9;have hi2:i<l.length:=by simpa using h9
  refine af fun _=>?_;refine ab (ag ?_);refine xU ?_;refine ay ?_;refine xO ?_ (h:=by simp[aE,hi2];exact .mk);refine xO ?_;refine xO ?_ (h:=by simp[-List.getElem?_map,ao hi2,aE];exact .mk);refine ay ?_;refine xQ [0,1,5,18] ?_ ?_
  ·intro h18;have hr:=CZ hi2 h18;refine xU ?_;refine xH [4] ?_;refine xZ ?_;simp[hr]
  intro h18;refine af fun _=>?_;refine xY ?_;refine aT ?_;refine xE [0,1,5] ?_;refine ah [0,1,5] ?_;refine ae (m':=l.length-(i+1)) (by omega) ⟨i+1,rfl,by omega,?_,?_,rfl⟩
  ·intro j hj;rcases Nat.lt_succ_iff_lt_or_eq.1 hj with hj|rfl
   ·exact hinv j hj
   exact h18
  rw[wrap64 (by omega) (by omega)];rfl
 intro h9;have hr:l7 l a=false:=CY (fun j hj=>hinv j (by simp at h9;omega));refine aP (xT ?_);refine xH [4] ?_;refine xZ ?_;simp[hr]
theorem Jw(g:Gl)(ks:List Int)(hl:ks.length≤2^40):a9 Tryz.prog g 212 [rI ks] (oO (kj ks)):=by
 refine xA Tryz.func212 fun B S=>?_
 refine xU ?_;refine xO ?_;refine xG [0] ?_;refine xH [0,3] ?_;refine ab (xU ?_);refine xH [0,3,4] ?_;refine ag ?_
 refine aB (fun m σ o=>∃(i:Nat) (out:List (Int×Int)),m=ks.length+1-i∧i≤ks.length+1∧out.length≤ks.length∧((i≤ks.length∧b8 ks i=(out,false))∨(i=ks.length+1∧out=kj ks))∧σ=slots [(0,.d (rI ks)),(3,.hdr 0 0 out.length),(4,.d (vI i))]∧o=[.row 2 (out.map aE)]) (ks.length+1)
  (Weak.trans (Weak.dJ 3 2 rfl) (Weak.kills [0,3,4] rfl) (fun _ _ _ h1 h2=>by rw[←h1.len];exact h2)) ⟨0,[],by simp,by simp,by simp,.inl ⟨by simp,rfl⟩,by simp,by simp⟩ ?_
 rintro m σ o ⟨i,out,rfl,hi,hol,hinv,rfl,rfl⟩ _;refine ab (xU ?_);refine bx ?_;refine xQ [0,3,4,9] ?_ ?_
 ·intro h9;have hi2:i<ks.length:=by simpa using h9
  have Ks:=(hinv.resolve_right (fun h=>by omega)).2;have hf:(b8 ks i).2=false:=by rw[Ks]
  have Kp:=ic (ks:=ks) (i:=i);rw[Ks]at Kp;simp only at Kp;refine af fun _=>?_;refine ab (ag ?_);refine ab (xU ?_);refine ay ?_;refine xO ?_ (h:=by simp[hi2];exact .mk);refine xO ?_ (h:=by simp[-List.getElem?_map,ao hi2];exact .mk);refine xO ?_;refine xQ [0,3,4,16] ?_ ?_
  ·intro h16;have hq:nth ks i ≠ -1:=by simpa using h16
   refine aP ?_;rintro -;refine xY ?_;refine aT ?_;refine xE [0,3,4] ?_;refine ah [0,3,4] ?_;first
   | (refine aD [0,3,4] rfl ?_
      refine ae (m' := ks.length + 1 - (i+1)) (by omega) ⟨i+1, out, rfl, by omega, hol, .inl ⟨by omega, by rw [kW hq, Ks]⟩, ?_, rfl⟩
      rw [wrap64 (by omega) (by omega)]; rfl)
   | (refine aD [0,3,4] rfl ?_
      refine aC 0 2 1 (by decide) (by simp) (by decide) rfl rfl ?_
      refine aq 1 [0,3,4] (by decide) (by rfl) (by rfl) ?_
      refine ae (m' := ks.length + 1 - (i+(k+1)+1)) (by omega) ⟨i+(k+1)+1, out ++ [((i : Int), ((k + 1 : Nat) : Int))], rfl, by omega, by have := ic (ks := ks) (i := i + (k + 1)); rw [hrun] at this; simp at this ⊢; omega, ?_, ?_, ?_⟩
      · by_cases hlast : i + (k + 1) = ks.length
        · right; refine ⟨by omega, ?_⟩; unfold kj; rw [← hlast, hrun]
        left; refine ⟨by omega, ?_⟩; rw [kW (fun q => hz ⟨by omega, q⟩), hrun]
      · rw [wrap64 (by omega) (by omega)]; simp; try rfl
      simp [aE]; try rfl)
  intro h16;have hq:nth ks i = -1:=by simpa using h16
  refine af ?_;refine xT ?_;refine xH [0,3,4,5] ?_;refine ab (ag ?_);refine aB (fun m σ o=>∃n:Nat,m=ks.length-(i+n)∧i+n≤ks.length∧(∀t,t<n→nth ks (i+t) = -1)∧σ=slots [(0,.d (rI ks)),(3,.hdr 0 0 out.length),(4,.d (vI i)),(5,.d (vI n))]∧o=[.row 2 (out.map aE)]) (ks.length-i) .refl ⟨0,by simp,by omega,by simp,rfl,rfl⟩ ?_;rintro m σ o ⟨n,rfl,hn,hin,rfl,rfl⟩ _;have w1:IntKind.i64.wrap ((i:Int)+n)=i+n:=wrap64 (by omega) (by omega);have w2:(0:Int)≤(i:Int)+n:=by omega
  have w3:((i:Int)+n).toNat=i+n:=by omega
  refine ab (xU ?_);refine ay ?_;refine xO ?_ (h:=by simp[w1];exact .mk);refine bx ?_;iterate 3 refine xI ?_
  refine xI ?_ (h:=fun hb=>by simp[w1];exact .mk);refine bg rfl (by simp;exact .mk) rfl (by simp<;>first|omega|grind) (fun hb=>by simp[w1]at hb;simp[w2,w3,show (i:Int)+n<ks.length from by omega,show i+n<ks.length from by omega];exact .mk) ?_;refine bg rfl (by simp;exact .mk) rfl (by simp<;>first|omega|grind) (fun hb=>by simp[w1]at hb;have h5:i+n<ks.length:=(by omega);simp[-List.getElem?_map,ao h5];exact .mk) ?_;refine xI ?_;refine xP ?_;refine xQ [0,3,4,5,31] ?_ ?_
  ·intro h31;have hz:i+n<ks.length∧nth ks (i+n) = -1:=by simp at h31;omega
   refine af fun _=>?_;refine ag ?_;refine xY ?_;refine aT ?_;refine xE [0,3,4,5] ?_;refine ah [0,3,4,5] ?_;refine ae (m':=ks.length-(i+(n+1))) (by omega) ⟨n+1,rfl,by omega,?_,?_,rfl⟩
   ·intro t ht;rcases Nat.lt_succ_iff_lt_or_eq.1 ht with ht|rfl
    ·exact hin t ht
    exact hz.2
   rw[wrap64 (by omega) (by omega)];rfl
  intro h31;have hz:¬(i+n<ks.length∧nth ks (i+n) = -1):=by simp at h31;omega
  have hn1:1≤n:=Nat.pos_of_ne_zero fun q=>by subst q;exact hz ⟨by omega,hq⟩
  obtain⟨k,rfl⟩:∃k,n=k+1:=⟨n-1,by omega⟩;have hrun:=sJ hf (n:=k) hin;rw[Ks]at hrun;simp only at hrun;have e1:(out.length+1)*16≤140737488355328:=by omega
  have e2:out.length≤140737488355327:=by omega
  have w4:IntKind.i64.wrap ((i:Int)+((k:Int)+1))=i+((k:Int)+1):=wrap64 (by omega) (by omega);refine aP (xT ?_);refine aT ?_;refine aH ?_;refine xO ?_;refine xO ?_ (h:=by simp[rows,e1,e2];exact .mk);refine xH [0,3,4,5] ?_;refine xY ?_;refine ay ?_;refine xO ?_ (h:=by simp[w4];exact .mk);refine xH [0,3,4] ?_;refine xY ?_;refine aT ?_;refine xE [0,3,4] ?_;refine ah [0,3,4] ?_;first
  | (refine aD [0,3,4] rfl ?_
     refine ae (m' := ks.length + 1 - (i+1)) (by omega) ⟨i+1, out, rfl, by omega, hol, .inl ⟨by omega, by rw [kW hq, Ks]⟩, ?_, rfl⟩
     rw [wrap64 (by omega) (by omega)]; rfl)
  | (refine aD [0,3,4] rfl ?_
     refine aC 0 2 1 (by decide) (by simp) (by decide) rfl rfl ?_
     refine aq 1 [0,3,4] (by decide) (by rfl) (by rfl) ?_
     refine ae (m' := ks.length + 1 - (i+(k+1)+1)) (by omega) ⟨i+(k+1)+1, out ++ [((i : Int), ((k + 1 : Nat) : Int))], rfl, by omega, by have := ic (ks := ks) (i := i + (k + 1)); rw [hrun] at this; simp at this ⊢; omega, ?_, ?_, ?_⟩
     · by_cases hlast : i + (k + 1) = ks.length
       · right; refine ⟨by omega, ?_⟩; unfold kj; rw [← hlast, hrun]
       left; refine ⟨by omega, ?_⟩; rw [kW (fun q => hz ⟨by omega, q⟩), hrun]
     · rw [wrap64 (by omega) (by omega)]; simp; try rfl
     simp [aE]; try rfl)
 intro h9;have hi3:ks.length≤i:=by simp at h9;omega
 have hout:out=kj ks:=by
  rcases hinv with ⟨h1,h2⟩|⟨_,h2⟩
  ·obtain rfl:i=ks.length:=by omega
   unfold kj;rw[h2]
  exact h2
 refine aP (xT ?_);refine bU [2] ?_;refine xZ ?_;simp[ai,←hout];try rfl
theorem Jg(g:Gl)(ks:List Int)(n:Int)(hl:ks.length≤2^40):a9 Tryz.prog g 155 [rI ks,vI n] (.bK [vI ((gJ ks n).getD (0,0)).1,.v (.bool (gJ ks n).isSome)]):=by
 refine xA Tryz.func155 fun B S=>?_
 obtain⟨L,hL⟩:∃L,L=kj ks:=⟨_,rfl⟩;have c212:=Jw g ks hl;rw[←hL]at c212;have hbr:gJ ks n=L.foldl (aU n) none:=by rw[hL];rfl
 have hLn:L.length≤ks.length:=by rw[hL];exact ic
 refine xU ?_;refine ay ?_;refine xG [0,1] ?_;refine xO ?_;refine xC (c212) ?_;refine xO ?_;refine xG [1,6] ?_;refine xH [1,6,7] ?_;refine ab (xU ?_);refine xH [1,6,7,8] ?_;refine ag (aB (fun m σ o=>∃(i:Nat) (k:Int),m=L.length-i∧i≤L.length∧((k = -1∧(L.take i).foldl (aU n) none=none)∨∃q:Nat,k=q∧q<L.length∧(L.take i).foldl (aU n) none=some (nth L q))∧σ=slots [(1,.d (vI n)),(6,.hdr 0 0 L.length),(7,.d (vI k)),(8,.d (vI i))]∧o=[.row 2 (L.map aE)]) L.length .refl ⟨0, -1,by simp,by simp,.inl ⟨rfl,rfl⟩,rfl,by simp[ai]⟩ ?_);rintro m σ o ⟨i,k,rfl,hi,⟨rfl,hfo⟩|⟨q,rfl,hq,hfo⟩,rfl,rfl⟩ _
 ·skip
  skip
  refine ab (xU ?_);refine bx ?_;refine xQ [1,6,7,8,14] ?_ ?_
  ·intro fe;have hi2:i<L.length:=by simpa using fe
   have hst:(L.take (i+1)).foldl (aU n) none=aU n ((L.take i).foldl (aU n) none) (nth L i):=by rw[take_succ hi2,List.foldl_append];rfl
   rw[hfo]at hst;refine af fun _=>?_;refine ab (ag ?_);refine ab ?_;refine aS (by kernel_rfl) [] 4 [0,1,2,3,4,5,6,7,8,9,10,11,12,13,14,15,16,17,18,19,20,21,22,23,24,25,26,27] (by decide +kernel) ?_;refine ay ?_;refine xO ?_ (h:=by simp[aE,hi2];exact .mk);refine xO ?_;refine xO ?_ (h:=by simp[-List.getElem?_map,ao hi2,aE];exact .mk);refine aT ?_;iterate 2 refine xI ?_
   refine xP ?_;refine xB ?_;iterate 3 refine xI ?_
   iterate 11 (refine mo (av:=.d (.v (.bool false))) rfl (by simp;exact .mk) rfl ?_)
   iterate 2 refine xP ?_
   refine xQ [1,6,7,8,44] ?_ ?_
   ·intro BV;have ea:(L.take (i+1)).foldl (aU n) none=some (nth L i):=by rw[hst];unfold aU;rw[if_pos];simp at BV ⊢;omega
    refine xY ?_;refine bU [1,6,7,8] ?_;refine xY ?_;refine aT ?_;refine xE [1,6,7,8] ?_;refine ah [1,6,7,8] ?_;first
    | exact ae (m':=L.length-(i+1)) (by omega) ⟨i+1,i,rfl,by omega,.inr ⟨i,rfl,hi2,ea⟩,by rw[wrap64 (by omega) (by omega)];rfl,rfl⟩
    | exact ae (m':=L.length-(i+1)) (by omega) ⟨i+1, -1,rfl,by omega,.inl ⟨rfl,ea⟩,by rw[wrap64 (by omega) (by omega)];rfl,rfl⟩
    | exact ae (m':=L.length-(i+1)) (by omega) ⟨i+1,q,rfl,by omega,.inr ⟨q,rfl,hq,ea⟩,by rw[wrap64 (by omega) (by omega)];rfl,rfl⟩
   intro BV;have ea:(L.take (i+1)).foldl (aU n) none=(L.take i).foldl (aU n) none:=by rw[hst,hfo];unfold aU;rw[if_neg];simp at BV ⊢;omega
   rw[hfo]at ea;refine af fun _=>?_;refine xY ?_;refine aT ?_;refine xE [1,6,7,8] ?_;refine ah [1,6,7,8] ?_;first
   | exact ae (m':=L.length-(i+1)) (by omega) ⟨i+1,i,rfl,by omega,.inr ⟨i,rfl,hi2,ea⟩,by rw[wrap64 (by omega) (by omega)];rfl,rfl⟩
   | exact ae (m':=L.length-(i+1)) (by omega) ⟨i+1, -1,rfl,by omega,.inl ⟨rfl,ea⟩,by rw[wrap64 (by omega) (by omega)];rfl,rfl⟩
   | exact ae (m':=L.length-(i+1)) (by omega) ⟨i+1,q,rfl,by omega,.inr ⟨q,rfl,hq,ea⟩,by rw[wrap64 (by omega) (by omega)];rfl,rfl⟩
  intro fe;obtain rfl:i=L.length:=by simp at fe;omega
  rw[List.take_length]at hfo;rw[hfo]at hbr;refine aP ?_;rintro -;refine ab (xU ?_);refine ay ?_;refine xQ [6,7,47] ?_ ?_
  ·intro h47;refine xU ?_;refine bU [4,5] ?_;refine xZ ?_;simp[hbr]
  intro h47;simp at h47
 skip
 skip
 refine ab (xU ?_);refine bx ?_;refine xQ [1,6,7,8,14] ?_ ?_
 ·intro fe;have hi2:i<L.length:=by simpa using fe
  have hst:(L.take (i+1)).foldl (aU n) none=aU n ((L.take i).foldl (aU n) none) (nth L i):=by rw[take_succ hi2,List.foldl_append];rfl
  rw[hfo]at hst;refine af fun _=>?_;refine ab (ag ?_);refine ab ?_;refine aS (by kernel_rfl) [] 4 [0,1,2,3,4,5,6,7,8,9,10,11,12,13,14,15,16,17,18,19,20,21,22,23,24,25,26,27] (by decide +kernel) ?_;refine ay ?_;refine xO ?_ (h:=by simp[aE,hi2];exact .mk);refine xO ?_;refine xO ?_ (h:=by simp[-List.getElem?_map,ao hi2,aE];exact .mk);refine aT ?_;iterate 2 refine xI ?_
  refine xP ?_;refine xB ?_;iterate 5 refine xI ?_
  refine xI ?_ (h:=fun hb=>by simp[aE,hi2];exact .mk);refine xI ?_;refine xI ?_ (h:=fun hb=>by simp[-List.getElem?_map,ao hi2,aE];exact .mk);iterate 2 refine xI ?_
  refine xI ?_ (h:=fun hb=>by simp[aE,hq];exact .mk);refine xI ?_;refine xI ?_ (h:=fun hb=>by simp[-List.getElem?_map,ao hq,aE];exact .mk);refine xI ?_;iterate 2 refine xP ?_
  refine xQ [1,6,7,8,44] ?_ ?_
  ·intro BV;have ea:(L.take (i+1)).foldl (aU n) none=some (nth L i):=by rw[hst];unfold aU;rw[if_pos];simp at BV ⊢;omega
   refine xY ?_;refine bU [1,6,7,8] ?_;refine xY ?_;refine aT ?_;refine xE [1,6,7,8] ?_;refine ah [1,6,7,8] ?_;first
   | exact ae (m':=L.length-(i+1)) (by omega) ⟨i+1,i,rfl,by omega,.inr ⟨i,rfl,hi2,ea⟩,by rw[wrap64 (by omega) (by omega)];rfl,rfl⟩
   | exact ae (m':=L.length-(i+1)) (by omega) ⟨i+1, -1,rfl,by omega,.inl ⟨rfl,ea⟩,by rw[wrap64 (by omega) (by omega)];rfl,rfl⟩
   | exact ae (m':=L.length-(i+1)) (by omega) ⟨i+1,q,rfl,by omega,.inr ⟨q,rfl,hq,ea⟩,by rw[wrap64 (by omega) (by omega)];rfl,rfl⟩
  intro BV;have ea:(L.take (i+1)).foldl (aU n) none=(L.take i).foldl (aU n) none:=by rw[hst,hfo];unfold aU;rw[if_neg];simp at BV ⊢;omega
  rw[hfo]at ea;refine af fun _=>?_;refine xY ?_;refine aT ?_;refine xE [1,6,7,8] ?_;refine ah [1,6,7,8] ?_;first
  | exact ae (m':=L.length-(i+1)) (by omega) ⟨i+1,i,rfl,by omega,.inr ⟨i,rfl,hi2,ea⟩,by rw[wrap64 (by omega) (by omega)];rfl,rfl⟩
  | exact ae (m':=L.length-(i+1)) (by omega) ⟨i+1, -1,rfl,by omega,.inl ⟨rfl,ea⟩,by rw[wrap64 (by omega) (by omega)];rfl,rfl⟩
  | exact ae (m':=L.length-(i+1)) (by omega) ⟨i+1,q,rfl,by omega,.inr ⟨q,rfl,hq,ea⟩,by rw[wrap64 (by omega) (by omega)];rfl,rfl⟩
 intro fe;obtain rfl:i=L.length:=by simp at fe;omega
 rw[List.take_length]at hfo;rw[hfo]at hbr;refine aP ?_;rintro -;refine ab (xU ?_);refine ay ?_;refine xQ [6,7,47] ?_ ?_
 ·intro h47;simp at h47;omega
 intro h47;refine af ?_;refine xT ?_;refine ay ?_;refine xO ?_ (h:=by simp[aE,hq];exact .mk);refine xO ?_;refine xO ?_ (h:=by simp[-List.getElem?_map,ao hq,aE];exact .mk);refine bU [4,5] ?_;refine xZ ?_;simp[hbr]
open Go.aN
attribute [simp] Tryz.f104
theorem IY(g:Gl)(pages:Int)(l:List (Int×Int))(n:Int)(hl:l.length≤2^40)(hb:∀i,i<l.length→(nth l i).1≤2^62):a9 Tryz.prog g 104 [vI pages,rO l,vI n] (.bK [vI ((db pages l n).getD 0),.v (.bool (db pages l n).isSome)]):=by
 refine xA Tryz.func104 fun B S=>?_
 refine xU ?_;refine ay ?_;refine xG [0,1,2] ?_;refine ay ?_;refine xC (JY g pages l hl hb) ?_;refine cW ?_;refine xF [0,1,2,8,9] ?_;refine ab (xU ?_);refine ay ?_;refine xQ [0,1,2,8,33] ?_ ?_
 ·intro ta;have hr:=CF (n:=n) (yd (pages:=pages) (l:=l) (by simpa using ta));refine xU ?_;refine bU [6,7] ?_;refine xZ ?_;first|(simp[hr];done)|(simp[hr1,hr2];done)|(simp[hr1,hr2];rw[Bool.beq_eq_decide_eq])
 intro ta;obtain⟨st,hst,hkr⟩:=ye (pages:=pages) (l:=l) (by simpa using ta);simp only[hkr];have LP:=tN hst;have hp0:=LP.p0;have hlen:=LP.len;obtain⟨N,rfl⟩:∃N:Nat,pages=N:=⟨pages.toNat,by omega⟩;have ll:st.1.length=N:=by rw[hlen];simp
 refine af ?_;refine xT ?_;refine xO ?_;refine xC (Ez g n) ?_;refine cW ?_;refine xF [0,1,2,8,10,11] ?_;refine ab (xU ?_);refine ay ?_;refine xQ [0,1,2,8,10,40] ?_ ?_
 ·intro Ar;obtain⟨hr1,hr2⟩:=wA (n:=n) hst (by simpa using Ar);have hbb:=zd (ks:=st.1) (n:=(bw n).1);have w1:IntKind.i64.wrap (32*((gJ st.1 (bw n).1).getD (0,0)).1)=((gJ st.1 (bw n).1).getD (0,0)).1*32:=(wrap64 (by omega) (by omega)).trans (Int.mul_comm _ _);refine xU ?_;refine xO ?_;refine xC (EA g n) ?_;refine cW ?_;refine xG [8,12,13] ?_;refine ay ?_;refine xC (Jg g st.1 (bw n).1 (by omega)) ?_;refine cW ?_;refine xG [13,14,15] ?_;refine xO ?_;refine xO ?_ (h:=by simp[w1];exact .mk);refine ay ?_;iterate 2 refine xI ?_
  refine xP ?_;iterate 2 refine xB ?_
  refine xF [6,7] ?_;refine xZ ?_;first|(simp[hr];done)|(simp[hr1,hr2];done)|(simp[hr1,hr2];rw[Bool.beq_eq_decide_eq])
 intro Ar;have hcs:(bB n).2=true:=by simpa using Ar
 obtain⟨c,hc6,hcc⟩:=nJ hcs;have hps:=wB (n:=n) hst hcs;rw[hcc]at hps;simp only[hcc];obtain⟨b1,b2,b3,b4⟩:=qS (c:=(c:Int)) (by omega);obtain⟨M,hM⟩:∃M:Nat,(cellsS c).1=M:=⟨(cellsS c).1.toNat,by omega⟩;have hMt:(cellsS c).1.toNat=M:=by omega
 have c156:=BG g c;rw[hM]at c156;refine af ?_;refine xT ?_;refine xO ?_;refine xC (c156) ?_;refine cW ?_;refine xF [0,1,8,10,16] ?_;refine ab (xU ?_);refine xH [0,1,8,10,16,18] ?_;refine ag (aB (fun m σ o=>∃i:Nat,m=N-i∧i≤N∧(∀p,p<i→(jD st.1 st.2 c M p).isSome=false)∧σ=slots [(0,.d (vI N)),(1,.d (rO l)),(8,.hdr 0 0 N),(10,.d (vI c)),(16,.d (vI M)),(18,.d (vI i))]∧o=[.row 1 (st.1.map vI)]) (N) .refl ⟨0,by simp,by simp,by simp,by simp[ll],by simp[ai]⟩ ?_);rintro m σ o ⟨i,rfl,hi,hinv,rfl,rfl⟩ _;refine ab (xU ?_);refine aT ?_;refine xQ [0,1,8,10,16,18,66] ?_ ?_
 ·intro Kd;have hi2:i<N:=by simpa using Kd
  have hi3:i<st.1.length:=by omega
  refine af fun _=>?_;refine ab (ag ?_);refine xU ?_;refine xH [0,1,8,10,16,18,19] ?_;refine ag (aB (fun m σ o=>∃k:Nat,m=M-k∧k≤M∧(∀j,j<k→(nth st.2 i).testBit j=true)∧σ=slots [(0,.d (vI N)),(1,.d (rO l)),(8,.hdr 0 0 N),(10,.d (vI c)),(16,.d (vI M)),(18,.d (vI i)),(19,.d (vI k))]∧o=[.row 1 (st.1.map vI)]) M .refl ⟨0,by simp,by simp,by simp,rfl,rfl⟩ ?_);rintro m σ o ⟨k,rfl,hk,et,rfl,rfl⟩ _;refine ab (xU ?_);refine bx ?_;iterate 2 refine xI ?_
  refine xI ?_ (h:=fun hb=>by simp[aE,hi2];exact .mk);refine xI ?_ (h:=fun hb=>by simp[-List.getElem?_map,ao hi3];exact .mk);iterate 2 refine xI ?_
  refine xP ?_;refine xQ [0,1,8,10,16,18,19,79] ?_ ?_
  ·intro MJ;have hkk:k<M∧nth st.1 i=c:=by simpa using MJ
   have hkc:(k:Int)<(cellsS c).1:=by omega
   obtain⟨d1,d2,d3⟩:=uq (c:=(c:Int)) (by omega) hkc;simp only[Int.toNat_natCast]at d1 d2 d3;have c157:=BH g c k (by omega) (by omega);have hd:(cellS c k).1=4+(k:Int)*nth aI c:=by rw[d1]
   have w1:IntKind.i64.wrap (32*(i:Int))=32*i:=wrap64 (by omega) (by omega);have w2:IntKind.i64.wrap (32*(i:Int)+(cellS c k).1)=32*i+(cellS c k).1:=wrap64 (by omega) (by omega);have htk:=Bb hst hc6 hi3 hkk.2 hkc;refine af fun _=>?_;refine ab (ag ?_);refine xU ?_;refine ay ?_;refine xC (c157) ?_;refine cW ?_;refine xG [0,1,8,10,16,18,19,20] ?_;refine ay ?_;refine xO ?_ (h:=by simp[w1];exact .mk);refine xO ?_;refine xO ?_ (h:=by simp[w2];exact .mk);refine xC (Jh g l hl (32*(i:Int)+(cellS c k).1)) ?_;refine xO ?_;refine xG [0,1,8,10,16,18,19,20,22] ?_;refine ay ?_;refine xQ [0,1,8,10,16,18,19,20,95] ?_ ?_
   ·intro MN
    have hbt:(nth st.2 i).testBit k=false:=by
     cases hz:(nth st.2 i).testBit k with
     | false=>rfl
     | true=>have:=sU.2 (htk.2 hz);simp[this]at MN
    have ho:=r9 (ks:=st.1) (ms:=st.2) (of:=(c:Int)) hkk.2 hkk.1 et hbt;have hsl:=sO hMt hi3 hinv ho;have hr:db (N:Int) l n=some (32*(i:Int)+(cellS c k).1):=by rw[hps,jx,hsl];simp only;rw[hMt,ho];simp;omega
    refine xU ?_;refine xO ?_;refine xO ?_ (h:=by simp[w1];exact .mk);refine xO ?_;refine xO ?_ (h:=by simp[w2];exact .mk);refine bU [6,7] ?_;refine xZ ?_;first|(simp[hr];done)|(simp[hr1,hr2];done)|(simp[hr1,hr2];rw[Bool.beq_eq_decide_eq])
   intro MN;have hbt:(nth st.2 i).testBit k=true:=htk.1 (sU.1 (by simpa using MN));refine af fun _=>?_;refine xY ?_;refine aT ?_;refine xE [0,1,8,10,16,18,19] ?_;refine ah [0,1,8,10,16,18,19] ?_;refine ae (m':=M-(k+1)) (by omega) ⟨k+1,rfl,by omega,?_,?_,rfl⟩
   ·intro j hj;rcases Nat.lt_succ_iff_lt_or_eq.1 hj with hj|rfl
    ·exact et j hj
    exact hbt
   rw[wrap64 (by omega) (by omega)];rfl
  intro MJ;have hno:(jD st.1 st.2 c M i).isSome=false:=r8 (fun q j hj=>et j (by simp at MJ;omega));refine aP ?_;rintro -;refine xY ?_;refine aT ?_;refine xE [0,1,8,10,16,18] ?_;refine ah [0,1,8,10,16,18] ?_;refine ae (m':=N-(i+1)) (by omega) ⟨i+1,rfl,by omega,?_,?_,rfl⟩
  ·intro j hj;rcases Nat.lt_succ_iff_lt_or_eq.1 hj with hj|rfl
   ·exact hinv j hj
   exact hno
  rw[wrap64 (by omega) (by omega)];rfl
 intro Kd;have hsl:ov st.1 st.2 c=none:=sK hMt (fun q hq=>hinv q (by simp at Kd;omega));have Kq:db (N:Int) l n=(vL st.1).map fun(p:Nat)=>(p:Int)*32+4:=by rw[hps,jx,hsl]
 have c157:=BH g c 0 (by omega) (by omega);obtain⟨d1,d2,d3⟩:=uq (c:=(c:Int)) (k:=0) (by omega) (by omega);simp only[Int.toNat_natCast]at d1;have hd:cellS c 0=(4,0):=by have:=d1;simpa using this
 simp only[Int.natCast_zero]at c157;rw[hd]at c157;refine aP ?_;rintro -;refine ab (xU ?_);refine xH [0,8,10,23] ?_;refine ag (aB (fun m σ o=>∃i:Nat,m=N-i∧i≤N∧(∀p,p<i→nth st.1 p ≠ -1)∧σ=slots [(0,.d (vI N)),(8,.hdr 0 0 N),(10,.d (vI c)),(23,.d (vI i))]∧o=[.row 1 (st.1.map vI)]) N .refl ⟨0,by simp,by simp,by simp,rfl,rfl⟩ ?_);rintro m σ o ⟨i,rfl,hi,nR,rfl,rfl⟩ _;refine ab (xU ?_);refine aT ?_;refine xQ [0,8,10,23,102] ?_ ?_
 ·intro xL;have hi2:i<N:=by simpa using xL
  have hi3:i<st.1.length:=by omega
  refine af fun _=>?_;refine ab (ag ?_);refine xU ?_;refine ay ?_;refine xO ?_ (h:=by simp[aE,hi2];exact .mk);refine xO ?_ (h:=by simp[-List.getElem?_map,ao hi3];exact .mk);refine xO ?_;refine xQ [0,8,10,23,109] ?_ ?_
  ·intro xM;have hfr:=rm hi3 (by simpa using xM) nR;have hr:db (N:Int) l n=some ((i:Int)*32+4):=by rw[Kq,hfr];rfl
   have w1:IntKind.i64.wrap (32*(i:Int))=i*32:=(wrap64 (by omega) (by omega)).trans (Int.mul_comm _ _);have w2:IntKind.i64.wrap ((i:Int)*32+4)=i*32+4:=wrap64 (by omega) (by omega);refine xU ?_;refine xO ?_;refine xC (c157) ?_;refine cW ?_;refine xG [23,24] ?_;refine xO ?_;refine xO ?_ (h:=by simp[w1];exact .mk);refine xO ?_;refine xO ?_ (h:=by simp[w2];exact .mk);refine bU [6,7] ?_;refine xZ ?_;first|(simp[hr];done)|(simp[hr1,hr2];done)|(simp[hr1,hr2];rw[Bool.beq_eq_decide_eq])
  intro xM;have hno:nth st.1 i ≠ -1:=by simpa using xM
  refine af fun _=>?_;refine xY ?_;refine aT ?_;refine xE [0,8,10,23] ?_;refine ah [0,8,10,23] ?_;refine ae (m':=N-(i+1)) (by omega) ⟨i+1,rfl,by omega,?_,?_,rfl⟩
  ·intro j hj;rcases Nat.lt_succ_iff_lt_or_eq.1 hj with hj|rfl
   ·exact nR j hj
   exact hno
  rw[wrap64 (by omega) (by omega)];rfl
 intro xL;have hfr:=rk (ks:=st.1) (fun q hq=>nR q (by simp at xL;omega));have hr:db (N:Int) l n=none:=by rw[Kq,hfr];rfl
 refine aP (xT ?_);refine bU [6,7] ?_;refine xZ ?_;first|(simp[hr];done)|(simp[hr1,hr2];done)|(simp[hr1,hr2];rw[Bool.beq_eq_decide_eq])
open Go.aN
attribute [simp] Tryz.f23 Tryz.f87 Tryz.f95 Tryz.f96
theorem JW(g:Gl)(fr to:Int)(l:List (Int×Int))(hl:l.length≤2^40):a9 Tryz.prog g 95 [vI fr,vI to,rO l] (.v (.bool (dt fr to l))):=by
 refine xA Tryz.func95 fun B S=>?_
 refine xU ?_;refine xH [0,1,2] ?_;refine ab (xU ?_);refine aT ?_;iterate 3 refine xI ?_
 refine xP ?_;refine xB ?_;iterate 2 refine xI ?_
 refine xP ?_;refine xB ?_;iterate 3 refine xI ?_
 refine xP ?_;refine xB ?_;iterate 3 refine xI ?_
 refine xP ?_;refine xQ [0,1,2,30] ?_ ?_
 ·intro fm
  have hr:dt fr to l=false:=by
   have:eP fr to=false:=by simp[eP];simp at fm;grind
   simp[dt,this]
  refine xU ?_;refine xH [6] ?_;refine xZ ?_;simp[hr]
 intro fm;have hh:0≤fr∧fr≤to∧to≤2048∧fr.tmod 4=0∧to.tmod 4=0:=by simp at fm;grind
 have hr0:dt fr to l=dI to fr l:=by
  have:eP fr to=true:=by simp[eP];grind
  simp[dt,this]
 refine af ?_;refine xT ?_;refine bU [1,2,7] ?_;refine ab (xU ?_);refine xH [1,2,7,8] ?_;refine ag (aB (fun m σ o=>∃(i:Nat) (a:Int),m=l.length-i∧i≤l.length∧(0≤a∧a≤2048)∧dI to fr l=dI to a (l.drop i)∧σ=slots [(1,.d (vI to)),(2,.d (rO l)),(7,.d (vI a)),(8,.d (vI i))]∧o=[]) l.length .refl ⟨0,fr,by simp,by simp,⟨by omega,by omega⟩,by simp,rfl,rfl⟩ ?_);rintro m σ o ⟨i,a,rfl,hi,ha,hgo,rfl,rfl⟩ _;refine ab (xU ?_);refine bx ?_;refine xQ [1,2,7,8,35] ?_ ?_
 ·intro rt;have hi2:i<l.length:=by simpa using rt
  rw[jA hi2]at hgo;obtain⟨p,hp⟩:∃p,p=nth l i:=⟨_,rfl⟩;rw[←hp]at hgo;refine af fun _=>?_;refine ab (ag ?_);refine xU ?_;refine ay ?_;refine xO ?_ (h:=by simp[aE,hi2];exact .mk);refine xO ?_ (h:=by simp[-List.getElem?_map,ao hi2,aE,←hp];exact .mk);refine xO ?_;refine aH ?_;refine xF [1,2,7,8,9] ?_;refine ab (xU ?_);refine xO ?_;refine xO ?_ (h:=by simp[aE];exact .mk);refine aT ?_;refine xI ?_;refine xI ?_ (h:=fun hb=>by simp[aE];exact .mk);iterate 2 refine xI ?_
  refine xP ?_;refine xB ?_;refine xI ?_;refine xI ?_ (h:=fun hb=>by simp[aE];exact .mk);refine xI ?_;refine xP ?_;refine xB ?_;refine xI ?_;refine xI ?_ (h:=fun hb=>by simp[aE];exact .mk);iterate 2 refine xI ?_
  refine xI ?_ (h:=fun hb=>by simp[aE];exact .mk);refine bg rfl (by simp;exact .mk) rfl (by simp<;>first|omega|grind) (fun hb=>by simp at hb;have w:=wrap64 (x:=to-p.1) (by omega) (by omega);simp[w];exact .mk) ?_;refine xI ?_;refine xP ?_;refine xB ?_;refine xI ?_;refine xI ?_ (h:=fun hb=>by simp[aE];exact .mk);iterate 2 refine xI ?_
  refine xP ?_;refine xB ?_;refine xI ?_;refine xI ?_ (h:=fun hb=>by simp[aE];exact .mk);iterate 2 refine xI ?_
  refine xP ?_;refine xQ [1,2,8,9,77] ?_ ?_
  ·intro MI;have hbad:di to a p=true:=by simp[di];simp at MI;grind
   have hr:dt fr to l=false:=by rw[hr0,hgo,hbad];rfl
   refine xU ?_;refine xH [6] ?_;refine xZ ?_;simp[hr]
  intro MI;have hbad:di to a p=false:=by simp[di];simp at MI;grind
  rw[hbad]at hgo;have hgb:=rn hbad;have w2:IntKind.i64.wrap (p.1+p.2)=p.1+p.2:=wrap64 (by omega) (by omega);refine af fun _=>?_;refine xY ?_;refine xO ?_;refine xO ?_ (h:=by simp[aE];exact .mk);refine xO ?_;refine xO ?_ (h:=by simp[aE];exact .mk);refine xO ?_ (h:=by simp[w2];exact .mk);refine xH [1,2,7,8] ?_;refine xY ?_;refine aT ?_;refine xE [1,2,7,8] ?_;refine aq 0 [1,2,7,8] (by simp) (by simp) (by simp) ?_;refine ae (m':=l.length-(i+1)) (by omega) ⟨i+1,p.1+p.2,rfl,by omega,⟨by omega,by omega⟩,by simpa using hgo,?_,rfl⟩;rw[wrap64 (by omega) (by omega)];rfl
 intro rt;obtain rfl:i=l.length:=by simp at rt;omega
 have hr:dt fr to l=true:=by rw[hr0,hgo,List.drop_length];rfl
 refine aP (xT ?_);refine xH [6] ?_;refine xZ ?_;simp[hr]
theorem JV(g:Gl)(n:Int):a9 Tryz.prog g 87 [vI n] (.bK [vI (cK n).1,vI (cK n).2]):=by
 refine xA Tryz.func87 fun B S=>?_
 refine xU ?_;refine bU [0] ?_;refine ab (xU ?_);refine aT ?_;iterate 2 refine xI ?_
 refine xP ?_;refine xQ [0,10] ?_ ?_
 ·intro h10;have hr:cK n=(0,1):=by unfold cK;rw[if_pos];simp at h10;omega
  refine xU ?_;refine bU [2,3] ?_;refine xZ ?_;simp[hr]
 intro h10;have hn:¬(n<1∨2048<n):=by simp at h10;omega
 have hr:cK n=(C6 (2+(n+8-1).tdiv 8),0):=by unfold cK;rw[if_neg hn]
 have w1:IntKind.i64.wrap (n+7)=n+7:=wrap64 (by omega) (by omega);have d1:(n+8-1).tdiv 8=(n+7).tdiv 8:=by congr 1;omega
 have d2:0≤(n+7).tdiv 8∧(n+7).tdiv 8≤300:=by rw[Int.tdiv_eq_ediv_of_nonneg (by omega)];omega
 rw[d1]at hr;obtain⟨w,hw⟩:∃w,w=2+(n+7).tdiv 8:=⟨_,rfl⟩;have w2:IntKind.i64.wrap ((n+7).tdiv 8)=(n+7).tdiv 8:=wrap64 (by omega) (by omega);have w3:IntKind.i64.wrap (2+(n+7).tdiv 8)=w:=(wrap64 (by omega) (by omega)).trans hw.symm;have hup:C6 w=(w+3)/4*4:=by unfold C6;rw[Int.tdiv_eq_ediv_of_nonneg (by omega),show w+4-1=w+3 by omega]
 rw[←hw,hup]at hr;refine af ?_;refine xT ?_;refine xO ?_;refine xO ?_ (h:=by simp[w1];exact .mk);refine xO ?_ (h:=by simp[w2];exact .mk);refine xO ?_ (h:=by simp[w3];exact .mk);refine xH [4] ?_;refine ab (ag ?_);refine aB (fun m σ o=>∃v:Int,m=((w+3)/4*4-v).toNat∧w≤v∧v≤(w+3)/4*4∧σ=slots [(4,.d (vI v))]∧o=[]) ((w+3)/4*4-w).toNat .refl ⟨w,rfl,by omega,by omega,rfl,rfl⟩ ?_;rintro m σ o ⟨v,rfl,hv1,hv2,rfl,rfl⟩ _;have w4:IntKind.i64.wrap (v.tmod 4)=v.tmod 4:=by rw[Int.tmod_eq_emod_of_nonneg (by omega)];exact wrap64 (by omega) (by omega)
 have w5:v.tmod 4=v%4:=Int.tmod_eq_emod_of_nonneg (by omega);refine ab (xU ?_);refine xO ?_;refine xO ?_ (h:=by simp[w4];exact .mk);refine xO ?_;refine xQ [4,17] ?_ ?_
 ·intro uC;have hz:v%4≠0:=by rw[←w5];simpa using uC
  refine af fun _=>?_;refine ag ?_;refine xY ?_;refine aT ?_;refine xE [4] ?_;refine ah [4] ?_;refine ae (m':=((w+3)/4*4-(v+1)).toNat) (by omega) ⟨v+1,rfl,by omega,by omega,?_,rfl⟩;rw[wrap64 (by omega) (by omega)];rfl
 intro uC;have hz:v%4=0:=by rw[←w5];simpa using uC
 obtain rfl:v=(w+3)/4*4:=by omega
 refine aP (xT ?_);refine dC [2,3] ?_;refine xZ ?_;simp[hr]
theorem JX(g:Gl)(l:List ik)(hl:l.length≤2^40):a9 Tryz.prog g 96 [Ou l] (oO (l.map fC)):=by
 refine xA Tryz.func96 fun B S=>?_
 refine xU ?_;refine xO ?_;refine xG [0] ?_;refine xH [0,3] ?_;refine ab (xU ?_);refine xH [0,3,4] ?_;refine ag (aB (fun m σ o=>∃i:Nat,m=l.length-i∧i≤l.length∧σ=slots [(0,.d (Ou l)),(3,.hdr 0 0 i),(4,.d (vI i))]∧o=[.row 2 ((l.take i).map fun b=>aE (fC b))]) l.length (Weak.trans (Weak.dJ 3 2 rfl) (Weak.kills [0,3,4] rfl) (fun _ _ _ h1 h2=>by rw[←h1.len];exact h2)) ⟨0,by simp,by simp,by simp,by simp⟩ ?_);rintro m σ o ⟨i,rfl,hi,rfl,rfl⟩ _;refine ab (xU ?_);refine bx ?_;refine xQ [0,3,4,8] ?_ ?_
 ·intro h8;have hi2:i<l.length:=by simpa using h8
  have e1:(i+1)*16≤140737488355328:=by omega
  have e2:i≤140737488355327:=by omega
  have htk:(l.take i).length=i:=by simp;omega
  refine af fun _=>?_;refine ab (ag ?_);refine aS (by kernel_rfl) [] 4 [0,1,2,3,4,5,6,7,8,9,10,11,12,13,14] (by decide +kernel) ?_;refine aT ?_;refine xO ?_ (h:=by simp[a6,hi2];exact .mk);refine xO ?_;refine xO ?_ (h:=by simp[-List.getElem?_map,ao hi2,a6];exact .mk);refine ay ?_;refine xO ?_ (h:=by simp[a6,hi2];exact .mk);refine xO ?_;refine xO ?_ (h:=by simp[-List.getElem?_map,ao hi2,a6];exact .mk);refine aH ?_;refine xO ?_;refine xO ?_ (h:=by simp[rows,e1,e2,htk,Nat.min_eq_left hi];exact .mk);refine xH [0,3,4] ?_;refine xY ?_;refine aT ?_;refine xE [0,3,4] ?_;refine ah [0,3,4] ?_;refine aD [0,3,4] rfl ?_;refine aC 0 2 1 (by decide) (by simp) (by decide) rfl rfl ?_;refine aq 1 [0,3,4] (by decide) (by rfl) (by rfl) ?_;refine ae (m':=l.length-(i+1)) (by omega) ⟨i+1,rfl,by omega,?_,?_⟩
  ·rw[wrap64 (by omega) (by omega)];simp;try rfl
  rw[take_succ hi2];simp[aE,fC];try rfl
 intro h8;obtain rfl:i=l.length:=by simp at h8;omega
 rw[List.take_of_length_le (by simp)];refine aP (xT ?_);refine bU [2] ?_;refine xZ ?_;simp[ai,Function.comp_def];try rfl
theorem JF(g:Gl)(s:bF)(hs:s.Ok):a9 Tryz.prog g 23 [cr s] (.bK [oO (bW s.slots),oI (ud s.slots)]):=by
 refine xA Tryz.func23 fun B S=>?_
 simp only[cr,List.map,aO,cC];have q0:=hs.h1;refine xU ?_;refine aT ?_;refine xG [1] ?_;refine xO ?_;refine xG [1,4] ?_;refine xH [1,4,5] ?_;refine ab (xU ?_);refine xH [1,4,5,6] ?_;refine ag (aB (fun m σ o=>∃i:Nat,m=s.slots.length-i∧i≤s.slots.length∧σ=slots [(1,.ptr 0 0 0),(4,.hdr 1 0 (dz s.slots i).length),(5,.hdr 2 0 (dz s.slots i).length),(6,.d (vI i))]∧o=[.var 28 [.d (vI s.sh.pages),.d (vI s.sh.slots),.d (vI s.sh.roots),.d (vI s.sh.room),.d (vI s.mode),.d (vI s.base),.d (eG s.slots),.d (rR s.roots),.d (fL s.data)],.row 2 ((dz s.slots i).map fun j=>aE (pV s.slots j)),.row 1 ((dz s.slots i).map fun(j:Nat)=>vI j)]) s.slots.length (Weak.trans (Weak.dJ 4 2 rfl) (Weak.trans (Weak.dJ 5 1 rfl) (Weak.kills [1,4,5,6] rfl) (fun _ _ _ h1 h2=>by rw[←h1.len];exact h2)) (fun _ _ _ h1 h2=>by rw[←h1.len];exact h2)) ⟨0,by simp,by simp,by simp[dz],by simp[dz]⟩ ?_);rintro m σ o ⟨i,rfl,hi,rfl,rfl⟩ _;have hle:=pA (l:=s.slots) (i:=i);refine ab (xU ?_);refine ay ?_;refine cq ?_;refine ay ?_;refine xQ [1,4,5,6,12] ?_ ?_
 ·intro h12;have hi2:i<s.slots.length:=by simpa using h12
  refine af fun _=>?_;refine ab (ag ?_);refine xU ?_;refine xO ?_;refine cq ?_;refine xO ?_;refine xO ?_ (h:=by simp[aA,hi2];exact .mk);refine xO ?_ (h:=by simp[-List.getElem?_map,ao hi2,aA];exact .mk);refine xO ?_;refine aH ?_;refine xG [1,4,5,6,7] ?_;refine xO ?_;refine cq ?_;refine xO ?_;refine xI ?_;refine xI ?_ (h:=fun hb=>by simp[aA];exact .mk);refine xP ?_;refine xQ [1,4,5,6,7,25] ?_ ?_
  ·intro mA;have h2:eI (nth s.slots i)=true:=by simpa [eI]using mA
   have e1:((dz s.slots i).length+1)*16≤140737488355328:=by omega
   have e2:(dz s.slots i).length≤140737488355327:=by omega
   have e3:((dz s.slots i).length+1)*8≤140737488355328:=by omega
   refine xU ?_;refine ay ?_;refine cq ?_;refine xO ?_;refine cq ?_;refine aH ?_;refine xO ?_;refine xO ?_ (h:=by simp[rows,e1,e2];exact .mk);refine xH [1,4,5,6] ?_;refine xY ?_;refine aT ?_;refine xO ?_ (h:=by simp[rows,e3,e2];exact .mk);refine xH [1,4,5,6] ?_;refine xY ?_;refine aT ?_;refine xE [1,4,5,6] ?_;refine ah [1,4,5,6] ?_;first
   | (refine aD [1,4,5,6] rfl ?_
      refine aq 3 [1,4,5,6] (by decide) (by rfl) (by rfl) ?_
      refine ae (m' := s.slots.length - (i+1)) (by omega) ⟨i+1, rfl, by omega, ?_, ?_⟩
      · rw [wrap64 (by omega) (by omega), jI h2]; rfl
      rw [jI h2]; rfl)
   | (refine aD [1,4,5,6] rfl ?_
      refine aC 1 5 1 (by decide) (by simp) (by decide) rfl rfl ?_
      refine aC 2 7 1 (by decide) (by simp) (by decide) rfl rfl ?_
      refine aq 3 [1,4,5,6] (by decide) (by rfl) (by rfl) ?_
      refine ae (m' := s.slots.length - (i+1)) (by omega) ⟨i+1, rfl, by omega, ?_, ?_⟩
      · rw [wrap64 (by omega) (by omega), jJ h2]; simp; try rfl
      rw [jJ h2]; simp [aE, pV]; try rfl)
  intro mA;have h2:eI (nth s.slots i)=false:=by simpa [eI]using mA
  refine af fun _=>?_;refine xY ?_;refine aT ?_;refine xE [1,4,5,6] ?_;refine ah [1,4,5,6] ?_;first
  | (refine aD [1,4,5,6] rfl ?_
     refine aq 3 [1,4,5,6] (by decide) (by rfl) (by rfl) ?_
     refine ae (m' := s.slots.length - (i+1)) (by omega) ⟨i+1, rfl, by omega, ?_, ?_⟩
     · rw [wrap64 (by omega) (by omega), jI h2]; rfl
     rw [jI h2]; rfl)
  | (refine aD [1,4,5,6] rfl ?_
     refine aC 1 5 1 (by decide) (by simp) (by decide) rfl rfl ?_
     refine aC 2 7 1 (by decide) (by simp) (by decide) rfl rfl ?_
     refine aq 3 [1,4,5,6] (by decide) (by rfl) (by rfl) ?_
     refine ae (m' := s.slots.length - (i+1)) (by omega) ⟨i+1, rfl, by omega, ?_, ?_⟩
     · rw [wrap64 (by omega) (by omega), jJ h2]; simp; try rfl
     rw [jJ h2]; simp [aE, pV]; try rfl)
 intro h12;obtain rfl:i=s.slots.length:=by simp at h12;omega
 refine aP (xT ?_);refine bx ?_;refine xF [2,3] ?_;refine xZ ?_;simp[ai,bW,ud];try rfl
open Go.aN
attribute [simp] Tryz.f105 Tryz.f106
theorem IZ(g:Gl)(fr to:Int)(l:List (Int×Int))(hl:l.length≤2^40):a9 Tryz.prog g 105 [vI fr,vI to,rO l] (.bK [oO (pM fr to l).1,vI (pM fr to l).2]):=by
 refine xA Tryz.func105 fun B S=>?_
 refine xU ?_;refine ay ?_;refine xG [0,1,2] ?_;refine aT ?_;refine xC (JW g fr to l hl) ?_;refine xH [0,1,2,8] ?_;refine ab (xU ?_);refine ay ?_;refine xQ [0,1,2,18] ?_ ?_
 ·intro h18;have hr:pM fr to l=([],1):=by unfold pM;rw[if_neg (by simpa using h18)]
  refine xU ?_;refine bU [6,7] ?_;refine xZ ?_;simp[hr,ai];try rfl
 intro h18;have hgs:dt fr to l=true:=by simpa using h18
 have hr:pM fr to l=(dr to fr l,0):=by unfold pM;rw[if_pos hgs]
 obtain⟨G,hG⟩:∃G,G=dr to fr l:=⟨_,rfl⟩;rw[←hG]at hr;have Kh:=hgs;simp only[dt,Bool.and_eq_true,eP,decide_eq_true_eq]at Kh;obtain⟨hh,hok⟩:=Kh;refine af ?_;refine xT ?_;refine xO ?_;refine xG [0,1,2,9] ?_;refine bU [1,2,9,10] ?_;refine ab (xU ?_);refine xH [1,2,9,10,11] ?_;refine ag ?_
 refine aB (fun m σ o=>∃(i:Nat) (a:Int) (out:List (Int×Int)),m=l.length+1-i∧out.length≤i∧(0≤a∧a≤2048)∧((i<l.length∧out++dr to a (l.drop i)=G∧dI to a (l.drop i)=true)∨(i=l.length∧out++iA a to=G)∨(i=l.length+1∧out=G))∧σ=slots [(1,.d (vI to)),(2,.d (rO l)),(9,.hdr 0 0 out.length),(10,.d (vI a)),(11,.d (vI i))]∧o=[.row 2 (out.map aE)]) (l.length+1)
  (Weak.trans (Weak.dJ 9 2 rfl) (Weak.kills [1,2,9,10,11] rfl) (fun _ _ _ h1 h2 => by rw [← h1.len]; exact h2)) ⟨0, fr, [], by simp, by simp, ⟨by omega, by omega⟩, by
    cases hz : l with
    | nil => right; left; rw [hz] at hG; exact ⟨rfl, hG.symm⟩
    | cons p t => left; rw [hz] at hG hok; exact ⟨by simp, hG.symm, hok⟩, by simp, by simp⟩ ?_
 rintro m σ o ⟨i,a,out,rfl,hol,ha,⟨hi2,hgo,hok2⟩|⟨rfl,hgo⟩|⟨rfl,hgo⟩,rfl,rfl⟩ _
 ·skip
  rw[rq hi2]at hgo;rw[jA hi2]at hok2;simp only[Bool.and_eq_true,Bool.not_eq_true']at hok2;have hgb:=rn hok2.1;obtain⟨p,hp⟩:∃p,p=nth l i:=⟨_,rfl⟩;rw[←hp]at hgo hok2 hgb;have w1:IntKind.i64.wrap (p.1+p.2)=p.1+p.2:=wrap64 (by omega) (by omega);have w2:IntKind.i64.wrap (p.1-a)=p.1-a:=wrap64 (by omega) (by omega);have e1:(out.length+1)*16≤140737488355328:=by omega
  have e2:out.length≤140737488355327:=by omega
  refine ab (xU ?_);refine bx ?_;refine xQ [1,2,9,10,11,23] ?_ ?_
  ·intro h23;refine af fun _=>?_;refine ab (ag ?_);refine xU ?_;refine bU [1,2,9,10,11,12] ?_;refine ab (xU ?_);refine bx ?_;refine xQ [1,2,9,10,11,12,30] ?_ ?_
   ·intro fm;refine xY ?_;refine ay ?_;refine xO ?_ (h:=by simp[aE,hi2];exact .mk);refine xO ?_;refine xO ?_ (h:=by simp[-List.getElem?_map,ao hi2,aE,←hp];exact .mk);refine xH [1,2,9,10,11,12] ?_;refine ab (xU ?_);refine aT ?_;refine xQ [1,2,9,10,11,12,38] ?_ ?_
    ·intro Bk;have hge:iA a p.1=[(a,p.1-a)]:=by unfold iA;rw[if_pos (by simpa using Bk)]
     refine xY ?_;refine bx ?_;refine xO ?_ (h:=by simp[w2];exact .mk);refine aH ?_;refine xO ?_;refine xO ?_ (h:=by simp[rows,e1,e2];exact .mk);refine xO ?_;refine xG [1,2,9,10,11] ?_;refine bx ?_;refine xQ [1,2,9,10,11,50] ?_ ?_
     ·intro h50;refine aS (by kernel_rfl) [] 4 [0,1,2,3,4,5,6,7,8,9,10,11] (by decide +kernel) ?_;refine ay ?_;refine xO ?_ (h:=by simp[aE,hi2];exact .mk);refine xO ?_;refine xO ?_ (h:=by simp[-List.getElem?_map,ao hi2,aE,←hp];exact .mk);refine ay ?_;refine xO ?_ (h:=by simp[aE,hi2];exact .mk);refine xO ?_;refine xO ?_ (h:=by simp[-List.getElem?_map,ao hi2,aE,←hp];exact .mk);refine xO ?_ (h:=by simp[w1];exact .mk);refine xH [1,2,9,10,11] ?_;refine xY ?_;refine aT ?_;refine xE [1,2,9,10,11] ?_;refine ah [1,2,9,10,11] ?_;rw[hge]at hgo
      have hrest:∀sd,sd++dr to (p.1+p.2) (l.drop (i+1))=G→((i+1<l.length∧sd++dr to (p.1+p.2) (l.drop (i+1))=G∧dI to (p.1+p.2) (l.drop (i+1))=true)∨(i+1=l.length∧sd++iA (p.1+p.2) to=G)∨(i+1=l.length+1∧sd=G)):=fun sd h=>by
       by_cases hl2:i+1<l.length
       ·exact .inl ⟨hl2,h,hok2.2⟩
       refine .inr (.inl ⟨by omega,?_⟩);rw[List.drop_eq_nil_of_le (by omega)]at h;exact h
      first
      | (refine aD [1,2,9,10,11] rfl ?_
         refine ae (m' := l.length + 1 - (i+1)) (by omega) ⟨i+1, p.1 + p.2, out, rfl, by omega, ⟨by omega, by omega⟩, hrest _ (by simpa using hgo), ?_, rfl⟩
         rw [wrap64 (by omega) (by omega)]; rfl)
      | (refine aD [1,2,9,10,11] rfl ?_
         refine aC 0 2 1 (by decide) (by simp) (by decide) rfl rfl ?_
         refine aq 1 [1,2,9,10,11] (by decide) (by rfl) (by rfl) ?_
         refine ae (m' := l.length + 1 - (i+1)) (by omega) ⟨i+1, p.1 + p.2, out ++ [(a, p.1 - a)], rfl, by simp; omega, ⟨by omega, by omega⟩, hrest _ (by simpa using hgo), ?_, ?_⟩
         · rw [wrap64 (by omega) (by omega)]; simp; try rfl
         simp [aE]; try rfl)
     intro h50;simp at h50;omega
    intro Bk;have hge:iA a p.1=[]:=by unfold iA;rw[if_neg (by simpa using Bk)]
    refine af ?_;refine xT ?_;refine bx ?_;refine xQ [1,2,9,10,11,50] ?_ ?_
    ·intro h50;refine aS (by kernel_rfl) [] 4 [0,1,2,3,4,5,6,7,8,9,10,11] (by decide +kernel) ?_;refine ay ?_;refine xO ?_ (h:=by simp[aE,hi2];exact .mk);refine xO ?_;refine xO ?_ (h:=by simp[-List.getElem?_map,ao hi2,aE,←hp];exact .mk);refine ay ?_;refine xO ?_ (h:=by simp[aE,hi2];exact .mk);refine xO ?_;refine xO ?_ (h:=by simp[-List.getElem?_map,ao hi2,aE,←hp];exact .mk);refine xO ?_ (h:=by simp[w1];exact .mk);refine xH [1,2,9,10,11] ?_;refine xY ?_;refine aT ?_;refine xE [1,2,9,10,11] ?_;refine ah [1,2,9,10,11] ?_;rw[hge]at hgo
     have hrest:∀sd,sd++dr to (p.1+p.2) (l.drop (i+1))=G→((i+1<l.length∧sd++dr to (p.1+p.2) (l.drop (i+1))=G∧dI to (p.1+p.2) (l.drop (i+1))=true)∨(i+1=l.length∧sd++iA (p.1+p.2) to=G)∨(i+1=l.length+1∧sd=G)):=fun sd h=>by
      by_cases hl2:i+1<l.length
      ·exact .inl ⟨hl2,h,hok2.2⟩
      refine .inr (.inl ⟨by omega,?_⟩);rw[List.drop_eq_nil_of_le (by omega)]at h;exact h
     first
     | (refine aD [1,2,9,10,11] rfl ?_
        refine ae (m' := l.length + 1 - (i+1)) (by omega) ⟨i+1, p.1 + p.2, out, rfl, by omega, ⟨by omega, by omega⟩, hrest _ (by simpa using hgo), ?_, rfl⟩
        rw [wrap64 (by omega) (by omega)]; rfl)
     | (refine aD [1,2,9,10,11] rfl ?_
        refine aC 0 2 1 (by decide) (by simp) (by decide) rfl rfl ?_
        refine aq 1 [1,2,9,10,11] (by decide) (by rfl) (by rfl) ?_
        refine ae (m' := l.length + 1 - (i+1)) (by omega) ⟨i+1, p.1 + p.2, out ++ [(a, p.1 - a)], rfl, by simp; omega, ⟨by omega, by omega⟩, hrest _ (by simpa using hgo), ?_, ?_⟩
        · rw [wrap64 (by omega) (by omega)]; simp; try rfl
        simp [aE]; try rfl)
    intro h50;simp at h50;omega
   intro fm;simp at fm;omega
  intro h23;simp at h23;omega
 ·skip
  have w2:IntKind.i64.wrap (to-a)=to-a:=wrap64 (by omega) (by omega);have e1:(out.length+1)*16≤140737488355328:=by omega
  have e2:out.length≤140737488355327:=by omega
  refine ab (xU ?_);refine bx ?_;refine xQ [1,2,9,10,11,23] ?_ ?_
  ·intro h23;refine af fun _=>?_;refine ab (ag ?_);refine xU ?_;refine bU [1,2,9,10,11,12] ?_;refine ab (xU ?_);refine bx ?_;refine xQ [1,2,9,10,11,12,30] ?_ ?_
   ·intro fm;simp at fm
   intro fm;refine af fun _=>?_;refine ab (xU ?_);refine aT ?_;refine xQ [1,2,9,10,11,12,38] ?_ ?_
   ·intro Bk;have hge:iA a to=[(a,to-a)]:=by unfold iA;rw[if_pos (by simpa using Bk)]
    refine xY ?_;refine bx ?_;refine xO ?_ (h:=by simp[w2];exact .mk);refine aH ?_;refine xO ?_;refine xO ?_ (h:=by simp[rows,e1,e2];exact .mk);refine xO ?_;refine xG [1,2,9,10,11] ?_;refine bx ?_;refine xQ [1,2,9,10,11,50] ?_ ?_
    ·intro h50;simp at h50
    intro h50;refine af fun _=>?_;refine xY ?_;refine aT ?_;refine xE [1,2,9,10,11] ?_;refine ah [1,2,9,10,11] ?_;rw[hge]at hgo;first
    | (refine aD [1,2,9,10,11] rfl ?_
       refine ae (m' := 0) (by omega) ⟨l.length+1, a, out, by omega, by omega, ha, .inr (.inr ⟨rfl, by simpa using hgo⟩), ?_, rfl⟩
       rw [wrap64 (by omega) (by omega)]; rfl)
    | (refine aD [1,2,9,10,11] rfl ?_
       refine aC 0 2 1 (by decide) (by simp) (by decide) rfl rfl ?_
       refine aq 1 [1,2,9,10,11] (by decide) (by rfl) (by rfl) ?_
       refine ae (m' := 0) (by omega) ⟨l.length+1, a, out ++ [(a, to - a)], by omega, by simp; omega, ha, .inr (.inr ⟨rfl, hgo⟩), ?_, ?_⟩
       · rw [wrap64 (by omega) (by omega)]; simp; try rfl
       simp [aE]; try rfl)
   intro Bk;have hge:iA a to=[]:=by unfold iA;rw[if_neg (by simpa using Bk)]
   refine af ?_;refine xT ?_;refine bx ?_;refine xQ [1,2,9,10,11,50] ?_ ?_
   ·intro h50;simp at h50
   intro h50;refine af fun _=>?_;refine xY ?_;refine aT ?_;refine xE [1,2,9,10,11] ?_;refine ah [1,2,9,10,11] ?_;rw[hge]at hgo;first
   | (refine aD [1,2,9,10,11] rfl ?_
      refine ae (m' := 0) (by omega) ⟨l.length+1, a, out, by omega, by omega, ha, .inr (.inr ⟨rfl, by simpa using hgo⟩), ?_, rfl⟩
      rw [wrap64 (by omega) (by omega)]; rfl)
   | (refine aD [1,2,9,10,11] rfl ?_
      refine aC 0 2 1 (by decide) (by simp) (by decide) rfl rfl ?_
      refine aq 1 [1,2,9,10,11] (by decide) (by rfl) (by rfl) ?_
      refine ae (m' := 0) (by omega) ⟨l.length+1, a, out ++ [(a, to - a)], by omega, by simp; omega, ha, .inr (.inr ⟨rfl, hgo⟩), ?_, ?_⟩
      · rw [wrap64 (by omega) (by omega)]; simp; try rfl
      simp [aE]; try rfl)
  intro h23;simp at h23
 skip
 skip
 refine ab (xU ?_);refine bx ?_;refine xQ [1,2,9,10,11,23] ?_ ?_
 ·intro h23;simp at h23;omega
 intro h23;subst hgo;refine aP (xT ?_);refine dC [6,7] ?_;refine xZ ?_;simp[hr,ai];try rfl
theorem I0(g:Gl)(l:List (Int×Int))(hl:l.length≤2^40)(size:Int):a9 Tryz.prog g 106 [rO l,vI size] (.bK [aE ((dy l size).getD (0,0)),.v (.bool (dy l size).isSome)]):=by
 refine xA Tryz.func106 fun B S=>?_
 refine xU ?_;refine ay ?_;refine xG [0,1,4] ?_;refine xH [0,1,4,6] ?_;refine ab (xU ?_);refine xH [0,1,4,6,7] ?_;refine ag (aB (fun m σ o=>∃(i:Nat) (k:Int),m=l.length-i∧i≤l.length∧((k = -1∧dy (l.take i) size=none)∨∃q:Nat,k=q∧q<l.length∧dy (l.take i) size=some (nth l q))∧σ=slots [(0,.d (rO l)),(1,.d (vI size)),(4,.ptr 0 0 0),(6,.d (vI k)),(7,.d (vI i))]∧o=[.var 115 [.d (vI 0),.d (vI 0)]]) l.length .refl ⟨0, -1,by simp,by simp,.inl ⟨rfl,rfl⟩,rfl,rfl⟩ ?_);rintro m σ o ⟨i,k,rfl,hi,⟨rfl,hfo⟩|⟨q,rfl,hq,hfo⟩,rfl,rfl⟩ _
 ·skip
  skip
  refine ab (xU ?_);refine bx ?_;refine xQ [0,1,4,6,7,11] ?_ ?_
  ·intro h11;have hi2:i<l.length:=by simpa using h11
   have hst:=mP (size:=size) hi2;rw[hfo]at hst;refine af fun _=>?_;refine ab (ag ?_);refine ab (xU ?_);refine ay ?_;refine xO ?_ (h:=by simp[aE,hi2];exact .mk);refine xO ?_;refine xO ?_ (h:=by simp[-List.getElem?_map,ao hi2,aE];exact .mk);refine ay ?_;refine xQ [0,1,4,6,7,20] ?_ ?_
   ·intro h20;have ea:dy (l.take (i+1)) size=dy (l.take i) size:=by rw[hst,hfo];unfold c7;rw[if_neg];simp at h20 ⊢;omega
    rw[hfo]at ea;refine aP ?_;rintro -;refine xY ?_;refine aT ?_;refine xE [0,1,4,6,7] ?_;refine ah [0,1,4,6,7] ?_;first
    | exact ae (m':=l.length-(i+1)) (by omega) ⟨i+1,i,rfl,by omega,.inr ⟨i,rfl,hi2,ea⟩,by rw[wrap64 (by omega) (by omega)];rfl,rfl⟩
    | exact ae (m':=l.length-(i+1)) (by omega) ⟨i+1, -1,rfl,by omega,.inl ⟨rfl,ea⟩,by rw[wrap64 (by omega) (by omega)];rfl,rfl⟩
    | exact ae (m':=l.length-(i+1)) (by omega) ⟨i+1,q,rfl,by omega,.inr ⟨q,rfl,hq,ea⟩,by rw[wrap64 (by omega) (by omega)];rfl,rfl⟩
   intro h20;have hsz:size≤(nth l i).2:=by simp at h20;omega
   refine af fun _=>?_;refine ab ?_;refine aS (by kernel_rfl) [] 4 [0,1,2,3,4,5,6,7,8,9,10,11,12,13,14,15,16,17,18,19,20,21,22,23,24,25,26,27,28,29,30,31,32,33,34,35,36,37,38,39,40] (by decide +kernel) ?_;refine aT ?_;iterate 11 (refine mo (av:=.d (.v (.bool false))) rfl (by simp;exact .mk) rfl ?_)
   refine xP ?_;refine xB ?_;iterate 24 (refine mo (av:=.d (.v (.bool false))) rfl (by simp;exact .mk) rfl ?_)
   refine xP ?_;refine xQ [0,1,4,6,7,61] ?_ ?_
   ·intro Gt;have ea:dy (l.take (i+1)) size=some (nth l i):=by rw[hst];unfold c7;rw[if_pos];simp[jw]at Gt ⊢ <;> omega
    refine xY ?_;refine bU [0,1,4,6,7] ?_;refine xY ?_;refine aT ?_;refine xE [0,1,4,6,7] ?_;refine ah [0,1,4,6,7] ?_;first
    | exact ae (m':=l.length-(i+1)) (by omega) ⟨i+1,i,rfl,by omega,.inr ⟨i,rfl,hi2,ea⟩,by rw[wrap64 (by omega) (by omega)];rfl,rfl⟩
    | exact ae (m':=l.length-(i+1)) (by omega) ⟨i+1, -1,rfl,by omega,.inl ⟨rfl,ea⟩,by rw[wrap64 (by omega) (by omega)];rfl,rfl⟩
    | exact ae (m':=l.length-(i+1)) (by omega) ⟨i+1,q,rfl,by omega,.inr ⟨q,rfl,hq,ea⟩,by rw[wrap64 (by omega) (by omega)];rfl,rfl⟩
   intro Gt;have ea:dy (l.take (i+1)) size=dy (l.take i) size:=by rw[hst,hfo];unfold c7;rw[if_neg];simp[jw]at Gt ⊢ <;> omega
   rw[hfo]at ea;refine af fun _=>?_;refine xY ?_;refine aT ?_;refine xE [0,1,4,6,7] ?_;refine ah [0,1,4,6,7] ?_;first
   | exact ae (m':=l.length-(i+1)) (by omega) ⟨i+1,i,rfl,by omega,.inr ⟨i,rfl,hi2,ea⟩,by rw[wrap64 (by omega) (by omega)];rfl,rfl⟩
   | exact ae (m':=l.length-(i+1)) (by omega) ⟨i+1, -1,rfl,by omega,.inl ⟨rfl,ea⟩,by rw[wrap64 (by omega) (by omega)];rfl,rfl⟩
   | exact ae (m':=l.length-(i+1)) (by omega) ⟨i+1,q,rfl,by omega,.inr ⟨q,rfl,hq,ea⟩,by rw[wrap64 (by omega) (by omega)];rfl,rfl⟩
  intro h11;obtain rfl:i=l.length:=by simp at h11;omega
  rw[List.take_length]at hfo;refine aP ?_;rintro -;refine ab (xU ?_);refine ay ?_;refine xQ [0,4,6,64] ?_ ?_
  ·intro h64;refine xU ?_;iterate 2 (refine aH ?_)
   refine xH [4,5] ?_;refine xZ ?_;simp[hfo,aE]
  intro h64;simp at h64
 skip
 skip
 refine ab (xU ?_);refine bx ?_;refine xQ [0,1,4,6,7,11] ?_ ?_
 ·intro h11;have hi2:i<l.length:=by simpa using h11
  have hst:=mP (size:=size) hi2;rw[hfo]at hst;refine af fun _=>?_;refine ab (ag ?_);refine ab (xU ?_);refine ay ?_;refine xO ?_ (h:=by simp[aE,hi2];exact .mk);refine xO ?_;refine xO ?_ (h:=by simp[-List.getElem?_map,ao hi2,aE];exact .mk);refine ay ?_;refine xQ [0,1,4,6,7,20] ?_ ?_
  ·intro h20;have ea:dy (l.take (i+1)) size=dy (l.take i) size:=by rw[hst,hfo];unfold c7;rw[if_neg];simp at h20 ⊢;omega
   rw[hfo]at ea;refine aP ?_;rintro -;refine xY ?_;refine aT ?_;refine xE [0,1,4,6,7] ?_;refine ah [0,1,4,6,7] ?_;first
   | exact ae (m':=l.length-(i+1)) (by omega) ⟨i+1,i,rfl,by omega,.inr ⟨i,rfl,hi2,ea⟩,by rw[wrap64 (by omega) (by omega)];rfl,rfl⟩
   | exact ae (m':=l.length-(i+1)) (by omega) ⟨i+1, -1,rfl,by omega,.inl ⟨rfl,ea⟩,by rw[wrap64 (by omega) (by omega)];rfl,rfl⟩
   | exact ae (m':=l.length-(i+1)) (by omega) ⟨i+1,q,rfl,by omega,.inr ⟨q,rfl,hq,ea⟩,by rw[wrap64 (by omega) (by omega)];rfl,rfl⟩
  intro h20;have hsz:size≤(nth l i).2:=by simp at h20;omega
  refine af fun _=>?_;refine ab ?_;refine aS (by kernel_rfl) [] 4 [0,1,2,3,4,5,6,7,8,9,10,11,12,13,14,15,16,17,18,19,20,21,22,23,24,25,26,27,28,29,30,31,32,33,34,35,36,37,38,39,40] (by decide +kernel) ?_;refine aT ?_;iterate 2 refine xI ?_
  refine xI ?_ (h:=fun hb=>by simp[aE,hi2];exact .mk);refine xI ?_;refine xI ?_ (h:=fun hb=>by simp[-List.getElem?_map,ao hi2,aE];exact .mk);iterate 2 refine xI ?_
  refine xI ?_ (h:=fun hb=>by simp[aE,hq];exact .mk);refine xI ?_;refine xI ?_ (h:=fun hb=>by simp[-List.getElem?_map,ao hq,aE];exact .mk);refine xI ?_;refine xP ?_;refine xB ?_;iterate 2 refine xI ?_
  refine xI ?_ (h:=fun hb=>by simp[aE,hi2];exact .mk);refine xI ?_;refine xI ?_ (h:=fun hb=>by simp[-List.getElem?_map,ao hi2,aE];exact .mk);iterate 2 refine xI ?_
  refine xI ?_ (h:=fun hb=>by simp[aE,hq];exact .mk);refine xI ?_;refine xI ?_ (h:=fun hb=>by simp[-List.getElem?_map,ao hq,aE];exact .mk);iterate 4 refine xI ?_
  refine xI ?_ (h:=fun hb=>by simp[aE,hi2];exact .mk);refine xI ?_;refine xI ?_ (h:=fun hb=>by simp[-List.getElem?_map,ao hi2,aE];exact .mk);iterate 2 refine xI ?_
  refine xI ?_ (h:=fun hb=>by simp[aE,hq];exact .mk);refine xI ?_;refine xI ?_ (h:=fun hb=>by simp[-List.getElem?_map,ao hq,aE];exact .mk);refine xI ?_;iterate 2 refine xP ?_
  refine xQ [0,1,4,6,7,61] ?_ ?_
  ·intro Gt;have ea:dy (l.take (i+1)) size=some (nth l i):=by rw[hst];unfold c7;rw[if_pos];simp[jw]at Gt ⊢ <;> omega
   refine xY ?_;refine bU [0,1,4,6,7] ?_;refine xY ?_;refine aT ?_;refine xE [0,1,4,6,7] ?_;refine ah [0,1,4,6,7] ?_;first
   | exact ae (m':=l.length-(i+1)) (by omega) ⟨i+1,i,rfl,by omega,.inr ⟨i,rfl,hi2,ea⟩,by rw[wrap64 (by omega) (by omega)];rfl,rfl⟩
   | exact ae (m':=l.length-(i+1)) (by omega) ⟨i+1, -1,rfl,by omega,.inl ⟨rfl,ea⟩,by rw[wrap64 (by omega) (by omega)];rfl,rfl⟩
   | exact ae (m':=l.length-(i+1)) (by omega) ⟨i+1,q,rfl,by omega,.inr ⟨q,rfl,hq,ea⟩,by rw[wrap64 (by omega) (by omega)];rfl,rfl⟩
  intro Gt;have ea:dy (l.take (i+1)) size=dy (l.take i) size:=by rw[hst,hfo];unfold c7;rw[if_neg];simp[jw]at Gt ⊢ <;> omega
  rw[hfo]at ea;refine af fun _=>?_;refine xY ?_;refine aT ?_;refine xE [0,1,4,6,7] ?_;refine ah [0,1,4,6,7] ?_;first
  | exact ae (m':=l.length-(i+1)) (by omega) ⟨i+1,i,rfl,by omega,.inr ⟨i,rfl,hi2,ea⟩,by rw[wrap64 (by omega) (by omega)];rfl,rfl⟩
  | exact ae (m':=l.length-(i+1)) (by omega) ⟨i+1, -1,rfl,by omega,.inl ⟨rfl,ea⟩,by rw[wrap64 (by omega) (by omega)];rfl,rfl⟩
  | exact ae (m':=l.length-(i+1)) (by omega) ⟨i+1,q,rfl,by omega,.inr ⟨q,rfl,hq,ea⟩,by rw[wrap64 (by omega) (by omega)];rfl,rfl⟩
 intro h11;obtain rfl:i=l.length:=by simp at h11;omega
 rw[List.take_length]at hfo;refine aP ?_;rintro -;refine ab (xU ?_);refine ay ?_;refine xQ [0,4,6,64] ?_ ?_
 ·intro h64;simp at h64;omega
 intro h64;refine af ?_;refine xT ?_;refine ay ?_;refine xO ?_ (h:=by simp[aE,hq];exact .mk);refine xO ?_ (h:=by simp[-List.getElem?_map,ao hq,aE];exact .mk);refine aH ?_;refine xH [4,5] ?_;refine xZ ?_;simp[hfo,aE]
end Go.Proofs
