/- Contracts of the program's functions and plain facts, for arguments as each lemma says. -/
import Derived.Test.YtokgokbgidgfeaaGreatCA
import Derived.Test.YtokgokbgidgfeaaGreatAwpD
set_option linter.all false
set_option maxHeartbeats 4000000
set_option maxRecDepth 4000
namespace Go.Proofs
open Go.aN
attribute [simp] Tryz.f195
theorem GR(g:Gl)(o:aN.Obj)(f:Nat)(ih:∀(l:List ik) (a m b:Nat),l.length≤2^40→a<m→m<b→b≤l.length→b-a≤f→∀B S,a7 Tryz.prog g B S ⟨[o,aN.Obj.row 3 (l.map a6)].length,true⟩ 195 [.hdr 1 0 l.length,.d (vI a),.d (vI m),.d (vI b),.fn (.func 85) [] []] [o,aN.Obj.row 3 (l.map a6)] (fun x r=>x = .bK []∧r=[o,aN.Obj.row 3 ((iX eQ f a m b l).map a6)]))(l:List ik)(a m b:Nat)(hl:l.length≤2^40)(ha:a<m)(hm:m<b)(hb:b≤l.length)(hf:b-a≤f+1):∀B S,a7 Tryz.prog g B S ⟨[o,aN.Obj.row 3 (l.map a6)].length,true⟩ 195 [.hdr 1 0 l.length,.d (vI a),.d (vI m),.d (vI b),.fn (.func 85) [] []] [o,aN.Obj.row 3 (l.map a6)] (fun x r=>x = .bK []∧r=[o,aN.Obj.row 3 ((iX eQ (f+1) a m b l).map a6)]):=by
 refine aL Tryz.func195 rfl (Nat.le_of_ble_eq_true rfl) fun B S=>?_
 refine ab (ab ?_);have e0:IntKind.i64.wrap ((m:Int)-(a:Int))=((m-a:Nat):Int):=by rw[wrap64 (by omega) (by omega)];omega
 refine xY ?_;refine ay ?_;refine xO ?_ (h:=by simp[e0];exact .mk);refine xO ?_;refine xQ [0,1,2,3,4,28] ?_ ?_
 ·intro qu;have k1:m-a=1:=by simp at qu;omega
  refine xU ?_;refine ay ?_;refine xG [0,1,3,4,10] ?_;refine bU [0,1,4,10,11] ?_;refine ab (ag ?_);refine aB (fun f' σ o'=>∃(i j:Nat),j-i≤f'∧m≤i∧i≤j∧j≤b∧s9 (fun h=>eQ (nth l h) (nth l a)) f' i j=vg (fun h=>eQ (nth l h) (nth l a)) (m) (b)∧σ=slots [(0,.hdr 1 0 l.length),(1,.d (vI a)),(4,.fn (.func 85) [] []),(10,.d (vI i)),(11,.d (vI j))]∧o'=[o,aN.Obj.row 3 (l.map a6)]) (b-m) (Weak.kills [0,1,4,10,11] rfl) ⟨m,b,by omega,by omega,by omega,by omega,rfl,rfl,rfl⟩ ?_;rintro f' σ o' ⟨i,j,hf',M6,hij,hjb,hinv,rfl,rfl⟩ _;refine ab (xU ?_);refine aT ?_;refine xQ [0,1,4,10,11,33] ?_ ?_
  ·intro ta;have hlt:i<j:=by simp at ta;omega
   have e1:IntKind.i64.wrap ((i:Int)+(j:Int))=(i:Int)+(j:Int):=wrap64 (by omega) (by omega);have e2:IntKind.u64.wrap ((i:Int)+(j:Int))=(i:Int)+(j:Int):=w7 (by omega) (by omega);have e3:((i:Int)+(j:Int)).fdiv 2=((i:Int)+(j:Int))/2:=Int.fdiv_eq_ediv_of_nonneg _ (by omega);have e4:IntKind.i64.wrap (((i:Int)+(j:Int))/2)=((i:Int)+(j:Int))/2:=wrap64 (by omega) (by omega);have e5:IntKind.i64.wrap (((i:Int)+(j:Int))/2+1)=((i:Int)+(j:Int))/2+1:=wrap64 (by omega) (by omega);have t1:(((i:Int)+(j:Int))/2).toNat=(i+j)/2:=by omega
   have q1:0≤((i:Int)+(j:Int))/2∧((i:Int)+(j:Int))/2<(l.length:Int):=by omega
   have r1:(i+j)/2<l.length:=by omega
   have r2:a<l.length:=by omega
   obtain⟨f',rfl⟩:∃f'',f'=f''+1:=⟨f'-1,by omega⟩;refine af fun _=>?_;refine ag (xU ?_);refine ay ?_;refine xO ?_ (h:=by simp[e1];exact .mk);refine xO ?_ (h:=by simp[fO];exact .mk);refine xO ?_;refine xO ?_ (h:=by simp[fO];exact .mk);refine xO ?_ (h:=by simp[e2,e3,e4,IntKind.bits];exact .mk);refine xF [0,1,4,10,11,12] ?_;refine ab ?_;refine aS (by kernel_rfl) [] 4 [0,1,2,3,4,5,6,7,8,9,10] (by decide +kernel) ?_;refine aT ?_;refine xO ?_ (h:=by simp[a6,q1,t1];exact .mk);refine xO ?_ (h:=by simp[-List.getElem?_map,ao r1,a6];exact .mk);refine ay ?_;refine xO ?_ (h:=by simp[a6,r2];exact .mk);refine xO ?_ (h:=by simp[-List.getElem?_map,ao r2,a6];exact .mk);refine xC (BN g (nth l ((i+j)/2)) (nth l a)) ?_;refine xO ?_;refine xQ [0,1,4,10,11,12,50] ?_ ?_
   ·intro h50;have hp:(fun h=>eQ (nth l h) (nth l a)) ((i+j)/2)=true:=by simp at h50;simp[eQ];omega
    refine xY ?_;refine xO ?_;refine xO ?_ (h:=by simp[e5];exact .mk);refine xO ?_;refine xE [0,1,4,10,11] ?_;refine ah [0,1,4,10,11] ?_;first
    | exact ae (m':=f') (by omega) ⟨(i+j)/2+1,j,by omega,by omega,by omega,by omega,by rw[←hinv,nH hlt hp],by simp[e5];try rfl,rfl⟩
    | exact ae (m':=f') (by omega) ⟨i,(i+j)/2,by omega,by omega,by omega,by omega,by rw[←hinv,nG hlt hp],by simp,rfl⟩
   intro h50;have hp:(fun h=>eQ (nth l h) (nth l a)) ((i+j)/2)=false:=by simp at h50;simp[eQ];omega
   refine xY ?_;refine ay ?_;refine xE [0,1,4,10,11] ?_;refine ah [0,1,4,10,11] ?_;first
   | exact ae (m':=f') (by omega) ⟨(i+j)/2+1,j,by omega,by omega,by omega,by omega,by rw[←hinv,nH hlt hp],by simp[e5];try rfl,rfl⟩
   | exact ae (m':=f') (by omega) ⟨i,(i+j)/2,by omega,by omega,by omega,by omega,by rw[←hinv,nG hlt hp],by simp,rfl⟩
  intro ta;have hij2:j≤i:=by simp at ta;omega
  have hbs:vg (fun h=>eQ (nth l h) (nth l a)) m b=i:=by rw[←hinv,nF hij2]
  refine aP ?_;rintro -;refine ab (xU ?_);refine bU [0,10,13] ?_;refine ag ?_;have hbb:=qN (p:=fun h=>eQ (nth l h) (nth l a)) (i:=m) (j:=b) (by omega);rw[hbs]at hbb;have e6:IntKind.i64.wrap ((i:Int)-1)=((i-1:Nat):Int):=by rw[wrap64 (by omega) (by omega)];omega
  refine aB (fun f' σ o'=>∃(k:Nat) (l':List ik),f'=i-1-k∧a≤k∧k≤i-1∧l'.length=l.length∧HH (i-1-k) k l'=HH (i-1-a) a l∧σ=slots [(0,.hdr 1 0 l'.length),(10,.d (vI i)),(13,.d (vI k))]∧o'=[o,aN.Obj.row 3 (l'.map a6)]) (i-1-a) (Weak.kills [0,10,13] rfl) ⟨a,l,rfl,by omega,by omega,rfl,rfl,rfl,rfl⟩ ?_;rintro f' σ o' ⟨k,l',rfl,hak,hki,hlen,et,rfl,rfl⟩ _;refine ab (xU ?_);refine ay ?_;refine xO ?_ (h:=by simp[e6];exact .mk);refine xO ?_;refine xQ [0,10,13,58] ?_ ?_
  ·intro ME;have hlt:k<i-1:=by simp at ME;omega
   have e1:IntKind.i64.wrap ((k:Int)+1)=(k:Int)+1:=wrap64 (by omega) (by omega);have q1:0≤(k:Int)+1∧(k:Int)+1<(l'.length:Int):=by omega
   have r1:k+1<l'.length:=by omega
   have r2:k<l'.length:=by omega
   refine af fun _=>?_;refine ab (ag ?_);refine aS (by kernel_rfl) [] 4 [0,1,2,3,4,5,6,7,8,9,10,11,12,13,14,15,16,17] (by decide +kernel) ?_;refine bx ?_;refine xO ?_ (h:=by simp[e1];exact .mk);refine ay ?_;refine xO ?_ (h:=by simp[e1];exact .mk);refine xO ?_ (h:=by simp[a6,q1];exact .mk);refine xO ?_ (h:=by simp[a6,r1];exact .mk);refine ay ?_;iterate 3 (refine xO ?_ (h:=by simp[a6,r2];exact .mk))
   refine xO ?_ (h:=by simp[splice,r2,bJ,br,dn,iF, -List.map_set];exact .mk);refine xO ?_ (h:=by simp[a6,q1];exact .mk);refine xO ?_ (h:=by simp[splice,r1,bJ,br,dn,iF, -List.map_set];exact .mk);refine xF [0,10,13] ?_;refine xY ?_;refine xO ?_;refine xO ?_ (h:=by simp[e1];exact .mk);refine xO ?_;refine xE [0,10,13] ?_;refine ah [0,10,13] ?_;refine ae (m':=i-1-(k+1)) (by omega) ⟨k+1,swp l' k (k+1),rfl,by omega,by omega,by rw[jH,hlen],?_,?_,?_⟩
   ·rw[←et,show i-1-k=i-1-(k+1)+1 by omega];rfl
   ·rw[jH];simp[e1];try rfl
   simp[swp,r1,r2,a6,br,dn,bC]
  intro ME;have hk:k=i-1:=by simp at ME;omega
  have hr:iX eQ (f+1) a m b l=l':=by
   rw[show i-1-k=0 by omega]at et;simp only[iX,if_pos k1,hbs,←et];rfl
  refine aP ?_;rintro -;refine ar (al (by simp;exact .mk) ?_ ?_)
  ·simp
  first|(simp[hr];done)|simp[kM,hc1,hc2,hc3]
 intro qu;have k1:¬m-a=1:=by simp at qu;omega
 have e7:IntKind.i64.wrap ((b:Int)-(m:Int))=((b-m:Nat):Int):=by rw[wrap64 (by omega) (by omega)];omega
 refine af fun _=>?_;refine ab (xU ?_);refine ay ?_;refine xO ?_ (h:=by simp[e7];exact .mk);refine xO ?_;refine xQ [0,1,2,3,4,80] ?_ ?_
 ·intro h80;have k2:b-m=1:=by simp at h80;omega
  refine xU ?_;refine ay ?_;refine xG [0,2,4,14] ?_;refine bU [0,2,4,14,15] ?_;refine ab (ag ?_);refine aB (fun f' σ o'=>∃(i j:Nat),j-i≤f'∧a≤i∧i≤j∧j≤m∧s9 (fun h => !eQ (nth l m) (nth l h)) f' i j=vg (fun h => !eQ (nth l m) (nth l h)) (a) (m)∧σ=slots [(0,.hdr 1 0 l.length),(2,.d (vI m)),(4,.fn (.func 85) [] []),(14,.d (vI i)),(15,.d (vI j))]∧o'=[o,aN.Obj.row 3 (l.map a6)]) (m-a) (Weak.kills [0,2,4,14,15] rfl) ⟨a,m,by omega,by omega,by omega,by omega,rfl,rfl,rfl⟩ ?_;rintro f' σ o' ⟨i,j,hf',M6,hij,hjb,hinv,rfl,rfl⟩ _;refine ab (xU ?_);refine aT ?_;refine xQ [0,2,4,14,15,85] ?_ ?_
  ·intro ML;have hlt:i<j:=by simp at ML;omega
   have e1:IntKind.i64.wrap ((i:Int)+(j:Int))=(i:Int)+(j:Int):=wrap64 (by omega) (by omega);have e2:IntKind.u64.wrap ((i:Int)+(j:Int))=(i:Int)+(j:Int):=w7 (by omega) (by omega);have e3:((i:Int)+(j:Int)).fdiv 2=((i:Int)+(j:Int))/2:=Int.fdiv_eq_ediv_of_nonneg _ (by omega);have e4:IntKind.i64.wrap (((i:Int)+(j:Int))/2)=((i:Int)+(j:Int))/2:=wrap64 (by omega) (by omega);have e5:IntKind.i64.wrap (((i:Int)+(j:Int))/2+1)=((i:Int)+(j:Int))/2+1:=wrap64 (by omega) (by omega);have t1:(((i:Int)+(j:Int))/2).toNat=(i+j)/2:=by omega
   have q1:0≤((i:Int)+(j:Int))/2∧((i:Int)+(j:Int))/2<(l.length:Int):=by omega
   have r1:(i+j)/2<l.length:=by omega
   have r2:m<l.length:=by omega
   obtain⟨f',rfl⟩:∃f'',f'=f''+1:=⟨f'-1,by omega⟩;refine af fun _=>?_;refine ag (xU ?_);refine ay ?_;refine xO ?_ (h:=by simp[e1];exact .mk);refine xO ?_ (h:=by simp[fO];exact .mk);refine xO ?_;refine xO ?_ (h:=by simp[fO];exact .mk);refine xO ?_ (h:=by simp[e2,e3,e4,IntKind.bits];exact .mk);refine xF [0,2,4,14,15,16] ?_;refine ab ?_;refine aS (by kernel_rfl) [] 4 [0,1,2,3,4,5,6,7,8,9,10,11] (by decide +kernel) ?_;refine aT ?_;refine xO ?_ (h:=by simp[a6,r2];exact .mk);refine xO ?_ (h:=by simp[-List.getElem?_map,ao r2,a6];exact .mk);refine ay ?_;refine xO ?_ (h:=by simp[a6,q1,t1];exact .mk);refine xO ?_ (h:=by simp[-List.getElem?_map,ao r1,a6];exact .mk);refine xC (BN g (nth l m) (nth l ((i+j)/2))) ?_;refine ay ?_;refine xQ [0,2,4,14,15,16,103] ?_ ?_
   ·intro Gj;have hp:(fun h => !eQ (nth l m) (nth l h)) ((i+j)/2)=true:=by simp at Gj;simp[eQ];omega
    refine xY ?_;refine xO ?_;refine xO ?_ (h:=by simp[e5];exact .mk);refine xO ?_;refine xE [0,2,4,14,15] ?_;refine ah [0,2,4,14,15] ?_;first
    | exact ae (m':=f') (by omega) ⟨(i+j)/2+1,j,by omega,by omega,by omega,by omega,by rw[←hinv,nH hlt hp],by simp[e5];try rfl,rfl⟩
    | exact ae (m':=f') (by omega) ⟨i,(i+j)/2,by omega,by omega,by omega,by omega,by rw[←hinv,nG hlt hp],by simp,rfl⟩
   intro Gj;have hp:(fun h => !eQ (nth l m) (nth l h)) ((i+j)/2)=false:=by simp at Gj;simp[eQ];omega
   refine xY ?_;refine ay ?_;refine xE [0,2,4,14,15] ?_;refine ah [0,2,4,14,15] ?_;first
   | exact ae (m':=f') (by omega) ⟨(i+j)/2+1,j,by omega,by omega,by omega,by omega,by rw[←hinv,nH hlt hp],by simp[e5];try rfl,rfl⟩
   | exact ae (m':=f') (by omega) ⟨i,(i+j)/2,by omega,by omega,by omega,by omega,by rw[←hinv,nG hlt hp],by simp,rfl⟩
  intro ML;have hij2:j≤i:=by simp at ML;omega
  have hbs:vg (fun h => !eQ (nth l m) (nth l h)) a m=i:=by rw[←hinv,nF hij2]
  refine aP ?_;rintro -;refine ab (xU ?_);refine bU [0,14,17] ?_;refine ag ?_;have hbb:=qN (p:=fun h => !eQ (nth l m) (nth l h)) (i:=a) (j:=m) (by omega);rw[hbs]at hbb;refine aB (fun f' σ o'=>∃(k:Nat) (l':List ik),f'=k-i∧i≤k∧k≤m∧l'.length=l.length∧FZ (k-i) k l'=FZ (m-i) m l∧σ=slots [(0,.hdr 1 0 l'.length),(14,.d (vI i)),(17,.d (vI k))]∧o'=[o,aN.Obj.row 3 (l'.map a6)]) (m-i) (Weak.kills [0,14,17] rfl) ⟨m,l,rfl,by omega,by omega,rfl,rfl,rfl,rfl⟩ ?_;rintro f' σ o' ⟨k,l',rfl,hak,hki,hlen,et,rfl,rfl⟩ _;refine ab (xU ?_);refine aT ?_;refine xQ [0,14,17,110] ?_ ?_
  ·intro Gk;have hlt:i<k:=by simp at Gk;omega
   obtain⟨k,rfl⟩:∃k',k=k'+1:=⟨k-1,by omega⟩;have e1:IntKind.i64.wrap (k:Int)=(k:Int):=wrap64 (by omega) (by omega);have q1:0≤(k:Int)+1∧(k:Int)+1<(l'.length:Int):=by omega
   have r1:k+1<l'.length:=by omega
   have r2:k<l'.length:=by omega
   refine af fun _=>?_;refine ab (ag ?_);refine aS (by kernel_rfl) [] 4 [0,1,2,3,4,5,6,7,8,9,10,11,12,13,14,15,16,17] (by decide +kernel) ?_;refine bx ?_;refine xO ?_ (h:=by simp[e1];exact .mk);refine ay ?_;refine xO ?_ (h:=by simp[e1];exact .mk);iterate 2 (refine xO ?_ (h:=by simp[a6,r2];exact .mk))
   refine ay ?_;refine xO ?_ (h:=by simp[a6,q1];exact .mk);refine xO ?_ (h:=by simp[a6,r1];exact .mk);refine xO ?_ (h:=by simp[a6,q1];exact .mk);refine xO ?_ (h:=by simp[splice,r1,bJ,br,dn,iF, -List.map_set];exact .mk);refine xO ?_ (h:=by simp[a6,r2];exact .mk);refine xO ?_ (h:=by simp[splice,r2,bJ,br,dn,iF, -List.map_set];exact .mk);refine xF [0,14,17] ?_;refine xY ?_;refine xO ?_;refine xO ?_ (h:=by simp[e1];exact .mk);refine xO ?_;refine xE [0,14,17] ?_;refine ah [0,14,17] ?_;refine ae (m':=k-i) (by omega) ⟨k,swp l' (k+1) k,rfl,by omega,by omega,by rw[jH,hlen],?_,?_,?_⟩
   ·rw[←et,show k+1-i=k-i+1 by omega];rfl
   ·rw[jH];simp[e1];try rfl
   simp[swp,r1,r2,a6,br,dn,bC]
  intro Gk;have hk:k=i:=by simp at Gk;omega
  have hr:iX eQ (f+1) a m b l=l':=by
   rw[show k-i=0 by omega]at et;simp only[iX,if_neg k1,if_pos k2,hbs,←et];rfl
  refine aP ?_;rintro -;refine ar (al (by simp;exact .mk) ?_ ?_)
  ·simp
  first|(simp[hr];done)|simp[kM,hc1,hc2,hc3]
 intro h80;have k2:¬b-m=1:=by simp at h80;omega
 obtain⟨mid,hmid⟩:∃mid:Nat,mid=(a+b)/2:=⟨_,rfl⟩;obtain⟨N,hN⟩:∃N:Nat,N=mid+m:=⟨_,rfl⟩;obtain⟨p,hp0⟩:∃p:Nat,p=N-1:=⟨_,rfl⟩;have f1:IntKind.i64.wrap ((a:Int)+(b:Int))=(a:Int)+(b:Int):=wrap64 (by omega) (by omega);have f2:IntKind.u64.wrap ((a:Int)+(b:Int))=(a:Int)+(b:Int):=w7 (by omega) (by omega);have f3:((a:Int)+(b:Int)).fdiv 2=(mid:Int):=by rw[Int.fdiv_eq_ediv_of_nonneg _ (by omega)];omega
 have f4:IntKind.i64.wrap (mid:Int)=(mid:Int):=wrap64 (by omega) (by omega);have g1:IntKind.i64.wrap ((mid:Int)+(m:Int))=(N:Int):=by rw[wrap64 (by omega) (by omega)];omega
 have g2:IntKind.i64.wrap ((N:Int)-1)=(p:Int):=by rw[wrap64 (by omega) (by omega)];omega
 have lr:∀x y z,(uU x y z l).length=l.length:=fun _ _ _=>(mn ..).length_eq
 have ls:∀f a m b (x:List ik),(iX eQ f a m b x).length=x.length:=fun _ _ _ _ _=>(mu ..).length_eq
 have ih2:∀(l':List ik) (a m b:Nat),l'.length=l.length→a<m→m<b→b≤l.length→b-a≤f→∀B S,a7 Tryz.prog g B S ⟨[o,aN.Obj.row 3 (l'.map a6)].length,true⟩ 195 [.hdr 1 0 l.length,.d (vI a),.d (vI m),.d (vI b),.fn (.func 85) [] []] [o,aN.Obj.row 3 (l'.map a6)] (fun x r=>x = .bK []∧r=[o,aN.Obj.row 3 ((iX eQ f a m b l').map a6)]):=fun l' a m b h h1 h2 h3 h4 B S=>by
  have:=ih l' a m b (by omega) h1 h2 (by omega) h4 B S;rw[h]at this;exact this
 refine af ?_;refine xT ?_;refine ay ?_;refine xO ?_ (h:=by simp[f1];exact .mk);refine xO ?_ (h:=by simp[fO];exact .mk);refine xO ?_;refine xO ?_ (h:=by simp[fO];exact .mk);refine xO ?_ (h:=by simp[f2,f3,f4,IntKind.bits];exact .mk);refine xG [0,1,2,3,4,18] ?_;refine ay ?_;refine xO ?_ (h:=by simp[g1];exact .mk);refine xO ?_;refine xG [0,1,2,3,4,18,19] ?_;refine bU [0,1,2,3,4,18,19] ?_;refine ab (xU ?_);refine aT ?_;refine xQ [0,1,2,3,4,18,19,140] ?_ ?_
 ·intro Gm;have hmm:mid<m:=by simp at Gm;omega
  obtain⟨s0,hs⟩:∃s0:Nat,s0=N-b:=⟨_,rfl⟩;have g3:IntKind.i64.wrap ((N:Int)-(b:Int))=(s0:Int):=by rw[wrap64 (by omega) (by omega)];omega
  have hs0:s0=if mid<m then N-b else a:=by rw[if_pos hmm];exact hs
  have hr0:mid=if mid<m then mid else m:=by rw[if_pos hmm]
  have hS:a≤s0∧s0≤mid∧b≤N:=by omega
  refine xU ?_;refine ay ?_;refine xO ?_ (h:=by simp[g3];exact .mk);refine xH [0,1,2,3,4,18,19,20] ?_;refine xY ?_;refine ay ?_;refine xG [0,1,2,3,4,18,19,20,21] ?_;refine xO ?_;refine xO ?_ (h:=by simp[g2];exact .mk);refine xH [0,1,2,3,4,18,19,20,21,22] ?_;refine ab (ag ?_);refine aB (fun f' σ o'=>∃(i j:Nat),j-i≤f'∧s0≤i∧i≤j∧j≤mid∧s9 (fun c => !eQ (nth l (p-c)) (nth l c)) f' i j=vg (fun c => !eQ (nth l (p-c)) (nth l c)) (s0) (mid)∧σ=slots [(0,.hdr 1 0 l.length),(1,.d (vI a)),(2,.d (vI m)),(3,.d (vI b)),(4,.fn (.func 85) [] []),(18,.d (vI mid)),(19,.d (vI N)),(20,.d (vI i)),(21,.d (vI j)),(22,.d (vI p))]∧o'=[o,aN.Obj.row 3 (l.map a6)]) (mid-s0) (Weak.kills [0,1,2,3,4,18,19,20,21,22] rfl) ⟨s0,mid,by omega,by omega,by omega,by omega,rfl,rfl,rfl⟩ ?_;rintro f' σ o' ⟨i,j,hf',M6,hij,hjb,hinv,rfl,rfl⟩ _;refine ab (xU ?_);refine aT ?_;refine xQ [0,1,2,3,4,18,19,20,21,22,151] ?_ ?_
  ·intro xN;have hlt:i<j:=by simp at xN;omega
   have e1:IntKind.i64.wrap ((i:Int)+(j:Int))=(i:Int)+(j:Int):=wrap64 (by omega) (by omega);have e2:IntKind.u64.wrap ((i:Int)+(j:Int))=(i:Int)+(j:Int):=w7 (by omega) (by omega);have e3:((i:Int)+(j:Int)).fdiv 2=((i:Int)+(j:Int))/2:=Int.fdiv_eq_ediv_of_nonneg _ (by omega);have e4:IntKind.i64.wrap (((i:Int)+(j:Int))/2)=((i:Int)+(j:Int))/2:=wrap64 (by omega) (by omega);have e5:IntKind.i64.wrap (((i:Int)+(j:Int))/2+1)=((i:Int)+(j:Int))/2+1:=wrap64 (by omega) (by omega);have t1:(((i:Int)+(j:Int))/2).toNat=(i+j)/2:=by omega
   have q1:0≤((i:Int)+(j:Int))/2∧((i:Int)+(j:Int))/2<(l.length:Int):=by omega
   have r1:(i+j)/2<l.length:=by omega
   obtain⟨f',rfl⟩:∃f'',f'=f''+1:=⟨f'-1,by omega⟩;have g5:IntKind.i64.wrap ((p:Int)-((i:Int)+(j:Int))/2)=(p:Int)-((i:Int)+(j:Int))/2:=wrap64 (by omega) (by omega);have t3:((p:Int)-((i:Int)+(j:Int))/2).toNat=p-(i+j)/2:=by omega
   have q3:0≤(p:Int)-((i:Int)+(j:Int))/2∧(p:Int)-((i:Int)+(j:Int))/2<(l.length:Int):=by omega
   have r3:p-(i+j)/2<l.length:=by omega
   have q4:((i:Int)+(j:Int))/2≤(p:Int):=by omega
   refine af fun _=>?_;refine ag (xU ?_);refine ay ?_;refine xO ?_ (h:=by simp[e1];exact .mk);refine xO ?_ (h:=by simp[fO];exact .mk);refine xO ?_;refine xO ?_ (h:=by simp[fO];exact .mk);refine xO ?_ (h:=by simp[e2,e3,e4,IntKind.bits];exact .mk);refine xF [0,1,2,3,4,18,19,20,21,22,23] ?_;refine ab ?_;refine aS (by kernel_rfl) [] 4 [0,1,2,3,4,5,6,7,8,9,10,11,12,13] (by decide +kernel) ?_;refine bx ?_;refine xO ?_ (h:=by simp[g5];exact .mk);refine xO ?_ (h:=by simp[a6,q3,t3,q4];exact .mk);refine xO ?_ (h:=by simp[-List.getElem?_map,ao r3,a6];exact .mk);refine ay ?_;refine xO ?_ (h:=by simp[a6,q1,t1];exact .mk);refine xO ?_ (h:=by simp[-List.getElem?_map,ao r1,a6];exact .mk);refine xC (BN g (nth l (p-(i+j)/2)) (nth l ((i+j)/2))) ?_;refine ay ?_;refine xQ [0,1,2,3,4,18,19,20,21,22,23,171] ?_ ?_
   ·intro xS;have hp:(fun c => !eQ (nth l (p-c)) (nth l c)) ((i+j)/2)=true:=by simp at xS;simp[eQ];omega
    refine xY ?_;refine xO ?_;refine xO ?_ (h:=by simp[e5];exact .mk);refine xO ?_;refine xE [0,1,2,3,4,18,19,20,21,22] ?_;refine ah [0,1,2,3,4,18,19,20,21,22] ?_;first
    | exact ae (m':=f') (by omega) ⟨(i+j)/2+1,j,by omega,by omega,by omega,by omega,by rw[←hinv,nH hlt hp],by simp[e5];try rfl,rfl⟩
    | exact ae (m':=f') (by omega) ⟨i,(i+j)/2,by omega,by omega,by omega,by omega,by rw[←hinv,nG hlt hp],by simp,rfl⟩
   intro xS;have hp:(fun c => !eQ (nth l (p-c)) (nth l c)) ((i+j)/2)=false:=by simp at xS;simp[eQ];omega
   refine xY ?_;refine ay ?_;refine xE [0,1,2,3,4,18,19,20,21,22] ?_;refine ah [0,1,2,3,4,18,19,20,21,22] ?_;first
   | exact ae (m':=f') (by omega) ⟨(i+j)/2+1,j,by omega,by omega,by omega,by omega,by rw[←hinv,nH hlt hp],by simp[e5];try rfl,rfl⟩
   | exact ae (m':=f') (by omega) ⟨i,(i+j)/2,by omega,by omega,by omega,by omega,by rw[←hinv,nG hlt hp],by simp,rfl⟩
  intro xN;have hij2:j≤i:=by simp at xN;omega
  have hbs:=hinv.symm.trans (nF hij2);obtain⟨en,hen⟩:∃en:Nat,en=N-i:=⟨_,rfl⟩;have g6:IntKind.i64.wrap ((N:Int)-(i:Int))=(en:Int):=by rw[wrap64 (by omega) (by omega)];omega
  have kM:=sT (lt:=eQ) (f:=f) (l:=l) k1 k2 hmid hN hp0 hs0 hr0 hbs hen;have MX:en≤b:=by omega
  refine aP (xT ?_);refine ay ?_;refine xO ?_ (h:=by simp[g6];exact .mk);refine xH [0,1,2,3,4,18,20,24] ?_;refine ab (xU ?_);refine bx ?_;iterate 3 refine xI ?_
  refine xP ?_;refine xQ [0,1,2,3,4,18,20,24,185] ?_ ?_
  ·intro xV;have hc1:i<m∧m<en:=by simp at xV;omega
   refine xY ?_;refine cW ?_;refine az rfl rfl rfl rfl (by simp;exact .mk) ⟨_,Tryz.func225,rfl,rfl⟩ (Fc g o l i m en (by omega) (by omega) (by omega) (by omega)) (.inl (by simp)) ?_;refine xF [0,1,3,4,18,20,24] ?_;refine ab (xU ?_);refine bx ?_;iterate 3 refine xI ?_
   refine xP ?_;refine xQ [0,1,3,4,18,20,24,199] ?_ ?_
   ·intro mZ;have hc2:a<i∧i<mid:=by simp at mZ;omega
    refine xY ?_;refine cW ?_;refine az rfl rfl rfl rfl (by simp;exact .mk) ⟨_,Tryz.func195,rfl,rfl⟩ (ih2 _ a i mid (by simp[lr,ls]) (by omega) (by omega) (by omega) (by omega)) (.inl (by simp)) ?_;refine xG [0,3,4,18,24] ?_;refine bx ?_;iterate 3 refine xI ?_
    refine xP ?_;refine xQ [0,3,4,18,24,213] ?_ ?_
    ·intro gi;have hc3:mid<en∧en<b:=by simp at gi;omega
     refine xY ?_;refine cW ?_;refine az rfl rfl rfl rfl (by simp;exact .mk) ⟨_,Tryz.func195,rfl,rfl⟩ (ih2 _ mid en b (by simp[lr,ls]) (by omega) (by omega) (by omega) (by omega)) (.inl (by simp)) ?_;refine xE [] ?_;refine al (by simp;exact .mk) ?_ ?_
     ·simp
     first|(simp[hr];done)|simp[kM,hc1,hc2,hc3]
    intro gi;have hc3:¬(mid<en∧en<b):=by simp at gi;omega
    refine af ?_;refine al (by simp;exact .mk) ?_ ?_
    ·simp
    first|(simp[hr];done)|simp[kM,hc1,hc2,hc3]
   intro mZ;have hc2:¬(a<i∧i<mid):=by simp at mZ;omega
   refine af ?_;refine xT ?_;refine bx ?_;iterate 3 refine xI ?_
   refine xP ?_;refine xQ [0,3,4,18,24,213] ?_ ?_
   ·intro gi;have hc3:mid<en∧en<b:=by simp at gi;omega
    refine xY ?_;refine cW ?_;refine az rfl rfl rfl rfl (by simp;exact .mk) ⟨_,Tryz.func195,rfl,rfl⟩ (ih2 _ mid en b (by simp[lr,ls]) (by omega) (by omega) (by omega) (by omega)) (.inl (by simp)) ?_;refine xE [] ?_;refine al (by simp;exact .mk) ?_ ?_
    ·simp
    first|(simp[hr];done)|simp[kM,hc1,hc2,hc3]
   intro gi;have hc3:¬(mid<en∧en<b):=by simp at gi;omega
   refine af ?_;refine al (by simp;exact .mk) ?_ ?_
   ·simp
   first|(simp[hr];done)|simp[kM,hc1,hc2,hc3]
  intro xV;have hc1:¬(i<m∧m<en):=by simp at xV;omega
  refine af fun _=>?_;refine ab (xU ?_);refine bx ?_;iterate 3 refine xI ?_
  refine xP ?_;refine xQ [0,1,3,4,18,20,24,199] ?_ ?_
  ·intro mZ;have hc2:a<i∧i<mid:=by simp at mZ;omega
   refine xY ?_;refine cW ?_;refine az rfl rfl rfl rfl (by simp;exact .mk) ⟨_,Tryz.func195,rfl,rfl⟩ (ih2 _ a i mid (by simp[lr,ls]) (by omega) (by omega) (by omega) (by omega)) (.inl (by simp)) ?_;refine xG [0,3,4,18,24] ?_;refine bx ?_;iterate 3 refine xI ?_
   refine xP ?_;refine xQ [0,3,4,18,24,213] ?_ ?_
   ·intro gi;have hc3:mid<en∧en<b:=by simp at gi;omega
    refine xY ?_;refine cW ?_;refine az rfl rfl rfl rfl (by simp;exact .mk) ⟨_,Tryz.func195,rfl,rfl⟩ (ih2 _ mid en b (by simp[lr,ls]) (by omega) (by omega) (by omega) (by omega)) (.inl (by simp)) ?_;refine xE [] ?_;refine al (by simp;exact .mk) ?_ ?_
    ·simp
    first|(simp[hr];done)|simp[kM,hc1,hc2,hc3]
   intro gi;have hc3:¬(mid<en∧en<b):=by simp at gi;omega
   refine af ?_;refine al (by simp;exact .mk) ?_ ?_
   ·simp
   first|(simp[hr];done)|simp[kM,hc1,hc2,hc3]
  intro mZ;have hc2:¬(a<i∧i<mid):=by simp at mZ;omega
  refine af ?_;refine xT ?_;refine bx ?_;iterate 3 refine xI ?_
  refine xP ?_;refine xQ [0,3,4,18,24,213] ?_ ?_
  ·intro gi;have hc3:mid<en∧en<b:=by simp at gi;omega
   refine xY ?_;refine cW ?_;refine az rfl rfl rfl rfl (by simp;exact .mk) ⟨_,Tryz.func195,rfl,rfl⟩ (ih2 _ mid en b (by simp[lr,ls]) (by omega) (by omega) (by omega) (by omega)) (.inl (by simp)) ?_;refine xE [] ?_;refine al (by simp;exact .mk) ?_ ?_
   ·simp
   first|(simp[hr];done)|simp[kM,hc1,hc2,hc3]
  intro gi;have hc3:¬(mid<en∧en<b):=by simp at gi;omega
  refine af ?_;refine al (by simp;exact .mk) ?_ ?_
  ·simp
  first|(simp[hr];done)|simp[kM,hc1,hc2,hc3]
 intro Gm;have hmm:¬mid<m:=by simp at Gm;omega
 have hs0:a=if mid<m then N-b else a:=by rw[if_neg hmm]
 have hr0:m=if mid<m then mid else m:=by rw[if_neg hmm]
 refine xU ?_;refine bU [0,1,2,3,4,18,19,20] ?_;refine xY ?_;refine ay ?_;refine xG [0,1,2,3,4,18,19,20,21] ?_;refine xO ?_;refine xO ?_ (h:=by simp[g2];exact .mk);refine xH [0,1,2,3,4,18,19,20,21,22] ?_;refine ab (ag ?_);refine aB (fun f' σ o'=>∃(i j:Nat),j-i≤f'∧a≤i∧i≤j∧j≤m∧s9 (fun c => !eQ (nth l (p-c)) (nth l c)) f' i j=vg (fun c => !eQ (nth l (p-c)) (nth l c)) (a) (m)∧σ=slots [(0,.hdr 1 0 l.length),(1,.d (vI a)),(2,.d (vI m)),(3,.d (vI b)),(4,.fn (.func 85) [] []),(18,.d (vI mid)),(19,.d (vI N)),(20,.d (vI i)),(21,.d (vI j)),(22,.d (vI p))]∧o'=[o,aN.Obj.row 3 (l.map a6)]) (m-a) (Weak.kills [0,1,2,3,4,18,19,20,21,22] rfl) ⟨a,m,by omega,by omega,by omega,by omega,rfl,rfl,rfl⟩ ?_;rintro f' σ o' ⟨i,j,hf',M6,hij,hjb,hinv,rfl,rfl⟩ _;refine ab (xU ?_);refine aT ?_;refine xQ [0,1,2,3,4,18,19,20,21,22,151] ?_ ?_
 ·intro xN;have hlt:i<j:=by simp at xN;omega
  have e1:IntKind.i64.wrap ((i:Int)+(j:Int))=(i:Int)+(j:Int):=wrap64 (by omega) (by omega);have e2:IntKind.u64.wrap ((i:Int)+(j:Int))=(i:Int)+(j:Int):=w7 (by omega) (by omega);have e3:((i:Int)+(j:Int)).fdiv 2=((i:Int)+(j:Int))/2:=Int.fdiv_eq_ediv_of_nonneg _ (by omega);have e4:IntKind.i64.wrap (((i:Int)+(j:Int))/2)=((i:Int)+(j:Int))/2:=wrap64 (by omega) (by omega);have e5:IntKind.i64.wrap (((i:Int)+(j:Int))/2+1)=((i:Int)+(j:Int))/2+1:=wrap64 (by omega) (by omega);have t1:(((i:Int)+(j:Int))/2).toNat=(i+j)/2:=by omega
  have q1:0≤((i:Int)+(j:Int))/2∧((i:Int)+(j:Int))/2<(l.length:Int):=by omega
  have r1:(i+j)/2<l.length:=by omega
  obtain⟨f',rfl⟩:∃f'',f'=f''+1:=⟨f'-1,by omega⟩;have g5:IntKind.i64.wrap ((p:Int)-((i:Int)+(j:Int))/2)=(p:Int)-((i:Int)+(j:Int))/2:=wrap64 (by omega) (by omega);have t3:((p:Int)-((i:Int)+(j:Int))/2).toNat=p-(i+j)/2:=by omega
  have q3:0≤(p:Int)-((i:Int)+(j:Int))/2∧(p:Int)-((i:Int)+(j:Int))/2<(l.length:Int):=by omega
  have r3:p-(i+j)/2<l.length:=by omega
  have q4:((i:Int)+(j:Int))/2≤(p:Int):=by omega
  refine af fun _=>?_;refine ag (xU ?_);refine ay ?_;refine xO ?_ (h:=by simp[e1];exact .mk);refine xO ?_ (h:=by simp[fO];exact .mk);refine xO ?_;refine xO ?_ (h:=by simp[fO];exact .mk);refine xO ?_ (h:=by simp[e2,e3,e4,IntKind.bits];exact .mk);refine xF [0,1,2,3,4,18,19,20,21,22,23] ?_;refine ab ?_;refine aS (by kernel_rfl) [] 4 [0,1,2,3,4,5,6,7,8,9,10,11,12,13] (by decide +kernel) ?_;refine bx ?_;refine xO ?_ (h:=by simp[g5];exact .mk);refine xO ?_ (h:=by simp[a6,q3,t3,q4];exact .mk);refine xO ?_ (h:=by simp[-List.getElem?_map,ao r3,a6];exact .mk);refine ay ?_;refine xO ?_ (h:=by simp[a6,q1,t1];exact .mk);refine xO ?_ (h:=by simp[-List.getElem?_map,ao r1,a6];exact .mk);refine xC (BN g (nth l (p-(i+j)/2)) (nth l ((i+j)/2))) ?_;refine ay ?_;refine xQ [0,1,2,3,4,18,19,20,21,22,23,171] ?_ ?_
  ·intro xS;have hp:(fun c => !eQ (nth l (p-c)) (nth l c)) ((i+j)/2)=true:=by simp at xS;simp[eQ];omega
   refine xY ?_;refine xO ?_;refine xO ?_ (h:=by simp[e5];exact .mk);refine xO ?_;refine xE [0,1,2,3,4,18,19,20,21,22] ?_;refine ah [0,1,2,3,4,18,19,20,21,22] ?_;first
   | exact ae (m':=f') (by omega) ⟨(i+j)/2+1,j,by omega,by omega,by omega,by omega,by rw[←hinv,nH hlt hp],by simp[e5];try rfl,rfl⟩
   | exact ae (m':=f') (by omega) ⟨i,(i+j)/2,by omega,by omega,by omega,by omega,by rw[←hinv,nG hlt hp],by simp,rfl⟩
  intro xS;have hp:(fun c => !eQ (nth l (p-c)) (nth l c)) ((i+j)/2)=false:=by simp at xS;simp[eQ];omega
  refine xY ?_;refine ay ?_;refine xE [0,1,2,3,4,18,19,20,21,22] ?_;refine ah [0,1,2,3,4,18,19,20,21,22] ?_;first
  | exact ae (m':=f') (by omega) ⟨(i+j)/2+1,j,by omega,by omega,by omega,by omega,by rw[←hinv,nH hlt hp],by simp[e5];try rfl,rfl⟩
  | exact ae (m':=f') (by omega) ⟨i,(i+j)/2,by omega,by omega,by omega,by omega,by rw[←hinv,nG hlt hp],by simp,rfl⟩
 intro xN;have hij2:j≤i:=by simp at xN;omega
 have hbs:=hinv.symm.trans (nF hij2);obtain⟨en,hen⟩:∃en:Nat,en=N-i:=⟨_,rfl⟩;have g6:IntKind.i64.wrap ((N:Int)-(i:Int))=(en:Int):=by rw[wrap64 (by omega) (by omega)];omega
 have kM:=sT (lt:=eQ) (f:=f) (l:=l) k1 k2 hmid hN hp0 hs0 hr0 hbs hen;have MX:en≤b:=by omega
 refine aP (xT ?_);refine ay ?_;refine xO ?_ (h:=by simp[g6];exact .mk);refine xH [0,1,2,3,4,18,20,24] ?_;refine ab (xU ?_);refine bx ?_;iterate 3 refine xI ?_
 refine xP ?_;refine xQ [0,1,2,3,4,18,20,24,185] ?_ ?_
 ·intro xV;have hc1:i<m∧m<en:=by simp at xV;omega
  refine xY ?_;refine cW ?_;refine az rfl rfl rfl rfl (by simp;exact .mk) ⟨_,Tryz.func225,rfl,rfl⟩ (Fc g o l i m en (by omega) (by omega) (by omega) (by omega)) (.inl (by simp)) ?_;refine xF [0,1,3,4,18,20,24] ?_;refine ab (xU ?_);refine bx ?_;iterate 3 refine xI ?_
  refine xP ?_;refine xQ [0,1,3,4,18,20,24,199] ?_ ?_
  ·intro mZ;have hc2:a<i∧i<mid:=by simp at mZ;omega
   refine xY ?_;refine cW ?_;refine az rfl rfl rfl rfl (by simp;exact .mk) ⟨_,Tryz.func195,rfl,rfl⟩ (ih2 _ a i mid (by simp[lr,ls]) (by omega) (by omega) (by omega) (by omega)) (.inl (by simp)) ?_;refine xG [0,3,4,18,24] ?_;refine bx ?_;iterate 3 refine xI ?_
   refine xP ?_;refine xQ [0,3,4,18,24,213] ?_ ?_
   ·intro gi;have hc3:mid<en∧en<b:=by simp at gi;omega
    refine xY ?_;refine cW ?_;refine az rfl rfl rfl rfl (by simp;exact .mk) ⟨_,Tryz.func195,rfl,rfl⟩ (ih2 _ mid en b (by simp[lr,ls]) (by omega) (by omega) (by omega) (by omega)) (.inl (by simp)) ?_;refine xE [] ?_;refine al (by simp;exact .mk) ?_ ?_
    ·simp
    first|(simp[hr];done)|simp[kM,hc1,hc2,hc3]
   intro gi;have hc3:¬(mid<en∧en<b):=by simp at gi;omega
   refine af ?_;refine al (by simp;exact .mk) ?_ ?_
   ·simp
   first|(simp[hr];done)|simp[kM,hc1,hc2,hc3]
  intro mZ;have hc2:¬(a<i∧i<mid):=by simp at mZ;omega
  refine af ?_;refine xT ?_;refine bx ?_;iterate 3 refine xI ?_
  refine xP ?_;refine xQ [0,3,4,18,24,213] ?_ ?_
  ·intro gi;have hc3:mid<en∧en<b:=by simp at gi;omega
   refine xY ?_;refine cW ?_;refine az rfl rfl rfl rfl (by simp;exact .mk) ⟨_,Tryz.func195,rfl,rfl⟩ (ih2 _ mid en b (by simp[lr,ls]) (by omega) (by omega) (by omega) (by omega)) (.inl (by simp)) ?_;refine xE [] ?_;refine al (by simp;exact .mk) ?_ ?_
   ·simp
   first|(simp[hr];done)|simp[kM,hc1,hc2,hc3]
  intro gi;have hc3:¬(mid<en∧en<b):=by simp at gi;omega
  refine af ?_;refine al (by simp;exact .mk) ?_ ?_
  ·simp
  first|(simp[hr];done)|simp[kM,hc1,hc2,hc3]
 intro xV;have hc1:¬(i<m∧m<en):=by simp at xV;omega
 refine af fun _=>?_;refine ab (xU ?_);refine bx ?_;iterate 3 refine xI ?_
 refine xP ?_;refine xQ [0,1,3,4,18,20,24,199] ?_ ?_
 ·intro mZ;have hc2:a<i∧i<mid:=by simp at mZ;omega
  refine xY ?_;refine cW ?_;refine az rfl rfl rfl rfl (by simp;exact .mk) ⟨_,Tryz.func195,rfl,rfl⟩ (ih2 _ a i mid (by simp[lr,ls]) (by omega) (by omega) (by omega) (by omega)) (.inl (by simp)) ?_;refine xG [0,3,4,18,24] ?_;refine bx ?_;iterate 3 refine xI ?_
  refine xP ?_;refine xQ [0,3,4,18,24,213] ?_ ?_
  ·intro gi;have hc3:mid<en∧en<b:=by simp at gi;omega
   refine xY ?_;refine cW ?_;refine az rfl rfl rfl rfl (by simp;exact .mk) ⟨_,Tryz.func195,rfl,rfl⟩ (ih2 _ mid en b (by simp[lr,ls]) (by omega) (by omega) (by omega) (by omega)) (.inl (by simp)) ?_;refine xE [] ?_;refine al (by simp;exact .mk) ?_ ?_
   ·simp
   first|(simp[hr];done)|simp[kM,hc1,hc2,hc3]
  intro gi;have hc3:¬(mid<en∧en<b):=by simp at gi;omega
  refine af ?_;refine al (by simp;exact .mk) ?_ ?_
  ·simp
  first|(simp[hr];done)|simp[kM,hc1,hc2,hc3]
 intro mZ;have hc2:¬(a<i∧i<mid):=by simp at mZ;omega
 refine af ?_;refine xT ?_;refine bx ?_;iterate 3 refine xI ?_
 refine xP ?_;refine xQ [0,3,4,18,24,213] ?_ ?_
 ·intro gi;have hc3:mid<en∧en<b:=by simp at gi;omega
  refine xY ?_;refine cW ?_;refine az rfl rfl rfl rfl (by simp;exact .mk) ⟨_,Tryz.func195,rfl,rfl⟩ (ih2 _ mid en b (by simp[lr,ls]) (by omega) (by omega) (by omega) (by omega)) (.inl (by simp)) ?_;refine xE [] ?_;refine al (by simp;exact .mk) ?_ ?_
  ·simp
  first|(simp[hr];done)|simp[kM,hc1,hc2,hc3]
 intro gi;have hc3:¬(mid<en∧en<b):=by simp at gi;omega
 refine af ?_;refine al (by simp;exact .mk) ?_ ?_
 ·simp
 first|(simp[hr];done)|simp[kM,hc1,hc2,hc3]
open Go.aN
theorem Fa(g:Gl)(o:aN.Obj):∀(f:Nat) (l:List ik) (a m b:Nat),l.length≤2^40→a<m→m<b→b≤l.length→b-a≤f→∀B S,
    a7 Tryz.prog g B S ⟨[o,aN.Obj.row 3 (l.map a6)].length,true⟩ 195 [.hdr 1 0 l.length,.d (vI a),.d (vI m),.d (vI b),.fn (.func 85) [] []] [o,aN.Obj.row 3 (l.map a6)] (fun x r=>x = .bK []∧r=[o,aN.Obj.row 3 ((iX eQ f a m b l).map a6)]):=by
 intro f
 induction f with
 | zero=>intro l a m b _ h1 h2 _ h4;omega
 | succ f ih=>exact fun l a m b h1 h2 h3 h4 h5=>GR g o f ih l a m b h1 h2 h3 h4 h5
open Go.aN
section
variable {α:Type} [Inhabited α] (lt:α→α→Bool)
def my:Nat→Nat→List α→List α
 | 0,a,l=>lv lt a l.length l
 | f+1,a,l=>if a+20≤l.length then my f (a+20) (lv lt a (a+20) l)else lv lt a l.length l
def qm(a m b:Nat)(l:List α):List α:=iX lt (b-a) a m b l
def nZ(bs a:Nat)(l:List α):List α:=if a+bs<l.length then qm lt a (a+bs) l.length l else l
def gz(bs:Nat):Nat→Nat→List α→List α
 | 0,a,l=>nZ lt bs a l
 | f+1,a,l=>if a+2*bs≤l.length then gz bs f (a+2*bs) (qm lt a (a+bs) (a+2*bs) l)else nZ lt bs a l
def n8:Nat→Nat→List α→List α
 | 0,_,l=>l
 | f+1,bs,l=>if bs<l.length then n8 f (2*bs) (gz lt bs l.length 0 l)else l
def Ec(l:List α):List α:=n8 lt l.length 20 (my lt l.length 0 l)
variable {lt}
theorem mg(a b:Nat)(l:List α):(lv lt a b l).Perm l:=tM ..
theorem py(a m b:Nat)(l:List α):(qm lt a m b l).Perm l:=mu ..
theorem rK(bs a:Nat)(l:List α):(nZ lt bs a l).Perm l:=by
 unfold nZ;split
 ·exact py ..
 ·exact .refl _
theorem oJ:∀(f a:Nat) (l:List α),(my lt f a l).Perm l
 | 0,_,_=>mg ..
 | f+1,a,l=>by
  unfold my;split
  ·exact(oJ f _ _).trans (mg ..)
  ·exact mg ..
theorem nk(bs:Nat):∀(f a:Nat) (l:List α),(gz lt bs f a l).Perm l
 | 0,_,_=>rK ..
 | f+1,a,l=>by
  unfold gz;split
  ·exact(nk bs f _ _).trans (py ..)
  ·exact rK ..
theorem tR:∀(f bs:Nat) (l:List α),(n8 lt f bs l).Perm l
 | 0,_,_=>.refl _
 | f+1,bs,l=>by
  unfold n8;split
  ·exact(tR f _ _).trans (nk ..)
  ·exact .refl _
theorem iH(l:List α):(Ec lt l).Perm l:=(tR ..).trans (oJ ..)
theorem FM{f a:Nat}{l:List α}(h:a+20≤l.length):my lt (f+1) a l=my lt f (a+20) (lv lt a (a+20) l):=by
 conv=>lhs;unfold my
 rw[if_pos h]
theorem FL{f a:Nat}{l:List α}(h:l.length<a+20):my lt f a l=lv lt a l.length l:=by
 cases f with
 | zero=>rfl
 | succ f=>unfold my;rw[if_neg (by omega)]
theorem D4{bs f a:Nat}{l:List α}(h:a+2*bs≤l.length):gz lt bs (f+1) a l=gz lt bs f (a+2*bs) (qm lt a (a+bs) (a+2*bs) l):=by
 conv=>lhs;unfold gz
 rw[if_pos h]
theorem D3{bs f a:Nat}{l:List α}(h:l.length<a+2*bs):gz lt bs f a l=nZ lt bs a l:=by
 cases f with
 | zero=>rfl
 | succ f=>unfold gz;rw[if_neg (by omega)]
theorem Hc{f bs:Nat}{l:List α}(h:bs<l.length):n8 lt (f+1) bs l=n8 lt f (2*bs) (gz lt bs l.length 0 l):=by
 conv=>lhs;unfold n8
 rw[if_pos h]
theorem Hb{f bs:Nat}{l:List α}(h:l.length≤bs):n8 lt f bs l=l:=by
 cases f with
 | zero=>rfl
 | succ f=>unfold n8;rw[if_neg (by omega)]
end
theorem iV{α:Type}[Inhabited α]{lt:α→α→Bool}{l:List α}:(Ec lt l).length=l.length:=(iH l).length_eq
set_option maxHeartbeats 4000000
set_option maxRecDepth 4000
open Go.aN
attribute [simp] Tryz.f84 Tryz.f136
theorem Kw(g:Gl)(o:aN.Obj)(l:List ik)(hl:l.length≤2^40):∀B S,a7 Tryz.prog g B S ⟨[o,aN.Obj.row 3 (l.map a6)].length,true⟩ 136 [.hdr 1 0 l.length,.d (vI l.length),.fn (.func 85) [] []] [o,aN.Obj.row 3 (l.map a6)] (fun x r=>x = .bK []∧r=[o,aN.Obj.row 3 ((Ec eQ l).map a6)]):=by
 refine aL Tryz.func136 rfl (Nat.le_of_ble_eq_true rfl) fun B S=>?_
 refine xU ?_;refine xO ?_;refine xG [0,1,2,6] ?_;refine dC [0,1,2,6,7,8] ?_;refine ab (ag ?_);have li:∀a b (x:List ik),(lv eQ a b x).length=x.length:=fun _ _ x=>(mg _ _ x).length_eq
 have ls:∀a m b (x:List ik),(qm eQ a m b x).length=x.length:=fun _ _ _ x=>(py _ _ _ x).length_eq
 have lp:∀bs f a (x:List ik),(gz eQ bs f a x).length=x.length:=fun _ _ _ x=>(nk _ _ _ x).length_eq
 have lb:∀f a (x:List ik),(my eQ f a x).length=x.length:=fun _ _ x=>(oJ _ _ x).length_eq
 refine aB (fun f σ o'=>∃(a:Nat) (l':List ik),l'.length=l.length∧l.length-a≤f∧a≤l.length∧my eQ f a l'=my eQ l.length 0 l∧σ=slots [(0,.hdr 1 0 l'.length),(1,.d (vI l'.length)),(2,.fn (.func 85) [] []),(6,.d (vI 20)),(7,.d (vI a)),(8,.d (vI ((a:Int)+20)))]∧o'=[o,aN.Obj.row 3 (l'.map a6)]) l.length (Weak.kills [0,1,2,6,7,8] rfl) ⟨0,l,rfl,by omega,by omega,rfl,by simp,rfl⟩ ?_;rintro f σ o' ⟨a,l',hlen,hf,hal,hinv,rfl,rfl⟩ _;refine ab (xU ?_);refine aT ?_;refine xQ [0,1,2,6,7,8,13] ?_ ?_
 ·intro i7;have hn:a+20≤l'.length:=by simp at i7;omega
  obtain⟨f,rfl⟩:∃f',f=f'+1:=⟨f-1,by omega⟩;have e1:IntKind.i64.wrap ((a:Int)+20+20)=(a:Int)+20+20:=wrap64 (by omega) (by omega);refine af fun _=>?_;refine ag (xU ?_);refine bx ?_;refine az rfl rfl rfl rfl (by simp;exact .mk) ⟨_,Tryz.func194,rfl,rfl⟩ (E9 g o l' a (a+20) (by omega) (by omega) (by omega)) (.inl (by simp)) ?_;refine xG [0,1,2,6,8] ?_;refine bU [0,1,2,6,7,8] ?_;refine xY ?_;refine ay ?_;refine xO ?_ (h:=by simp[e1];exact .mk);refine xO ?_;refine xE [0,1,2,6,7,8] ?_;refine ah [0,1,2,6,7,8] ?_;exact ae (m':=f) (by omega) ⟨a+20,lv eQ a (a+20) l',by rw[li,hlen],by omega,by omega,by rw[←hinv,FM hn],by rw[li];simp;try rfl,rfl⟩
 intro i7;have hlt:l'.length<a+20:=by simp at i7;omega
 rw[FL hlt]at hinv;refine aP (xT ?_);refine bx ?_;refine az rfl rfl rfl rfl (by simp;exact .mk) ⟨_,Tryz.func194,rfl,rfl⟩ (E9 g o l' a l'.length (by omega) (by omega) (by omega)) (.inl (by simp)) ?_;refine xF [0,1,2,6] ?_;refine ag ?_;obtain⟨l1,hl1⟩:∃l1,l1=my eQ l.length 0 l:=⟨_,rfl⟩;rw[hinv,←hl1];have hlen1:l1.length=l.length:=by rw[hl1,lb]
 refine aB (fun f σ o'=>∃(bs:Nat) (l2:List ik),l2.length=l.length∧l.length-bs≤f∧20≤bs∧bs≤2^41∧n8 eQ f bs l2=n8 eQ l.length 20 l1∧σ=slots [(0,.hdr 1 0 l2.length),(1,.d (vI l2.length)),(2,.fn (.func 85) [] []),(6,.d (vI bs))]∧o'=[o,aN.Obj.row 3 (l2.map a6)]) l.length (Weak.kills [0,1,2,6] rfl) ⟨20,l1,hlen1,by omega,by omega,by omega,rfl,by rw[hlen1,←hlen];rfl,rfl⟩ ?_;rintro f2 σ o' ⟨bs,l2,ll,hf2,hbs,Pm,et,rfl,rfl⟩ _;refine ab (xU ?_);refine aT ?_;refine xQ [0,1,2,6,30] ?_ ?_
 ·intro fm;have hn2:bs<l2.length:=by simp at fm;omega
  obtain⟨f2,rfl⟩:∃f',f2=f'+1:=⟨f2-1,by omega⟩;rw[Hc hn2]at et;have e2:IntKind.i64.wrap (2*(bs:Int))=2*(bs:Int):=wrap64 (by omega) (by omega);refine af fun _=>?_;refine ag (xU ?_);refine xO ?_;refine xO ?_ (h:=by simp[e2];exact .mk);refine bU [0,1,2,6,7,8] ?_;refine ab (ag ?_);refine aB (fun f3 σ o'=>∃(a:Nat) (l3:List ik),l3.length=l.length∧l.length-a≤f3∧a≤l.length∧gz eQ bs f3 a l3=gz eQ bs l2.length 0 l2∧σ=slots [(0,.hdr 1 0 l3.length),(1,.d (vI l3.length)),(2,.fn (.func 85) [] []),(6,.d (vI bs)),(7,.d (vI a)),(8,.d (vI ((a:Int)+2*bs)))]∧o'=[o,aN.Obj.row 3 (l3.map a6)]) l2.length (Weak.kills [0,1,2,6,7,8] rfl) ⟨0,l2,ll,by omega,by omega,rfl,by simp,rfl⟩ ?_;rintro f3 σ o' ⟨a3,l3,hlen3,hf3,Pl,nR,rfl,rfl⟩ _;refine ab (xU ?_);refine aT ?_;refine xQ [0,1,2,6,7,8,35] ?_ ?_
  ·intro rt;have Kk:a3+2*bs≤l3.length:=by simp at rt;omega
   obtain⟨f3,rfl⟩:∃f',f3=f'+1:=⟨f3-1,by omega⟩;rw[D4 Kk]at nR;have e3:IntKind.i64.wrap ((a3:Int)+(bs:Int))=((a3+bs:Nat):Int):=by rw[wrap64 (by omega) (by omega)];omega
   have e4:(a3:Int)+2*(bs:Int)=((a3+2*bs:Nat):Int):=by omega
   have e5:IntKind.i64.wrap ((a3:Int)+2*(bs:Int)+2*(bs:Int))=(a3:Int)+2*(bs:Int)+2*(bs:Int):=wrap64 (by omega) (by omega);rw[e4];refine af fun _=>?_;refine ag (xU ?_);refine bx ?_;refine xO ?_ (h:=by simp[e3];exact .mk);refine ay ?_;refine az rfl rfl rfl rfl (by simp;exact .mk) ⟨_,Tryz.func195,rfl,rfl⟩ (Fa g o (a3+2*bs-a3) l3 a3 (a3+bs) (a3+2*bs) (by omega) (by omega) (by omega) (by omega) (by omega)) (.inl (by simp)) ?_;refine xG [0,1,2,6,8] ?_;refine bU [0,1,2,6,7,8] ?_;refine xY ?_;refine ay ?_;refine xO ?_ (h:=by simp[e2];exact .mk);refine xO ?_ (h:=by simp[e5];exact .mk);refine xO ?_;refine xE [0,1,2,6,7,8] ?_;refine ah [0,1,2,6,7,8] ?_;exact ae (m':=f3) (by omega) ⟨a3+2*bs,qm eQ a3 (a3+bs) (a3+2*bs) l3,by rw[ls,hlen3],by omega,by omega,nR,by simp[ls,e5];try rfl,by simp[qm]⟩
  intro rt;have Kk:l3.length<a3+2*bs:=by simp at rt;omega
  rw[D3 Kk]at nR;have e3:IntKind.i64.wrap ((a3:Int)+(bs:Int))=((a3+bs:Nat):Int):=by rw[wrap64 (by omega) (by omega)];omega
  have e6:IntKind.i64.wrap ((bs:Int)*2)=(bs:Int)*2:=wrap64 (by omega) (by omega);refine aP ?_;rintro -;refine ab (xU ?_);refine ay ?_;refine xO ?_ (h:=by simp[e3];exact .mk);refine xO ?_;refine xG [0,1,2,6,7,9] ?_;refine aT ?_;refine xQ [0,1,2,6,7,9,54] ?_ ?_
  ·intro MC;have M8:a3+bs<l3.length:=by simp at MC;omega
   have hl4:qm eQ a3 (a3+bs) l3.length l3=gz eQ bs l2.length 0 l2:=by rw[←nR,nZ,if_pos M8]
   refine xY ?_;refine cW ?_;refine az rfl rfl rfl rfl (by simp;exact .mk) ⟨_,Tryz.func195,rfl,rfl⟩ (Fa g o (l3.length-a3) l3 a3 (a3+bs) l3.length (by omega) (by omega) (by omega) (by omega) (by omega)) (.inl (by simp)) ?_;refine xF [0,1,2,6] ?_;refine xY ?_;refine xO ?_;refine xO ?_ (h:=by simp[e6];exact .mk);refine xO ?_;refine xE [0,1,2,6] ?_;refine ah [0,1,2,6] ?_;exact ae (m':=f2) (by omega) ⟨2*bs,gz eQ bs l2.length 0 l2,by rw[lp,ll],by omega,by omega,by omega,et,by simp[lp,ll,hlen3,e6,Int.mul_comm];try rfl,by simp[←hl4,qm]⟩
  intro MC;have M8:¬a3+bs<l3.length:=by simp at MC;omega
  have hl4:l3=gz eQ bs l2.length 0 l2:=by rw[←nR,nZ,if_neg M8]
  refine af fun _=>?_;refine xY ?_;refine xO ?_;refine xO ?_ (h:=by simp[e6];exact .mk);refine xO ?_;refine xE [0,1,2,6] ?_;refine ah [0,1,2,6] ?_;exact ae (m':=f2) (by omega) ⟨2*bs,gz eQ bs l2.length 0 l2,by rw[lp,ll],by omega,by omega,by omega,et,by simp[lp,ll,hlen3,e6,Int.mul_comm];try rfl,by simp[←hl4,qm]⟩
 intro fm;have hn2:l2.length≤bs:=by simp at fm;omega
 rw[Hb hn2,hl1]at et;refine aP (al (by simp;exact .mk) ?_ ?_)
 ·simp
 simp[et,Ec]
theorem Nl(g:Gl)(o:aN.Obj)(l:List ik)(hl:l.length≤2^40):∀B S,a7 Tryz.prog g B S ⟨[o,aN.Obj.row 3 (l.map a6)].length,true⟩ 84 [.hdr 1 0 l.length,.fn (.func 85) [] []] [o,aN.Obj.row 3 (l.map a6)] (fun x r=>x = .bK []∧r=[o,aN.Obj.row 3 ((Ec eQ l).map a6)]):=by
 refine aL Tryz.func84 rfl (Nat.le_of_ble_eq_true rfl) fun B S=>?_
 refine xY ?_;refine bx ?_;refine az rfl rfl rfl rfl (by simp;exact .mk) ⟨_,Tryz.func136,rfl,rfl⟩ (Kw g o l hl) (.inl (by simp)) ?_;refine xE [] ?_;refine al (by simp;exact .mk) ?_ ?_
 ·simp
 simp
open Go.aN
attribute [simp] Tryz.f83 Tryz.f120 Tryz.f135 Tryz.f201 Tryz.f209 Tryz.f236 Tryz.f237 Tryz.f248 Tryz.f249
theorem pH(g:Gl)(n:Int):a9 Tryz.prog g 201 [vI n] (.v (.bool (n.tmod 4==0))):=by
 refine xA Tryz.func201 fun B S=>?_
 refine xU ?_;refine xO ?_;refine xG [0] ?_;refine bx ?_;refine xF [2] ?_;refine xZ ?_;simp
theorem Ja(g:Gl)(n:Int)(h:0≤n∧n≤2^40):a9 Tryz.prog g 135 [vI n] (vI (C6 n)):=by
 refine xA Tryz.func135 fun B S=>?_
 have hd:0≤(n+4-1).tdiv 4∧(n+4-1).tdiv 4≤n+3:=⟨Int.tdiv_nonneg (by omega) (by omega),by rw[Int.tdiv_eq_ediv_of_nonneg (by omega)];omega⟩;have e1:IntKind.i64.wrap (n+4)=n+4:=wrap64 (by omega) (by omega);have e2:IntKind.i64.wrap (n+4-1)=n+4-1:=wrap64 (by omega) (by omega);have e3:IntKind.i64.wrap ((n+4-1).tdiv 4)=(n+4-1).tdiv 4:=wrap64 (by omega) (by omega);have e4:IntKind.i64.wrap ((n+4-1).tdiv 4*4)=(n+4-1).tdiv 4*4:=wrap64 (by omega) (by omega);refine xU ?_;refine xO ?_;refine xG [0] ?_;refine xO ?_;refine xO ?_ (h:=by simp[e1];exact .mk);refine xO ?_ (h:=by simp[e1,e2];exact .mk);refine xO ?_ (h:=by simp[e1,e2,e3];exact .mk);refine xO ?_ (h:=by simp[e1,e2,e3,e4];exact .mk);refine xH [2] ?_;refine xZ ?_;simp[C6]
theorem JU(g:Gl)(n:Int):a9 Tryz.prog g 83 [vI n] (.bK [vI (cK n).1,vI (cK n).2]):=by
 refine xA Tryz.func83 fun B S=>?_
 refine xU ?_;refine bU [0] ?_;refine ab (xU ?_);refine aT ?_;iterate 2 refine xI ?_
 refine xP ?_;refine xQ [0,9] ?_ ?_
 ·intro h9;have hr:cK n=(0,1):=by unfold cK;rw[if_pos (by simp at h9;omega)]
  refine xU ?_;refine bU [2,3] ?_;refine xZ ?_;simp[hr]
 intro h9;have hn:1≤n∧n≤2048:=by simp at h9;omega
 have hr:cK n=(C6 (2+(n+8-1).tdiv 8),0):=by unfold cK;rw[if_neg (by omega)]
 have hd:0≤(n+8-1).tdiv 8∧(n+8-1).tdiv 8≤n+7:=⟨Int.tdiv_nonneg (by omega) (by omega),by rw[Int.tdiv_eq_ediv_of_nonneg (by omega)];omega⟩;have e1:IntKind.i64.wrap (n+8)=n+8:=wrap64 (by omega) (by omega);have e2:IntKind.i64.wrap (n+8-1)=n+8-1:=wrap64 (by omega) (by omega);have e3:IntKind.i64.wrap ((n+8-1).tdiv 8)=(n+8-1).tdiv 8:=wrap64 (by omega) (by omega);have e4:IntKind.i64.wrap (2+(n+8-1).tdiv 8)=2+(n+8-1).tdiv 8:=wrap64 (by omega) (by omega);refine af ?_;refine xT ?_;refine xO ?_;refine xO ?_ (h:=by simp[e1];exact .mk);refine xO ?_ (h:=by simp[e1,e2];exact .mk);refine xO ?_ (h:=by simp[e1,e2,e3];exact .mk);refine xO ?_ (h:=by simp[e1,e2,e3,e4];exact .mk);refine xC (Ja g (2+(n+8-1).tdiv 8) (by omega)) ?_;refine bU [2,3] ?_;refine xZ ?_;simp[hr]
theorem zh(g:Gl):a9 Tryz.prog g 237 [] (.agg (aI.map vI)):=by
 refine xA Tryz.func237 fun B S=>?_
 refine xU ?_;refine xO ?_;refine xG [0] ?_;iterate 2 (refine aH ?_)
 refine xF [0] ?_;refine xZ ?_;simp[aI]
theorem EL(g:Gl):a9 Tryz.prog g 236 [] (vI 120):=by
 refine xA Tryz.func236 fun B S=>?_
 refine xU ?_;refine xO ?_;refine xG [] ?_;refine xC (zh g) ?_ (hi:=by simp[j4];exact .mk);refine xO ?_ (h:=by simp[kO,pW,Ty.agg,aI];exact .mk);refine bU [0] ?_;refine xZ ?_;simp;rfl
theorem EN(g:Gl)(c:Int):a9 Tryz.prog g 248 [vI c] (.bK [vI (if c<0∨6≤c then 0 else nth aI c.toNat),vI (if c<0∨6≤c then 1 else 0)]):=by
 refine xA Tryz.func248 fun B S=>?_
 refine xU ?_;refine bU [0] ?_;refine ab (xU ?_);refine aT ?_;iterate 2 refine xI ?_
 refine xP ?_;refine xQ [0,9] ?_ ?_
 ·intro h9;have hr:c<0∨6≤c:=by simp at h9;omega
  refine xU ?_;refine bU [2,3] ?_;refine xZ ?_;simp[hr]
 intro h9;have hr:¬(c<0∨6≤c):=by simp at h9;omega
 obtain⟨k,rfl⟩:∃k:Nat,c=k:=⟨c.toNat,by omega⟩;have hk:k<aI.length:=by show k<6;omega
 have Pr:(k:Int)<6:=by omega
 refine af ?_;refine xT ?_;refine xC (zh g) ?_ (hi:=by simp[j4];exact .mk);refine xO ?_;refine xO ?_ (h:=by simp[kO,pW,Ty.agg, -List.getElem?_map,ao hk,Pr];exact .mk);refine bU [2,3] ?_;refine xZ ?_;simp[hr]
theorem ED(g:Gl)(n:Int):a9 Tryz.prog g 209 [vI n] (.bK [vI (bw n).1,vI (bw n).2]):=by
 refine xA Tryz.func209 fun B S=>?_
 refine xU ?_;refine bU [0] ?_;refine ab (xU ?_);refine xO ?_;refine xC (EL g) ?_;refine ay ?_;iterate 2 refine xI ?_
 refine xP ?_;refine xQ [0,10] ?_ ?_
 ·intro h10;have hr:bw n=(0,1):=by unfold bw;rw[if_pos (by simp at h10;omega)]
  refine xU ?_;refine bU [2,3] ?_;refine xZ ?_;simp[hr]
 intro h10;have hn:120<n∧n≤2048:=by simp at h10;omega
 have hr:bw n=((n+256-1).tdiv 256,0):=by unfold bw;rw[if_neg (by omega)]
 have hd:0≤(n+256-1).tdiv 256∧(n+256-1).tdiv 256≤n+255:=⟨Int.tdiv_nonneg (by omega) (by omega),by rw[Int.tdiv_eq_ediv_of_nonneg (by omega)];omega⟩;have e1:IntKind.i64.wrap (n+256)=n+256:=wrap64 (by omega) (by omega);have e2:IntKind.i64.wrap (n+256-1)=n+256-1:=wrap64 (by omega) (by omega);have e3:IntKind.i64.wrap ((n+256-1).tdiv 256)=(n+256-1).tdiv 256:=wrap64 (by omega) (by omega);refine af ?_;refine xT ?_;refine xO ?_;refine xO ?_ (h:=by simp[e1];exact .mk);refine xO ?_ (h:=by simp[e1,e2];exact .mk);refine xO ?_ (h:=by simp[e1,e2,e3];exact .mk);refine bU [2,3] ?_;refine xZ ?_;simp[hr]
theorem BM(g:Gl)(n:Int)(h:0≤n∧n≤2^40):a9 Tryz.prog g 249 [vI n] (vI (if n=0 then 1 else (n-1).tdiv 7+1)):=by
 refine xA Tryz.func249 fun B S=>?_
 have hd:(n-1).tdiv 7≤n:=by
  rcases Int.lt_or_le n 1 with q|q
  ·obtain rfl:n=0:=by omega
   decide
  rw[Int.tdiv_eq_ediv_of_nonneg (by omega)];omega
 have hd2 : -1≤(n-1).tdiv 7:=by
  rcases Int.lt_or_le n 1 with q|q
  ·obtain rfl:n=0:=by omega
   decide
  rw[Int.tdiv_eq_ediv_of_nonneg (by omega)];omega
 have e1:IntKind.i64.wrap (n-1)=n-1:=wrap64 (by omega) (by omega);have e2:IntKind.i64.wrap ((n-1).tdiv 7)=(n-1).tdiv 7:=wrap64 (by omega) (by omega);have e3:IntKind.i64.wrap ((n-1).tdiv 7+1)=(n-1).tdiv 7+1:=wrap64 (by omega) (by omega);refine xU ?_;refine xH [0] ?_;refine ab (xU ?_);refine ay ?_;refine xQ [0,4] ?_ ?_
 ·intro h4;refine xU ?_;refine xH [2] ?_;refine xZ ?_;first|(simp;done)|(simp at *;simp[*])
 intro h4;refine af ?_;refine xT ?_;refine xO ?_;refine xO ?_ (h:=by simp[e1];exact .mk);refine xO ?_ (h:=by simp[e1,e2];exact .mk);refine xO ?_ (h:=by simp[e1,e2,e3];exact .mk);refine xH [2] ?_;refine xZ ?_;first|(simp;done)|(simp at *;simp[*])
theorem BA(g:Gl)(n:Int):a9 Tryz.prog g 120 [vI n] (.bK [Fk (if eO n then List.replicate n.toNat zY else []),vI (if eO n then 0 else 1)]):=by
 refine xA Tryz.func120 fun B S=>?_
 refine xU ?_;refine bU [0] ?_;refine ab (xU ?_);refine aT ?_;iterate 2 refine xI ?_
 refine xP ?_;refine xB ?_;iterate 3 refine xI ?_
 refine xP ?_;refine xQ [0,14] ?_ ?_
 ·intro fe;have hr:eO n=false:=by simp[eO]at *;grind
  refine xU ?_;refine bU [2,3] ?_;refine xZ ?_;simp[hr,ai,aA,zY]
 intro fe;have hr:eO n=true:=by simp[eO]at *;grind
 have hn:2≤n∧n≤32:=by simp[eO]at hr;omega
 refine af fun _=>?_;refine ab ?_;have e1:0≤n:=by omega
 have e2:32*n≤140737488355328:=by omega
 have e3:n≤140737488355328:=by omega
 refine xY ?_;refine xO ?_;refine xO ?_ (h:=by simp[e1,e2,e3];exact .mk);refine bU [2,3] ?_;refine xZ ?_;simp[hr,ai,aA,zY]
open Go.aN
attribute [simp] Tryz.f207 Tryz.f247
theorem EC(g:Gl)(n:Int):a9 Tryz.prog g 207 [vI n] (.bK [vI (bB n).1,.v (.bool (bB n).2)]):=by
 refine xA Tryz.func207 fun B S=>?_
 refine xU ?_;refine bU [0] ?_;refine ab (xU ?_);refine aT ?_;refine xI ?_;refine bI rfl (by simp;exact .mk) rfl rfl (by simp) (by simp;exact .mk) (by simp;exact .mk) (fun hb=>EL g) (by simp) (by simp[j4];exact .mk) (by simp) ?_;refine xI ?_;refine xP ?_;refine xQ [0,12] ?_ ?_
 ·intro h12;have hr:bB n=(0,false):=by unfold bB;rw[if_pos (by simp at h12;omega)]
  refine xU ?_;refine bU [2,3] ?_;refine xZ ?_;simp[hr]
 intro h12;have hn:1≤n∧n≤120:=by simp at h12;omega
 have hr0:∀x,aI.findIdx? (fun w=>decide (n≤w*8))=x→bB n=(match x with|some i=>((i:Int),true)|none=>(0,false)):=by intro x hx;unfold bB;rw[if_neg (by omega),hx]<;>(cases x<;>rfl)
 refine af fun _=>?_;refine ab (xU ?_);refine xC (zh g) ?_ (hi:=by simp[j4];exact .mk);refine xH [0,13,14] ?_;refine ag (aB (fun m σ o=>∃i:Nat,m=6-i∧i≤6∧(∀j,j<i→decide (n≤nth aI j*8)=false)∧σ=slots [(0,.d (vI n)),(13,.agg (aI.map fun n=>.d (vI n))),(14,.d (vI i))]∧o=[]) 6 .refl ⟨0,by simp,by simp,by simp,rfl,rfl⟩ ?_);rintro m σ o ⟨i,rfl,hi,hinv,rfl,rfl⟩ _;refine xU ?_;refine xH [0,13,14,15] ?_;refine ab (bd rfl ?_ ?_)
 ·intro jY;have hi2:i<aI.length:=by simp at jY;show i<6;omega
  have Pn:(i:Int)<6:=by simpa using jY
  have hw:2≤nth aI i∧nth aI i≤15:=by
   have:i=0∨i=1∨i=2∨i=3∨i=4∨i=5:=by omega
   rcases this with rfl|rfl|rfl|rfl|rfl|rfl<;>decide
  have e1:IntKind.i64.wrap (nth aI i*8)=nth aI i*8:=wrap64 (by omega) (by omega);refine af fun _=>?_;refine ab (ag ?_);refine xU ?_;refine xO ?_;refine xO ?_ (h:=by simp[kO,pW,Ty.agg, -List.getElem?_map,ao hi2,Pn];exact .mk);refine ay ?_;refine xG [0,4,5,13,14] ?_;refine ay ?_;refine xO ?_ (h:=by simp[e1];exact .mk);refine xO ?_;refine xQ [0,4,13,14,21] ?_ ?_
  ·intro h21
   have hr:bB n=((i:Int),true):=by
    refine hr0 (some i) ?_;rw[List.findIdx?_eq_some_iff_getElem];refine⟨hi2,by rw[←bC hi2];exact h21,fun j hj=>?_⟩;have:=hinv j hj;rw[bC (by omega)]at this;simpa using this
   refine xU ?_;refine dC [2,3] ?_;refine xZ ?_;simp[hr]
  intro h21;refine af fun _=>?_;refine xY ?_;refine ay ?_;refine xE [0,13,14] ?_;refine ah [0,13,14] ?_;refine ae (m':=6-(i+1)) (by omega) ⟨i+1,rfl,by omega,?_,?_,rfl⟩
  ·intro j hj;rcases Nat.lt_succ_iff_lt_or_eq.1 hj with hj|rfl
   ·exact hinv j hj
   exact h21
  rw[wrap64 (by omega) (by omega)];rfl
 intro jY;exfalso;have:=hinv 5 (by simp at jY;omega);have h5:nth aI 5=15:=rfl;rw[h5]at this;simp at this;omega
theorem JL(g:Gl)(c off:Int)(h : -2^40≤off∧off≤2^40):a9 Tryz.prog g 247 [vI c,vI off] (.bK [vI (cy c off).1,.v (.bool (cy c off).2)]):=by
 refine xA Tryz.func247 fun B S=>?_
 refine xU ?_;refine ay ?_;refine xG [0,1] ?_;refine xO ?_;refine xC (EN g c) ?_;refine cW ?_;refine xF [1,6,7] ?_;refine ab (xU ?_);refine aT ?_;iterate 2 refine xI ?_
 refine xP ?_;refine xQ [1,6,19] ?_ ?_
 ·intro h19;have hr:cy c off=(0,false):=by unfold cy;rw[if_pos (by by_cases q:c<0∨6≤c<;>simp[q]at h19<;>omega)]
  refine xU ?_;refine bU [4,5] ?_;refine xZ ?_;simp[hr]
 intro h19;have hc:¬(c<0∨6≤c)∧4≤off:=by by_cases q:c<0∨6≤c<;>simp[q]at h19<;>omega
 obtain⟨hc1,hc2⟩:=hc;obtain⟨k,rfl⟩:∃k:Nat,c=k:=⟨c.toNat,by omega⟩
 have hw:2≤nth aI k∧nth aI k≤15:=by
  have:k=0∨k=1∨k=2∨k=3∨k=4∨k=5:=by omega
  rcases this with rfl|rfl|rfl|rfl|rfl|rfl<;>decide
 have hw0:nth aI k≠0:=by omega
 simp only[hc1,if_false,Int.toNat_natCast];have e1:IntKind.i64.wrap (off-4)=off-4:=wrap64 (by omega) (by omega);have b1:0≤(off-4).tdiv (nth aI k)∧(off-4).tdiv (nth aI k)≤off-4:=by rw[Int.tdiv_eq_ediv_of_nonneg (by omega)];exact⟨Int.ediv_nonneg (by omega) (by omega),Int.ediv_le_self _ (by omega)⟩
 have b2:0≤(28:Int).tdiv (nth aI k)∧(28:Int).tdiv (nth aI k)≤28:=by rw[Int.tdiv_eq_ediv_of_nonneg (by omega)];exact⟨Int.ediv_nonneg (by omega) (by omega),Int.ediv_le_self _ (by omega)⟩
 have e2:IntKind.i64.wrap ((off-4).tdiv (nth aI k))=(off-4).tdiv (nth aI k):=wrap64 (by omega) (by omega);have e3:IntKind.i64.wrap ((28:Int).tdiv (nth aI k))=(28:Int).tdiv (nth aI k):=wrap64 (by omega) (by omega);have hr0:cy k off=if (off-4).tmod (nth aI k)≠0∨(28:Int).tdiv (nth aI k)≤(off-4).tdiv (nth aI k)then (0,false)else ((off-4).tdiv (nth aI k),true):=by unfold cy;rw[if_neg (by omega),Int.toNat_natCast]
 refine af ?_;refine xT ?_;refine xO ?_;refine xO ?_ (h:=by simp[e1];exact .mk);refine xH [6,8] ?_;refine ab (ab ?_);refine aS (by kernel_rfl) [] 4 [0,1,2,3,4,5,6,7,8,9,10,11] (by decide +kernel) ?_;refine ay ?_;refine xO ?_ (h:=by simp[hw0];exact .mk);refine ay ?_;iterate 2 refine xI ?_
 refine xI ?_ (h:=fun hb=>by simp[hw0,e2];exact .mk);refine xI ?_;refine xI ?_ (h:=fun hb=>by simp[hw0,e3];exact .mk);refine xI ?_;refine xP ?_;refine xQ [6,8,33] ?_ ?_
 ·intro ta;have hr:cy k off=(0,false):=by rw[hr0,if_pos (by simpa using ta)]
  refine xU ?_;refine bU [4,5] ?_;refine xZ ?_;simp[hr]
 intro ta;have hr:cy k off=((off-4).tdiv (nth aI k),true):=by rw[hr0,if_neg (by simpa using ta)]
 refine af ?_;refine xT ?_;refine ay ?_;refine xO ?_ (h:=by simp[hw0,e2];exact .mk);refine bU [4,5] ?_;refine xZ ?_;simp[hr]
open Go.aN
theorem JG(g:Gl)(pages:Int)(o:Int×Int)(hp:0≤pages∧pages≤64)(ho:o.1≤2^40):a9 Tryz.prog g 232 [vI pages,aE o] (.bK [iz (aM pages o).1,.v (.bool (aM pages o).2)]):=by
 refine xA Tryz.func232 fun B S=>?_
 obtain⟨at_,len⟩:=o;simp only[aE,List.map,aO,cC];refine xU ?_;refine dC [0,3,4] ?_;refine ab (xU ?_);refine aT ?_;refine xQ [0,3,4,10] ?_ ?_
 ·intro h10;have hr:aM pages (at_,len)=(⟨0,0,false,0,0⟩,false):=by unfold aM;rw[if_pos (by simpa using h10)]
  refine xU ?_;refine xO ?_;refine aH ?_;refine xH [4,5] ?_;refine ar (aG (by simp[Tryz.f232];exact .mk) (by simp;exact .mk) ?_ (by simp[hr]));simp[Tryz.f232,iz,hr]<;>(try refine⟨‹_›,?_⟩)<;>first|assumption|rfl
 intro h10;have h0:0≤at_:=by simpa using h10
 have h00:at_≤2^40:=ho;have d1:0≤at_.tdiv 32:=Int.tdiv_nonneg h0 (by omega);have d3:at_.tdiv 32≤at_:=by rw[Int.tdiv_eq_ediv_of_nonneg h0];omega
 have d2:0≤at_.tmod 32∧at_.tmod 32<32:=by rw[Int.tmod_eq_emod_of_nonneg h0];omega
 have e1:IntKind.i64.wrap (at_.tdiv 32)=at_.tdiv 32:=wrap64 (by omega) (by omega);have e2:IntKind.i64.wrap (at_.tmod 32)=at_.tmod 32:=wrap64 (by omega) (by omega);have e3:IntKind.i64.wrap (pages-at_.tdiv 32)=pages-at_.tdiv 32:=wrap64 (by omega) (by omega);refine af ?_;refine xT ?_;refine ay ?_;refine xO ?_ (h:=by simp[e1];exact .mk);refine xO ?_;refine aH ?_;refine xO ?_;refine aH ?_;refine xG [0,3,4] ?_;refine ay ?_;refine xC (EC g len) ?_;refine bx ?_;refine aH ?_;refine xO ?_;refine aH ?_;refine xF [0,3,4] ?_;refine ab (xU ?_);refine ay ?_;refine xQ [0,3,4,26] ?_ ?_
 ·intro i8;have hr:aM pages (at_,len)=(⟨at_.tdiv 32,1,true,(bB len).1,(cy (bB len).1 (at_.tmod 32)).1⟩,(cy (bB len).1 (at_.tmod 32)).2&&decide (at_.tdiv 32<pages)):=by unfold aM;rw[if_neg (by simpa using h10),if_pos i8]
  refine xU ?_;refine bx ?_;refine xO ?_ (h:=by simp[e2];exact .mk);refine xC (JL g _ (at_.tmod 32) (by omega)) ?_;refine bx ?_;refine aH ?_;refine xO ?_;refine xG [0,4,5] ?_;refine aT ?_;iterate 4 refine xI ?_
  refine xP ?_;refine bM rfl rfl rfl (by simp<;>first|omega|grind) (by simp[splice];exact .mk) ?_;refine xB ?_;refine xF [4,5] ?_;refine ar (aG (by simp[Tryz.f232];exact .mk) (by simp;exact .mk) ?_ (by simp[hr]));simp[Tryz.f232,iz,hr]<;>(try refine⟨‹_›,?_⟩)<;>first|assumption|rfl
 intro i8;have hr:aM pages (at_,len)=(⟨at_.tdiv 32,(bw len).1,false,(bB len).1,0⟩,decide ((bw len).2=0)&&decide (at_.tmod 32=0)&&decide (at_.tdiv 32<pages)&&decide ((bw len).1≤pages-at_.tdiv 32)):=by unfold aM;rw[if_neg (by simpa using h10),if_neg (by simp[i8])]
 refine af ?_;refine xT ?_;refine ay ?_;refine xC (ED g len) ?_;refine cW ?_;refine xG [0,3,4,6,7] ?_;refine ay ?_;refine aH ?_;refine xG [0,3,4,6,7] ?_;refine bx ?_;iterate 2 refine xI ?_
 refine xI ?_ (h:=fun hb=>by simp[e2];exact .mk);refine xI ?_;refine xP ?_;refine xB ?_;iterate 4 refine xI ?_
 refine xP ?_;refine xB ?_;iterate 4 refine xI ?_
 refine xI ?_ (h:=fun hb=>by simp[e3];exact .mk);refine xI ?_;refine xP ?_;refine bM rfl rfl rfl (by simp<;>first|omega|grind) (by simp[splice];exact .mk) ?_;refine xB ?_;refine xF [4,5] ?_;refine ar (aG (by simp[Tryz.f232];exact .mk) (by simp;exact .mk) ?_ (by simp[hr]));simp[Tryz.f232,iz,hr]<;>(try refine⟨‹_›,?_⟩)<;>first|assumption|rfl
open Go.aN
def dV(s:Slot):Bool:=s.live && !s.two
def fy(l:List Slot)(i:Nat):List Nat:=(List.range i).filter fun j=>dV (nth l j)
theorem og{l:List Slot}{i:Nat}(h:dV (nth l i)=true):fy l (i+1)=fy l i++[i]:=by simp[fy,List.range_succ,List.filter_append,h]
theorem oe{l:List Slot}{i:Nat}(h:dV (nth l i)=false):fy l (i+1)=fy l i:=by simp[fy,List.range_succ,List.filter_append,h]
theorem pe{l:List Slot}{i:Nat}:(fy l i).length≤i:=by
 have:=List.length_filter_le (fun j=>dV (nth l j)) (List.range i);simpa [fy]using this
def gv(l:List Slot)(j:Nat):ik:=⟨(nth l j).at_,(cK (nth l j).len).1,j⟩
def fi(l:List Slot):List ik:=(fy l l.length).map (gv l)
def ca(l:List Slot):List ik:=Ec eQ (fi l)
theorem AH{l:List Slot}:(fi l).length≤l.length:=by simpa [fi]using pe
theorem mm{l:List Slot}:(ca l).length≤l.length:=by rw[ca,iV];exact AH
open Go.aN
abbrev vU(m:Nat):D:=.v (.int .u64 m)
def cU(m:Nat):AV:=.d (vU m)
theorem u9{n:Nat}(h:n<2^64):IntKind.u64.wrap (n:Int)=(n:Int):=by
 simp only[IntKind.wrap,IntKind.signed,IntKind.bits];simp;omega
theorem NM{c:Nat}(h:c<64):IntKind.u64.wrap (1*2^(min (c:Int).toNat 64))=((2^c:Nat):Int):=by
 rw[Int.toNat_natCast,Nat.min_eq_left (by omega),Int.one_mul,show ((2:Int)^c)=((2^c:Nat):Int) by simp];exact u9 (Nat.pow_lt_pow_right (by omega) h)
theorem uy{α β:Type}[Inhabited α]{l:List α}{f:α→β}{p:Nat}(h:p<l.length):(l.map f).drop p=f (nth l p)::(l.map f).drop (p+1):=by
 rw[List.drop_eq_getElem_cons (by simpa using h),List.getElem_map,bC h]
theorem yQ{α β:Type}{l:List α}{f:α→β}{p:Nat}{x:β}{y:α}(h:p<l.length):Go.splice (x::l.map f) (p+1) [f y]=x::(l.set p y).map f:=by
 simp only[Go.splice,List.length_singleton,List.take_succ_cons,List.drop_succ_cons,List.cons_append];congr 1;rw[List.map_set,List.set_eq_take_append_cons_drop,if_pos (by simpa using h)];simp
theorem mD{α β:Type}[Inhabited α]{l:List α}{f:α→β}{p:Nat}(h:p<l.length)(x:β):(x::l.map f).drop (1+p)=f (nth l p)::(l.map f).drop (p+1):=by
 rw[Nat.add_comm,List.drop_succ_cons];exact uy h
theorem yP{α β:Type}{l:List α}{f:α→β}{p:Nat}(h:p<l.length)(x:β)(y:α):Go.splice (x::l.map f) (1+p) [f y]=x::(l.set p y).map f:=by
 rw[Nat.add_comm];exact yQ h
@[simp] theorem G7(m:Nat)(l:List Nat):AV.wa m (l.map cU)=true:=by
 induction l with
 | nil=>rfl
 | cons a l ih=>simp[AV.wa,AV.lt,cU,ih]
@[simp] theorem G8(m:Nat)(l:List Nat)(p x:Nat):AV.wa m ((l.map cU).set p (cU x))=true:=by rw[←List.map_set];exact G7 _ _
theorem NL{c bit:Nat}(h:c<64)(hb:bit=2^c):AZ .shl .u64 1 (c:Int)=some (.int .u64 (bit:Int)):=by
 unfold AZ;rw[if_neg (by omega),hb];exact congrArg (fun x=>some (Value.int .u64 x)) (NM h)
theorem ID{a b:Nat}(ha:a<2^64)(hb:b<2^64):IntKind.u64.wrap ((a%2^IntKind.u64.bits &&& b%2^IntKind.u64.bits:Nat):Int)=((a &&& b:Nat):Int):=by
 rw[show 2^IntKind.u64.bits=2^64 from rfl,Nat.mod_eq_of_lt ha,Nat.mod_eq_of_lt hb];exact u9 (Nat.lt_of_le_of_lt Nat.and_le_left ha)
theorem PB{a b:Nat}(ha:a<2^64)(hb:b<2^64):IntKind.u64.wrap ((a%2^IntKind.u64.bits ||| b%2^IntKind.u64.bits:Nat):Int)=((a ||| b:Nat):Int):=by
 rw[show 2^IntKind.u64.bits=2^64 from rfl,Nat.mod_eq_of_lt ha,Nat.mod_eq_of_lt hb];exact u9 (Nat.or_lt_two_pow ha hb)
def ed(p:Nat):Nat→Nat→List Int→Bool×List Int
 | 0,_,l=>(true,l)
 | f+1,j,l=>if nth l (p+j) = -1 then ed p f (j+1) (l.set (p+j) 7)else (false,l)
def gm(ks:List Int)(ms:List Nat)(p k:Nat)(small:Bool)(cls:Int)(c:Nat):Bool×List Int×List Nat:=
 if small=true then
  if nth ks p=cls∧nth ms p &&& 2^c=0 then (true,ks,ms.set p (nth ms p ||| 2^c))
  else if nth ks p = -1 then (true,ks.set p cls,ms.set p (2^c))
  else (false,ks,ms)
 else if (ed p k 0 ks).1=true then (true,(ed p k 0 ks).2.set p 6,ms)else (false,(ed p k 0 ks).2,ms)
theorem Ch{ks:List Int}{ms:List Nat}{p k:Nat}{small:Bool}{cls:Int}{c bit:Nat}(h:bit=2^c):gm ks ms p k small cls c=if small=true then
    if nth ks p=cls∧nth ms p &&& bit=0 then (true,ks,ms.set p (nth ms p ||| bit))
    else if nth ks p = -1 then (true,ks.set p cls,ms.set p bit)
    else (false,ks,ms)
 else if (ed p k 0 ks).1=true then (true,(ed p k 0 ks).2.set p 6,ms)else (false,(ed p k 0 ks).2,ms):=by subst h;rfl
theorem qt{p f j:Nat}{l:List Int}(h:nth l (p+j) = -1):ed p (f+1) j l=ed p f (j+1) (l.set (p+j) 7):=by
 conv=>lhs;unfold ed
 rw[if_pos h]
theorem uz{p f j:Nat}{l:List Int}(h:nth l (p+j) ≠ -1):ed p (f+1) j l=(false,l):=by
 conv=>lhs;unfold ed
 rw[if_neg h]
theorem mc{p:Nat}:∀ {f j:Nat} {l:List Int},(ed p f j l).2.length=l.length
 | 0,_,_=>rfl
 | f+1,j,l=>by
  unfold ed;split
  ·rw[mc];simp
  ·rfl
open Go.aN
theorem KM(g:Gl)(o0 o1 o4 o5 o6 o7 o8 o9 LI:aN.Obj)(ks:List Int)(n:Nat)(hn:ks.length=n)(ms:List Nat)(p k:Nat)(small:Bool)(kd:Int)(c:Nat)(h1:ms.length=64)(h2:ks.length≤64)(h3:p<ks.length)(h4:p+k≤ks.length)(h5:c<64)(h6:nth ms p<2^64)(z0:o0.lt 11=true)(z1:o1.lt 11=true)(z4:o4.lt 11=true)(z5:o5.lt 11=true)(z6:o6.lt 11=true)(z7:o7.lt 11=true)(z8:o8.lt 11=true)(z9:o9.lt 11=true)(dL:LI.lt 11=true) :
    ∀B S,a7 Tryz.prog g B S ⟨11,true⟩ 200 [.ptr 3 0 0,.agg [.d (vI p),.d (vI k),.d (vT small),.d (vI kd),.d (vI c)]] [o0,o1,.row 1 (ks.map vI),.var 163 (AV.hdr 2 0 n::ms.map cU),o4,o5,o6,o7,o8,o9,LI]
    (fun x r=>x = .d (vT (gm ks ms p k small kd c).1)∧r=[o0,o1,.row 1 ((gm ks ms p k small kd c).2.1.map vI),.var 163 (AV.hdr 2 0 n::(gm ks ms p k small kd c).2.2.map cU),o4,o5,o6,o7,o8,o9,LI]):=by
 refine aL Tryz.func200 rfl (Nat.le_of_ble_eq_true rfl) fun B S=>?_
 subst hn;obtain⟨bit,hbit⟩:∃bit:Nat,bit=2^c:=⟨_,rfl⟩;have b1:=NL h5 hbit;have b2:bit<2^64:=by rw[hbit];exact Nat.pow_lt_pow_right (by omega) h5
 have b3:=ID h6 b2;have b4:=PB h6 b2;have hl:=Ch (ks:=ks) (ms:=ms) (p:=p) (k:=k) (small:=small) (cls:=kd) hbit;have r1:p<ms.length:=by omega
 have q1:(p:Int)<64:=by omega
 have d1:=mD (f:=cU) r1;have d2:∀(x:AV) (m:Nat),Go.splice (x::ms.map cU) (1+p) [AV.d (vU m)]=x::(ms.set p m).map cU:=fun x m=>yP (f:=cU) r1 x m
 have q2:1+p+1≤ms.length+1:=by omega
 refine xU ?_;iterate 2 (refine xO ?_ (h:=by simp[z0,z1,z4,z5,z6,z7,z8,z9,dL,d1];exact .mk))
 refine xG [0,3] ?_;iterate 2 (refine xO ?_ (h:=by simp[z0,z1,z4,z5,z6,z7,z8,z9,dL,d1];exact .mk))
 refine xO ?_ (h:=by simp[z0,z1,z4,z5,z6,z7,z8,z9,dL,d1,b1];exact .mk);refine xO ?_ (h:=by simp[z0,z1,z4,z5,z6,z7,z8,z9,dL,d1];exact .mk);refine xF [0,3,5] ?_;refine ab (ag ?_);refine ab ?_;refine aS (by kernel_rfl) [] 4 [0,1,2,3,4,5,6,7,8,9,10,11,12,13,14,15,16,17,18,19,20,21,22,23,24,25,26,27] (by decide +kernel) ?_;iterate 3 (refine xO ?_ (h:=by simp[z0,z1,z4,z5,z6,z7,z8,z9,dL,d1];exact .mk))
 iterate 6 (refine bg rfl (by simp[z0,z1,z4,z5,z6,z7,z8,z9,dL,d1];exact .mk) rfl (by simp<;>first|omega|grind) (fun hb=>by simp[z0,z1,z4,z5,z6,z7,z8,z9,dL,d1];exact .mk) ?_)
 refine bg rfl (by simp[z0,z1,z4,z5,z6,z7,z8,z9,dL,d1];exact .mk) rfl (by simp<;>first|omega|grind) (fun hb=>by simp[z0,z1,z4,z5,z6,z7,z8,z9,dL,d1,h3];exact .mk) ?_;refine bg rfl (by simp[z0,z1,z4,z5,z6,z7,z8,z9,dL,d1];exact .mk) rfl (by simp<;>first|omega|grind) (fun hb=>by simp[-List.getElem?_map,ao h3];exact .mk) ?_;iterate 3 (refine bg rfl (by simp[z0,z1,z4,z5,z6,z7,z8,z9,dL,d1];exact .mk) rfl (by simp<;>first|omega|grind) (fun hb=>by simp[z0,z1,z4,z5,z6,z7,z8,z9,dL,d1];exact .mk) ?_)
 refine fB rfl (by simp[z0,z1,z4,z5,z6,z7,z8,z9,dL,d1];exact .mk) rfl rfl (by simp) (by simp[z0,z1,z4,z5,z6,z7,z8,z9,dL,d1];exact .mk) (by simp[z0,z1,z4,z5,z6,z7,z8,z9,dL,d1];exact .mk) (by simp;exact .mk) ?_;refine bM rfl rfl rfl (by simp<;>first|omega|grind) (by simp[z0,z1,z4,z5,z6,z7,z8,z9,dL,d1];exact .mk) ?_;iterate 5 (refine bg rfl (by simp[z0,z1,z4,z5,z6,z7,z8,z9,dL,d1];exact .mk) rfl (by simp<;>first|omega|grind) (fun hb=>by simp[z0,z1,z4,z5,z6,z7,z8,z9,dL,d1];exact .mk) ?_)
 refine bg rfl (by simp[z0,z1,z4,z5,z6,z7,z8,z9,dL,d1];exact .mk) rfl (by simp<;>first|omega|grind) (fun hb=>by simp[z0,z1,z4,z5,z6,z7,z8,z9,dL,d1,cL,q1];exact .mk) ?_;refine bg rfl (by simp[z0,z1,z4,z5,z6,z7,z8,z9,dL,d1];exact .mk) rfl (by simp<;>first|omega|grind) (fun hb=>by simp[z0,z1,z4,z5,z6,z7,z8,z9,dL,d1,cU];exact .mk) ?_;refine bg rfl (by simp[z0,z1,z4,z5,z6,z7,z8,z9,dL,d1];exact .mk) rfl (by simp<;>first|omega|grind) (fun hb=>by simp[z0,z1,z4,z5,z6,z7,z8,z9,dL,d1];exact .mk) ?_;refine bg rfl (by simp[z0,z1,z4,z5,z6,z7,z8,z9,dL,d1];exact .mk) rfl (by simp<;>first|omega|grind) (fun hb=>by simp[z0,z1,z4,z5,z6,z7,z8,z9,dL,d1,b3];exact .mk) ?_;refine bg rfl (by simp[z0,z1,z4,z5,z6,z7,z8,z9,dL,d1];exact .mk) rfl (by simp<;>first|omega|grind) (fun hb=>by simp[z0,z1,z4,z5,z6,z7,z8,z9,dL,d1];exact .mk) ?_;refine fB rfl (by simp[z0,z1,z4,z5,z6,z7,z8,z9,dL,d1];exact .mk) rfl rfl (by simp) (by simp[z0,z1,z4,z5,z6,z7,z8,z9,dL,d1];exact .mk) (by simp[z0,z1,z4,z5,z6,z7,z8,z9,dL,d1];exact .mk) (by simp;exact .mk) ?_;refine bM rfl rfl rfl (by simp<;>first|omega|grind) (by simp[z0,z1,z4,z5,z6,z7,z8,z9,dL,d1];exact .mk) ?_;refine xQ [0,3,5,10] ?_ ?_
 ·intro h10;have hc:small=true∧nth ks p=kd∧nth ms p &&& bit=0:=by simp at h10;grind
  rw[if_pos hc.1,if_pos hc.2]at hl;refine ab ?_;refine aS (by kernel_rfl) [] 4 [0,1,2,3,4,5,6,7,8,9,10,11,12] (by decide +kernel) ?_;iterate 5 (refine xO ?_ (h:=by simp[z0,z1,z4,z5,z6,z7,z8,z9,dL,d1];exact .mk))
  refine xO ?_ (h:=by simp[z0,z1,z4,z5,z6,z7,z8,z9,dL,d1,cL,q1];exact .mk);refine xO ?_ (h:=by simp[z0,z1,z4,z5,z6,z7,z8,z9,dL,d1,cU];exact .mk);refine xO ?_ (h:=by simp[z0,z1,z4,z5,z6,z7,z8,z9,dL,d1];exact .mk);refine xO ?_ (h:=by simp[z0,z1,z4,z5,z6,z7,z8,z9,dL,d1,b4];exact .mk);iterate 2 (refine xO ?_ (h:=by simp[z0,z1,z4,z5,z6,z7,z8,z9,dL,d1];exact .mk))
  refine xO ?_ (h:=by simp[z0,z1,z4,z5,z6,z7,z8,z9,dL,d1,cL,q1];exact .mk);refine xO ?_ (h:=by simp[d2,q2];exact .mk);refine xG [] ?_;refine xO ?_ (h:=by simp[z0,z1,z4,z5,z6,z7,z8,z9,dL,d1];exact .mk);refine xF [4] ?_;refine ar (aK 11 (by simp[z0,z1,z4,z5,z6,z7,z8,z9,dL,d1,Tryz.f200];exact .mk) ?_ ?_ (by simp) (by simp[z0,z1,z4,z5,z6,z7,z8,z9,dL,d1]) (by simp[z0,z1,z4,z5,z6,z7,z8,z9,dL,d1]))
  ·simp[hl]
  simp[hl,br,dn]
 intro h10;refine ab ?_;refine aS (by kernel_rfl) [] 4 [0,1,2,3,4,5,6,7,8,9,10,11,12,13] (by decide +kernel) ?_;iterate 3 (refine xO ?_ (h:=by simp[z0,z1,z4,z5,z6,z7,z8,z9,dL,d1];exact .mk))
 iterate 6 (refine bg rfl (by simp[z0,z1,z4,z5,z6,z7,z8,z9,dL,d1];exact .mk) rfl (by simp<;>first|omega|grind) (fun hb=>by simp[z0,z1,z4,z5,z6,z7,z8,z9,dL,d1];exact .mk) ?_)
 refine bg rfl (by simp[z0,z1,z4,z5,z6,z7,z8,z9,dL,d1];exact .mk) rfl (by simp<;>first|omega|grind) (fun hb=>by simp[z0,z1,z4,z5,z6,z7,z8,z9,dL,d1,h3];exact .mk) ?_;refine bg rfl (by simp[z0,z1,z4,z5,z6,z7,z8,z9,dL,d1];exact .mk) rfl (by simp<;>first|omega|grind) (fun hb=>by simp[-List.getElem?_map,ao h3];exact .mk) ?_;refine bg rfl (by simp[z0,z1,z4,z5,z6,z7,z8,z9,dL,d1];exact .mk) rfl (by simp<;>first|omega|grind) (fun hb=>by simp[z0,z1,z4,z5,z6,z7,z8,z9,dL,d1];exact .mk) ?_;refine fB rfl (by simp[z0,z1,z4,z5,z6,z7,z8,z9,dL,d1];exact .mk) rfl rfl (by simp) (by simp[z0,z1,z4,z5,z6,z7,z8,z9,dL,d1];exact .mk) (by simp[z0,z1,z4,z5,z6,z7,z8,z9,dL,d1];exact .mk) (by simp;exact .mk) ?_;refine bM rfl rfl rfl (by simp<;>first|omega|grind) (by simp[z0,z1,z4,z5,z6,z7,z8,z9,dL,d1];exact .mk) ?_;refine xQ [0,3,5,50] ?_ ?_
 ·intro h50;have hc2:small=true∧nth ks p = -1:=by simp at h50;grind
  have hc3:¬(nth ks p=kd∧nth ms p &&& bit=0):=by simp[hc2]at h10;grind
  rw[if_pos hc2.1,if_neg hc3,if_pos hc2.2]at hl;refine ab ?_;refine cN (hard:=[]) 8 13 (aR (by decide)) (by kernel_rfl) 4 [0,1,2,3,4,5,6,7,8,9,10,11,12,14,15,13,16,17] [0,1,2,3,4,5,6,7,9,10,11,12,14,15,13,8,16,17] (by decide +kernel) (by decide +kernel) ?_ ?_
  ·skip
   iterate 12 (refine xO ?_ (h:=by simp[z0,z1,z4,z5,z6,z7,z8,z9,dL,d1];exact .mk))
   refine xO ?_ (h:=by simp[z0,z1,z4,z5,z6,z7,z8,z9,dL,d1,h3];exact .mk);iterate 2 (refine xO ?_ (h:=by simp[z0,z1,z4,z5,z6,z7,z8,z9,dL,d1];exact .mk))
   refine xO ?_ (h:=by simp[z0,z1,z4,z5,z6,z7,z8,z9,dL,d1,splice,h3,bJ,br,dn, -List.map_set];exact .mk);refine xO ?_ (h:=by simp[z0,z1,z4,z5,z6,z7,z8,z9,dL,d1,cL,q1];exact .mk);refine xO ?_ (h:=by simp[d2,q2];exact .mk);refine xG [] ?_;refine xO ?_ (h:=by simp[z0,z1,z4,z5,z6,z7,z8,z9,dL,d1];exact .mk);refine xF [4] ?_;refine ar (aK 11 (by simp[z0,z1,z4,z5,z6,z7,z8,z9,dL,d1,Tryz.f200];exact .mk) ?_ ?_ (by simp) (by simp[z0,z1,z4,z5,z6,z7,z8,z9,dL,d1]) (by simp[z0,z1,z4,z5,z6,z7,z8,z9,dL,d1]))
   ·simp[hl]
   simp[hl,br,dn]
  skip
  iterate 11 (refine xO ?_ (h:=by simp[z0,z1,z4,z5,z6,z7,z8,z9,dL,d1];exact .mk))
  refine xO ?_ (h:=by simp[z0,z1,z4,z5,z6,z7,z8,z9,dL,d1,h3];exact .mk);iterate 2 (refine xO ?_ (h:=by simp[z0,z1,z4,z5,z6,z7,z8,z9,dL,d1];exact .mk))
  refine xO ?_ (h:=by simp[z0,z1,z4,z5,z6,z7,z8,z9,dL,d1,splice,h3,bJ,br,dn, -List.map_set];exact .mk);refine xO ?_ (h:=by simp[z0,z1,z4,z5,z6,z7,z8,z9,dL,d1];exact .mk);refine xO ?_ (h:=by simp[z0,z1,z4,z5,z6,z7,z8,z9,dL,d1,cL,q1];exact .mk);refine xO ?_ (h:=by simp[d2,q2];exact .mk);refine xG [] ?_;refine xO ?_ (h:=by simp[z0,z1,z4,z5,z6,z7,z8,z9,dL,d1];exact .mk);refine xF [4] ?_;refine ar (aK 11 (by simp[z0,z1,z4,z5,z6,z7,z8,z9,dL,d1,Tryz.f200];exact .mk) ?_ ?_ (by simp) (by simp[z0,z1,z4,z5,z6,z7,z8,z9,dL,d1]) (by simp[z0,z1,z4,z5,z6,z7,z8,z9,dL,d1]))
  ·simp[hl]
  simp[hl,br,dn]
 intro h50;refine xU ?_;iterate 3 (refine xO ?_ (h:=by simp[z0,z1,z4,z5,z6,z7,z8,z9,dL,d1];exact .mk))
 refine xQ [0,3,80] ?_ ?_
 ·intro h80;have hc2:small=true:=h80;have hc3:¬(nth ks p=kd∧nth ms p &&& bit=0):=by simp[hc2]at h10;grind
  have hc4:¬nth ks p = -1:=by simp[hc2]at h50;grind
  rw[if_pos hc2,if_neg hc3,if_neg hc4]at hl;refine xU ?_;refine xO ?_ (h:=by simp[z0,z1,z4,z5,z6,z7,z8,z9,dL,d1];exact .mk);refine xF [4] ?_;refine ar (aK 11 (by simp[z0,z1,z4,z5,z6,z7,z8,z9,dL,d1,Tryz.f200];exact .mk) ?_ ?_ (by simp) (by simp[z0,z1,z4,z5,z6,z7,z8,z9,dL,d1]) (by simp[z0,z1,z4,z5,z6,z7,z8,z9,dL,d1]))
  ·simp[hl]
  simp[hl,br,dn]
 intro h80;have hc2:¬small=true:=by simp[h80]
 rw[if_neg hc2]at hl;refine af fun _=>?_;refine ab (xU ?_);iterate 3 (refine xO ?_ (h:=by simp[z0,z1,z4,z5,z6,z7,z8,z9,dL,d1];exact .mk))
 refine xF [0,3,84,85] ?_;refine ag (aB (fun f σ o'=>∃(j:Nat) (l:List Int),f=k-j∧j≤k∧l.length=ks.length∧ed p f j l=ed p k 0 ks∧σ=slots [(0,.ptr 3 0 0),(3,.ptr 11 0 0),(84,.d (vI k)),(85,.d (vI j))]∧o'=[o0,o1,.row 1 (l.map vI),.var 163 (AV.hdr 2 0 ks.length::ms.map cU),o4,o5,o6,o7,o8,o9,LI,.var 205 [.d (vI p),.d (vI k),.d (vT small),.d (vI kd),.d (vI c)]]) k .refl ⟨0,ks,by simp,by simp,rfl,rfl,rfl,rfl⟩ ?_);rintro f σ o' ⟨j,l,rfl,hj,hlen,hinv,rfl,rfl⟩ _;refine xU ?_;refine xO ?_ (h:=by simp[z0,z1,z4,z5,z6,z7,z8,z9,dL,d1];exact .mk);refine xF [0,3,84,85,86] ?_;refine ab (bd rfl ?_ ?_)
 ·intro MM;have hj2:j<k:=by simpa using MM
  have e1:IntKind.i64.wrap ((p:Int)+(j:Int))=((p+j:Nat):Int):=by rw[wrap64 (by omega) (by omega)];omega
  have r3:p+j<l.length:=by omega
  have q3:0≤(p:Int)+(j:Int)∧(p:Int)+(j:Int)<(ks.length:Int):=by omega
  have t3:((p:Int)+(j:Int)).toNat=p+j:=by omega
  rw[show k-j=k-(j+1)+1 by omega]at hinv;refine af fun _=>?_;refine ab (ag ?_);refine xU ?_;iterate 2 (refine xO ?_ (h:=by simp[z0,z1,z4,z5,z6,z7,z8,z9,dL,d1];exact .mk))
  refine xF [0,3,6,84,85] ?_;refine ab (ab ?_);refine aS (by kernel_rfl) [] 4 [0,1,2,3,4,5,6,7,8,9,10] (by decide +kernel) ?_;iterate 7 (refine xO ?_ (h:=by simp[z0,z1,z4,z5,z6,z7,z8,z9,dL,d1];exact .mk))
  refine xO ?_ (h:=by simp[z0,z1,z4,z5,z6,z7,z8,z9,dL,d1,e1];exact .mk);refine xO ?_ (h:=by simp[z0,z1,z4,z5,z6,z7,z8,z9,dL,d1,q3,t3];exact .mk);refine xO ?_ (h:=by simp[-List.getElem?_map,ao r3];exact .mk);refine xO ?_ (h:=by simp[z0,z1,z4,z5,z6,z7,z8,z9,dL,d1];exact .mk);refine xQ [0,3,6,84,85,98] ?_ ?_
  ·intro MO;rw[uz (by simpa using MO)]at hinv;rw[←hinv]at hl;refine xU ?_;refine xO ?_ (h:=by simp[z0,z1,z4,z5,z6,z7,z8,z9,dL,d1];exact .mk);refine xF [4] ?_;refine ar (aK 11 (by simp[z0,z1,z4,z5,z6,z7,z8,z9,dL,d1,Tryz.f200];exact .mk) ?_ ?_ (by simp) (by simp[z0,z1,z4,z5,z6,z7,z8,z9,dL,d1]) (by simp[z0,z1,z4,z5,z6,z7,z8,z9,dL,d1]))
   ·simp[hl]
   simp[hl,br,dn]
  intro MO;rw[qt (by simpa using MO)]at hinv;refine af fun _=>?_;refine aS (by kernel_rfl) [] 4 [0,1,2,3,4,5,6,7,8,9] (by decide +kernel) ?_;iterate 7 (refine xO ?_ (h:=by simp[z0,z1,z4,z5,z6,z7,z8,z9,dL,d1];exact .mk))
  refine xO ?_ (h:=by simp[z0,z1,z4,z5,z6,z7,z8,z9,dL,d1,e1];exact .mk);refine xO ?_ (h:=by simp[z0,z1,z4,z5,z6,z7,z8,z9,dL,d1,q3,t3];exact .mk);refine xO ?_ (h:=by simp[z0,z1,z4,z5,z6,z7,z8,z9,dL,d1,splice,r3,bJ,br,dn, -List.map_set];exact .mk);refine xF [0,3,84,85] ?_;refine xY ?_;iterate 2 (refine xO ?_ (h:=by simp[z0,z1,z4,z5,z6,z7,z8,z9,dL,d1];exact .mk))
  refine xE [0,3,84,85] ?_;refine ah [0,3,84,85] ?_;exact ae (m':=k-(j+1)) (by omega) ⟨j+1,l.set (p+j) 7,rfl,by omega,by simpa using hlen,hinv,by rw[wrap64 (by omega) (by omega)];rfl,by simp[br,dn]⟩
 intro MM;obtain rfl:j=k:=by simp at MM;omega
 rw[Nat.sub_self]at hinv;rw[←hinv]at hl;have r4:p<l.length:=by omega
 simp only[ed,if_true]at hl;refine aP ?_;rintro -;refine ab ?_;refine aS (by kernel_rfl) [] 4 [0,1,2,3,4,5,6,7] (by decide +kernel) ?_;iterate 6 (refine xO ?_ (h:=by simp[z0,z1,z4,z5,z6,z7,z8,z9,dL,d1];exact .mk))
 refine xO ?_ (h:=by simp[z0,z1,z4,z5,z6,z7,z8,z9,dL,d1,h3];exact .mk);refine xO ?_ (h:=by simp[z0,z1,z4,z5,z6,z7,z8,z9,dL,d1,splice,r4,bJ,br,dn, -List.map_set];exact .mk);refine xG [] ?_;refine xO ?_ (h:=by simp[z0,z1,z4,z5,z6,z7,z8,z9,dL,d1];exact .mk);refine xF [4] ?_;refine ar (aK 11 (by simp[z0,z1,z4,z5,z6,z7,z8,z9,dL,d1,Tryz.f200];exact .mk) ?_ ?_ (by simp) (by simp[z0,z1,z4,z5,z6,z7,z8,z9,dL,d1]) (by simp[z0,z1,z4,z5,z6,z7,z8,z9,dL,d1]))
 ·simp[hl]
 simp[hl,br,dn]
open Go.aN
attribute [simp] Tryz.f28
theorem JM(g:Gl)(s:bF)(hs:s.Ok):a9 Tryz.prog g 28 [cr s] (On (ca s.slots)):=by
 refine xA Tryz.func28 fun B S=>?_
 simp only[cr,List.map,aO];have q0:=hs.h1;refine xU ?_;refine ay ?_;refine xG [1] ?_;refine xH [1,3] ?_;refine ab (xU ?_);refine xO ?_;refine cq ?_;refine bU [3,9,10,11] ?_;refine ag ?_
 refine aB (fun m σ o=>∃i:Nat,m=s.slots.length-i∧i≤s.slots.length∧σ=slots [(3,.hdr 1 0 (fy s.slots i).length),(9,.d (eG s.slots)),(10,.d (vI s.slots.length)),(11,.d (vI i))]∧o=[.var 28 [.d (vI s.sh.pages),.d (vI s.sh.slots),.d (vI s.sh.roots),.d (vI s.sh.room),.d (vI s.mode),.d (vI s.base),.d (eG s.slots),.d (rR s.roots),.d (fL s.data)],.row 3 ((fy s.slots i).map fun j=>a6 (gv s.slots j))]) s.slots.length
  (Weak.trans (Weak.dJ 3 3 rfl) (Weak.kills [3,9,10,11] rfl) (fun _ _ _ h1 h2=>by rw[←h1.len];exact h2)) ⟨0,by simp,by simp,by simp[fy],by simp[fy]⟩ ?_
 rintro m σ o ⟨i,rfl,hi,rfl,rfl⟩ _;have hle:=pe (l:=s.slots) (i:=i);refine xU ?_;refine xH [3,9,10,11,12] ?_;refine ab (bd rfl ?_ ?_)
 ·intro h12;have hi2:i<s.slots.length:=by simpa using h12
  refine af fun _=>?_;refine ab (ag ?_);refine xU ?_;refine xO ?_;refine xO ?_ (h:=by simp[aA, *];exact .mk);refine cq ?_;refine ay ?_;refine aH ?_;refine xG [3,4,5,9,10,11] ?_;refine xO ?_;refine cq ?_;refine xO ?_;refine xI ?_;refine xI ?_ (h:=fun hb=>by simp[aA];exact .mk);refine xI ?_;refine xP ?_;refine xQ [3,4,5,9,10,11,22] ?_ ?_
  ·intro h22;have h2:dV (nth s.slots i)=true:=by simpa [dV]using h22
   have e1:((fy s.slots i).length+1)*24≤140737488355328:=by omega
   have e2:(fy s.slots i).length≤140737488355327:=by omega
   refine xU ?_;refine xO ?_;refine cq ?_;refine xC (JU g _) ?_;refine cW ?_;refine xF [3,4,5,6,9,10,11] ?_;refine xY ?_;refine ay ?_;refine cq ?_;refine ay ?_;refine aH ?_;refine xO ?_;refine xO ?_ (h:=by simp[rows,e1,e2];exact .mk);refine xH [3,9,10,11] ?_;refine xY ?_;refine ay ?_;refine xE [3,9,10,11] ?_;refine ah [3,9,10,11] ?_;first
   | (refine aq 2 [3,9,10,11] (by decide) (by rfl) (by rfl) ?_
      refine ae (m' := s.slots.length - (i+1)) (by omega) ⟨i+1, rfl, by omega, ?_, ?_⟩
      · rw [wrap64 (by omega) (by omega), oe h2]; rfl
      rw [oe h2]; rfl)
   | (refine aD [3,9,10,11] rfl ?_
      refine aC 1 4 1 (by decide) (by simp) (by decide) rfl rfl ?_
      refine aq 2 [3,9,10,11] (by decide) (by rfl) (by rfl) ?_
      refine ae (m' := s.slots.length - (i+1)) (by omega) ⟨i+1, rfl, by omega, ?_, ?_⟩
      · rw [wrap64 (by omega) (by omega), og h2]; simp; try rfl
      rw [og h2]; simp [a6, gv]; try rfl)
  intro h22;have h2:dV (nth s.slots i)=false:=by simpa [dV]using h22
  refine af fun _=>?_;refine xY ?_;refine ay ?_;refine xE [3,9,10,11] ?_;refine ah [3,9,10,11] ?_;first
  | (refine aq 2 [3,9,10,11] (by decide) (by rfl) (by rfl) ?_
     refine ae (m' := s.slots.length - (i+1)) (by omega) ⟨i+1, rfl, by omega, ?_, ?_⟩
     · rw [wrap64 (by omega) (by omega), oe h2]; rfl
     rw [oe h2]; rfl)
  | (refine aD [3,9,10,11] rfl ?_
     refine aC 1 4 1 (by decide) (by simp) (by decide) rfl rfl ?_
     refine aq 2 [3,9,10,11] (by decide) (by rfl) (by rfl) ?_
     refine ae (m' := s.slots.length - (i+1)) (by omega) ⟨i+1, rfl, by omega, ?_, ?_⟩
     · rw [wrap64 (by omega) (by omega), og h2]; simp; try rfl
     rw [og h2]; simp [a6, gv]; try rfl)
 intro h12;obtain rfl:i=s.slots.length:=by simp at h12;omega
 obtain⟨L,hL⟩:∃L,L=fi s.slots:=⟨_,rfl⟩;have hm:(fy s.slots s.slots.length).map (fun j=>a6 (gv s.slots j))=L.map a6:=by rw[hL,fi,List.map_map];rfl
 have hm2:(fy s.slots s.slots.length).length=L.length:=by rw[hL,fi,List.length_map]
 rw[hm,hm2];refine aP (xT ?_);refine xO ?_;refine az rfl rfl rfl rfl (by simp;exact .mk) ⟨_,Tryz.func84,rfl,rfl⟩ (Nl g _ L (by omega)) (.inl (by simp)) ?_;refine xE [3] ?_;have Ph:L.length=(Ec eQ L).length:=iV.symm;rw[Ph];refine xT ?_;refine bU [2] ?_;refine xZ ?_;simp[ai,ca,hL];try rfl
open Go.aN
def lA(pages:Int)(st:List Int×List Nat)(o:Int×Int):Bool×List Int×List Nat:=
 if (aM pages o).2=true then gm st.1 st.2 (aM pages o).1.page.toNat (aM pages o).1.count.toNat (aM pages o).1.small (aM pages o).1.cls (aM pages o).1.cell.toNat else (false,st)
def ei(pages:Int)(l:List (Int×Int)):Nat→List Int×List Nat
 | 0=>(List.replicate pages.toNat (-1),List.replicate 64 0)
 | i+1=>(lA pages (ei pages l i) (nth l i)).2
def lu(pages:Int)(l:List (Int×Int))(i:Nat):Bool:=(lA pages (ei pages l i) (nth l i)).1
def cR(pages:Int)(l:List (Int×Int)):Option (List Int×List Nat):=
 if decide (0≤pages∧pages≤64)&&(List.range l.length).all (lu pages l)then some (ei pages l l.length)else none
theorem Ci{ks:List Int}{ms:List Nat}{p k:Nat}{small:Bool}{kd:Int}{c:Nat}:(gm ks ms p k small kd c).2.1.length=ks.length∧(gm ks ms p k small kd c).2.2.length=ms.length:=by
 unfold gm
 repeat' split
 all_goals simp[mc]
theorem Cg{pages:Int}{st:List Int×List Nat}{o:Int×Int}:(lA pages st o).2.1.length=st.1.length∧(lA pages st o).2.2.length=st.2.length:=by
 unfold lA;split
 ·exact Ci
 ·exact⟨rfl,rfl⟩
theorem ek{pages:Int}{l:List (Int×Int)}:∀ {i:Nat},(ei pages l i).1.length=pages.toNat∧(ei pages l i).2.length=64
 | 0=>by simp[ei]
 | i+1=>by
  have:=ek (pages:=pages) (l:=l) (i:=i);have h:=Cg (pages:=pages) (st:=ei pages l i) (o:=nth l i);exact⟨h.1.trans this.1,h.2.trans this.2⟩
theorem Bh{c off:Int}(h:(cy c off).2=true)(ho:off≤32):0≤(cy c off).1∧(cy c off).1≤28:=by
 unfold cy at h ⊢;split
 ·rename_i h1;rw[if_pos h1]at h;simp at h
 ·rename_i h1;rw[if_neg h1]at h
  have hk:2≤nth aI c.toNat∧nth aI c.toNat≤15:=by
   have:c.toNat=0∨c.toNat=1∨c.toNat=2∨c.toNat=3∨c.toNat=4∨c.toNat=5:=by omega
   rcases this with h|h|h|h|h|h<;>rw[h]<;>decide
  split
  ·rename_i h2;rw[if_pos h2]at h;simp at h
  ·simp only;rw[Int.tdiv_eq_ediv_of_nonneg (by omega)];exact⟨Int.ediv_nonneg (by omega) (by omega),Int.le_trans (Int.ediv_le_self _ (by omega)) (by omega)⟩
theorem uZ{pages:Int}{o:Int×Int}(h:(aM pages o).2=true):∃(p k c:Nat),(aM pages o).1=⟨p,k,(aM pages o).1.small,(aM pages o).1.cls,c⟩∧(p:Int)<pages∧1≤k∧(p:Int)+k≤pages∧c<64:=by
 unfold aM at h ⊢;split
 ·rename_i h1;rw[if_pos h1]at h;simp at h
 ·rename_i h1;rw[if_neg h1]at h;have hp:0≤o.1.tdiv 32:=Int.tdiv_nonneg (by omega) (by omega);split
  ·rename_i h2;rw[if_pos h2]at h;simp only[Bool.and_eq_true,decide_eq_true_eq]at h;have:=Bh h.1 (by rw[Int.tmod_eq_emod_of_nonneg (by omega)];omega);refine⟨(o.1.tdiv 32).toNat,1,(cy (bB o.2).1 (o.1.tmod 32)).1.toNat,?_,by omega,by omega,by omega,by omega⟩;simp only[nB.mk.injEq,and_true,true_and];omega
  ·rename_i h2;rw[if_neg h2]at h;simp only[Bool.and_eq_true,decide_eq_true_eq]at h;obtain⟨⟨⟨q1,q2⟩,q3⟩,q4⟩:=h
   have hk:1≤(bw o.2).1:=by
    unfold bw at q1 ⊢;split
    ·rename_i h3;rw[if_pos h3]at q1;simp at q1
    ·simp only;rw[Int.tdiv_eq_ediv_of_nonneg (by omega)];omega
   refine⟨(o.1.tdiv 32).toNat,(bw o.2).1.toNat,0,?_,by omega,by omega,by omega,by omega⟩;simp only[nB.mk.injEq,and_true,true_and];omega
theorem DY{ks:List Int}{ms:List Nat}{p k:Nat}{small:Bool}{kd:Int}{c:Nat}(hc:c<64)(h:∀i,i<ms.length→nth ms i<2^64):∀i,i<ms.length→nth (gm ks ms p k small kd c).2.2 i<2^64:=by
 have h2:2^c<2^64:=Nat.pow_lt_pow_right (by omega) hc
 have key:∀x:Nat,(p<ms.length→x<2^64)→∀i,i<ms.length→nth (ms.set p x) i<2^64:=by
  intro x hx i hi;by_cases e:p=i
  ·subst e;rw[bC (by simpa using hi)];simpa using hx hi
  ·rw[bC (by simpa using hi),List.getElem_set_ne e,←bC hi];exact h i hi
 unfold gm
 repeat' split
 ·exact key _ fun hp=>Nat.or_lt_two_pow (h p hp) h2
 ·exact key _ fun _=>h2
 all_goals exact h
theorem u1{pages:Int}{l:List (Int×Int)}:∀ {i:Nat},∀j,j<64→nth (ei pages l i).2 j<2^64
 | 0=>fun j hj=>by
  show nth (List.replicate 64 0) j<2^64
  rw[bC (by rw[List.length_replicate];exact hj),List.getElem_replicate];omega
 | i+1=>fun j hj=>by
  simp only[ei,lA];split
  ·rename_i h;obtain⟨p,k,c,e,_,_,_,hc⟩:=uZ h;rw[e];exact DY (by simpa using hc) (by rw[ek.2];exact fun j hj=>u1 j hj) j (by rw[ek.2];exact hj)
  ·exact u1 j hj
theorem D7{α:Type}{a b:α}{i n:Nat}(h:i<n):(List.replicate i a++List.replicate (n-i) b).set i a=List.replicate (i+1) a++List.replicate (n-(i+1)) b:=by
 rw[List.set_append_right _ _ (by simp),show n-i=n-(i+1)+1 by omega,List.replicate_succ];simp[List.replicate_succ']
def jz(n i:Nat):List Int:=List.replicate i (-1)++List.replicate (n-i) 0
theorem tB{n i:Nat}(h:i≤n):(jz n i).length=n:=by simp[jz];omega
theorem zk{n:Nat}:jz n 0=List.replicate n 0:=by simp[jz]
theorem zl{n:Nat}:jz n n=List.replicate n (-1):=by simp[jz]
theorem tC{n i:Nat}(h:i<n):((jz n i).map vI).set i (vI (-1))=(jz n (i+1)).map vI:=by
 rw[←List.map_set];exact congrArg _ (D7 h)
open Go.aN
theorem KQ(g:Gl)(pages:Int)(l:List (Int×Int))(hp:0≤pages∧pages≤64)(hl:l.length≤2^40)(ho:∀i,i<l.length→(nth l i).1≤2^40)(b lb:Nat)(c:vc)(L:List (Nat×AV))(hc1:c.params.size=2)(hc2:∀p∈c.params.toList,p<c.n)
    (A0 A1 A2 A3 A4:Nat→aN.Obj) (ok:Nat→Bool) (z0:∀i,(A0 i).lt 9=true) (z1:∀i,(A1 i).lt 9=true) (z2:∀i,(A2 i).lt 9=true) (z3:∀i,(A3 i).lt 9=true) (z4:∀i,(A4 i).lt 9=true) (zL:(L.all fun p=>p.2.lt 9)=true)
    (iK:∀i,i<l.length→∀B S,ky Tryz.prog g B S lb 8 c L [.agg [.d (vI (aM pages (nth l i)).1.page),.d (vI (aM pages (nth l i)).1.count),.d (vT (aM pages (nth l i)).1.small),.d (vI (aM pages (nth l i)).1.cls),.d (vI (aM pages (nth l i)).1.cell)],.d (vT (aM pages (nth l i)).2)] [A0 (i),A1 (i),A2 (i),A3 (i),A4 (i),.var 3 [.d (vI pages)],.var 32 [.d (rO l)],.blk b,.lp lb c L .ready none,.var 98 [.d (vI (nth l i).1),.d (vI (nth l i).2)]] (fun bb o=>bb=ok i∧o=if ok i=true then [A0 (i+1),A1 (i+1),A2 (i+1),A3 (i+1),A4 (i+1),.var 3 [.d (vI pages)],.var 32 [.d (rO l)],.blk b,.lp lb c L .ready none,.var 98 [.d (vI (nth l i).1),.d (vI (nth l i).2)]]else [A0 (i+1),A1 (i+1),A2 (i+1),A3 (i+1),A4 (i+1),.var 3 [.d (vI pages)],.var 32 [.d (rO l)],.blk b,.lp lb c L .done (some .ret),.var 98 [.d (vI (nth l i).1),.d (vI (nth l i).2)]])) :
    ∀B S,a7 Tryz.prog g B S ⟨9,true⟩ 231 [.fn (.yield lb) [] [],.ptr 6 0 0,.ptr 5 0 0] [A0 (0),A1 (0),A2 (0),A3 (0),A4 (0),.var 3 [.d (vI pages)],.var 32 [.d (rO l)],.blk b,.lp lb c L .ready none] (fun x r=>x = .bK []∧((∀i,i<l.length→ok i=true)∧r=[A0 (l.length),A1 (l.length),A2 (l.length),A3 (l.length),A4 (l.length),.var 3 [.d (vI pages)],.var 32 [.d (rO l)],.blk b,.lp lb c L .ready none]∨∃i,i<l.length∧ok i=false∧r=[A0 (i+1),A1 (i+1),A2 (i+1),A3 (i+1),A4 (i+1),.var 3 [.d (vI pages)],.var 32 [.d (rO l)],.blk b,.lp lb c L .done (some .ret)])):=by
 refine ma Tryz.func231 rfl (Nat.le_of_ble_eq_true rfl) fun B S=>?_
 refine cd ?_;refine cB rfl ?_ (by decide +kernel);refine xO ?_ (h:=by simp[z0,z1,z2,z3,z4,zL,aE];exact .mk);iterate 2 (refine xO ?_ (h:=by simp[z0,z1,z2,z3,z4,zL];exact .mk))
 refine xE [0,2,6,7,8] fun _=>?_;refine fM ?_;refine tn (fun m σ o=>∃i:Nat,m=l.length-i∧i≤l.length∧(∀j,j<i→ok j=true)∧σ=slots [(0,.fn (.yield lb) [] []),(2,.ptr 5 0 0),(6,.d (rO l)),(7,.d (vI l.length)),(8,.d (vI i))]∧o=[A0 (i),A1 (i),A2 (i),A3 (i),A4 (i),.var 3 [.d (vI pages)],.var 32 [.d (rO l)],.blk b,.lp lb c L .ready none]) l.length .refl ⟨0,by simp,by simp,by simp,rfl,rfl⟩ ?_;rintro m σ o ⟨i,rfl,hi,hinv,rfl,rfl⟩ _;refine cd ?_;refine cB rfl ?_ (by decide +kernel);refine xO ?_ (h:=by simp[z0,z1,z2,z3,z4,zL];exact .mk);refine xE [0,2,6,7,8,9] fun _=>?_;refine cd ?_;refine fY rfl ?_ ?_
 ·intro h9;have hi2:i<l.length:=by simpa using h9
  refine kz ?_;rintro -;refine cd ?_;refine fM ?_;refine cd ?_;refine cB rfl ?_ (by decide +kernel);refine xO ?_ (h:=by simp[z0,z1,z2,z3,z4,zL,aE, *];exact .mk);refine xO ?_ (h:=by simp[z0,z1,z2,z3,z4,zL,aE];exact .mk);refine xO ?_ (h:=by simp[z0,z1,z2,z3,z4,zL];exact .mk);refine xO ?_ (h:=by simp[z0,z1,z2,z3,z4,zL,splice];exact .mk);refine xE [0,2,5,6,7,8] fun _=>?_;refine cd ?_;refine Dk [0,1,2,3,4,5] 6 [7] rfl ?_ (by decide +kernel);refine xO ?_ (h:=by simp[z0,z1,z2,z3,z4,zL];exact .mk);iterate 2 (refine xO ?_ (h:=by simp[z0,z1,z2,z3,z4,zL,aE];exact .mk))
  refine bA rfl rfl rfl rfl (by simp[z0,z1,z2,z3,z4,zL];exact .mk) (by simp[z0,z1,z2,z3,z4,zL];exact .mk) (JG g pages (nth l i) hp (ho i hi2)) (by simp[z0,z1,z2,z3,z4,zL]) (by simp[z0,z1,z2,z3,z4,zL];exact .mk) ?_;iterate 2 (refine xO ?_ (h:=by simp[z0,z1,z2,z3,z4,zL];exact .mk))
  refine yJ (fun bb o=>bb=ok i∧o=if ok i=true then [A0 (i+1),A1 (i+1),A2 (i+1),A3 (i+1),A4 (i+1),.var 3 [.d (vI pages)],.var 32 [.d (rO l)],.blk b,.lp lb c L .ready none,.var 98 [.d (vI (nth l i).1),.d (vI (nth l i).2)]]else [A0 (i+1),A1 (i+1),A2 (i+1),A3 (i+1),A4 (i+1),.var 3 [.d (vI pages)],.var 32 [.d (rO l)],.blk b,.lp lb c L .done (some .ret),.var 98 [.d (vI (nth l i).1),.d (vI (nth l i).2)]]) rfl rfl rfl rfl rfl (by simp) (by simp;exact .mk) (by simp[iz];exact .mk) rfl hc1 hc2 (iK i hi2) ?_;rintro bb o2 ⟨rfl,rfl⟩;cases hok:ok i
  ·skip
   simp only[Bool.false_eq_true,if_false];refine xO ?_ (h:=by simp[z0,z1,z2,z3,z4,zL];exact .mk);refine xE [0,2,6,7,8,19] fun _=>?_;refine fY rfl ?_ ?_
   ·intro h19;refine mO ?_;try simp only[cm,cp,bQ,cM,bY,cn,if_true]
    refine gZ (fn:=Tryz.f231) (rs:=[]) 9 .nil ?_ (Nat.le_refl _) ?_ ?_ ?_
    ·simp[Tryz.f231];exact .mk
    ·rfl
    ·simp[z0,z1,z2,z3,z4,zL]
    exact⟨rfl,.inr ⟨i,hi2,hok,rfl⟩⟩
   intro h19;simp at h19
  skip
  simp only[if_true]
  have et:∀j,j<i+1→ok j=true:=fun j hj=>by
   rcases Nat.lt_succ_iff_lt_or_eq.1 hj with hj|rfl
   ·exact hinv j hj
   exact hok
  refine xO ?_ (h:=by simp[z0,z1,z2,z3,z4,zL];exact .mk);refine xE [0,2,6,7,8,19] fun _=>?_;refine fY rfl ?_ ?_
  ·intro h19;simp at h19
  intro h19;refine kz ?_;rintro -;refine cB rfl ?_ (by decide +kernel);iterate 2 (refine xO ?_ (h:=by simp[z0,z1,z2,z3,z4,zL];exact .mk))
  refine xE [0,2,6,7,8] ?_;refine sH ?_;refine aq 9 [0,2,6,7,8] (by simp) (by simp[gX,AV.cells,AV.aX,z0,z1,z2,z3,z4,zL]) (by simp[gX,AV.cells,AV.aX,z0,z1,z2,z3,z4,zL]) ?_;exact ae (m':=l.length-(i+1)) (by omega) ⟨i+1,rfl,by omega,et,by rw[wrap64 (by omega) (by omega)];rfl,rfl⟩
 intro h9;obtain rfl:i=l.length:=by simp at h9;omega
 refine y8 ?_;try simp only[cm,cp,bQ,cM,bY,cn,if_true]
 refine cG (fn:=Tryz.f231) (rs:=[]) 9 .nil ?_ (Nat.le_refl _) ?_ ?_ ?_
 ·simp[Tryz.f231];exact .mk
 ·rfl
 ·simp[z0,z1,z2,z3,z4,zL]
 exact⟨rfl,.inl ⟨hinv,rfl⟩⟩
end Go.Proofs
