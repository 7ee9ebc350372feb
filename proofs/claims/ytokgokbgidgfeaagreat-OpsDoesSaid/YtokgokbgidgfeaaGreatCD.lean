/- Contracts of the program's functions and plain facts, for arguments as each lemma says. -/
import Derived.Test.YtokgokbgidgfeaaGreatAwpD
import Derived.Test.YtokgokbgidgfeaaGreatCB
import Derived.Test.YtokgokbgidgfeaaGreatCC
import Derived.Test.YtokgokbgidgfeaaGreatAwpC
import Derived.Test.YtokgokbgidgfeaaGreatCA
set_option linter.all false
namespace Go.Proofs
open Go.aN
section
variable {α:Type} [Inhabited α]
omit [Inhabited α] in
theorem lU(l:List α):l=[]∨∃l' u,l=l'++[u]:=by
 by_cases h:l=[]
 ·exact .inl h
 ·exact .inr ⟨l.dropLast,l.getLast h,(List.dropLast_concat_getLast h).symm⟩
theorem ml{P S:List α}{x:α}{i:Nat}(h:i=P.length):nth (P++x::S) i=x:=by
 subst h;simp[nth]
theorem Cr{l:List α}{i:Nat}{x:α}(h:l[i]?=some x):nth l i=x:=by simp[nth,h]
theorem zQ{P M S:List α}{x y:α}{i j:Nat}(hi:i=P.length)(hj:j=P.length+1+M.length):swp (P++x::(M++y::S)) i j=P++y::(M++x::S):=by
 have hy:nth (P++x::(M++y::S)) j=y:=by
  rw[show P++x::(M++y::S)=(P++x::M)++y::S by simp];exact ml (by simp[hj];omega)
 unfold swp;rw[if_pos (by simp;omega),hy,ml hi];subst hi hj;apply List.ext_getElem?;intro k;simp only[List.getElem?_set,List.length_set];rcases Nat.lt_trichotomy k P.length with h|h|h
 ·rw[if_neg (by omega),if_neg (by omega),List.getElem?_append_left h,List.getElem?_append_left h]
 ·subst h;rw[if_neg (by omega),if_pos rfl,if_pos (by simp)];simp
 ·obtain⟨d,rfl⟩:∃d,k=P.length+1+d:=⟨k-(P.length+1),by omega⟩
  have e:∀(z:α) (T:List α),(P++z::T)[P.length+1+d]?=T[d]?:=fun z T=>by
   rw[List.getElem?_append_right (by omega),show P.length+1+d-P.length=d+1 by omega];simp
  rw[e,e,if_neg (show ¬P.length=P.length+1+d by omega)];rcases Nat.lt_trichotomy d M.length with h|h|h
  ·rw[if_neg (by omega),List.getElem?_append_left h,List.getElem?_append_left h]
  ·subst h;rw[if_pos rfl,if_pos (by simp;omega)];simp
  ·rw[if_neg (by omega),List.getElem?_append_right (by omega),List.getElem?_append_right (by omega)];obtain⟨q,hq⟩:∃q,d-M.length=q+1:=⟨d-M.length-1,by omega⟩;rw[hq];simp
theorem zP{P S:List α}{x y:α}{i j:Nat}(hi:i=P.length)(hj:j=P.length+1):swp (P++x::y::S) i j=P++y::x::S:=
 zQ (M:=[]) hi (by simpa using hj)
theorem wR{P S:List α}{x y:α}{i j:Nat}(hi:i=P.length+1)(hj:j=P.length):swp (P++x::y::S) i j=P++y::x::S:=by
 rw[←zP (P:=P) (S:=S) (x:=x) (y:=y) hj hi];unfold swp;subst hi hj;have h1:P.length<(P++x::y::S).length:=by simp
 have h2:P.length+1<(P++x::y::S).length:=by simp
 rw[if_pos ⟨h2,h1⟩,if_pos ⟨h1,h2⟩,List.set_comm _ _ (by omega)]
theorem wS{a b:Nat}:∀(k i:Nat) (P X M Y S:List α),X.length=k→Y.length=k→a+i=P.length→b+i=P.length+k+M.length →
    yU a b k i (P++(X++(M++(Y++S))))=P++(Y++(M++(X++S)))
 | 0,i,P,X,M,Y,S,hX,hY,_,_=>by
  rw[List.length_eq_zero_iff]at hX hY;subst hX hY;rfl
 | k+1,i,P,x::X,M,y::Y,S,hX,hY,ha,hb=>by
  have e:=zQ (P:=P) (M:=X++M) (S:=Y++S) (x:=x) (y:=y) (i:=a+i) (j:=b+i) ha (by simp at hX ⊢;omega);have e1:P++((x::X)++(M++((y::Y)++S)))=P++x::((X++M)++y::(Y++S)):=by simp
  unfold yU;rw[e1,e];have:=wS (a:=a) (b:=b) k (i+1) (P++[y]) X (M++[x]) Y S (by simpa using hX) (by simpa using hY) (by simp;omega) (by simp;omega);have e2:P++y::((X++M)++x::(Y++S))=(P++[y])++(X++((M++[x])++(Y++S))):=by simp
  rw[e2,this];simp
theorem u5{a b n:Nat}{P X M Y S:List α}(hX:X.length=n)(hY:Y.length=n)(ha:a=P.length)(hb:b=P.length+n+M.length) :
    Bl a b n (P++(X++(M++(Y++S))))=P++(Y++(M++(X++S))):=wS n 0 P X M Y S hX hY (by omega) (by omega)
theorem sG{m:Nat}:∀(f i j:Nat) (P L R S:List α),i+j≤f→0<i→0<j→L.length=i→R.length=j→i≤m→m=P.length+i →
    pn m f i j (P++(L++(R++S)))=P++(R++(L++S))
 | 0,i,j,P,L,R,S,hf,hi,hj,_,_,_,_=>by omega
 | f+1,i,j,P,L,R,S,hf,hi,hj,hL,hR,him,hm=>by
  unfold pn;split
  ·rename_i h;subst h;have:=u5 (a:=m-i) (b:=m) (P:=P) (X:=L) (M:=[]) (Y:=R) (S:=S) hL hR (by omega) (by rw[List.length_nil];omega);simpa using this
  ·split
   ·rename_i h1 h2;have eL:L=L.take j++L.drop j:=(List.take_append_drop ..).symm
    have e1:P++(L++(R++S))=P++(L.take j++(L.drop j++(R++S))):=by
     rw[←List.append_assoc (L.take j),List.take_append_drop]
    rw[e1,u5 (X:=L.take j) (M:=L.drop j) (Y:=R) (by simp;omega) hR (by omega) (by simp;omega)];have:=sG (m:=m) f (i-j) j (P++R) (L.drop j) (L.take j) S (by omega) (by omega) hj (by simp;omega) (by simp;omega) (by omega) (by simp;omega);rw[show P++(R++(L.drop j++(L.take j++S)))=(P++R)++(L.drop j++(L.take j++S)) by simp,this];rw[List.append_assoc,←List.append_assoc (L.take j),List.take_append_drop]
   ·rename_i h1 h2;have eR:R=R.take (j-i)++R.drop (j-i):=(List.take_append_drop ..).symm
    have e1:P++(L++(R++S))=P++(L++(R.take (j-i)++(R.drop (j-i)++S))):=by
     rw[←List.append_assoc (R.take (j-i)),List.take_append_drop]
    rw[e1,u5 (X:=L) (M:=R.take (j-i)) (Y:=R.drop (j-i)) hL (by simp;omega) (by omega) (by simp;omega)];rw[sG (m:=m) f i (j-i) P (R.drop (j-i)) (R.take (j-i)) (L++S) (by omega) hi (by omega) (by simp;omega) (by simp;omega) him hm];rw[←List.append_assoc (R.take (j-i)),List.take_append_drop]
theorem CL{a m b:Nat}{P L R S:List α}(h1:0<L.length)(h2:0<R.length)(ha:a=P.length)(hm:m=a+L.length)(hb:b=m+R.length):uU a m b (P++(L++(R++S)))=P++(R++(L++S)):=by
 unfold uU;exact sG _ _ _ P L R S (by omega) (by omega) (by omega) (by omega) (by omega) (by omega) (by omega)
theorem zX:∀(k i:Nat) (P A C:List α) (x:α),A.length=k→i=P.length→HH k i (P++x::(A++C))=P++(A++x::C)
 | 0,i,P,A,C,x,hA,_=>by rw[List.length_eq_zero_iff]at hA;subst hA;rfl
 | k+1,i,P,y::A,C,x,hA,hi=>by
  unfold HH;rw[show P++x::((y::A)++C)=P++x::y::(A++C) by simp,zP hi (by omega)];have:=zX k (i+1) (P++[y]) A C x (by simpa using hA) (by simp;omega);rw[show P++y::x::(A++C)=(P++[y])++x::(A++C) by simp,this];simp
theorem zi:∀(k i:Nat) (P A C:List α) (x:α),A.length=k→i=P.length+k→FZ k i (P++(A++x::C))=P++x::(A++C)
 | 0,i,P,A,C,x,hA,_=>by rw[List.length_eq_zero_iff]at hA;subst hA;rfl
 | k+1,i,P,A,C,x,hA,hi=>by
  obtain⟨A',y,rfl⟩:∃A' y,A=A'++[y]:=by
   rcases lU A with rfl|h
   ·simp at hA
   ·exact h
  have hA':A'.length=k:=by simpa using hA
  unfold FZ;rw[show P++((A'++[y])++x::C)=(P++A')++y::x::C by simp,wR (by simp;omega) (by simp;omega)];have:=zi k (i-1) P A' (y::C) x hA' (by omega);rw[show (P++A')++x::y::C=P++(A'++x::(y::C)) by simp,this];simp
end
theorem qM{p:Nat→Bool}:∀(f i j:Nat),j-i≤f→i≤j→(∀x y,i≤x→x<y→y<j→p y=true→p x=true) →
    (∀x,i≤x→x<s9 p f i j→p x=true)∧(∀x,s9 p f i j≤x→x<j→p x=false)
 | 0,i,j,hf,h,hp=>by
  have:i=j:=by omega
  subst this;exact⟨fun x h1 h2=>by simp[s9]at h2;omega,fun x h1 h2=>by simp[s9]at h1;omega⟩
 | f+1,i,j,hf,h,hp=>by
  by_cases hij:i<j
  ·cases hq:p ((i+j)/2)with
   | true=>
    rw[nH hij hq];obtain⟨a1,a2⟩:=qM f ((i+j)/2+1) j (by omega) (by omega) (fun x y h1 h2 h3 h4=>hp x y (by omega) h2 h3 h4);refine⟨fun x h1 h2=>?_,a2⟩;rcases Nat.lt_trichotomy x ((i+j)/2)with h|h|h
    ·exact hp x _ h1 h (by omega) hq
    ·rw[h];exact hq
    ·exact a1 x (by omega) h2
   | false=>
    rw[nG hij hq];obtain⟨a1,a2⟩:=qM f i ((i+j)/2) (by omega) (by omega) (fun x y h1 h2 h3 h4=>hp x y h1 h2 (by omega) h4);refine⟨a1,fun x h1 h2=>?_⟩;by_cases hx:x<(i+j)/2
    ·exact a2 x h1 hx
    ·cases hpx:p x with
     | false=>rfl
     | true=>
      rcases Nat.lt_or_ge ((i+j)/2) x with h|h
      ·have:=hp _ x (by omega) h h2 hpx;rw[hq]at this;cases this
      ·have:x=(i+j)/2:=by omega
       rw[this,hq]at hpx;cases hpx
  ·rw[nF (by omega)];exact⟨fun x h1 h2=>by omega,fun x h1 h2=>by omega⟩
theorem qO{p:Nat→Bool}{i j:Nat}(h:i≤j)(hp:∀x y,i≤x→x<y→y<j→p y=true→p x=true) :
    (∀x,i≤x→x<vg p i j→p x=true)∧(∀x,vg p i j≤x→x<j→p x=false):=qM _ i j (Nat.le_refl _) h hp
open Go.aN
section
variable {α:Type} [Inhabited α] {lt:α→α→Bool} {R Q:α→α→Prop}
structure Keys (lt:α→α→Bool) (R Q:α→α→Prop):Prop where
 tr:∀ {x y z},R x y→R y z→R x z
 no:∀ {x y},Q x y→lt y x=false→R x y
 on:∀ {x y},Q x y→lt y x=true→R y x
 sa:∀ {x y},Q x y→R x y→lt y x=false
variable (K:Keys lt R Q)
include K
theorem cross{A B:List α}{u v:α}{A' B':List α}(hA:A=A'++[u])(hB:B=v::B')(sA:A.Pairwise R)(sB:B.Pairwise R)(h:R u v):∀x∈A,∀y∈B,R x y:=by
 subst hA hB;have h1:∀x∈A',R x u:=fun x hx=>(List.pairwise_append.1 sA).2.2 x hx u (by simp)
 have h2:∀y∈B',R v y:=(List.pairwise_cons.1 sB).1;intro x hx y hy
 have a1:R x v:=by
  rcases List.mem_append.1 hx with hx|hx
  ·exact K.tr (h1 x hx) h
  ·simp at hx;subst hx;exact h
 rcases List.mem_cons.1 hy with rfl|hy
 ·exact a1
 ·exact K.tr a1 (h2 y hy)
theorem qA:∀(f a m b:Nat) (P L M S:List α),a=P.length→m=a+L.length→b=m+M.length→L.length+M.length≤f→0<L.length→0<M.length→L.Pairwise R→M.Pairwise R →
    (∀x∈L,∀y∈M,Q x y)→∃X,iX lt f a m b (P++(L++(M++S)))=P++(X++S)∧X.Perm (L++M)∧X.Pairwise R
 | 0,a,m,b,P,L,M,S,_,_,_,hf,hL,_,_,_,_=>by omega
 | f+1,a,m,b,P,L,M,S,ha,hm,hb,hf,hL,hM,sL,sM,hQ=>by
  have nL:∀c,a≤c→c<m→∀(h:c-a<L.length),nth (P++(L++(M++S))) c=L[c-a]:=fun c h1 h2 h=>Cr (by
    rw [List.getElem?_append_right (by omega), List.getElem?_append_left (by omega), List.getElem?_eq_getElem (by omega)]; simp only [ha])
  have nM:∀c,m≤c→c<b→∀(h:c-m<M.length),nth (P++(L++(M++S))) c=M[c-m]:=fun c h1 h2 h=>Cr (by
    rw [List.getElem?_append_right (by omega), List.getElem?_append_right (by omega), List.getElem?_append_left (by omega), List.getElem?_eq_getElem (by omega)]
    simp only [show c - P.length - L.length = c - m by omega])
  have oL:∀i j (hi:i<L.length) (hj:j<L.length),i<j→R L[i] L[j]:=fun i j hi hj h=>List.pairwise_iff_getElem.1 sL i j hi hj h
  have oM:∀i j (hi:i<M.length) (hj:j<M.length),i<j→R M[i] M[j]:=fun i j hi hj h=>List.pairwise_iff_getElem.1 sM i j hi hj h
  by_cases k1:m-a=1
  ·obtain⟨x,rfl⟩:∃x,L=[x]:=List.length_eq_one_iff.1 (by omega);have hx:nth (P++([x]++(M++S))) a=x:=ml (S:=M++S) ha;have hp:∀c,m≤c→∀(h:c-m<M.length),lt (nth (P++([x]++(M++S))) c) (nth (P++([x]++(M++S))) a)=lt M[c-m] x:=fun c h1 h=>by rw[hx,nM c h1 (by omega) h]
   have sp:=qO (p:=fun h=>lt (nth (P++([x]++(M++S))) h) (nth (P++([x]++(M++S))) a)) (i:=m) (j:=b) (by omega) (fun c d h1 h2 h3 h4=>by
     rw [hp d (by omega) (by omega)] at h4
     rw [hp c h1 (by omega)]
     have r1 := K.on (hQ x (by simp) _ (List.getElem_mem _)) h4
     have r2 := K.tr (oM (c - m) (d - m) (by omega) (by omega) (by omega)) r1
     cases hl : lt M[c - m] x with
     | true => rfl
     | false =>
       have r3 := K.no (hQ x (by simp) _ (List.getElem_mem _)) hl
       have := K.sa (hQ x (by simp) _ (List.getElem_mem _)) (K.tr r3 (oM (c - m) (d - m) (by omega) (by omega) (by omega)))
       rw [h4] at this; cases this)
   have hbd:=qN (p:=fun h=>lt (nth (P++([x]++(M++S))) h) (nth (P++([x]++(M++S))) a)) (i:=m) (j:=b) (by omega);unfold iX;rw[if_pos k1];simp only;generalize vg (fun h=>lt (nth (P++([x]++(M++S))) h) (nth (P++([x]++(M++S))) a)) m b=i at sp hbd
   have e:P++([x]++(M++S))=P++x::(M.take (i-m)++(M.drop (i-m)++S)):=by
    rw[←List.append_assoc (M.take (i-m)),List.take_append_drop];rfl
   rw[e,zX (i-1-a) a P (M.take (i-m)) (M.drop (i-m)++S) x (by simp at hm ⊢;omega) ha];refine⟨M.take (i-m)++x::M.drop (i-m),by simp,?_,?_⟩
   ·refine List.perm_middle.trans ?_;simp
   ·have h1:∀y∈M.take (i-m),R y x:=fun y hy=>by
     obtain⟨k,hk,rfl⟩:=List.getElem_of_mem hy;simp only[List.length_take]at hk;rw[List.getElem_take];have h:=sp.1 (m+k) (by omega) (by omega);rw[hp _ (by omega) (by omega)]at h;simp only[Nat.add_sub_cancel_left]at h;exact K.on (hQ x (by simp) _ (List.getElem_mem _)) h
    have h2:∀y∈M.drop (i-m),R x y:=fun y hy=>by
     obtain⟨k,hk,rfl⟩:=List.getElem_of_mem hy;simp only[List.length_drop]at hk;rw[List.getElem_drop];have h:=sp.2 (i+k) (by omega) (by omega);rw[hp _ (by omega) (by omega)]at h;simp only[show i+k-m=i-m+k by omega]at h;exact K.no (hQ x (by simp) _ (List.getElem_mem _)) h
    have PE:(M.take (i-m)++M.drop (i-m)).Pairwise R:=by rw[List.take_append_drop];exact sM
    obtain⟨s1,s2,s3⟩:=List.pairwise_append.1 PE;refine List.pairwise_append.2 ⟨s1,List.pairwise_cons.2 ⟨h2,s2⟩,fun y hy z hz=>?_⟩;rcases List.mem_cons.1 hz with rfl|hz
    ·exact h1 y hy
    ·exact s3 y hy z hz
  by_cases k2:b-m=1
  ·obtain⟨y,rfl⟩:∃y,M=[y]:=List.length_eq_one_iff.1 (by omega)
   have hy:nth (P++(L++([y]++S))) m=y:=by
    rw[show P++(L++([y]++S))=(P++L)++y::S by simp];exact ml (by simp;omega)
   have hp:∀c,a≤c→∀(h:c-a<L.length),lt (nth (P++(L++([y]++S))) m) (nth (P++(L++([y]++S))) c)=lt y L[c-a]:=fun c h1 h=>by rw[hy,nL c h1 (by omega) h]
   have sp:=qO (p:=fun h => !lt (nth (P++(L++([y]++S))) m) (nth (P++(L++([y]++S))) h)) (i:=a) (j:=m) (by omega) (fun c d h1 h2 h3 h4=>by
     simp only [Bool.not_eq_true'] at h4 ⊢
     rw [hp d (by omega) (by omega)] at h4
     rw [hp c h1 (by omega)]
     exact K.sa (hQ _ (List.getElem_mem _) y (by simp)) (K.tr (oL (c - a) (d - a) (by omega) (by omega) (by omega)) (K.no (hQ _ (List.getElem_mem _) y (by simp)) h4)))
   have hbd:=qN (p:=fun h => !lt (nth (P++(L++([y]++S))) m) (nth (P++(L++([y]++S))) h)) (i:=a) (j:=m) (by omega);unfold iX;rw[if_neg k1,if_pos k2];simp only;generalize vg (fun h => !lt (nth (P++(L++([y]++S))) m) (nth (P++(L++([y]++S))) h)) a m=i at sp hbd
   have e:P++(L++([y]++S))=(P++L.take (i-a))++(L.drop (i-a)++y::S):=by
    rw[List.append_assoc,←List.append_assoc (L.take (i-a)),List.take_append_drop];rfl
   rw[e,zi (m-i) m (P++L.take (i-a)) (L.drop (i-a)) S y (by simp;omega) (by simp;omega)];refine⟨L.take (i-a)++y::L.drop (i-a),by simp,?_,?_⟩
   ·refine List.perm_middle.trans ?_;rw[List.take_append_drop];exact(List.perm_append_comm (l₁:=[y]) (l₂:=L))
   ·have h1:∀x∈L.take (i-a),R x y:=fun x hx=>by
     obtain⟨k,hk,rfl⟩:=List.getElem_of_mem hx;simp only[List.length_take]at hk;rw[List.getElem_take];have h:=sp.1 (a+k) (by omega) (by omega);simp only[Bool.not_eq_true']at h;rw[hp _ (by omega) (by omega)]at h;simp only[Nat.add_sub_cancel_left]at h;exact K.no (hQ _ (List.getElem_mem _) y (by simp)) h
    have h2:∀x∈L.drop (i-a),R y x:=fun x hx=>by
     obtain⟨k,hk,rfl⟩:=List.getElem_of_mem hx;simp only[List.length_drop]at hk;rw[List.getElem_drop];have h:=sp.2 (i+k) (by omega) (by omega);simp only[Bool.not_eq_false']at h;rw[hp _ (by omega) (by omega)]at h;simp only[show i+k-a=i-a+k by omega]at h;exact K.on (hQ _ (List.getElem_mem _) y (by simp)) h
    have PD:(L.take (i-a)++L.drop (i-a)).Pairwise R:=by rw[List.take_append_drop];exact sL
    obtain⟨s1,s2,s3⟩:=List.pairwise_append.1 PD;refine List.pairwise_append.2 ⟨s1,List.pairwise_cons.2 ⟨h2,s2⟩,fun x hx z hz=>?_⟩;rcases List.mem_cons.1 hz with rfl|hz
    ·exact h1 x hx
    ·exact s3 x hx z hz
  -- the general step
  obtain⟨mid,hmid⟩:∃mid,mid=(a+b)/2:=⟨_,rfl⟩;obtain⟨N,hN⟩:∃N,N=mid+m:=⟨_,rfl⟩;obtain⟨s0,hs0⟩:∃s0,s0=if mid<m then N-b else a:=⟨_,rfl⟩
  obtain⟨r0,hr0⟩:∃r0,r0=if mid<m then mid else m:=⟨_,rfl⟩
  have hsr:a≤s0∧s0≤r0∧r0≤m∧r0≤mid∧N≤b+s0:=by
   rw[hs0,hr0];split<;>omega
  have hrange:∀c,s0≤c→c<r0→a≤c∧c<m∧m≤N-1-c∧N-1-c<b:=fun c h1 h2=>by omega
  have hp:∀c (h1:s0≤c) (h2:c<r0),lt (nth (P++(L++(M++S))) (N-1-c)) (nth (P++(L++(M++S))) c)=lt (M[N-1-c-m]'(by have:=hrange c h1 h2;omega)) (L[c-a]'(by have:=hrange c h1 h2;omega)):=fun c h1 h2=>by
   have:=hrange c h1 h2;rw[nL c (by omega) (by omega) (by omega),nM (N-1-c) (by omega) (by omega) (by omega)]
  obtain⟨st,hst⟩:∃st,vg (fun c => !lt (nth (P++(L++(M++S))) (N-1-c)) (nth (P++(L++(M++S))) c)) s0 r0=st:=⟨_,rfl⟩
  have sp:=qO (p:=fun c => !lt (nth (P++(L++(M++S))) (N-1-c)) (nth (P++(L++(M++S))) c)) (i:=s0) (j:=r0) (by omega) (fun c d h1 h2 h3 h4=>by
    simp only [Bool.not_eq_true'] at h4 ⊢
    have q1 := hrange c h1 (by omega)
    have q2 := hrange d (by omega) h3
    rw [hp d (by omega) h3] at h4
    rw [hp c h1 (by omega)]
    refine K.sa (hQ _ (List.getElem_mem _) _ (List.getElem_mem _)) (K.tr (oL (c - a) (d - a) (by omega) (by omega) (by omega)) (K.tr (K.no (hQ _ (List.getElem_mem _) _ (List.getElem_mem _)) h4) (oM (N - 1 - d - m) (N - 1 - c - m) (by omega) (by omega) (by omega)))))
  have hbd:=qN (p:=fun c => !lt (nth (P++(L++(M++S))) (N-1-c)) (nth (P++(L++(M++S))) c)) (i:=s0) (j:=r0) (by omega);rw[hst]at sp hbd;obtain⟨en,hen⟩:∃en,en=N-st:=⟨_,rfl⟩;rw[sT k1 k2 hmid hN rfl hs0 hr0 hst hen];have hb1:a≤st∧st≤m∧m≤en∧en≤b∧st≤mid:=by omega
  have hp1:∀c,s0≤c→c<st→∀(h1:c-a<L.length) (h2:N-1-c-m<M.length),R L[c-a] M[N-1-c-m]:=fun c h1 h2 h3 h4=>by
   have h:=sp.1 c h1 h2;simp only[Bool.not_eq_true']at h;rw[hp c h1 (by omega)]at h;exact K.no (hQ _ (List.getElem_mem _) _ (List.getElem_mem _)) h
  have hp2:∀c,st≤c→c<r0→∀(h1:c-a<L.length) (h2:N-1-c-m<M.length),R M[N-1-c-m] L[c-a]:=fun c h1 h2 h3 h4=>by
   have h:=sp.2 c h1 h2;simp only[Bool.not_eq_false']at h;rw[hp c (by omega) h2]at h;exact K.on (hQ _ (List.getElem_mem _) _ (List.getElem_mem _)) h
  -- the parts
  obtain⟨L1,L2,rfl,hL1⟩:∃L1 L2,L=L1++L2∧L1.length=st-a:=⟨L.take (st-a),L.drop (st-a),by simp,by simp;omega⟩;obtain⟨M1,M2,rfl,hM1⟩:∃M1 M2,M=M1++M2∧M1.length=en-m:=⟨M.take (en-m),M.drop (en-m),by simp,by simp;omega⟩;simp only[List.length_append]at hm hb hf hL hM;obtain⟨Ov,Ow,NJ⟩:=List.pairwise_append.1 sL;obtain⟨Ox,Oy,NK⟩:=List.pairwise_append.1 sM
  have c1:∀x∈L1,∀y∈M2,R x y:=by
   rcases Nat.eq_zero_or_pos L1.length with h|h
   ·rw[List.length_eq_zero_iff]at h;subst h;simp
   rcases Nat.eq_zero_or_pos M2.length with h'|h'
   ·rw[List.length_eq_zero_iff]at h';subst h';simp
   have hs:s0<st:=by
    rcases Nat.lt_or_ge s0 st with h|h
    ·exact h
    ·exfalso;have:st=s0:=by omega
     rw[hs0]at this;split at this<;>omega
   have hr:=hp1 (st-1) (by omega) (by omega) (by simp;omega) (by simp;omega);have e1:(L1++L2)[st-1-a]'(by simp;omega)=L1[L1.length-1]'(by omega):=by rw[List.getElem_append_left (by omega)];congr 1;omega
   have e2:(M1++M2)[N-1-(st-1)-m]'(by simp;omega)=M2[0]'h':=by rw[List.getElem_append_right (by omega)];congr 1;omega
   rw[e1,e2]at hr
   have hA:L1=L1.dropLast++[L1[L1.length-1]'(by omega)]:=by
    have:=List.dropLast_concat_getLast (l:=L1) (by intro e;subst e;simp at h);rw[List.getLast_eq_getElem]at this;exact this.symm
   have hB:M2=M2[0]'h'::M2.tail:=by cases M2 with
    | nil=>simp at h'
    | cons z t=>rfl
   exact cross K hA hB Ov Oy hr
  have c2:∀x∈M1,∀y∈L2,R x y:=by
   rcases Nat.eq_zero_or_pos M1.length with h|h
   ·rw[List.length_eq_zero_iff]at h;subst h;simp
   rcases Nat.eq_zero_or_pos L2.length with h'|h'
   ·rw[List.length_eq_zero_iff]at h';subst h';simp
   have hs:st<r0:=by
    rcases Nat.lt_or_ge st r0 with h|h
    ·exact h
    ·exfalso;have:st=r0:=by omega
     rw[hr0]at this;split at this<;>omega
   have hr:=hp2 st (Nat.le_refl _) hs (by simp;omega) (by simp;omega);have e1:(L1++L2)[st-a]'(by simp;omega)=L2[0]'h':=by rw[List.getElem_append_right (by omega)];congr 1;omega
   have e2:(M1++M2)[N-1-st-m]'(by simp;omega)=M1[M1.length-1]'(by omega):=by rw[List.getElem_append_left (by omega)];congr 1;omega
   rw[e1,e2]at hr
   have hA:M1=M1.dropLast++[M1[M1.length-1]'(by omega)]:=by
    have:=List.dropLast_concat_getLast (l:=M1) (by intro e;subst e;simp at h);rw[List.getLast_eq_getElem]at this;exact this.symm
   have hB:L2=L2[0]'h'::L2.tail:=by cases L2 with
    | nil=>simp at h'
    | cons z t=>rfl
   exact cross K hA hB Ox Ow hr
  have hl1:(if st<m∧m<en then uU st m en (P++(L1++L2++(M1++M2++S)))else P++(L1++L2++(M1++M2++S)))=P++(L1++(M1++(L2++(M2++S)))):=by
   split
   ·rw[show P++(L1++L2++(M1++M2++S))=(P++L1)++(L2++(M1++(M2++S))) by simp];rw[CL (by omega) (by omega) (by simp;omega) (by omega) (by omega)];simp
   ·rename_i h;have:L2.length=0∨M1.length=0:=by omega
    rcases this with h|h<;>(rw[List.length_eq_zero_iff]at h;subst h;simp)
  simp only[hl1]
  obtain⟨X1,hX1,NH,PF⟩:∃X1,(if a<st∧st<mid then iX lt f a st mid (P++(L1++(M1++(L2++(M2++S)))))else P++(L1++(M1++(L2++(M2++S)))))=P++(X1++(L2++(M2++S)))∧X1.Perm (L1++M1)∧X1.Pairwise R:=by
   split
   ·exact qA f a st mid P L1 M1 (L2++(M2++S)) ha (by omega) (by omega) (by omega) (by omega) (by omega) Ov Ox (fun x hx y hy=>hQ x (by simp[hx]) y (by simp[hy]))
   ·rename_i h;have:L1.length=0∨M1.length=0:=by omega
    refine⟨L1++M1,by simp,.refl _,?_⟩;rcases this with h|h<;>(rw[List.length_eq_zero_iff]at h;subst h;simpa)
  rw[hX1];have Pk:X1.length=mid-a:=by rw[NH.length_eq,List.length_append];omega
  obtain⟨X2,hX2,Ot,PG⟩:∃X2,(if mid<en∧en<b then iX lt f mid en b (P++(X1++(L2++(M2++S))))else P++(X1++(L2++(M2++S))))=P++(X1++(X2++S))∧X2.Perm (L2++M2)∧X2.Pairwise R:=by
   split
   ·obtain⟨X2,h1,h2,h3⟩:=qA f mid en b (P++X1) L2 M2 S (by simp;omega) (by omega) (by omega) (by omega) (by omega) (by omega) Ow Oy (fun x hx y hy=>hQ x (by simp[hx]) y (by simp[hy]));exact⟨X2,by rw[show P++(X1++(L2++(M2++S)))=(P++X1)++(L2++(M2++S)) by simp,h1];simp,h2,h3⟩
   ·rename_i h;have:L2.length=0∨M2.length=0:=by omega
    refine⟨L2++M2,by simp,.refl _,?_⟩;rcases this with h|h<;>(rw[List.length_eq_zero_iff]at h;subst h;simpa)
  rw[hX2];refine⟨X1++X2,by simp,?_,List.pairwise_append.2 ⟨PF,PG,fun x hx y hy=>?_⟩⟩
  ·refine(NH.append Ot).trans ?_;rw[List.append_assoc,List.append_assoc];refine List.Perm.append_left L1 ?_;rw[←List.append_assoc,←List.append_assoc];exact List.Perm.append_right M2 List.perm_append_comm
  ·have hx:=NH.mem_iff.1 hx;have hy:=Ot.mem_iff.1 hy;rcases List.mem_append.1 hx with hx|hx<;>rcases List.mem_append.1 hy with hy|hy
   ·exact NJ x hx y hy
   ·exact c1 x hx y hy
   ·exact c2 x hx y hy
   ·exact NK x hx y hy
theorem zN:∀(j:Nat) (a:Nat) (P X S:List α) (y:α),a=P.length→j=a+X.length→∃A C,X=A++C∧sink lt a j (P++(X++y::S))=P++(A++y::(C++S))∧(∀c∈C,lt y c=true)∧(∀A' u,A=A'++[u]→lt y u=false)
 | 0,a,P,X,S,y,ha,hj=>by
  have:X.length=0:=by omega
  rw[List.length_eq_zero_iff]at this;subst this;exact⟨[],[],rfl,rfl,by simp,fun A' u h=>by simp at h⟩
 | j+1,a,P,X,S,y,ha,hj=>by
  rcases lU X with rfl|⟨X',u,rfl⟩
  ·refine⟨[],[],rfl,?_,by simp,fun A' u h=>by simp at h⟩;unfold sink;rw[if_neg (by simp at hj;omega)];rfl
  ·simp only[List.length_append,List.length_cons,List.length_nil]at hj
   have h1:nth (P++((X'++[u])++y::S)) (j+1)=y:=by
    rw[show P++((X'++[u])++y::S)=(P++(X'++[u]))++y::S by simp];exact ml (by simp;omega)
   have h2:nth (P++((X'++[u])++y::S)) j=u:=by
    rw[show P++((X'++[u])++y::S)=(P++X')++u::(y::S) by simp];exact ml (by simp;omega)
   unfold sink;rw[h1,h2];split
   ·rename_i h
    have e:swp (P++((X'++[u])++y::S)) (j+1) j=P++(X'++y::(u::S)):=by
     rw[show P++((X'++[u])++y::S)=(P++X')++u::y::S by simp,wR (by simp;omega) (by simp;omega)];simp
    rw[e];obtain⟨A,C,r1,r2,r3,r4⟩:=zN j a P X' (u::S) y ha (by omega);refine⟨A,C++[u],by rw[r1];simp,by rw[r2];simp,fun c hc=>?_,r4⟩;rcases List.mem_append.1 hc with hc|hc
    ·exact r3 c hc
    ·simp at hc;subst hc;exact h.2
   ·rename_i h;refine⟨X'++[u],[],by simp,by simp,by simp,fun A' v hA=>?_⟩;have:=List.append_inj_right' hA rfl;simp at this;subst this
    cases hl:lt y u with
    | false=>rfl
    | true=>exact absurd ⟨by omega,hl⟩ h
theorem zp:∀(k i a:Nat) (P X Y S:List α),a=P.length→i=a+X.length→Y.length=k→X.Pairwise R→Y.Pairwise Q→(∀x∈X,∀y∈Y,Q x y) →
    ∃Z,x8 lt a k i (P++(X++(Y++S)))=P++(Z++S)∧Z.Perm (X++Y)∧Z.Pairwise R
 | 0,i,a,P,X,Y,S,ha,hi,hY,sX,sY,hQ=>by
  rw[List.length_eq_zero_iff]at hY;subst hY;exact⟨X,by simp[x8],by simp,sX⟩
 | k+1,i,a,P,X,y::Y,S,ha,hi,hY,sX,sY,hQ=>by
  obtain⟨A,C,rfl,r2,r3,r4⟩:=zN K (lt:=lt) i a P X (Y++S) y ha hi;obtain⟨sA,sC,PC⟩:=List.pairwise_append.1 sX;obtain⟨sy,sY⟩:=List.pairwise_cons.1 sY;have hC:∀c∈C,R y c:=fun c hc=>K.on (hQ c (by simp[hc]) y (by simp)) (r3 c hc)
  have hA:∀x∈A,R x y:=by
   rcases lU A with rfl|⟨A',u,rfl⟩
   ·simp
   ·have hu:R u y:=K.no (hQ u (by simp) y (by simp)) (r4 A' u rfl);intro x hx;rcases List.mem_append.1 hx with hx|hx
    ·exact K.tr ((List.pairwise_append.1 sA).2.2 x hx u (by simp)) hu
    ·simp at hx;subst hx;exact hu
  have sN:(A++y::C).Pairwise R:=by
   refine List.pairwise_append.2 ⟨sA,List.pairwise_cons.2 ⟨hC,sC⟩,fun x hx z hz=>?_⟩;rcases List.mem_cons.1 hz with rfl|hz
   ·exact hA x hx
   ·exact PC x hx z hz
  have pN:(A++y::C).Perm (A++C++[y]):=(List.perm_middle).trans (List.perm_append_comm (l₁:=[y]) (l₂:=A++C))
  obtain⟨Z,z1,z2,z3⟩:=zp k (i+1) a P (A++y::C) Y S ha (by simp at hi ⊢;omega) (by simpa using hY) sN sY (fun x hx z hz=>by
    rcases List.mem_append.1 (pN.mem_iff.1 hx) with hx | hx
    · exact hQ x hx z (by simp [hz])
    · simp at hx; subst hx; exact sy z hz)
  refine⟨Z,?_,z2.trans ?_,z3⟩
  ·unfold x8;rw[show P++((A++C)++((y::Y)++S))=P++((A++C)++y::(Y++S)) by simp,r2];rw[show P++(A++y::(C++(Y++S)))=P++((A++y::C)++(Y++S)) by simp];exact z1
  ·have:=pN.append_right Y;simpa using this
theorem zr{a b:Nat}{P X S:List α}(ha:a=P.length)(hb:b=a+X.length)(sX:X.Pairwise Q):∃Z,lv lt a b (P++(X++S))=P++(Z++S)∧Z.Perm X∧Z.Pairwise R:=by
 cases X with
 | nil=>
  refine⟨[],?_,.refl _,.nil⟩;unfold lv;rw[show b-(a+1)=0 by simp at hb;omega];rfl
 | cons x X=>
  obtain⟨sx,sX⟩:=List.pairwise_cons.1 sX;obtain⟨Z,z1,z2,z3⟩:=zp K (b-(a+1)) (a+1) a P [x] X S ha (by simp) (by simp at hb;omega) (by simp) sX (fun u hu y hy=>by simp at hu;subst hu;exact sx y hy);exact⟨Z,by unfold lv;simpa using z1,by simpa using z2,z3⟩
end
open Go.aN
section
variable {α:Type} [Inhabited α] {lt:α→α→Bool} {R Q:α→α→Prop}
inductive mM (R Q:α→α→Prop) (bs:Nat):List α→Prop
 | last {B:List α} (h:B.length≤bs) (s:B.Pairwise R):mM R Q bs B
 | cons {B r:List α} (h:B.length=bs) (s:B.Pairwise R) (t:mM R Q bs r) (c:∀x∈B,∀y∈r,Q x y):mM R Q bs (B++r)
theorem mM.head{bs:Nat}{r:List α}(h:mM R Q bs r)(hl:bs≤r.length):∃B r',r=B++r'∧B.length=bs∧B.Pairwise R∧mM R Q bs r'∧∀x∈B,∀y∈r',Q x y:=by
 cases h with
 | last h s=>exact⟨r,[],by simp,by omega,s,.last (by simp) .nil,by simp⟩
 | cons h s t c=>exact⟨_,_,rfl,h,s,t,c⟩
theorem mM.one{bs:Nat}{r:List α}(h:mM R Q bs r)(hl:r.length≤bs):r.Pairwise R:=by
 cases h with
 | last h s=>exact s
 | @cons B r h s t c=>
  have:r.length=0:=by simp at hl;omega
  rw[List.length_eq_zero_iff]at this;subst this;simpa using s
theorem CD(K:Keys lt R Q){bs:Nat}(hbs:0<bs):∀(f a:Nat) (P r:List α),a=P.length→r.length≤f→mM R Q bs r→∃r',gz lt bs f a (P++r)=P++r'∧r'.Perm r∧mM R Q (2*bs) r':=by
 have small:∀(a:Nat) (P r:List α),a=P.length→r.length<2*bs→mM R Q bs r→∃r',nZ lt bs a (P++r)=P++r'∧r'.Perm r∧mM R Q (2*bs) r':=by
  intro a P r ha hr hB;unfold nZ;split
  ·rename_i h;simp only[List.length_append]at h;obtain⟨B,r1,rfl,h1,h2,h3,h4⟩:=hB.head (by omega);simp only[List.length_append]at h hr;obtain⟨X,x1,x2,x3⟩:=qA K (P.length+(B.length+r1.length)-a) a (a+bs) (P.length+(B.length+r1.length)) P B r1 [] ha (by omega) (by omega) (by omega) (by omega) (by omega) h2 (h3.one (by omega)) h4;refine⟨X,?_,x2,.last (by rw[x2.length_eq];simp;omega) x3⟩;unfold qm;simpa using x1
  ·rename_i h;simp only[List.length_append]at h;exact⟨r,rfl,.refl _,.last (by omega) (hB.one (by omega))⟩
 intro f
 induction f with
 | zero=>
  intro a P r ha hf hB;unfold gz;exact small a P r ha (by omega) hB
 | succ f ih=>
  intro a P r ha hf hB;unfold gz;split
  ·rename_i h;simp only[List.length_append]at h;obtain⟨B,r1,rfl,h1,h2,h3,h4⟩:=hB.head (by omega);simp only[List.length_append]at h hf;obtain⟨C,r2,rfl,k1,k2,k3,k4⟩:=h3.head (by omega);simp only[List.length_append]at h hf;obtain⟨X,x1,x2,x3⟩:=qA K (a+2*bs-a) a (a+bs) (a+2*bs) P B C r2 ha (by omega) (by omega) (by omega) (by omega) (by omega) h2 k2 (fun x hx y hy=>h4 x hx y (by simp[hy]));unfold qm;rw[x1];have hX:X.length=2*bs:=by rw[x2.length_eq];simp;omega
   obtain⟨r3,y1,y2,y3⟩:=ih (a+2*bs) (P++X) r2 (by simp;omega) (by omega) k3;refine⟨X++r3,by rw[←List.append_assoc,y1,List.append_assoc],?_,.cons hX x3 y3 fun x hx y hy=>?_⟩
   ·have:=x2.append y2;simpa using this
   ·have hy:=y2.mem_iff.1 hy;rcases List.mem_append.1 (x2.mem_iff.1 hx)with hx|hx
    ·exact h4 x hx y (by simp[hy])
    ·exact k4 x hx y hy
  ·rename_i h;simp only[List.length_append]at h;exact small a P r ha (by omega) hB
theorem zA(K:Keys lt R Q):∀(f bs:Nat) (l:List α),0<bs→l.length≤f+bs→mM R Q bs l→(n8 lt f bs l).Pairwise R
 | 0,bs,l,h0,hl,hB=>by unfold n8;exact hB.one (by omega)
 | f+1,bs,l,h0,hl,hB=>by
  unfold n8;split
  ·obtain⟨r',h1,h2,h3⟩:=CD K h0 l.length 0 [] l rfl (Nat.le_refl _) hB;rw[show ([]:List α)++l=l from rfl]at h1;rw[h1,List.nil_append];exact zA K f (2*bs) r' (by omega) (by rw[h2.length_eq];omega) h3
  ·exact hB.one (by omega)
theorem Du(K:Keys lt R Q):∀(f a:Nat) (P r:List α),a=P.length→r.length≤f→r.Pairwise Q→∃r',my lt f a (P++r)=P++r'∧r'.Perm r∧mM R Q 20 r':=by
 have small:∀(a:Nat) (P r:List α),a=P.length→r.length<20→r.Pairwise Q→∃r',lv lt a (P++r).length (P++r)=P++r'∧r'.Perm r∧mM R Q 20 r':=by
  intro a P r ha hr hQ;obtain⟨Z,z1,z2,z3⟩:=zr K (P:=P) (X:=r) (S:=[]) (a:=a) (b:=(P++r).length) ha (by simp;omega) hQ;exact⟨Z,by simpa using z1,z2,.last (by rw[z2.length_eq];omega) z3⟩
 intro f
 induction f with
 | zero=>
  intro a P r ha hf hQ;unfold my;exact small a P r ha (by omega) hQ
 | succ f ih=>
  intro a P r ha hf hQ;unfold my;split
  ·rename_i h;simp only[List.length_append]at h;obtain⟨X,r1,rfl,hX⟩:∃X r1,r=X++r1∧X.length=20:=⟨r.take 20,r.drop 20,by simp,by simp;omega⟩;simp only[List.length_append]at h hf;obtain⟨q1,q2,q3⟩:=List.pairwise_append.1 hQ;obtain⟨Z,z1,z2,z3⟩:=zr K (P:=P) (X:=X) (S:=r1) (a:=a) (b:=a+20) ha (by omega) q1;rw[z1];obtain⟨r2,y1,y2,y3⟩:=ih (a+20) (P++Z) r1 (by simp[z2.length_eq];omega) (by omega) q2;refine⟨Z++r2,by rw[←List.append_assoc,y1,List.append_assoc],z2.append y2,.cons (by rw[z2.length_eq];exact hX) z3 y3 fun x hx y hy=>q3 x (z2.mem_iff.1 hx) y (y2.mem_iff.1 hy)⟩
  ·rename_i h;simp only[List.length_append]at h;exact small a P r ha (by omega) hQ
theorem HE(K:Keys lt R Q){l:List α}(h:l.Pairwise Q):(Ec lt l).Pairwise R:=by
 obtain⟨r',h1,h2,h3⟩:=Du K l.length 0 [] l rfl (Nat.le_refl _) h;rw[show ([]:List α)++l=l from rfl,List.nil_append]at h1;unfold Ec;rw[h1];exact zA K _ _ _ (by omega) (by rw[h2.length_eq];omega) h3
end
def ey(x y:ik):Prop:=x.at_<y.at_∨(x.at_=y.at_∧x.slot<y.slot)
def qG(x y:ik):Prop:=x.slot<y.slot
theorem KT:Keys eQ ey qG:=by
 have hlt:∀x y:ik,eQ x y=decide (x.at_<y.at_):=fun x y=>by
  unfold eQ td;split
  ·simp[*]
  ·split<;>simp[*]
 constructor
 ·intro x y z h1 h2;unfold ey at *;omega
 ·intro x y h1 h2;rw[hlt]at h2;unfold ey qG at *;simp at h2;omega
 ·intro x y h1 h2;rw[hlt]at h2;unfold ey qG at *;simp at h2;omega
 ·intro x y h1 h2;rw[hlt];unfold ey qG at *;simp;omega
set_option maxHeartbeats 4000000
open Go.aN
def covers(a:nB)(x:Nat):Prop:=a.page≤(x:Int)∧(x:Int)<a.page+a.count
abbrev bo(pages:Int)(l:List (Int×Int))(i:Nat):nB:=(aM pages (nth l i)).1
structure Free (pages:Int) (l:List (Int×Int)) (i:Nat):Prop where
 k:∀x:Nat,(x:Int)<pages→(∀j,j<i→¬covers (bo pages l j) x)→nth (ei pages l i).1 x = -1
 b:∀x c:Nat,x<64→(nth (ei pages l i).2 x).testBit c=true→∃j,j<i∧(bo pages l j).small=true∧(bo pages l j).page=x∧(bo pages l j).cell=c
theorem vC{p:Nat}:∀ {f j:Nat} {l:List Int},(∀t,j≤t→t<j+f→nth l (p+t) = -1)→p+j+f≤l.length→(ed p f j l).1=true
 | 0,j,l,_,_=>rfl
 | f+1,j,l,h,hl=>by
  rw[qt (h j (by omega) (by omega))];exact vC (fun t h1 h2=>by rw[bT (by omega),if_neg (by omega)];exact h t (by omega) (by omega)) (by simp;omega)
theorem zf{m c:Nat}(h:m.testBit c=false):m &&& 2^c=0:=by
 apply Nat.eq_of_testBit_eq;intro i;rw[Nat.testBit_and,Nat.testBit_two_pow,Nat.zero_testBit];by_cases e:c=i
 ·subst e;simp[h]
 ·simp[e]
theorem lay_all{pages:Int}{l:List (Int×Int)}(h0:0≤pages)(hp:pages≤64)(hs:∀i,i<l.length→(aM pages (nth l i)).2=true)
    (ha:∀i j,i<j→j<l.length→gI (bo pages l i) (bo pages l j)):∀i,i≤l.length→(∀j,j<i→lu pages l j=true)∧Free pages l i
 | 0, _ => ⟨fun j hj => by omega, fun x hx _ => by
     show nth (List.replicate pages.toNat (-1)) x = -1
     rw [bC (by rw [List.length_replicate]; omega), List.getElem_replicate], fun x c hx hb => by
     exfalso
     have : nth (ei pages l 0).2 x = 0 := by
       show nth (List.replicate 64 0) x = 0
       rw [bC (by rw [List.length_replicate]; omega), List.getElem_replicate]
     rw [this] at hb; simp at hb⟩
 | i+1,hi=>by
  obtain⟨hok,hF⟩:=lay_all h0 hp hs ha i (by omega);have hsp:=hs i (by omega);have hg:=(dK hsp).good;have hgj:∀j,j<i→iv pages (bo pages l j):=fun j hj=>(dK (hs j (by omega))).good
  have hold:=laid_holds hp (pages:=pages) (l:=l) hok;obtain⟨l1,l2⟩:=ek (pages:=pages) (l:=l) (i:=i);obtain⟨b,hb⟩:∃b,b=bo pages l i:=⟨_,rfl⟩;have hb':(aM pages (nth l i)).1=b:=hb.symm;rw[hb']at hg;have hap:∀j,j<i→gI (bo pages l j) b:=fun j hj=>by rw[hb];exact ha j i hj (by omega)
  have g0:=hg.p0;have g1:=hg.c1;have g2:=hg.p1;have hpn:(b.page.toNat:Int)=b.page:=by omega
  -- it is laid
  have As:(gm (ei pages l i).1 (ei pages l i).2 b.page.toNat b.count.toNat b.small b.cls b.cell.toNat).1=true:=by
   unfold gm
   cases hsm:b.small with
   | true=>
    obtain⟨q1,q2,q3,q4,q5⟩:=hg.s1 hsm;simp only[if_true];by_cases hex:∃j,j<i∧covers (bo pages l j) b.page.toNat
    ·obtain⟨j,hj,hc⟩:=hex;have hA:=hap j hj;unfold covers at hc;rcases hA with ⟨a1,a2,a3,a4⟩|hA|hA
     ·have hgs:=(hgj j hj).s1 a1;have hpe:(bo pages l j).page=b.page:=by omega
      have hk:=((hold j hj).1 a1).1;rw[show (aM pages (nth l j)).1.page.toNat=b.page.toNat by rw[show (aM pages (nth l j)).1.page=b.page from hpe]]at hk
      have hbit:(nth (ei pages l i).2 b.page.toNat).testBit b.cell.toNat=false:=by
       cases hq:(nth (ei pages l i).2 b.page.toNat).testBit b.cell.toNat with
       | false=>rfl
       | true=>
        exfalso;obtain⟨j2,hj2,r1,r2,r3⟩:=hF.b _ _ (by omega) hq;rcases hap j2 hj2 with ⟨_,_,_,s4⟩|s|s
        ·omega
        ·have:=((hgj j2 hj2).s1 r1).1;omega
        ·omega
      rw[if_pos ⟨hk.trans a3,zf hbit⟩]
     ·omega
     ·omega
    ·have hfree:=hF.k b.page.toNat (by omega) (fun j hj hc=>hex ⟨j,hj,hc⟩);rw[if_neg (fun h=>by rw[hfree]at h;omega),if_pos hfree]
   | false=>
    simp only[Bool.false_eq_true,if_false]
    rw[if_pos (vC (fun t h1 h2=>hF.k _ (by omega) (fun j hj hc=>by
      unfold covers at hc
      rcases hap j hj with ⟨_, a2, _⟩ | hA | hA
      · rw [hsm] at a2; cases a2
      · omega
      · omega)) (by omega))]
  have Kn:lu pages l i=true:=by
   unfold lu lA;rw[if_pos hsp,hb'];exact As
  have hst:ei pages l (i+1)=(gm (ei pages l i).1 (ei pages l i).2 b.page.toNat b.count.toNat b.small b.cls b.cell.toNat).2:=by
   rw[(uO Kn).1,hb']
  refine⟨fun j hj=>?_,?_,?_⟩
  ·by_cases e:j=i
   ·subst e;exact Kn
   ·exact hok j (by omega)
  ·intro x hx hc;have hx1:nth (ei pages l i).1 x = -1:=hF.k x hx (fun j hj=>hc j (by omega));have hx2:¬covers b x:=by rw[hb];exact hc i (by omega)
   unfold covers at hx2;rw[hst];unfold gm at As ⊢
   cases hsm:b.small with
   | true=>
    obtain⟨q1,_⟩:=hg.s1 hsm;simp only[if_true];split
    ·exact hx1
    ·split
     ·simp only;rw[bT (by omega),if_neg (by omega)];exact hx1
     ·exact hx1
   | false=>
    simp only[hsm,Bool.false_eq_true,if_false]at As ⊢;by_cases hf:(ed b.page.toNat b.count.toNat 0 (ei pages l i).1).1=true
    ·rw[if_pos hf];simp only;rw[bT (by rw[mc];omega),if_neg (by omega),(mV hf (by omega)).2,if_neg (by omega)];exact hx1
    ·rw[if_neg hf]at As;cases As
  ·intro x c hx hbit;rw[hst]at hbit;unfold gm at As hbit
   have old:(nth (ei pages l i).2 x).testBit c=true→∃j,j<i+1∧(bo pages l j).small=true∧(bo pages l j).page=x∧(bo pages l j).cell=c:=fun h=>by
    obtain⟨j,hj,r⟩:=hF.b x c hx h;exact⟨j,by omega,r⟩
   cases hsm:b.small with
   | true=>
    obtain⟨q1,q2,q3,q4,q5⟩:=hg.s1 hsm
    have new:b.page.toNat=x→b.cell.toNat=c→∃j,j<i+1∧(bo pages l j).small=true∧(bo pages l j).page=x∧(bo pages l j).cell=c:=fun h1 h2=>
     ⟨i,by omega,by rw[←hb];exact hsm,by rw[←hb];omega,by rw[←hb];omega⟩
    simp only[hsm,if_true]at hbit;split at hbit
    ·simp only at hbit;rw[bT (by omega)]at hbit;split at hbit
     ·rename_i e;rw[Nat.testBit_or,Bool.or_eq_true]at hbit;rcases hbit with h|h
      ·exact old (by rw[←e];exact h)
      ·rw[Nat.testBit_two_pow]at h;exact new e (by simpa using h)
     ·exact old hbit
    ·split at hbit
     ·simp only at hbit;rw[bT (by omega)]at hbit;split at hbit
      ·rename_i e;rw[Nat.testBit_two_pow]at hbit;exact new e (by simpa using hbit)
      ·exact old hbit
     ·exact old hbit
   | false=>
    simp only[hsm,Bool.false_eq_true,if_false]at hbit;split at hbit<;>exact old hbit
theorem rJ{pages:Int}{l:List (Int×Int)}:(cR pages l).isSome=true↔(0≤pages∧pages≤64)∧(∀i,i<l.length→(aM pages (nth l i)).2=true)∧∀i j,i<j→j<l.length→gI (bo pages l i) (bo pages l j):=by
 unfold cR;constructor
 ·intro h;split at h
  ·rename_i h2;simp only[Bool.and_eq_true,decide_eq_true_eq,List.all_eq_true,List.mem_range]at h2;exact⟨h2.1,fun i hi=>iB (h2.2 i hi),fun i j hij hj=>yf h2.1.2 (fun k hk=>h2.2 k (by omega)) hij⟩
  ·simp at h
 ·rintro⟨⟨h0,h1⟩,h2,h3⟩;have:=(lay_all h0 h1 h2 h3 l.length (Nat.le_refl _)).1;rw[if_pos (by simp only[Bool.and_eq_true,decide_eq_true_eq,List.all_eq_true,List.mem_range];exact⟨⟨h0,h1⟩,this⟩)];rfl
open Go.aN
def nN(p q:Int×Int):Prop:=p.1+p.2≤q.1∨q.1+q.2≤p.1
theorem mX{to:Int}:∀ {l:List (Int×Int)} {a:Int},l.Pairwise (fun p q=>p.1≤q.1) →
    (dI to a l=true↔(∀p∈l,a≤p.1∧4≤p.2∧p.1+p.2≤to∧p.1.tmod 4=0∧p.2.tmod 4=0)∧l.Pairwise nN)
 | [],a,_=>by simp[dI]
 | p::l,a,hs=>by
  obtain⟨s1,s2⟩:=List.pairwise_cons.1 hs;have ih:=mX (to:=to) (l:=l) (a:=p.1+p.2) s2;simp only[dI,Bool.and_eq_true,di,Bool.not_eq_true',decide_eq_false_iff_not];rw[ih,List.pairwise_cons];constructor
  ·rintro⟨h1,h2,h3⟩;refine⟨fun q hq=>?_,fun q hq=>.inl (h2 q hq).1,h3⟩;rcases List.mem_cons.1 hq with rfl|hq
   ·refine⟨by omega,by omega,by omega,?_,?_⟩<;>(have:=h1;grind)
   ·have:=h2 q hq;exact⟨by omega,this.2⟩
  ·rintro⟨h1,h2,h3⟩;have hp:=h1 p (by simp);refine⟨by omega,fun q hq=>?_,h3⟩;have hq1:=h1 q (by simp[hq]);have hq2:=h2 q hq;have hq3:=s1 q hq;unfold nN at hq2;exact⟨by omega,hq1.2⟩
theorem wo{α:Type}[Inhabited α]{R:α→α→Prop}{l:List α}:(∀i j,i<j→j<l.length→R (nth l i) (nth l j))↔l.Pairwise R:=by
 rw[List.pairwise_iff_getElem];constructor
 ·intro h i j hi hj hij;have:=h i j hij hj
  rwa [bC hi,bC hj]at this
 ·intro h i j hij hj;rw[bC (by omega),bC hj];exact h i j (by omega) hj hij
theorem uM{α:Type}[Inhabited α]{R:α→Prop}{l:List α}:(∀i,i<l.length→R (nth l i))↔∀x∈l,R x:=by
 constructor
 ·intro h x hx;obtain⟨i,hi,rfl⟩:=List.getElem_of_mem hx;have:=h i hi
  rwa [bC hi]at this
 ·intro h i hi;exact h _ (zE hi)
theorem sq{R:Nat→Nat→Prop}{n:Nat}:(List.range n).Pairwise R↔∀i j,i<j→j<n→R i j:=by
 rw[List.pairwise_iff_getElem];simp only[List.length_range,List.getElem_range];exact⟨fun h i j hij hj=>h i j (by omega) hj hij,fun h i j hi hj hij=>h i j hij hj⟩
def lf(s:bF)(x:Slot):Prop:=if x.two=true then (aM s.base (x.at_,x.len)).2=true else s.base*32≤x.at_∧x.at_.tmod 4=0∧x.at_+(cK x.len).1≤s.sh.pages*32
def oP(base:Int)(x y:Slot):Prop:=(x.two=true→y.two=true→gI (aM base (x.at_,x.len)).1 (aM base (y.at_,y.len)).1) ∧
 (x.two=false→y.two=false→nN (x.at_,(cK x.len).1) (y.at_,(cK y.len).1))
theorem ve{a b:nB}(h:gI a b):gI b a:=by
 rcases h with ⟨h1,h2,h3,h4⟩|h|h
 ·exact .inl ⟨h2,h1,h3.symm,fun e=>h4 e.symm⟩
 ·exact .inr (.inr h)
 ·exact .inr (.inl h)
theorem mT{p q:Int×Int}(h:nN p q):nN q p:=h.symm
theorem vl{base:Int}{x y:Slot}(h:oP base x y):oP base y x:=⟨fun a b=>ve (h.1 b a),fun a b=>mT (h.2 b a)⟩
theorem oC{R:Int×Int→Prop}{l:List Slot}:(∀o∈bW l,R o)↔∀i,i<l.length→eI (nth l i)=true→R ((nth l i).at_,(nth l i).len):=by
 simp only[bW,dz,List.mem_map,List.mem_filter,List.mem_range];constructor
 ·intro h i hi ht;exact h _ ⟨i,⟨hi,ht⟩,rfl⟩
 ·rintro h o ⟨i,⟨hi,ht⟩,rfl⟩;exact h i hi ht
theorem ue{R:Int×Int→Int×Int→Prop}{l:List Slot}:(bW l).Pairwise R↔∀i j,i<j→j<l.length→eI (nth l i)=true→eI (nth l j)=true→R ((nth l i).at_,(nth l i).len) ((nth l j).at_,(nth l j).len):=by
 rw[bW,List.pairwise_map,dz,List.pairwise_filter,sq];exact Iff.rfl
theorem pg{R:ik→Prop}{l:List Slot}:(∀o∈fi l,R o)↔∀i,i<l.length→dV (nth l i)=true→R (gv l i):=by
 simp only[fi,fy,List.mem_map,List.mem_filter,List.mem_range];constructor
 ·intro h i hi ht;exact h _ ⟨i,⟨hi,ht⟩,rfl⟩
 ·rintro h o ⟨i,⟨hi,ht⟩,rfl⟩;exact h i hi ht
theorem nj{R:ik→ik→Prop}{l:List Slot}:(fi l).Pairwise R↔∀i j,i<j→j<l.length→dV (nth l i)=true→dV (nth l j)=true→R (gv l i) (gv l j):=by
 rw[fi,List.pairwise_map,fy,List.pairwise_filter,sq]
theorem wu{l:List Slot}:(fi l).Pairwise qG:=by
 rw[nj];intro i j hij _ _ _
 show (i:Int)<j
 omega
theorem kS{l:List Slot}:(ca l).Pairwise ey:=HE KT wu
theorem yi{n:Int}(h:1≤n∧n≤2048):(cK n).1.tmod 4=0:=by
 unfold cK;rw[if_neg (by omega)];simp only[C6];rw[Int.tmod_eq_emod_of_nonneg]
 ·omega
 ·have:0≤(2+(n+8-1).tdiv 8+4-1).tdiv 4:=by
   rw[Int.tdiv_eq_ediv_of_nonneg (a:=n+8-1) (by omega),Int.tdiv_eq_ediv_of_nonneg (by omega)];omega
  omega
theorem An{sh:Shape}{mode base:Int}(h:cI sh mode base=true):eP (base*32) (sh.pages*32)=true:=by
 have:=gP h;simp only[eP,decide_eq_true_eq];rw[Int.tmod_eq_emod_of_nonneg (by omega),Int.tmod_eq_emod_of_nonneg (by omega)];omega
def Cn(mode:Int)(x:Slot):Prop:=(mode=1→x.two=false)∧(mode=2→x.two=true)
theorem jr{s:bF}:bL s=true↔cI s.sh s.mode s.base=true∧dH s=true∧(∀i,i<s.slots.length→(nth s.slots i).live=true→lf s (nth s.slots i)∧Cn s.mode (nth s.slots i)) ∧
    ∀i j,i<j→j<s.slots.length→(nth s.slots i).live=true→(nth s.slots j).live=true→oP s.base (nth s.slots i) (nth s.slots j):=by
 unfold bL;simp only[Bool.and_eq_true];constructor
 ·rintro⟨h1,h2,h3,h4,h5⟩;obtain⟨_,l2,l3⟩:=rJ.1 h3;rw[uM (R:=fun o=>(aM s.base o).2=true),oC]at l2;rw[wo (R:=fun o p=>gI (aM s.base o).1 (aM s.base p).1),ue]at l3;simp only[dt,Bool.and_eq_true]at h4
  have hsort:(bV s.slots).Pairwise (fun p q=>p.1≤q.1):=by
   rw[bV,List.pairwise_map];exact kS.imp fun {x y} h=>by unfold ey at h;show x.at_≤y.at_;omega
  obtain⟨g1,g2⟩:=(mX hsort).1 h4.2
  have g3:∀b∈fi s.slots,s.base*32≤b.at_∧4≤b.len∧b.at_+b.len≤s.sh.pages*32∧b.at_.tmod 4=0∧b.len.tmod 4=0:=fun b hb=>
   g1 (fC b) (by rw[bV];exact List.mem_map_of_mem ((iH (lt:=eQ) _).mem_iff.2 hb))
  rw[pg]at g3
  have g4:(fi s.slots).Pairwise (fun x y=>nN (fC x) (fC y)):=by
   rw[bV,List.pairwise_map]at g2;exact((iH (lt:=eQ) _).pairwise_iff (fun h=>mT h)).1 g2
  rw[nj]at g4;refine⟨h1,h2,fun i hi hl=>⟨?_,?_⟩,fun i j hij hj hl1 hl2=>⟨fun t1 t2=>l3 i j hij hj (by simp[eI,hl1,t1]) (by simp[eI,hl2,t2]),fun t1 t2=>g4 i j hij hj (by simp[dV,hl1,t1]) (by simp[dV,hl2,t2])⟩⟩
  ·unfold lf;split
   ·rename_i ht;exact l2 i hi (by simp[eI,hl,ht])
   ·rename_i ht;have:=g3 i hi (by simp[dV,hl,ht]);exact⟨this.1,this.2.2.2.1,this.2.2.1⟩
  ·unfold jO at h5;constructor
   ·intro hm;rw[if_pos hm]at h5;have:(bW s.slots).length=0:=by simpa using h5
    cases ht:(nth s.slots i).two with
    | false=>rfl
    | true=>
     obtain⟨a,ha,_⟩:=Ee hi (show eI (nth s.slots i)=true by simp[eI,hl,ht]);omega
   ·intro hm;rw[if_neg (by omega),if_pos hm]at h5
    have:(fi s.slots).length=0:=by
     have q:=of_decide_eq_true h5
     rwa [bV,List.length_map,ca,iV]at q
    cases ht:(nth s.slots i).two with
    | true=>rfl
    | false=>
     exfalso
     have hm:gv s.slots i∈fi s.slots:=by
      rw[fi];exact List.mem_map_of_mem (by simp only[fy,List.mem_filter,List.mem_range];exact⟨hi,by simp[dV,hl,ht]⟩)
     rw[List.length_eq_zero_iff]at this;rw[this]at hm;cases hm
 ·rintro⟨h1,h2,h3,h4⟩;have ht:=iu h2;have hb:=gP h1;have pR:∀ {x:Slot},eI x=true→x.live=true∧x.two=true:=fun h=>by simpa [eI]using h
  have n6:∀ {x:Slot},dV x=true→x.live=true∧x.two=false:=fun h=>by simpa [dV]using h
  refine⟨h1,h2,?_,?_,?_⟩
  ·refine rJ.2 ⟨by omega,?_,?_⟩
   ·rw[uM (R:=fun o=>(aM s.base o).2=true),oC];intro i hi hx;have:=(h3 i hi (pR hx).1).1;unfold lf at this;rwa [if_pos (pR hx).2]at this
   ·rw[wo (R:=fun o p=>gI (aM s.base o).1 (aM s.base p).1),ue];intro i j hij hj hx hy;exact(h4 i j hij hj (pR hx).1 (pR hy).1).1 (pR hx).2 (pR hy).2
  ·simp only[dt,Bool.and_eq_true]
   have hsort:(bV s.slots).Pairwise (fun p q=>p.1≤q.1):=by
    rw[bV,List.pairwise_map];exact kS.imp fun {x y} h=>by unfold ey at h;show x.at_≤y.at_;omega
   refine⟨An h1,(mX hsort).2 ⟨fun p hp=>?_,?_⟩⟩
   ·rw[bV]at hp;obtain⟨b,hb',rfl⟩:=List.mem_map.1 hp;obtain⟨i,hi,hx,rfl⟩:=AJ hb';have hf:=(h3 i hi (n6 hx).1).1;unfold lf at hf;rw[if_neg (by simp[(n6 hx).2])]at hf;have hs:=l5 (gE ht i hi) (n6 hx).1;exact⟨hf.1,tT (by omega),hf.2.2,hf.2.1,yi (by omega)⟩
   ·rw[bV,List.pairwise_map];refine((iH (lt:=eQ) (fi s.slots)).pairwise_iff (fun h=>mT h)).2 ?_;rw[nj];intro i j hij hj hx hy;exact(h4 i j hij hj (n6 hx).1 (n6 hy).1).2 (n6 hx).2 (n6 hy).2
  ·unfold jO;split
   ·rename_i hm;rw[decide_eq_true_eq]
    have:∀o∈bW s.slots,False:=by
     rw[oC (R:=fun _=>False)];intro i hi hx;have:=(h3 i hi (pR hx).1).2.1 hm;rw[(pR hx).2]at this;cases this
    cases hq:bW s.slots with
    | nil=>rfl
    | cons o t=>exact(this o (by simp[hq])).elim
   ·split
    ·rename_i hm;rw[decide_eq_true_eq]
     have:∀o∈fi s.slots,False:=by
      rw[pg (R:=fun _=>False)];intro i hi hx;have:=(h3 i hi (n6 hx).1).2.2 hm;rw[(n6 hx).2]at this;cases this
     have h0:fi s.slots=[]:=by
      cases hq:fi s.slots with
      | nil=>rfl
      | cons o t=>exact(this o (by simp[hq])).elim
     rw[bV,List.length_map,ca,iV,h0];rfl
    ·rfl
open Go.aN
def fj(x:Slot):Bool := !x.live&&decide (x.gen≠65535)
def cV(n:Int):Bool:=decide (1≤n∧n≤2048)
def K2(l:List Slot):Nat→Nat→Option Nat
 | 0,_=>none
 | f+1,i=>if fj (nth l i)=true then some i else K2 l f (i+1)
def dh(l:List Slot):Option Nat:=(List.range l.length).find? fun i=>fj (nth l i)
theorem yk{l:List Slot}{k:Nat}(hk:k<l.length)(h:fj (nth l k)=true)(hn:∀j,j<k→fj (nth l j)=false):dh l=some k:=by
 unfold dh;rw[List.find?_eq_some_iff_getElem];refine⟨h,k,by simpa using hk,by simp,fun j hj=>by simp[hn j hj]⟩
theorem yj{l:List Slot}(hn:∀j,j<l.length→fj (nth l j)=false):dh l=none:=by
 unfold dh;rw[List.find?_eq_none];intro x hx;simp at hx;simp[hn x hx]
theorem fv{l:List Slot}{k:Nat}(h:dh l=some k):k<l.length∧fj (nth l k)=true∧∀j,j<k→fj (nth l j)=false:=by
 unfold dh at h;rw[List.find?_eq_some_iff_getElem]at h;obtain⟨h1,i,hi,h2,h3⟩:=h;simp at hi h2;subst h2;exact⟨hi,h1,fun j hj=>by have:=h3 j hj;simpa using this⟩
@[simp high] theorem Fu{α:Type}{P:Program}{objs:List aN.Obj}{t:TypeId}{k:Nat}{f:α→D}{l:List α}{lo:Option Int}{q:Int}:ie P objs t (.d (rows k f l)) lo (some q) (some q)=(match ty P t with
    | some { k := .slice e, .. } => match ty P e with
      | some T => if k = T.size ∧ 0 ≤ lo.getD 0 ∧ lo.getD 0 ≤ q ∧ q ≤ l.length then some (.cut k (((l.drop (lo.getD 0).toNat).take (q.toNat - (lo.getD 0).toNat)).map f)) else none
      | none => none
    | _ => none) := by
 unfold rows ie
 cases ty P t with
 | none=>rfl
 | some T=>
  obtain⟨sz,by',K,z⟩:=T
  cases K with
  | slice e=>
   simp only
   cases ty P e with
   | none=>rfl
   | some T=>simp
  | _=>rfl
set_option maxRecDepth 4000
open Go.aN
attribute [simp] Tryz.f102 Tryz.f109 Tryz.f160 Tryz.f162
theorem Ji(g:Gl)(s:Slot):a9 Tryz.prog g 160 [aA s] (.v (.bool (fj s))):=by
 refine xA Tryz.func160 fun B S=>?_
 simp only[aA,List.map,aO];refine xU ?_;refine ay ?_;refine xG [1] ?_;refine bx ?_;iterate 3 refine xI ?_
 refine xP ?_;refine xB ?_;refine xF [2] ?_;refine xZ ?_;first|(simp[fj]at *;grind)|simp[fj, *]
theorem Bx(g:Gl)(n:Int):a9 Tryz.prog g 102 [vI n] (.v (.bool (cV n))):=by
 refine xA Tryz.func102 fun B S=>?_
 refine xU ?_;refine xO ?_;refine xG [0] ?_;refine aT ?_;iterate 2 refine xI ?_
 refine xP ?_;refine xB ?_;refine xF [2] ?_;refine xZ ?_;first|(simp[cV]at *;grind)|simp[cV, *]
theorem En(g:Gl)(l:List Slot)(hl:l.length≤2^40):a9 Tryz.prog g 109 [eG l] (.bK [vI (((dh l).getD 0:Nat):Int),.v (.bool (dh l).isSome)]):=by
 refine xA Tryz.func109 fun B S=>?_
 refine xU ?_;refine bU [0] ?_;refine ab (xU ?_);refine dC [6,7,8] ?_;refine ag (aB (fun m σ o=>∃i:Nat,m=l.length-i∧i≤l.length∧(∀j,j<i→fj (nth l j)=false)∧σ=slots [(6,.d (eG l)),(7,.d (vI l.length)),(8,.d (vI i))]∧o=[]) l.length .refl ⟨0,by simp,by simp,by simp,rfl,rfl⟩ ?_);rintro m σ o ⟨i,rfl,hi,hinv,rfl,rfl⟩ _;refine xU ?_;refine xH [6,7,8,9] ?_;refine ab (bd rfl ?_ ?_)
 ·intro h9;have hi2:i<l.length:=by simpa using h9
  refine af fun _=>?_;refine ab (ag ?_);refine xU ?_;refine xO ?_;refine xO ?_ (h:=by simp[aA, *];exact .mk);refine cq ?_;refine ay ?_;refine aH ?_;refine xG [4,5,6,7,8] ?_;refine cq ?_;refine xC (Ji g (nth l i)) ?_;refine xQ [4,6,7,8,14] ?_ ?_
  ·intro fe;have hr:dh l=some i:=yk hi2 fe hinv;refine xU ?_;refine dC [2,3] ?_;refine xZ ?_;simp[hr]
  intro fe;refine af fun _=>?_;refine xY ?_;refine ay ?_;refine xE [6,7,8] ?_;refine aq 0 [6,7,8] (by simp) (by simp[gX,AV.cells,AV.aX]) (by simp[gX,AV.cells,AV.aX]) ?_;refine ae (m':=l.length-(i+1)) (by omega) ⟨i+1,rfl,by omega,?_,?_,rfl⟩
  ·intro j hj;rcases Nat.lt_succ_iff_lt_or_eq.1 hj with hj|rfl
   ·exact hinv j hj
   exact fe
  rw[wrap64 (by omega) (by omega)];rfl
 intro h9;have hr:dh l=none:=yj (fun j hj=>hinv j (by simp at h9;omega));refine aP (xT ?_);refine bU [2,3] ?_;refine xZ ?_;simp[hr]
theorem vp(g:Gl)(l:List Slot)(k:Nat)(x:Slot)(hl:l.length≤2^40)(hk:k<l.length):a9 Tryz.prog g 162 [eG l,vI k,aA x] (Fk (l.set k x)):=by
 refine xA Tryz.func162 fun B S=>?_
 simp only[aA,List.map,aO];have e1:IntKind.i64.wrap ((k:Int)+1)=k+1:=wrap64 (by omega) (by omega);have e2:(0:Int)≤(k:Int)+1:=by omega
 have e3:(k:Int)+1≤l.length:=by omega
 have em:min k l.length=k:=by omega
 have e4:(k+1)*32≤140737488355328:=by omega
 have e5:k≤140737488355327:=by omega
 have e6:k+1+(l.length-(k+1))=l.length:=by omega
 have e7:l.length*32≤140737488355328:=by omega
 have e8:l.length≤140737488355328:=by omega
 have e9:=eq_true (show l.length=min k l.length+(l.length-(k+1)+1) by omega);refine xU ?_;refine bU [0,1,5] ?_;refine ab ?_;refine iP (hard:=[]) [3,5,6,10] (aR (by decide)) (by kernel_rfl) 4 [[0,1,2,3,4,7,8,9,5,6,10,11,12],[0,1,2,3,4,7,8,9,5,10,6,11,12],[0,1,2,3,4,7,8,9,10,5,6,11,12],[0,1,2,4,7,8,9,5,3,6,10,11,12],[0,1,2,4,7,8,9,5,3,10,6,11,12],[0,1,2,4,7,8,9,5,10,3,6,11,12],[0,1,2,4,7,8,9,10,3,5,6,11,12],[0,1,2,4,7,8,9,10,5,3,6,11,12]] (by decide +kernel) ⟨?_,?_,?_,?_,?_,?_,?_,?_,trivial⟩
 ·skip
  refine aT ?_;refine xO ?_ (h:=by simp[ew,hk,Nat.le_of_lt hk];exact .mk);refine cq ?_;refine ay ?_;refine xO ?_ (h:=by simp[e1];exact .mk);refine xO ?_;refine xO ?_ (h:=by simp[rows,em,e4,e5];exact .mk);refine xO ?_ (h:=by simp[ew,e1,e2,e3];exact .mk);refine xO ?_ (h:=by simp[rows,em,e4,e5,e6,e7,e8];exact .mk);refine xH [6] ?_;refine ar (aG (by simp;exact .mk) (by simp[e9];exact .mk) ?_ (by simp));simp[ai,List.set_eq_take_append_cons_drop,hk,aA];try (rw[List.take_of_length_le (by simp)])
 ·skip
  refine aT ?_;refine xO ?_ (h:=by simp[ew,hk,Nat.le_of_lt hk];exact .mk);refine cq ?_;refine ay ?_;refine xO ?_ (h:=by simp[e1];exact .mk);refine xO ?_;refine xO ?_ (h:=by simp[ew,e1,e2,e3];exact .mk);refine xO ?_ (h:=by simp[rows,em,e4,e5];exact .mk);refine xO ?_ (h:=by simp[rows,em,e4,e5,e6,e7,e8];exact .mk);refine xH [6] ?_;refine ar (aG (by simp;exact .mk) (by simp[e9];exact .mk) ?_ (by simp));simp[ai,List.set_eq_take_append_cons_drop,hk,aA];try (rw[List.take_of_length_le (by simp)])
 ·skip
  refine aT ?_;refine xO ?_ (h:=by simp[ew,hk,Nat.le_of_lt hk];exact .mk);refine cq ?_;refine ay ?_;refine xO ?_ (h:=by simp[e1];exact .mk);refine xO ?_ (h:=by simp[ew,e1,e2,e3];exact .mk);refine xO ?_;refine xO ?_ (h:=by simp[rows,em,e4,e5];exact .mk);refine xO ?_ (h:=by simp[rows,em,e4,e5,e6,e7,e8];exact .mk);refine xH [6] ?_;refine ar (aG (by simp;exact .mk) (by simp[e9];exact .mk) ?_ (by simp));simp[ai,List.set_eq_take_append_cons_drop,hk,aA];try (rw[List.take_of_length_le (by simp)])
 ·skip
  refine aT ?_;refine cq ?_;refine ay ?_;refine xO ?_ (h:=by simp[e1];exact .mk);refine xO ?_;refine xO ?_ (h:=by simp[ew,hk,Nat.le_of_lt hk];exact .mk);refine xO ?_ (h:=by simp[rows,em,e4,e5];exact .mk);refine xO ?_ (h:=by simp[ew,e1,e2,e3];exact .mk);refine xO ?_ (h:=by simp[rows,em,e4,e5,e6,e7,e8];exact .mk);refine xH [6] ?_;refine ar (aG (by simp;exact .mk) (by simp[e9];exact .mk) ?_ (by simp));simp[ai,List.set_eq_take_append_cons_drop,hk,aA];try (rw[List.take_of_length_le (by simp)])
 ·skip
  refine aT ?_;refine cq ?_;refine ay ?_;refine xO ?_ (h:=by simp[e1];exact .mk);refine xO ?_;refine xO ?_ (h:=by simp[ew,hk,Nat.le_of_lt hk];exact .mk);refine xO ?_ (h:=by simp[ew,e1,e2,e3];exact .mk);refine xO ?_ (h:=by simp[rows,em,e4,e5];exact .mk);refine xO ?_ (h:=by simp[rows,em,e4,e5,e6,e7,e8];exact .mk);refine xH [6] ?_;refine ar (aG (by simp;exact .mk) (by simp[e9];exact .mk) ?_ (by simp));simp[ai,List.set_eq_take_append_cons_drop,hk,aA];try (rw[List.take_of_length_le (by simp)])
 ·skip
  refine aT ?_;refine cq ?_;refine ay ?_;refine xO ?_ (h:=by simp[e1];exact .mk);refine xO ?_;refine xO ?_ (h:=by simp[ew,e1,e2,e3];exact .mk);refine xO ?_ (h:=by simp[ew,hk,Nat.le_of_lt hk];exact .mk);refine xO ?_ (h:=by simp[rows,em,e4,e5];exact .mk);refine xO ?_ (h:=by simp[rows,em,e4,e5,e6,e7,e8];exact .mk);refine xH [6] ?_;refine ar (aG (by simp;exact .mk) (by simp[e9];exact .mk) ?_ (by simp));simp[ai,List.set_eq_take_append_cons_drop,hk,aA];try (rw[List.take_of_length_le (by simp)])
 ·skip
  refine aT ?_;refine cq ?_;refine ay ?_;refine xO ?_ (h:=by simp[e1];exact .mk);refine xO ?_ (h:=by simp[ew,e1,e2,e3];exact .mk);refine xO ?_ (h:=by simp[ew,hk,Nat.le_of_lt hk];exact .mk);refine xO ?_;refine xO ?_ (h:=by simp[rows,em,e4,e5];exact .mk);refine xO ?_ (h:=by simp[rows,em,e4,e5,e6,e7,e8];exact .mk);refine xH [6] ?_;refine ar (aG (by simp;exact .mk) (by simp[e9];exact .mk) ?_ (by simp));simp[ai,List.set_eq_take_append_cons_drop,hk,aA];try (rw[List.take_of_length_le (by simp)])
 skip
 refine aT ?_;refine cq ?_;refine ay ?_;refine xO ?_ (h:=by simp[e1];exact .mk);refine xO ?_ (h:=by simp[ew,e1,e2,e3];exact .mk);refine xO ?_;refine xO ?_ (h:=by simp[ew,hk,Nat.le_of_lt hk];exact .mk);refine xO ?_ (h:=by simp[rows,em,e4,e5];exact .mk);refine xO ?_ (h:=by simp[rows,em,e4,e5,e6,e7,e8];exact .mk);refine xH [6] ?_;refine ar (aG (by simp;exact .mk) (by simp[e9];exact .mk) ?_ (by simp));simp[ai,List.set_eq_take_append_cons_drop,hk,aA];try (rw[List.take_of_length_le (by simp)])
open Go.aN
attribute [simp] Tryz.f63 Tryz.f81 Tryz.f82 Tryz.f132 Tryz.f189 Tryz.f219
theorem I8(g:Gl)(a:dp)(ha:a.Ok):a9 Tryz.prog g 132 [mz a] (.v (.bool (bH a))):=by
 refine xA Tryz.func132 fun B S=>?_
 simp only[mz,List.map,aO];refine xU ?_;refine ay ?_;refine xG [1] ?_;refine bx ?_;refine xF [1,3] ?_;refine ab (xU ?_);iterate 6 refine xO ?_
 iterate 2 (refine bg rfl (by simp;exact .mk) rfl (by simp<;>omega) (fun hb=>by simp;exact .mk) ?_)
 refine xP ?_;refine bM rfl rfl rfl (by simp<;>omega) (by simp;exact .mk) ?_;iterate 2 (refine bg rfl (by simp;exact .mk) rfl (by simp<;>omega) (fun hb=>by simp;exact .mk) ?_)
 refine xP ?_;refine bM rfl rfl rfl (by simp<;>omega) (by simp;exact .mk) ?_;iterate 3 (refine bg rfl (by simp;exact .mk) rfl (by simp<;>omega) (fun hb=>by simp;exact .mk) ?_)
 refine xP ?_;refine run_end [1,26] (by simp<;>omega) (by simp;exact .mk) ?_;rintro -;refine bd rfl ?_ ?_
 ·intro i8;have hr:bH a=false:=t0 (by simp[hZ]at *;omega);refine xU ?_;refine xH [2] ?_;refine xZ ?_;simp[hr]
 intro i8;have h0:hZ a=true:=by simp[hZ]at *;omega
 have hgd:a.aw.length=a.data.length:=by simp[hZ]at h0;omega
 refine af fun _=>?_;refine ab (xU ?_);refine bx ?_;refine xF [1,28,29,30] ?_;refine ag (aB (fun m σ o=>∃i:Nat,m=a.aw.length-i∧i≤a.aw.length∧(∀j,j<i→ig a j=true)∧σ=slots [(1,.ptr 0 0 0),(28,.d (rI a.aw)),(29,.d (vI a.aw.length)),(30,.d (vI i))]∧o=[.var 67 [.d (rI a.aw),.d (fL a.data),.d (rR a.roots)]]) a.aw.length .refl ⟨0,by simp,by simp,by simp,rfl,rfl⟩ ?_);have q1:=ha.h1;rintro m σ o ⟨i,rfl,hi,hinv,rfl,rfl⟩ _;refine xU ?_;refine xH [1,28,29,30,31] ?_;refine ab (bd rfl ?_ ?_)
 ·intro h31;have hi2:i<a.aw.length:=by simpa using h31
  have hi3:i<a.data.length:=by omega
  refine af fun _=>?_;refine ab (ag ?_);refine xU ?_;refine xO ?_;refine xO ?_ (h:=by simp[*];exact .mk);refine aT ?_;refine xG [1,4,5,28,29,30] ?_;refine aT ?_;iterate 2 (refine bg rfl (by simp;exact .mk) rfl (by simp<;>omega) (fun hb=>by simp;exact .mk) ?_)
  refine xP ?_;refine bM rfl rfl rfl (by simp<;>omega) (by simp;exact .mk) ?_;iterate 3 (refine bg rfl (by simp;exact .mk) rfl (by simp<;>omega) (fun hb=>by simp;exact .mk) ?_)
  refine bg rfl (by simp;exact .mk) rfl (by simp<;>omega) (fun hb=>by simp[*];exact .mk) ?_;iterate 3 (refine bg rfl (by simp;exact .mk) rfl (by simp<;>omega) (fun hb=>by simp;exact .mk) ?_)
  refine xP ?_;refine run_end [1,28,29,30,49] (by simp<;>omega) (by simp;exact .mk) ?_;rintro -;refine bd rfl ?_ ?_
  ·intro Kc;refine ab ?_;have hr:bH a=false:=tZ hi2 (by simp[ig]at *;omega);refine xY ?_;refine xH [2] ?_;refine xZ ?_;simp[hr]
  intro Kc;refine af fun _=>?_;refine xY ?_;refine ay ?_;refine xE [1,28,29,30] ?_;refine ah [1,28,29,30] ?_;refine ae (m':=a.aw.length-(i+1)) (by omega) ⟨i+1,rfl,by omega,?_,?_,rfl⟩
  ·intro j hj;rcases Nat.lt_succ_iff_lt_or_eq.1 hj with hj|rfl
   ·exact hinv j hj
   simp[ig]at *;omega
  rw[wrap64 (by omega) (by omega)];rfl
 intro h31;refine aP ?_;rintro -;refine ab ?_;have hr:bH a=ck a.roots:=sD h0 (fun j hj=>hinv j (by simp at h31;omega));refine xY ?_;refine ay ?_;refine xC (BE g _ ha.h3 ha.h5) ?_;refine xH [2] ?_;refine xZ ?_;simp[hr]
theorem Mp(g:Gl)(x y:List (List UInt8))(hx:x.length≤2^40):a9 Tryz.prog g 82 [fL x,fL y] (.v (.bool (eX (fun a b=>(str a).toList==(str b).toList) x y))):=by
 refine xA Tryz.func82 fun B S=>?_
 refine xU ?_;refine xH [0,1] ?_;refine ab (xU ?_);refine cW ?_;refine xQ [0,1,10] ?_ ?_
 ·intro h10;have hr:eX (fun a b=>(str a).toList==(str b).toList) x y=false:=pt (by simp at h10;omega);refine xU ?_;refine xH [4] ?_;refine xZ ?_;simp[hr]
 intro h10;have hxy:x.length=y.length:=by simp at h10;omega
 refine af fun _=>?_;refine ab (xU ?_);refine xH [0,1,5] ?_;refine ag (aB (fun m σ o=>∃i:Nat,m=x.length-i∧i≤x.length∧(∀j,j<i→(fun a b=>(str a).toList==(str b).toList) (nth x j) (nth y j)=true)∧σ=slots [(0,.d (fL x)),(1,.d (fL y)),(5,.d (vI i))]∧o=[]) x.length .refl ⟨0,by simp,by simp,by simp,rfl,rfl⟩ ?_);rintro m σ o ⟨i,rfl,hi,hinv,rfl,rfl⟩ _;refine ab (xU ?_);refine bx ?_;refine xQ [0,1,5,14] ?_ ?_
 ·intro fe;have h2:i<x.length:=by simpa using fe
  have h3:i<y.length:=by omega
  refine af fun _=>?_;refine ab (ag ?_);refine ab ?_;refine aS (by kernel_rfl) [] 4 [0,1,2,3,5,6,7,8,4,9,10] (by decide +kernel) ?_;refine ay ?_;refine xO ?_ (h:=by simp[*];exact .mk);refine aT ?_;refine xO ?_ (h:=by simp[*];exact .mk);refine xO ?_;iterate 2 (refine xO ?_ (h:=by simp[qr];exact .mk))
  refine xO ?_;refine xQ [0,1,5,27] ?_ ?_
  ·intro h27;have hr:eX (fun a b=>(str a).toList==(str b).toList) x y=false:=pr h2 (by simpa using h27);refine xU ?_;refine xH [4] ?_;refine xZ ?_;simp[hr]
  intro h27;refine af fun _=>?_;refine xY ?_;refine aT ?_;refine xE [0,1,5] ?_;refine ah [0,1,5] ?_;refine ae (m':=x.length-(i+1)) (by omega) ⟨i+1,rfl,by omega,?_,?_,rfl⟩
  ·intro j hj;rcases Nat.lt_succ_iff_lt_or_eq.1 hj with hj|rfl
   ·exact hinv j hj
   simpa using h27
  rw[wrap64 (by omega) (by omega)];rfl
 intro fe;have hr:eX (fun a b=>(str a).toList==(str b).toList) x y=true:=kX hxy (fun j hj=>hinv j (by simp at fe;omega));refine aP (xT ?_);refine xH [4] ?_;refine xZ ?_;simp[hr]
theorem Mo(g:Gl)(x y:List Root)(hx:x.length≤2^40):a9 Tryz.prog g 81 [rR x,rR y] (.v (.bool (eX iE x y))):=by
 refine xA Tryz.func81 fun B S=>?_
 refine xU ?_;refine xH [0,1] ?_;refine ab (xU ?_);refine cW ?_;refine xQ [0,1,10] ?_ ?_
 ·intro h10;have hr:eX iE x y=false:=pt (by simp at h10;omega);refine xU ?_;refine xH [4] ?_;refine xZ ?_;simp[hr]
 intro h10;have hxy:x.length=y.length:=by simp at h10;omega
 refine af fun _=>?_;refine ab (xU ?_);refine xH [0,1,5] ?_;refine ag (aB (fun m σ o=>∃i:Nat,m=x.length-i∧i≤x.length∧(∀j,j<i→iE (nth x j) (nth y j)=true)∧σ=slots [(0,.d (rR x)),(1,.d (rR y)),(5,.d (vI i))]∧o=[]) x.length .refl ⟨0,by simp,by simp,by simp,rfl,rfl⟩ ?_);rintro m σ o ⟨i,rfl,hi,hinv,rfl,rfl⟩ _;refine ab (xU ?_);refine bx ?_;refine xQ [0,1,5,14] ?_ ?_
 ·intro fe;have h2:i<x.length:=by simpa using fe
  have h3:i<y.length:=by omega
  refine af fun _=>?_;refine ab (ag ?_);refine ab ?_;refine aS (by kernel_rfl) [] 4 [0,1,2,3,4,5,6,7,8] (by decide +kernel) ?_;refine ay ?_;refine xO ?_ (h:=by simp[ak, *];exact .mk);refine xO ?_ (h:=by simp[ak];exact .mk);refine ay ?_;refine xO ?_ (h:=by simp[ak, *];exact .mk);refine xO ?_ (h:=by simp[ak];exact .mk);refine xO ?_;refine xQ [0,1,5,25] ?_ ?_
  ·intro mA;have hr:eX iE x y=false:=pr h2 (FG mA);refine xU ?_;refine xH [4] ?_;refine xZ ?_;simp[hr]
  intro mA;refine af fun _=>?_;refine xY ?_;refine aT ?_;refine xE [0,1,5] ?_;refine ah [0,1,5] ?_;refine ae (m':=x.length-(i+1)) (by omega) ⟨i+1,rfl,by omega,?_,?_,rfl⟩
  ·intro j hj;rcases Nat.lt_succ_iff_lt_or_eq.1 hj with hj|rfl
   ·exact hinv j hj
   exact FH mA
  rw[wrap64 (by omega) (by omega)];rfl
 intro fe;have hr:eX iE x y=true:=kX hxy (fun j hj=>hinv j (by simp at fe;omega));refine aP (xT ?_);refine xH [4] ?_;refine xZ ?_;simp[hr]
theorem EJ(g:Gl)(n:Int):a9 Tryz.prog g 219 [vI n] (.v (.bool (decide (1≤n)&&decide (n≤2048)))):=by
 refine xA Tryz.func219 fun B S=>?_
 refine xU ?_;refine xO ?_;refine xG [0] ?_;refine aT ?_;iterate 2 (refine bg rfl (by simp;exact .mk) rfl (by simp<;>omega) (fun hb=>by simp;exact .mk) ?_)
 refine xP ?_;refine bM rfl rfl rfl (by simp<;>omega) (by simp;exact .mk) ?_;refine run_end [2] (by simp<;>omega) (by simp;exact .mk) ?_;rintro -;refine xZ ?_;simp
theorem JR(g:Gl)(o:Op):a9 Tryz.prog g 63 [mE o] (.v (.bool (nO o))):=by
 refine xA Tryz.func63 fun B S=>?_
 simp only[mE,List.map,aO];refine xU ?_;refine ay ?_;refine xG [1] ?_;refine cW ?_;iterate 4 (refine bg rfl (by simp;exact .mk) rfl (by simp<;>omega) (fun hb=>by simp;exact .mk) ?_)
 refine xP ?_;refine bM rfl rfl rfl (by simp<;>omega) (by simp;exact .mk) ?_;refine run_end [2] (by simp<;>omega) (by simp;exact .mk) ?_;rintro -;refine xZ ?_;simp[nO]
theorem pG(g:Gl)(a:dp)(ix gn:Int)(hl:a.data.length=a.aw.length):a9 Tryz.prog g 189 [mz a,.agg [vI ix,vI gn]] (.v (.bool (cZ a ix gn))):=by
 refine xA Tryz.func189 fun B S=>?_
 simp only[mz,List.map,aO];refine xU ?_;refine dC [2,3] ?_;refine ab ?_;refine aS (by kernel_rfl) [] 4 [0,1,2,3,4,5,6,7,8,9,10,11,12,13,14,15,16,17,18,19,20,21,22,23,24,25,26,27,28,29,30,31,32] (by decide +kernel) ?_;refine bx ?_;iterate 6 (refine bg rfl (by simp;exact .mk) rfl (by simp<;>omega) (fun hb=>by simp;exact .mk) ?_)
 refine xP ?_;refine bM rfl rfl rfl (by simp<;>omega) (by simp;exact .mk) ?_;iterate 4 (refine bg rfl (by simp;exact .mk) rfl (by simp<;>omega) (fun hb=>by simp;exact .mk) ?_)
 refine bg rfl (by simp;exact .mk) rfl (by simp<;>omega) (fun hb=>by simp at hb;simp[show 0≤ix∧ix<a.data.length from by omega];exact .mk) ?_;iterate 3 (refine bg rfl (by simp;exact .mk) rfl (by simp<;>omega) (fun hb=>by simp;exact .mk) ?_)
 refine xP ?_;refine bM rfl rfl rfl (by simp<;>omega) (by simp;exact .mk) ?_;iterate 4 (refine bg rfl (by simp;exact .mk) rfl (by simp<;>omega) (fun hb=>by simp;exact .mk) ?_)
 refine bg rfl (by simp;exact .mk) rfl (by simp<;>omega) (fun hb=>by simp at hb;simp[show 0≤ix∧ix<a.aw.length from by omega];exact .mk) ?_;iterate 4 (refine bg rfl (by simp;exact .mk) rfl (by simp<;>omega) (fun hb=>by simp;exact .mk) ?_)
 refine xP ?_;refine bM rfl rfl rfl (by simp<;>omega) (by simp;exact .mk) ?_;refine run_end [4] (by simp<;>omega) (by simp;exact .mk) ?_;rintro -;refine xZ ?_;simp[cZ,Bool.and_assoc]
open Go.aN
open Go.aN
attribute [simp] Tryz.f77 Tryz.f79 Tryz.f183
theorem Jn(g:Gl)(l:List Int)(hl:l.length≤2^40):a9 Tryz.prog g 183 [rI l] (oI l):=by
 refine xA Tryz.func183 fun B S=>?_
 refine xU ?_;refine xH [0] ?_;refine ab (ab ?_);refine iw rfl (oF (hard:=[]) [0] [1] ?_);refine xO ?_;refine xE [0,3] ?_;refine iZ rfl rfl rfl (.inl rfl) rfl ⟨_,Tryz.underlying33⟩ (by simp;rfl) ?_;intro nb hnb;refine oG (hard:=[]) ?_;refine xQ [0,4] ?_ ?_
 ·intro h4;have hl0:l=[]:=List.eq_nil_of_length_eq_zero (hnb (by simpa using h4));subst hl0;refine xU ?_;refine xH [2] ?_;refine xZ ?_;simp[ai]
 intro h4;refine af fun _=>?_;refine ab ?_;have e1:l.length*32≤140737488355328:=by omega
 have e2:l.length≤140737488355328:=by omega
 have e3:l.length*8≤140737488355328:=by omega
 refine xY ?_;refine ay ?_;refine xO ?_ (h:=by simp[rows,e1,e2,e3];exact .mk);refine xH [2] ?_;refine xZ ?_;simp[ai]
theorem Dx(g:Gl)(l:List Root)(hl:l.length≤2^40):a9 Tryz.prog g 77 [rR l] (oR l):=by
 refine xA Tryz.func77 fun B S=>?_
 refine xU ?_;refine xH [0] ?_;refine ab (ab ?_);refine iw rfl (oF (hard:=[]) [0] [1] ?_);refine xO ?_;refine xE [0,3] ?_;refine iZ rfl rfl rfl (.inl rfl) rfl ⟨_,Tryz.underlying25⟩ (by simp;rfl) ?_;intro nb hnb;refine oG (hard:=[]) ?_;refine xQ [0,4] ?_ ?_
 ·intro h4;have hl0:l=[]:=List.eq_nil_of_length_eq_zero (hnb (by simpa using h4));subst hl0;refine xU ?_;refine xH [2] ?_;refine xZ ?_;simp[ai]
 intro h4;refine af fun _=>?_;refine ab ?_;have e1:l.length*32≤140737488355328:=by omega
 have e2:l.length≤140737488355328:=by omega
 have e3:l.length*8≤140737488355328:=by omega
 refine xY ?_;refine ay ?_;refine xO ?_ (h:=by simp[rows,e1,e2,e3];exact .mk);refine xH [2] ?_;refine xZ ?_;simp[ai]
theorem Dy(g:Gl)(l:List UInt8)(hl:l.length≤2^40):a9 Tryz.prog g 79 [rB l] (oB l):=by
 refine xA Tryz.func79 fun B S=>?_
 refine xU ?_;refine xH [0] ?_;refine ab (ab ?_);refine iw rfl (oF (hard:=[]) [0] [1] ?_);refine xO ?_;refine xE [0,3] ?_;refine iZ rfl rfl rfl (.inl rfl) rfl ⟨_,Tryz.underlying71⟩ (by simp;rfl) ?_;intro nb hnb;refine oG (hard:=[]) ?_;refine xQ [0,4] ?_ ?_
 ·intro h4;have hl0:l=[]:=List.eq_nil_of_length_eq_zero (hnb (by simpa using h4));subst hl0;refine xU ?_;refine xH [2] ?_;refine xZ ?_;simp[ai]
 intro h4;refine af fun _=>?_;refine ab ?_;have e1:l.length*32≤140737488355328:=by omega
 have e2:l.length≤140737488355328:=by omega
 have e3:l.length*8≤140737488355328:=by omega
 refine xY ?_;refine ay ?_;refine xO ?_ (h:=by simp[rows,e1,e2,e3];exact .mk);refine xH [2] ?_;refine xZ ?_;simp[ai]
open Go.aN
attribute [simp] Tryz.f221 Tryz.f222 Tryz.f242 Tryz.f243
theorem BL(g:Gl)(l:List Root)(k:Nat)(r:Root)(hl:l.length≤2^40)(hk:k<l.length):a9 Tryz.prog g 243 [rR l,vI k,ak r] (oR (l.set k r)):=by
 refine xA Tryz.func243 fun B S=>?_
 simp only[ak,List.map,aO];refine xU ?_;refine ay ?_;refine xG [0,1,5] ?_;refine xO ?_;refine xC (Dx g _ hl) ?_;refine xO ?_;refine xG [1,5,7] ?_;refine aT ?_;refine xO ?_ (h:=by simp[hk];exact .mk);refine xO ?_ (h:=by simp[splice,hk,br,dn,bJ,ak];exact .mk);refine xG [7] ?_;refine bU [6] ?_;refine xZ ?_;simp[ai,List.map_set,ak]
theorem BK(g:Gl)(l:List Root)(nm:ByteArray)(hl:dQ l)(hn:nm.size≤2^40):a9 Tryz.prog g 242 [rR l,vS nm] (.bK [vI (bO l nm).1,vI (bO l nm).2]):=by
 refine xA Tryz.func242 fun B S=>?_
 refine xU ?_;refine bU [0,1] ?_;refine ab (ag ?_);refine xU ?_;refine xO ?_;refine xC (BE g _ hl.h1 hl.h2) ?_;refine ay ?_;refine xQ [0,1,6] ?_ ?_
 ·intro h6;have hr:ck l=false:=by simpa using h6
  refine xU ?_;refine bU [4,5] ?_;refine xZ ?_;simp[bO, *]
 intro h6;have hr:ck l=true:=by simpa using h6
 refine xU ?_;refine xO ?_;refine xC (mC g _ hn) ?_;refine ay ?_;refine xQ [0,1,10] ?_ ?_
 ·intro h10;have hr2:cu nm=false:=by simpa using h10
  refine xU ?_;refine bU [4,5] ?_;refine xZ ?_;simp[bO, *]
 intro h10;have hr2:cu nm=true:=by simpa using h10
 refine af ?_;refine xT ?_;refine ay ?_;refine xC (BI g _ _ hl.h1) ?_;refine bU [4,5] ?_;refine xZ ?_;simp[bO, *]
theorem JA(g:Gl)(l:List Root)(nm:ByteArray)(hl:dQ l)(hn:nm.size≤2^40):a9 Tryz.prog g 222 [rR l,vS nm] (.bK [oR (cJ l nm).1,vI (cJ l nm).2]):=by
 refine xA Tryz.func222 fun B S=>?_
 refine xU ?_;refine ay ?_;refine xG [0,1] ?_;refine ay ?_;refine xC (BK g _ _ hl hn) ?_;refine cW ?_;refine xF [0,6,7] ?_;refine ab (ag ?_);refine xU ?_;refine aT ?_;refine xQ [0,6,7,14] ?_ ?_
 ·intro fe;have hr:(bO l nm).2≠0:=by simpa using fe
  refine xU ?_;refine dC [4,5] ?_;refine xZ ?_;simp[cJ,ai,List.map_set, *]
 intro fe;have hr:(bO l nm).2=0:=by simpa using fe
 refine xU ?_;refine aT ?_;refine xQ [0,6,18] ?_ ?_
 ·intro h18;have hr2:(bO l nm).1<0:=by simpa using h18
  refine xU ?_;refine bU [4,5] ?_;refine xZ ?_;simp[cJ,ai,List.map_set, *]
 intro h18;have hr2:0≤(bO l nm).1:=by simpa using h18
 obtain⟨k,hk,hkl⟩:=i6 hl hr hr2;have hk0:¬((k:Int)<0):=by omega
 refine af ?_;refine xT ?_;refine ay ?_;refine aH ?_;refine bA rfl rfl rfl rfl (by simp;exact .mk) (by simp;exact .mk) (by have:=BL g l k fX hl.h1 hkl;rw[←hk]at this;exact this) (by simp) (by simp;exact .mk) ?_;refine bU [4,5] ?_;refine xZ ?_;simp[cJ,ai,List.map_set, *]
theorem Jz(g:Gl)(l:List Root)(nm:ByteArray)(hl:dQ l)(hn:nm.size≤2^40):a9 Tryz.prog g 221 [rR l,vS nm] (.bK [.agg [vI (ef l nm).1,vI (ef l nm).2.1],vI (ef l nm).2.2]):=by
 refine xA Tryz.func221 fun B S=>?_
 refine xU ?_;refine ay ?_;refine xG [0,1,4] ?_;refine ay ?_;refine xC (BK g _ _ hl hn) ?_;refine cW ?_;refine xF [0,4,6,7] ?_;refine ab (ag ?_);refine xU ?_;refine aT ?_;refine xQ [0,4,6,7,14] ?_ ?_
 ·intro fe;have hr:(bO l nm).2≠0:=by simpa using fe
  refine xU ?_;refine aH ?_;refine xO ?_;refine aH ?_;refine xH [4,5] ?_;refine xZ ?_;simp[ef, *]
 intro fe;have hr:(bO l nm).2=0:=by simpa using fe
 refine xU ?_;refine aT ?_;refine xQ [0,4,6,19] ?_ ?_
 ·intro h19;have hr2:(bO l nm).1<0:=by simpa using h19
  refine xU ?_;iterate 2 (refine aH ?_)
  refine xH [4,5] ?_;refine xZ ?_;simp[ef, *]
 intro h19;have hr2:0≤(bO l nm).1:=by simpa using h19
 obtain⟨k,hk,hkl⟩:=i6 hl hr hr2;have hk0:¬((k:Int)<0):=by omega
 refine af ?_;refine xT ?_;refine ay ?_;refine xO ?_ (h:=by simp[ak,hk,hkl];exact .mk);refine xO ?_;refine xO ?_ (h:=by simp[ak];exact .mk);refine aH ?_;refine xH [4,5] ?_;refine xZ ?_;simp[ef, *]
open Go.aN
attribute [simp] Tryz.f220
theorem Jy(g:Gl)(l:List Root)(nm:ByteArray)(ix gn:Int)(hl:dQ l)(hn:nm.size≤2^40):a9 Tryz.prog g 220 [rR l,vS nm,.agg [vI ix,vI gn]] (.bK [oR (dg l nm ix gn).1,vI (dg l nm ix gn).2]):=by
 refine xA Tryz.func220 fun B S=>?_
 refine xU ?_;refine aT ?_;refine xG [0,1,5] ?_;refine ay ?_;refine xC (BK g _ _ hl hn) ?_;refine cW ?_;refine xF [0,1,5,8,9] ?_;refine ab (ag ?_);refine xU ?_;refine aT ?_;refine xQ [0,1,5,8,9,16] ?_ ?_
 ·intro h16;have hr:(bO l nm).2≠0:=by simpa using h16
  have B4:dg l nm ix gn=([],(bO l nm).2):=by simp[dg,hr]
  refine xU ?_;refine dC [6,7] ?_;refine xZ ?_;simp[B4,ai,List.map_set]
 intro h16;have hr:(bO l nm).2=0:=by simpa using h16
 refine xU ?_;refine xO ?_;refine xC (EB g _ _) ?_;refine ay ?_;refine xQ [0,1,5,8,20] ?_ ?_
 ·intro h20;have hr2:fZ ix gn=false:=by simpa using h20
  have B4:dg l nm ix gn=([],1):=by simp[dg,hr,hr2]
  refine xU ?_;refine bU [6,7] ?_;refine xZ ?_;simp[B4,ai,List.map_set]
 intro h20;have hr2:fZ ix gn=true:=by simpa using h20
 refine af fun _=>?_;refine ab (xU ?_);refine ay ?_;refine xQ [0,1,5,8,25] ?_ ?_
 ·intro mA;have hr3:(bO l nm).1<0:=by simpa using mA
  refine xY ?_;refine xO ?_;refine xC (BI g _ _ hl.h1) ?_;refine xH [0,1,5,8] ?_;refine ab (xU ?_);refine ay ?_;refine xQ [0,1,5,8,29] ?_ ?_
  ·intro qd;have hr4:gD l nm<0:=by unfold gD;split<;>(simp at qd;omega)
   have B4:dg l nm ix gn=([],9):=by simp[dg,hr,hr2,hr4]
   refine xU ?_;refine bU [6,7] ?_;refine xZ ?_;simp[B4,ai,List.map_set]
  intro qd;have hr4:0≤gD l nm:=by unfold gD;split<;>(simp at qd;omega)
  obtain⟨k,hk,hkl⟩:=kn hl hr hr4;have hk0:¬((k:Int)<0):=by omega
  have B4:dg l nm ix gn=(l.set k ⟨nm,ix,gn⟩,0):=by simp[dg,hr,hr2,hk,hk0]
  simp only[gD,hr3,if_true,if_false]at hk;refine af ?_;refine xT ?_;refine bx ?_;refine aH ?_;refine bA rfl rfl rfl rfl (by simp;exact .mk) (by simp;exact .mk) (by have:=BL g l k ⟨nm,ix,gn⟩ hl.h1 hkl;rw[←hk]at this;exact this) (by simp) (by simp;exact .mk) ?_;refine bU [6,7] ?_;refine xZ ?_;simp[B4,ai,List.map_set]
 intro mA;have hr3:¬(bO l nm).1<0:=by simpa using mA
 refine af fun _=>?_;refine ab (xU ?_);refine ay ?_;refine xQ [0,1,5,8,29] ?_ ?_
 ·intro qd;have hr4:gD l nm<0:=by unfold gD;split<;>(simp at qd;omega)
  have B4:dg l nm ix gn=([],9):=by simp[dg,hr,hr2,hr4]
  refine xU ?_;refine bU [6,7] ?_;refine xZ ?_;simp[B4,ai,List.map_set]
 intro qd;have hr4:0≤gD l nm:=by unfold gD;split<;>(simp at qd;omega)
 obtain⟨k,hk,hkl⟩:=kn hl hr hr4;have hk0:¬((k:Int)<0):=by omega
 have B4:dg l nm ix gn=(l.set k ⟨nm,ix,gn⟩,0):=by simp[dg,hr,hr2,hk,hk0]
 simp only[gD,hr3,if_true,if_false]at hk;refine af ?_;refine xT ?_;refine bx ?_;refine aH ?_;refine bA rfl rfl rfl rfl (by simp;exact .mk) (by simp;exact .mk) (by have:=BL g l k ⟨nm,ix,gn⟩ hl.h1 hkl;rw[←hk]at this;exact this) (by simp) (by simp;exact .mk) ?_;refine bU [6,7] ?_;refine xZ ?_;simp[B4,ai,List.map_set]
open Go.aN
attribute [simp] Tryz.f78
theorem Nk(g:Gl)(o0 o1 o2:aN.Obj)(l:List (List UInt8))(hl:l.length≤2^40):∀B S,a7 Tryz.prog g B S ⟨3,true⟩ 78 [.d (fL l)] [o0,o1,o2]
    (fun x r=>x = .hdr 4 0 l.length∧r=[o0,o1,o2,.dead,.row 1 (l.map rB)]):=by
 refine aL Tryz.func78 rfl (Nat.le_of_ble_eq_true rfl) fun B S=>?_
 refine xU ?_;refine xH [0] ?_;refine ab (ab ?_);refine iw rfl (oF (hard:=[]) [0] [1] ?_);refine xO ?_;refine xE [0,3] ?_;refine iZ rfl rfl rfl (.inl rfl) rfl ⟨_,Tryz.underlying26⟩ (by simp;rfl) ?_;intro nb hnb;refine oG (hard:=[]) ?_;refine xQ [0,4] ?_ ?_
 ·intro h4;have hl0:l=[]:=List.eq_nil_of_length_eq_zero (hnb (by simpa using h4));subst hl0;refine xU ?_;refine xO ?_;refine xE [2] ?_;refine gF Weak.pad ?_;refine gF (s2:=slots [(2,.hdr 4 0 0),(2,.d (.v (.slice none 0 0)))]) (aZ:=[o0,o1,o2,.dead,.row 1 []]) (Weak.dJ 2 1 rfl) ?_;rintro -;refine ar (al (by simp;exact .mk) ?_ ?_)
  ·simp
  simp
 intro h4;refine af fun _=>?_;refine ab ?_;have e1:l.length*24≤140737488355328:=by omega
 have e2:l.length≤140737488355328:=by omega
 refine xY ?_;refine ay ?_;refine xO ?_ (h:=by simp[rows,e1,e2];exact .mk);refine xH [2] ?_;refine ar (al (by simp;exact .mk) ?_ ?_)
 ·simp
 simp
open Go.aN
@[simp] theorem Mw:xy Tryz.prog 23=true:=by kernel_rfl
def sameShape(a b:Shape):Bool:=a.pages==b.pages&&(a.slots==b.slots&&(a.roots==b.roots&&a.room==b.room))
def eY(a b:Slot):Bool:=a.gen==b.gen&&(a.live==b.live&&(a.two==b.two&&(a.at_==b.at_&&a.len==b.len)))
def CP(x y:List (List UInt8)):Bool:=eX (fun x y=>(str x).toList==(str y).toList) x y
def qz(a b:bF):Bool:=sameShape a.sh b.sh&&(a.mode==b.mode&&(a.base==b.base&&(eX eY a.slots b.slots&&(eX iE a.roots b.roots&&CP a.data b.data))))
theorem iW(a:bF):qz a a=true:=by
 simp only[qz,CP,sameShape];rw[nr (fun s=>by simp[eY]),nr (fun s=>by simp[iE]),nr (fun s=>by simp)];simp
def Hq(mode:Int):Bool:=decide (mode=1∨mode=2)
def newR(sh:Shape)(mode:Int):bF×Int:=if eN sh&&Hq mode then (dN sh mode,0)else (bn,1)
open Go.aN
attribute [simp] Tryz.f24 Tryz.f76 Tryz.f78
theorem Mm(g:Gl)(l:List Slot)(hl:l.length≤2^40):a9 Tryz.prog g 76 [eG l] (Fk l):=by
 refine xA Tryz.func76 fun B S=>?_
 refine xU ?_;refine xH [0] ?_;refine ab (ab ?_);refine iw rfl (oF (hard:=[]) [0] [1] ?_);refine xO ?_;refine xE [0,3] ?_;refine iZ rfl rfl rfl (.inl rfl) rfl ⟨_,Tryz.underlying24⟩ (by simp;rfl) ?_;intro nb hnb;refine oG (hard:=[]) ?_;refine xQ [0,4] ?_ ?_
 ·intro h4;have hl0:l=[]:=List.eq_nil_of_length_eq_zero (hnb (by simpa using h4));subst hl0;refine xU ?_;refine xH [2] ?_;refine xZ ?_;simp[ai]
 intro h4;refine af fun _=>?_;refine ab ?_;have e1:l.length*32≤140737488355328:=by omega
 have e2:l.length≤140737488355328:=by omega
 refine xY ?_;refine ay ?_;refine xO ?_ (h:=by simp[rows,e1,e2];exact .mk);refine xH [2] ?_;refine xZ ?_;simp[ai]
theorem KS(g:Gl)(o0 o1 o2 o3:aN.Obj)(l:List (List UInt8))(hl:l.length≤2^40):∀B S,a7 Tryz.prog g B S ⟨4,true⟩ 78 [.d (fL l)] [o0,o1,o2,o3]
    (fun x r=>x = .hdr 5 0 l.length∧r=[o0,o1,o2,o3,.dead,.row 1 (l.map rB)]):=by
 refine aL Tryz.func78 rfl (Nat.le_of_ble_eq_true rfl) fun B S=>?_
 refine xU ?_;refine xH [0] ?_;refine ab (ab ?_);refine iw rfl (oF (hard:=[]) [0] [1] ?_);refine xO ?_;refine xE [0,3] ?_;refine iZ rfl rfl rfl (.inl rfl) rfl ⟨_,Tryz.underlying26⟩ (by simp;rfl) ?_;intro nb hnb;refine oG (hard:=[]) ?_;refine xQ [0,4] ?_ ?_
 ·intro h4;have hl0:l=[]:=List.eq_nil_of_length_eq_zero (hnb (by simpa using h4));subst hl0;refine xU ?_;refine xO ?_;refine xE [2] ?_;refine gF Weak.pad ?_;refine gF (s2:=slots [(2,.hdr 5 0 0),(2,.d (.v (.slice none 0 0)))]) (aZ:=[o0,o1,o2,o3,.dead,.row 1 []]) (Weak.dJ 2 1 rfl) ?_;rintro -;refine ar (al (by simp;exact .mk) ?_ ?_)
  ·simp
  simp
 intro h4;refine af fun _=>?_;refine ab ?_;have e1:l.length*24≤140737488355328:=by omega
 have e2:l.length≤140737488355328:=by omega
 refine xY ?_;refine ay ?_;refine xO ?_ (h:=by simp[rows,e1,e2];exact .mk);refine xH [2] ?_;refine ar (al (by simp;exact .mk) ?_ ?_)
 ·simp
 simp
theorem vq(g:Gl)(s:bF)(hs:s.Ok):a9 Tryz.prog g 24 [cr s] (ax s):=by
 refine xA Tryz.func24 fun B S=>?_
 simp only[cr,List.map,aO];refine xU ?_;refine bU [1,2] ?_;refine ab ?_;refine aS (by kernel_rfl) [] 4 [0,1,3,4,6,7,2,9,5,8,10,11,12,13,14] (by decide +kernel) ?_;iterate 6 refine xO ?_
 refine xC (Mm g _ hs.h1) ?_;refine xO ?_;refine xC (Dx g _ hs.h2) ?_;refine az rfl rfl rfl rfl (by simp;exact .mk) ⟨_,Tryz.func78,rfl,rfl⟩ (KS g _ _ _ _ s.data hs.h3) (.inr ⟨_,rfl⟩) ?_;refine aH ?_;refine xO ?_;refine aH ?_;refine xO ?_;refine aH ?_;refine xF [1,2] ?_;refine ab (xU ?_);refine bx ?_;refine xF [1,2,18,19] ?_;refine ag (aB (fun m σ r=>∃i:Nat,m=s.data.length-i∧i≤s.data.length∧σ=slots [(1,.ptr 0 0 0),(2,.ptr 1 0 0),(18,.d (vI s.data.length)),(19,.d (vI i))]∧r=[.var 28 [.d (vI s.sh.pages),.d (vI s.sh.slots),.d (vI s.sh.roots),.d (vI s.sh.room),.d (vI s.mode),.d (vI s.base),.hdr 2 0 s.slots.length,.hdr 3 0 s.roots.length,.hdr 5 0 s.data.length],.var 28 [.d (vI 0),.d (vI 0),.d (vI 0),.d (vI 0),.d (vI 0),.d (vI 0),.d (.v (.slice none 0 0)),.d (.v (.slice none 0 0)),.d (.v (.slice none 0 0))],.row 5 (s.slots.map aA),.row 3 (s.roots.map ak),.dead,.row 1 (pa i s.data)]) s.data.length .refl ⟨0,by simp,by simp,rfl,by rw[tQ]⟩ ?_);have q2:=hs.h3;rintro m σ r ⟨i,rfl,hi,rfl,rfl⟩ _;refine xU ?_;refine xH [1,2,18,19,20] ?_;refine ab (bd rfl ?_ ?_)
 ·intro h20;have hi2:i<s.data.length:=by simpa using h20
  refine af fun _=>?_;refine ab (ag ?_);refine xU ?_;refine bU [1,2,3,18,19] ?_;refine aS (by kernel_rfl) [] 4 [0,1,2,3,4,5,6,7,8,9,10] (by decide +kernel) ?_;iterate 6 refine xO ?_
  refine xO ?_ (h:=by simp[hi2];exact .mk);refine xO ?_ (h:=by simp[-List.getElem?_map,n7 hi2];exact .mk);refine xC (Dy g _ (hs.h4 i hi2)) ?_;refine xO ?_ (h:=by simp[hi2];exact .mk);refine xO ?_ (h:=by simp[splice, -List.getElem?_map,n7 hi2,br,dn,bJ];exact .mk);refine xF [1,2,18,19] ?_;refine xY ?_;refine ay ?_;refine xE [1,2,18,19] ?_;refine aq 6 [1,2,18,19] (by simp) (by simp[gX,AV.cells,AV.aX]) (by simp[gX,AV.cells,AV.aX]) ?_;refine ae (m':=s.data.length-(i+1)) (by omega) ⟨i+1,rfl,by omega,?_,?_⟩
  ·rw[wrap64 (by omega) (by omega)];rfl
  rw[←wd hi2];simp;rfl
 intro h20;obtain rfl:i=s.data.length:=by simp at h20;omega
 rw[wc];refine aP (xT ?_);refine xO ?_;refine aH ?_;refine xF [2] ?_;refine ar (aG (by simp;exact .mk) (by simp;exact .mk) ?_ (by simp[ax]));simp[ax,ai]
open Go.aN
def ka(l:List Slot)(k:Int):Bool:=decide (0≤k)&&(decide (k<l.length)&&(nth l k.toNat).live)
def fI(s:bF)(k:Int):Bool:=bL s&&ka s.slots k
def iN(x:Slot):Slot:=⟨if 65535<x.gen+1 then 65535 else x.gen+1,false,false,0,0⟩
def iM(l:List Slot)(k:Int):List Slot×Int:=if df l=true∧ka l k=true then (l.set k.toNat (iN (nth l k.toNat)),0)else ([],1)
def LX(x:Slot)(two:Bool)(at_:Int):Slot := {x with two:=two,at_:=at_}
def j6(s:bF)(k:Nat)(two:Bool)(at_:Int):bF := {s with slots:=s.slots.set k (LX (nth s.slots k) two at_)}
theorem oY{l:List Slot}{k:Int}(h:ka l k=true):∃n:Nat,k=n∧n<l.length∧(nth l n).live=true:=by
 simp only[ka,Bool.and_eq_true,decide_eq_true_eq]at h;obtain⟨h1,h2,h3⟩:=h;exact⟨k.toNat,by omega,by omega,h3⟩
theorem ib{s:bF}(h:dH s=true):s.data.length=s.slots.length:=by
 simp only[dH,Bool.and_eq_true,decide_eq_true_eq]at h;exact h.1.2.2
theorem dw{s:bF}(h:bL s=true):dH s=true:=(jr.1 h).2.1
theorem j9{s:bF}{k:Int}(h:fI s k=true):∃n:Nat,k=n∧n<s.slots.length∧(nth s.slots n).live=true∧n<s.data.length∧∀i,i<s.slots.length → -2^40≤(nth s.slots i).gen∧(nth s.slots i).gen≤2^40:=by
 simp only[fI,Bool.and_eq_true]at h;obtain⟨n,h1,h2,h3⟩:=oY h.2;have hr:=dw h.1;refine⟨n,h1,h2,h3,by rw[ib hr];exact h2,fun i hi=>?_⟩;have:=gE (iu hr) i hi;unfold dv at this;split at this
 ·cases this
 ·omega
theorem rN{s:bF}{n:Nat}(h:fI s n=true):iM s.slots n=(s.slots.set n (iN (nth s.slots n)),0):=by
 simp only[fI,Bool.and_eq_true]at h;unfold iM;rw[if_pos ⟨iu (dw h.1),h.2⟩];rfl
def jR(s:bF)(n:Nat):bF := {s with slots:=s.slots.set n (iN (nth s.slots n)),data:=s.data.set n []}
def fk(s:bF)(k:Int):bF×Int:=if fI s k=true then (jR s k.toNat,0)else (bn,1)
def zz(s:bF)(k:Int)(two:Bool)(at_:Int):bF×Int:=if fI s k=true then (if bL (j6 s k.toNat two at_)=true then (j6 s k.toNat two at_,0)else (bn,10))else (bn,1)
theorem Cf{s:bF}{n:Nat}{two:Bool}{at_:Int}(h:s.Ok):(j6 s n two at_).Ok:=⟨by simpa [j6]using h.h1,h.h2,h.h3,h.h4,h.h5⟩
def fV(x:Slot)(gen:Int):Slot := {x with live:=true,gen:=gen}
def c0(l:List Slot)(x:Slot):List Slot×(Int×Int)×Int:=if df l=true then (match dh l with
  | none => ([], (0, 0), 9)
  | some k => if dv (fV x (nth l k).gen) = true then (l.set k (fV x (nth l k).gen), ((k : Int), (nth l k).gen), 0) else ([], (0, 0), 1)) else ([], (0, 0), 1)
open Go.aN
attribute [simp] Tryz.f43 Tryz.f111 Tryz.f112 Tryz.f113
theorem Eo(g:Gl)(s:bF)(hs:s.Ok)(k:Int):a9 Tryz.prog g 111 [cr s,vI k] (.v (.bool (fI s k))):=by
 refine xA Tryz.func111 fun B S=>?_
 simp only[cr,List.map,aO,cC];refine xU ?_;refine ay ?_;refine xG [1,2] ?_;refine cq ?_;refine xC (Ag g s hs) ?_;refine xO ?_;iterate 2 refine xI ?_
 refine xP ?_;refine xB ?_;iterate 2 refine xI ?_
 refine xI ?_ (h:=fun hb=>by simp[aA];exact .mk);iterate 2 refine xI ?_
 refine xP ?_;refine xB ?_;refine xI ?_;refine xI ?_ (h:=fun hb=>by simp[aA];exact .mk);refine xI ?_;refine bg rfl (by simp;exact .mk) rfl (by simp<;>first|omega|grind) (fun hb=>by simp at hb;simp[show 0≤k∧k<s.slots.length from by omega];exact .mk) ?_;refine xI ?_;refine xI ?_ (h:=fun hb=>by simp[aA];exact .mk);refine xP ?_;refine xB ?_;refine xF [4] ?_;refine xZ ?_;simp[fI,ka,Bool.and_assoc]
theorem I2(g:Gl)(l:List Slot)(hl:l.length≤2^40)(k:Int)(hg:∀i,i<l.length → -2^40≤(nth l i).gen∧(nth l i).gen≤2^40):a9 Tryz.prog g 112 [eG l,vI k] (.bK [Fk (iM l k).1,vI (iM l k).2]):=by
 refine xA Tryz.func112 fun B S=>?_
 refine xU ?_;refine bU [0,1] ?_;refine ab (xU ?_);refine xO ?_;refine xC (BD g l hl) ?_;refine ay ?_;iterate 2 refine xI ?_
 refine xP ?_;refine xB ?_;iterate 4 refine xI ?_
 refine xP ?_;refine xB ?_;iterate 2 refine xI ?_
 refine bg rfl (by simp;exact .mk) rfl (by simp<;>first|omega|grind) (fun hb=>by simp at hb;simp[show 0≤k∧k<l.length from by omega];exact .mk) ?_;refine xI ?_;refine xI ?_ (h:=fun hb=>by simp[aA];exact .mk);refine xI ?_;refine xP ?_;refine xQ [0,1,27] ?_ ?_
 ·intro h27;have hr:iM l k=([],1):=by unfold iM;rw[if_neg];intro h;simp[ka]at h h27;grind
  refine xU ?_;refine bU [4,5] ?_;refine xZ ?_;simp[hr,ai]
 intro h27;have hlv:df l=true∧ka l k=true:=by simp[ka]at h27 ⊢;grind
 obtain⟨n,rfl,hn,hnl⟩:=oY hlv.2;have hr:iM l n=(l.set n (iN (nth l n)),0):=by unfold iM;rw[if_pos hlv];rfl
 obtain⟨g1,g2⟩:=hg n hn;have e1:IntKind.i64.wrap ((nth l n).gen+1)=(nth l n).gen+1:=wrap64 (by omega) (by omega);refine af ?_;refine xT ?_;refine ay ?_;refine xO ?_ (h:=by simp[aA,hn];exact .mk);refine xO ?_;refine cq ?_;refine xO ?_ (h:=by simp[e1];exact .mk);refine ay ?_;refine xG [0,1,6] ?_;refine aT ?_;refine aH ?_;refine bA rfl rfl rfl rfl (by simp;exact .mk) (by simp;exact .mk) (by have:=vp g l n (iN (nth l n)) hl hn;exact this) (by simp) (by simp;exact .mk) ?_;refine bU [4,5] ?_;refine xZ ?_;simp[hr,ai]
theorem I3(g:Gl)(s:bF)(hs:s.Ok)(k:Nat)(two:Bool)(at_:Int)(hk:k<s.slots.length):a9 Tryz.prog g 113 [cr s,vI k,vT two,vI at_] (ax (j6 s k two at_)):=by
 refine xA Tryz.func113 fun B S=>?_
 simp only[cr,List.map,aO,cC];refine xU ?_;refine ay ?_;refine xG [1,2,3,4,8] ?_;refine cq ?_;refine xC (vq g s hs) ?_ (hi:=by simp[ax];exact .mk);refine xO ?_;refine aH ?_;refine xF [1,2,3,8,9] ?_;refine ab ?_;refine cN (hard:=[]) 4 10 (aR (by decide)) (by kernel_rfl) 4 [0,1,2,3,4,5,6,7,8,9,10,11,12,13] [0,1,2,3,5,6,7,8,9,10,4,11,12,13] (by decide +kernel) (by decide +kernel) ?_ ?_
 ·skip
  refine xO ?_;refine cq ?_;refine ay ?_;refine cq ?_;refine aT ?_;refine xO ?_ (h:=by simp[aA,hk];exact .mk);refine xO ?_;refine xO ?_ (h:=by simp[splice,hk,br,dn,bJ,aA,splice];exact .mk);refine xO ?_ (h:=by simp[aA,hk];exact .mk);refine xO ?_;refine xO ?_ (h:=by simp[splice,hk,br,dn,bJ,aA,splice];exact .mk);refine xG [8,9] ?_;refine cq ?_;refine aH ?_;refine xF [8] ?_;refine ar (aG (by simp;exact .mk) (by simp;exact .mk) ?_ (by simp[ax]));simp[ax,ai,j6,List.map_set];rw[bC hk];rfl
 skip
 refine xO ?_;refine cq ?_;refine cW ?_;refine xO ?_ (h:=by simp[aA,hk];exact .mk);refine xO ?_;refine xO ?_ (h:=by simp[splice,hk,br,dn,bJ,aA,splice];exact .mk);refine cq ?_;refine xO ?_ (h:=by simp[aA,hk];exact .mk);refine xO ?_;refine xO ?_ (h:=by simp[splice,hk,br,dn,bJ,aA,splice];exact .mk);refine xG [8,9] ?_;refine cq ?_;refine aH ?_;refine xF [8] ?_;refine ar (aG (by simp;exact .mk) (by simp;exact .mk) ?_ (by simp[ax]));simp[ax,ai,j6,List.map_set];rw[bC hk];rfl
theorem Mb(g:Gl)(s:bF)(hs:s.Ok)(k:Int):a9 Tryz.prog g 43 [cr s,vI k] (.bK [ax (fk s k).1,vI (fk s k).2]):=by
 refine xA Tryz.func43 fun B S=>?_
 simp only[cr,List.map,aO,cC];refine xU ?_;refine dC [1,2,4] ?_;refine ab (xU ?_);refine cq ?_;refine xO ?_;refine xC (Eo g s hs k) ?_ (hi:=by simp[ax];exact .mk);refine xO ?_;refine xQ [1,2,4,10] ?_ ?_
 ·intro h10;have hr:fk s k=(bn,1):=by unfold fk;rw[if_neg (by simpa using h10)]
  refine xU ?_;iterate 2 (refine aH ?_)
  refine xH [4,5] ?_;refine ar (aG (by simp;exact .mk) (by simp;exact .mk) ?_ (by simp[ax]));simp[hr,ax,bn,ai,jR,List.map_set];try exact⟨rfl,rfl⟩
 intro h10;have hlv:fI s k=true:=by simpa using h10
 obtain⟨n,rfl,hn,hnl,hnd,hg⟩:=j9 hlv;have hr:fk s n=(jR s n,0):=by unfold fk;rw[if_pos hlv];rfl
 have hf:iM s.slots n=(s.slots.set n (iN (nth s.slots n)),0):=rN hlv;refine af ?_;refine xT ?_;refine cq ?_;refine xC (vq g s hs) ?_ (hi:=by simp[ax];exact .mk);refine xO ?_;refine aH ?_;refine xG [1,2,4,6] ?_;refine xO ?_;refine cq ?_;refine xO ?_;refine bA rfl rfl rfl rfl (by simp;exact .mk) (by simp;exact .mk) (by have:=I2 g s.slots hs.h1 n hg;rw[hf]at this;exact this) (by simp) (by simp[ax];exact .mk) ?_;refine bx ?_;refine aH ?_;refine xG [1,4,6] ?_;refine xO ?_;refine cq ?_;refine xO ?_;refine xO ?_ (h:=by simp[aA,hnd];exact .mk);refine xO ?_ (h:=by simp[splice,hnd,br,dn,bJ];exact .mk);refine xG [4,6] ?_;refine cq ?_;refine aH ?_;refine xH [4,5] ?_;refine ar (aG (by simp;exact .mk) (by simp;exact .mk) ?_ (by simp[ax]));simp[hr,ax,bn,ai,jR,List.map_set];try exact⟨rfl,rfl⟩
end Go.Proofs
