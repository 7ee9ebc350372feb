/- Contracts of the program's functions and plain facts, for arguments as each lemma says. -/
import Derived.Test.YtokgokbgidgfeaaGreatCH
import Derived.Test.YtokgokbgidgfeaaGreatCD
import Derived.Test.YtokgokbgidgfeaaGreatCA
import Derived.Test.YtokgokbgidgfeaaGreatCI
import Derived.Test.YtokgokbgidgfeaaGreatAwpD
import Derived.Test.YtokgokbgidgfeaaGreatCF
set_option linter.all false
set_option maxHeartbeats 4000000
namespace Go.Proofs
open Go.aN
theorem Cw{s:bF}(h:s.Ok):(cO s).Ok:=by
 refine⟨by simpa [cO]using h.h1,by simpa [cO]using h.h1,h.h2,fun i hi=>?_,h.h5⟩;have hi2:i<s.slots.length:=by simpa [cO]using hi
 show (nth (AD s s.slots.length) i).length≤_
 rw[AD,mj (by simpa using hi2),bC (by simpa using hi2)];simp only[List.getElem_range];unfold xa;split
 ·rename_i q;simp only[Bool.and_eq_true,decide_eq_true_eq]at q;exact h.h4 i q.2
 ·simp
open Go.aN
open Go.aN
def LW(s:bF):Prop:=∀i,i<s.slots.length→(nth s.slots i).live=false
theorem yN{x:Slot}(h:dv x=true)(hl:x.live=false):x=⟨x.gen,false,false,0,0⟩:=by
 unfold dv at h;split at h
 ·cases h
 ·skip
  simp only[Bool.and_eq_true,beq_iff_eq]at h;cases x;simp only at h hl;simp[h,hl]
open Go.aN
structure Ei where
 s:bF
 ix:Int
 gen:Int
 b:List UInt8
 e:Int
def bZ(e:Int):Ei:=⟨bn,0,0,[],e⟩
def bf(s:bF)(k:Nat)(d:List UInt8):bF := {s with data:=s.data.set k d}
def bj(s:bF)(l:List Root):bF := {s with roots:=l}
def dq(s:bF)(a:dp)(o:Op):bF×Int:=
 if o.act=1 then ((dF s o.n).1,(dF s o.n).2.2)else if o.act=2 then fk s o.ix else if o.act=3 then gq s o.ix o.n
 else if o.act=5 then (bf s o.ix.toNat (nth a.data o.ix.toNat),0)else if o.act=6∨o.act=8 then (bj s a.roots,0)else (s,0)
def kv(s:bF)(o:Op):Ei:=if (dR (cO s) o).e≠0 then bZ (dR (cO s) o).e else if (dq s (dR (cO s) o).a o).2≠0 then bZ (dq s (dR (cO s) o).a o).2
 else ⟨(dq s (dR (cO s) o).a o).1,(dR (cO s) o).ix,(dR (cO s) o).gen,(dR (cO s) o).b,0⟩
def tv(s:bF)(o:Op):Ei:=if bL s=false then bZ 1 else kv s o
theorem u4{s:bF}(h:bL s=true){i:Nat}(hi:i<s.slots.length):((nth s.data i).length:Int)=(nth s.slots i).len∧((nth s.slots i).live=false→(nth s.slots i).len=0)∧((nth s.slots i).live=true→1≤(nth s.slots i).len∧(nth s.slots i).len≤2048):=by
 have hr:=dw h;have hs:=gE (iu hr) i hi;simp only[dH,Bool.and_eq_true,List.all_eq_true,List.mem_range]at hr;have hl:=hr.2.2.2 i hi;simp only[j7,decide_eq_true_eq]at hl;refine⟨hl,fun e=>?_,fun e=>?_⟩
 ·rw[yN hs e]
 ·have:=l5 hs e;exact⟨this.2.2.1,this.2.2.2⟩
theorem of_eq{s:bF}(h:bL s=true):cO s=⟨s.slots.map Slot.gen,s.data,s.roots⟩:=by
 have hd:=ib (dw h);unfold cO;congr 1
 ·unfold Cv;refine List.ext_getElem (by simp) fun i h1 h2=>?_
  simp at h1;simp[bC h1]
 ·unfold AD;refine List.ext_getElem (by simp[hd]) fun i h1 h2=>?_
  simp at h1;simp only[List.getElem_map,List.getElem_range];unfold xa;obtain⟨a,b,c⟩:=u4 h h1;rw[←bC h2];split
  ·rfl
  ·rename_i q;have:(nth s.slots i).live=false:=by simpa [h2]using q
   have:=b this;exact(List.length_eq_zero_iff.1 (by omega)).symm
theorem r6{s:bF}(h:bL s=true):bH (cO s)=true:=by
 have hr:=dw h;have hd:=ib hr;rw[of_eq h];have ht:=iu hr;simp only[df,Bool.and_eq_true,eO,decide_eq_true_eq]at ht;have ht2:=ht.2;have hev:(s.slots.length:Int).tmod 2=0:=ht2.2.2;simp only[C2]at hev;refine du.2 ⟨⟨by simpa using hd,by simp;omega,by simp;omega,by simp;omega⟩,fun i hi=>?_,?_⟩
 ·have hi:i<s.slots.length:=by simpa using hi
  have hg:=wM h hi;obtain⟨a,b,c⟩:=u4 h hi
  show 0≤nth (s.slots.map Slot.gen) i∧nth (s.slots.map Slot.gen) i≤65535∧(nth s.data i).length≤2048
  rw[mj hi];refine⟨hg.1,hg.2,?_⟩
  cases hl:(nth s.slots i).live with
  | false=>have:=b hl;omega
  | true=>have:=c hl;omega
 ·simp only[dH,Bool.and_eq_true]at hr;exact hr.2.2.1
theorem v9{s:bF}(h:bL s=true){i:Nat}(hi:i<s.slots.length):(nth s.slots i).live=decide (0<(nth s.data i).length):=by
 obtain⟨a,b,c⟩:=u4 h hi
 cases hl:(nth s.slots i).live with
 | false=>have:=b hl;symm;rw[decide_eq_false_iff_not];omega
 | true=>have:=c hl;symm;rw[decide_eq_true_eq];omega
theorem me{s:bF}{ix gn:Int}(h:bL s=true)(hg:cZ (cO s) ix gn=true):∃k:Nat,ix=k∧k<s.slots.length∧k<s.data.length∧(nth s.slots k).live=true∧fI s k=true∧(nth s.slots k).gen=gn:=by
 obtain⟨k,h1,h2,h3,h4⟩:=fD hg;rw[of_eq h]at h2 h3 h4;have hk:k<s.slots.length:=by simpa using h2
 have hl:(nth s.slots k).live=true:=by rw[v9 h hk];simpa using h3
 refine⟨k,h1,hk,by rw[ib (dw h)];exact hk,hl,?_,?_⟩
 ·simp[fI,h,ka,hk,hl]
 ·rw[mj hk]at h4;exact h4
theorem yl{s:bF}(h:bL s=true):gH (cO s)=dh s.slots:=by
 have e:∀i,i<s.slots.length→fJ (cO s) i=fj (nth s.slots i):=fun i hi=>by
  rw[of_eq h];unfold fJ fj
  show (decide ((nth s.data i).length=0)&&(nth (s.slots.map Slot.gen) i != 65535))=_
  rw[v9 h hi,mj hi];cases hq:decide (0<(nth s.data i).length)<;>simp at hq<;>simp[hq]
  ·rfl
  ·intro hz;rw[hz]at hq;simp at hq
 have hlen:(cO s).aw.length=s.slots.length:=by simp[cO]
 cases hn:dh s.slots with
 | none=>
  have hno:∀i,i<s.slots.length→fj (nth s.slots i)=false:=fun i hi=>by
   unfold dh at hn;rw[List.find?_eq_none]at hn;have:=hn i (by simpa using hi);simpa using this
  exact iR fun j hj=>by rw[hlen]at hj;rw[e j hj];exact hno j hj
 | some k=>
  obtain⟨a,b,c⟩:=fv hn;exact kE (by rw[hlen];exact a) (fun j hj=>by rw[e j (by omega)];exact c j hj) (by rw[e k a];exact b)
theorem CI{s:bF}{k:Nat}{y:Slot}{d:List UInt8}(h:bL s=true)(hx:bL (putAt s k y d)=true)(hk:k<s.slots.length)(hg:y.gen=(nth s.slots k).gen):cO (putAt s k y d) = {cO s with data:=s.data.set k d}:=by
 rw[of_eq h,of_eq hx]
 show dp.mk ((s.slots.set k y).map Slot.gen) (s.data.set k d) s.roots=dp.mk (s.slots.map Slot.gen) (s.data.set k d) s.roots
 congr 1;rw[List.map_set,hg,bC hk];refine List.ext_getElem (by simp) fun i h1 h2=>?_
 rw[List.getElem_set];split
 ·rename_i e;subst e;simp
 ·rfl
theorem xr{s:bF}{k:Nat}{d:List UInt8}(h:bL s=true)(hk:k<s.data.length)(hd:d.length=(nth s.data k).length):bL (bf s k d)=true:=by
 obtain⟨h1,h2,h3,h4⟩:=jr.1 h;refine jr.2 ⟨h1,?_,h3,h4⟩;simp only[dH,Bool.and_eq_true,List.all_eq_true,List.mem_range,decide_eq_true_eq]at h2 ⊢;refine⟨⟨h2.1.1,h2.1.2.1,by simpa [bf]using h2.1.2.2⟩,h2.2.1,h2.2.2.1,fun i hi=>?_⟩;have:=h2.2.2.2 i hi;simp only[j7,decide_eq_true_eq]at this ⊢
 show ((nth (s.data.set k d) i).length:Int)=_
 rw[fG hk];split
 ·rename_i e;subst e;rw[hd];exact this
 ·exact this
theorem pY{s:bF}{l:List Root}(h:bL s=true)(hl:l.length=s.roots.length)(hr:ck l=true):bL (bj s l)=true:=by
 obtain⟨h1,h2,h3,h4⟩:=jr.1 h;refine jr.2 ⟨h1,?_,h3,h4⟩;simp only[dH,Bool.and_eq_true,List.all_eq_true,List.mem_range,decide_eq_true_eq]at h2 ⊢;exact⟨⟨h2.1.1,by show (l.length:Int)=s.sh.roots;rw[hl];exact h2.1.2.1,h2.1.2.2⟩,h2.2.1,hr,h2.2.2.2⟩
structure Bm (s x:bF) (a:dp):Prop where
 right:bL x=true
 of:cO x=a
 mode:x.mode=s.mode
 base:x.base=s.base
 sh:x.sh=s.sh
 len:x.slots.length=s.slots.length
theorem Dr{s:bF}{o:Op}(h:bL s=true)(he:(dR (cO s) o).e=0) :
    ((dq s (dR (cO s) o).a o).2=10∧(o.act=1∨o.act=3))∨((dq s (dR (cO s) o).a o).2=0∧Bm s (dq s (dR (cO s) o).a o).1 (dR (cO s) o).a):=by
 have hR:=r6 h
 have hE:(bG (cO s) o).e=0:=by
  unfold dR at he;rw[if_neg (by simp[hR])]at he;split at he
  ·exact he
  ·exact he
 have hd:=ep hR hE;have hK:=nX hR he;rw[hd]at hK ⊢;clear he hd;have act:∀ {n:Int},bq (cO s) o=n→190≤n→cZ (cO s) o.ix o.gen=true:=fun e h=>gk (by omega)
 have num:o.act=1∨o.act=2∨o.act=3∨o.act=4∨o.act=5∨o.act=6∨o.act=7∨o.act=8∨bq (cO s) o<0:=by
  unfold bq
  (repeat' split)<;>omega
 have kd:(bq (cO s) o=186→o.act=1)∧(bq (cO s) o=190→o.act=2)∧(bq (cO s) o=191→o.act=3)∧(bq (cO s) o=192→o.act=4)∧(bq (cO s) o=193→o.act=5):=by
  unfold bq
  (repeat' split)<;>omega
 have same:Bm s s (cO s):=⟨h,rfl,rfl,rfl,rfl,rfl⟩;rcases qX (cO s) o with hk|⟨hk,ha⟩|⟨hk,ha⟩|⟨hk,ha⟩|hk|hk|⟨hk,hq⟩|⟨hk,hq⟩|hk|⟨e,h1,hk⟩
 ·have ha:=kd.1 hk;have hx:bG (cO s) o=cf (cO s) o.n:=by simp[bG,hk]
  have hA:∀a,dq s a o=((dF s o.n).1,(dF s o.n).2.2):=fun a=>by simp[dq,ha]
  rw[hx]at hE ⊢;rw[hA];unfold cf at hE ⊢;rw[yl h]at hE ⊢;split at hE
  ·simp at hE
  ·rename_i hsz;rw[if_neg hsz];have hsz:cV o.n=true:=by simpa [b7,cV]using hsz
   cases hn:dh s.slots with
   | none=>rw[hn]at hE;simp at hE
   | some k=>
    simp only;by_cases hp:(dF s o.n).2.2=0
    ·obtain⟨k2,two,a,_,_,e1,_,e2⟩:=sj hp;rw[hn]at e1;obtain rfl:k=k2:=by simpa using e1
     have hl:=(D6 hp).1;obtain⟨q1,_⟩:=fv hn;rw[e2]at hl ⊢;refine .inr ⟨rfl,hl,?_,rfl,rfl,rfl,by simp[putAt]⟩;rw[CI h hl q1 rfl,of_eq h];rfl
    ·refine .inl ⟨?_,.inl ha⟩;unfold dF at hp ⊢;rw[if_pos (by simp[h,hsz]),hn]at hp ⊢;simp only at hp ⊢
     cases hf:b9 s o.n with
     | none=>rfl
     | some p=>rw[hf]at hp;simp at hp
 ·have hx:bG (cO s) o=⟨{cO s with roots:=(dg (cO s).roots o.name o.ix o.gen).1},0,0,[],(dg (cO s).roots o.name o.ix o.gen).2⟩:=by simp[bG,hk,dE,ha]
  rw[hx]at hE ⊢;simp only at hE;have hl:=zM hE;have hr:bL (bj s (dg (cO s).roots o.name o.ix o.gen).1)=true:=pY h hl.2 hl.1;have hA:dq s {cO s with roots:=(dg (cO s).roots o.name o.ix o.gen).1} o=(bj s (dg (cO s).roots o.name o.ix o.gen).1,0):=by simp[dq,ha]
  simp only;rw[hA];exact .inr ⟨rfl,hr,rfl,rfl,rfl,rfl,rfl⟩
 ·have hx:bG (cO s) o=⟨cO s,(ef (cO s).roots o.name).1,(ef (cO s).roots o.name).2.1,[],(ef (cO s).roots o.name).2.2⟩:=by simp[bG,hk,dE,ha]
  rw[hx];have hA:dq s (cO s) o=(s,0):=by simp[dq,ha]
  simp only;rw[hA];exact .inr ⟨rfl,same⟩
 ·have hx:bG (cO s) o=⟨{cO s with roots:=(cJ (cO s).roots o.name).1},0,0,[],(cJ (cO s).roots o.name).2⟩:=by simp[bG,hk,dE,ha]
  rw[hx]at hE ⊢;simp only at hE;have hl:=vu hE;have hr:bL (bj s (cJ (cO s).roots o.name).1)=true:=pY h hl.2 hl.1;have hA:dq s {cO s with roots:=(cJ (cO s).roots o.name).1} o=(bj s (cJ (cO s).roots o.name).1,0):=by simp[dq,ha]
  simp only;rw[hA];exact .inr ⟨rfl,hr,rfl,rfl,rfl,rfl,rfl⟩
 ·have ha:=kd.2.1 hk;obtain⟨k,e1,e2,e3,e4,e5,_⟩:=me h (act hk (by omega));have hx:bG (cO s) o=cz (cO s) k:=by simp[bG,hk,e1]
  have hA:∀a,dq s a o=fk s k:=fun a=>by simp[dq,ha,e1]
  rw[hx,hA];have ht:fk s k=(jR s k,0):=by unfold fk;rw[if_pos e5];simp
  have hr:=yW h e2;rw[ht];refine .inr ⟨rfl,hr,?_,rfl,rfl,rfl,by simp[jR]⟩;rw[of_eq hr];unfold cz;rw[of_eq h]
  show dp.mk ((s.slots.set k (iN (nth s.slots k))).map Slot.gen) (s.data.set k []) s.roots=dp.mk ((s.slots.map Slot.gen).set k (min (nth (s.slots.map Slot.gen) k+1) 65535)) (s.data.set k []) s.roots
  rw[List.map_set,mj e2];congr 2
  show (if 65535<(nth s.slots k).gen+1 then 65535 else (nth s.slots k).gen+1)=_
  split<;>omega
 ·have ha:=kd.2.2.1 hk;obtain⟨k,e1,e2,e3,e4,e5,_⟩:=me h (act hk (by omega));have hx:bG (cO s) o=bX (cO s) k o.n:=by simp[bG,hk,e1]
  have hA:∀a,dq s a o=gq s k o.n:=fun a=>by simp[dq,ha,e1]
  rw[hx]at hE ⊢;rw[hA];unfold bX at hE ⊢;split at hE
  ·simp at hE
  ·rename_i hsz;rw[if_neg hsz];have hsz:cV o.n=true:=by simpa [b7,cV]using hsz
   by_cases hp:(gq s k o.n).2=0
   ·obtain⟨m,y,q1,_,_,q2,_,_,q3,_,_,q4,q5⟩:=yI hp;obtain rfl:k=m:=by omega
    rw[q3];refine .inr ⟨rfl,q5,?_,rfl,rfl,rfl,by simp[putAt]⟩;rw[CI h q5 q2 q4,of_eq h];rfl
   ·refine .inl ⟨?_,.inr ha⟩;unfold gq at hp ⊢;rw[if_pos (by simp[e5,hsz])]at hp ⊢;split at hp
    ·simp at hp
    ·rename_i hq;rw[if_neg hq]
     cases hf:b9 s o.n with
     | none=>rfl
     | some p=>rw[hf]at hp;simp at hp
 ·have ha:=kd.2.2.2.1 hk;have hx:bG (cO s) o=fA (cO s) o.ix.toNat o.off o.n:=by simp[bG,hk]
  rw[hx];unfold fA;rw[if_neg (by simp[hq])];have hA:dq s (cO s) o=(s,0):=by simp[dq,ha]
  simp only;rw[hA];exact .inr ⟨rfl,same⟩
 ·have hx:bG (cO s) o=fA (cO s) o.ix.toNat o.off o.n:=by simp[bG,hk]
  rw[hx]at hE;unfold fA at hE;rw[if_pos hq]at hE;simp at hE
 ·have ha:=kd.2.2.2.2 hk;obtain⟨k,e1,e2,e3,e4,e5,_⟩:=me h (act hk (by omega));have hx:bG (cO s) o=dx (cO s) k o.off o.b:=by simp[bG,hk,e1]
  rw[hx]at hE ⊢;unfold dx at hE ⊢;split at hE
  ·simp at hE
  ·rename_i hsz;rw[if_neg hsz];have hD:(cO s).data=s.data:=by rw[of_eq h]
   have hb:0≤o.off∧o.off≤(nth s.data k).length∧(o.b.length:Int)≤(nth s.data k).length-o.off:=by rw[hD]at hsz;simp[cx]at hsz;omega
   have hA:∀a,dq s a o=(bf s k (nth a.data k),0):=fun a=>by simp[dq,ha,e1]
   rw[hA];simp only;rw[hD,fG e3,if_pos rfl];have hr:bL (bf s k (Go.splice (nth s.data k) o.off.toNat o.b))=true:=xr h e3 (mL (by omega));refine .inr ⟨trivial,hr,?_,rfl,rfl,rfl,rfl⟩;rw[of_eq hr,of_eq h];rfl
 ·have hx:bG (cO s) o=⟨cO s,0,0,[],e⟩:=by
   have h1:bq (cO s) o≠186∧bq (cO s) o≠187∧bq (cO s) o≠190∧bq (cO s) o≠191∧bq (cO s) o≠192∧bq (cO s) o≠193:=by omega
   unfold bG;rw[if_neg h1.1,if_neg h1.2.1,if_neg h1.2.2.1,if_neg h1.2.2.2.1,if_neg h1.2.2.2.2.1,if_neg h1.2.2.2.2.2,hk];simp
  rw[hx]at hE;simp at hE;omega
theorem uw{s:bF}{o:Op}(h:(dR (cO s) o).e≠0):kv s o=bZ (dR (cO s) o).e:=by unfold kv;rw[if_pos h]
theorem eJ{s:bF}{o:Op}{x:bF}{e:Int}(h0:(dR (cO s) o).e=0)(hA:dq s (dR (cO s) o).a o=(x,e))(he:e≠0):kv s o=bZ e:=by
 unfold kv;rw[if_neg (by simpa using h0),hA,if_pos he]
theorem gc{s:bF}{o:Op}{x:bF}(h0:(dR (cO s) o).e=0)(hA:dq s (dR (cO s) o).a o=(x,0)):kv s o=⟨x,(dR (cO s) o).ix,(dR (cO s) o).gen,(dR (cO s) o).b,0⟩:=by
 unfold kv;rw[if_neg (by simpa using h0),hA,if_neg (by simp)]
theorem w8{s:bF}{o:Op}(h:bL s=true)(he:(dR (cO s) o).e=0)(ha:o.act=5):∃k:Nat,o.ix=k∧k<s.data.length∧k<(dR (cO s) o).a.data.length:=by
 have hR:=r6 h;obtain⟨_,hg⟩:=tw (a:=cO s) (o:=o) (by omega) (by omega) he;obtain⟨k,e1,e2,e3,_⟩:=me h hg;have hK:=nX hR he;have h2:=(du.1 hK.right).1.1;have h3:=hK.gl;refine⟨k,e1,e3,?_⟩;rw[h2,h3];simpa [cO]using e2
def bh(x:Ei):D:=.bK [ax x.s,.agg [vI x.ix,vI x.gen,oB x.b],vI x.e]
theorem aV(x:Ei):(bh x).dS=true:=by simp[bh,ax]
theorem bR(x:Ei):(bh x).fp=true:=by simp[bh,ax]
theorem Dq{s:bF}{o:Op}(hs:s.Ok)(h:bL s=true)(he:(dR (cO s) o).e=0):(dq s (dR (cO s) o).a o).1.Ok:=by
 have hK:=nX (r6 h) he;have hO:=CK hK.right;unfold dq;split
 ·exact D5 hs
 ·split
  ·exact CX hs
  ·split
   ·exact Ea hs
   ·split
    ·refine⟨hs.h1,hs.h2,by simpa [bf]using hs.h3,fun i hi=>?_,hs.h5⟩;simp only[bf,List.length_set]at hi ⊢;rcases Nat.lt_or_ge o.ix.toNat s.data.length with hk|hk
     ·rw[fG hk];split
      ·rcases Nat.lt_or_ge o.ix.toNat (dR (cO s) o).a.data.length with q|q
       ·exact hO.h4 _ q
       ·simp[nth,List.getD_eq_getElem?_getD,List.getElem?_eq_none q];decide
      ·exact hs.h4 i hi
     ·rw[List.set_eq_of_length_le hk];exact hs.h4 i hi
    ·split
     ·exact⟨hs.h1,hO.h3,hs.h3,hs.h4,hO.h5⟩
     ·exact hs
theorem xu{s:bF}{o:Op}(hs:s.Ok)(h:bL s=true):(kv s o).s.Ok:=by
 unfold kv;split
 ·exact gR
 ·rename_i he;split
  ·exact gR
  ·exact Dq hs h (by simpa using he)
theorem xv{s:bF}{o:Op}(hs:s.Ok):(tv s o).s.Ok:=by
 unfold tv;split
 ·exact gR
 ·rename_i h;exact xu hs (by simpa using h)
open Go.aN
attribute [simp] aV bR
structure pC where
 ix:Int
 gen:Int
 b:List UInt8
 deriving Inhabited
def kh(x:Ei):pC:=⟨x.ix,x.gen,x.b⟩
def jc(r:pC):D:=.agg [vI r.ix,vI r.gen,oB r.b]
def qk(r:pC):D:=.agg [vI r.ix,vI r.gen,rB r.b]
def Ll(r:pC):D:=.agg [vI r.ix,vI r.gen,mK 1 vB r.b]
@[simp] theorem Il(r:pC):(jc r).cF=qk r:=by simp[jc,qk]
@[simp] theorem In(r:pC):(qk r).cF=qk r:=by simp[qk]
@[simp] theorem It(r:pC):(jc r).snap=Ll r:=by simp[jc,Ll,ko,nu,ai,gO,mK]
@[simp] theorem H4(r:pC):(jc r).fp=true:=by simp[jc]
@[simp] theorem Ia(r:pC):(jc r).dS=true:=by simp[jc]
abbrev K5(x:List pC):D:=ai 3 jc x
def LS(a b:pC):Bool:=(a.ix==b.ix&&a.gen==b.gen)&&((str a.b).toList==(str b.b).toList)
def Fw:bF→Nat→List Op→List pC→bF×List pC×Nat×Int
 | x,i,[],out=>(x,out,i,0)
 | x,i,o::l,out=>if (kv x o).e≠0 then (bn,[],i,(kv x o).e)else Fw (kv x o).s (i+1) l (out++[kh (kv x o)])
def oE(s:bF)(l:List Op):bF×List pC×Nat×Int:=if bL s=false then (bn,[],0,1)else Fw s 0 l []
theorem u6{x:bF}{i:Nat}{o:Op}{l:List Op}{out:List pC}(h:(kv x o).e≠0):Fw x i (o::l) out=(bn,[],i,(kv x o).e):=by
 show (if _ then _ else _)=_
 rw[if_pos h]
theorem yX{x:bF}{i:Nat}{o:Op}{l:List Op}{out:List pC}(h:(kv x o).e=0):Fw x i (o::l) out=Fw (kv x o).s (i+1) l (out++[kh (kv x o)]):=by
 show (if _ then _ else _)=_
 rw[if_neg (by simpa using h)]
theorem zT:∀ {l:List Op} {x:bF} {i:Nat} {out:List pC},(Fw x i l out).2.1.length≤out.length+l.length
 | [],x,i,out=>Nat.le_refl _
 | o::l,x,i,out=>by
  by_cases h:(kv x o).e=0
  ·rw[yX h];have:=zT (l:=l) (x:=(kv x o).s) (i:=i+1) (out:=out++[kh (kv x o)]);simp only[List.length_append,List.length_cons,List.length_nil]at this ⊢;omega
  ·rw[u6 h];simp
theorem means{s:bF}{o:Op}(h:bL s=true):((kv s o).e=10∧(dR (cO s) o).e=0∧(o.act=1∨o.act=3))∨((kv s o).e=(dR (cO s) o).e∧(dR (cO s) o).e≠0) ∨
    ((kv s o).e=0∧(dR (cO s) o).e=0∧Bm s (kv s o).s (dR (cO s) o).a∧kh (kv s o)=⟨(dR (cO s) o).ix,(dR (cO s) o).gen,(dR (cO s) o).b⟩):=by
 by_cases he:(dR (cO s) o).e=0
 ·rcases Dr h he with ⟨h1,h2⟩|⟨h1,h2⟩
  ·left;rw[eJ he (x:=(dq s (dR (cO s) o).a o).1) (e:=10) (Prod.ext rfl h1) (by decide)];exact⟨rfl,he,h2⟩
  ·right;right;rw[gc he (x:=(dq s (dR (cO s) o).a o).1) (Prod.ext rfl h1)];exact⟨rfl,he,h2,rfl⟩
 ·right;left;rw[uw he];exact⟨rfl,he⟩
theorem tu{s:bF}{o:Op}(h:bL s=true)(he:(kv s o).e=0):bL (kv s o).s=true:=by
 rcases means (o:=o) h with ⟨a,_⟩|⟨a,b⟩|⟨_,_,c,_⟩
 ·omega
 ·omega
 ·exact c.right
structure FB (s:bF) (l:List Op) (i:Nat) (y:bF) (out:List pC):Prop where
 eq:oE s l=Fw y i (l.drop i) out
 len:out.length=i
 right:bL y=true
 ok:y.Ok
theorem Lp{s:bF}{l:List Op}(h:bL s=true)(hs:s.Ok):FB s l 0 s []:=⟨by unfold oE;rw[if_neg (by simp[h])];rfl,rfl,h,hs⟩
instance:Inhabited Op:=⟨⟨0,0,0,0,0,[],⟨#[]⟩⟩⟩
theorem wW{s:bF}{l:List Op}{i:Nat}{y:bF}{out:List pC}(h:FB s l i y out)(hi:i<l.length)(he:(kv y (nth l i)).e=0):FB s l (i+1) (kv y (nth l i)).s (out++[kh (kv y (nth l i))]):=by
 refine⟨?_,by simp[h.len],tu h.right he,xu h.ok h.right⟩;rw[h.eq,List.drop_eq_getElem_cons hi,←bC hi,yX he]
theorem zU{s:bF}{l:List Op}{i:Nat}{y:bF}{out:List pC}(h:FB s l i y out)(hi:i<l.length)(he:(kv y (nth l i)).e≠0):oE s l=(bn,[],i,(kv y (nth l i)).e):=by
 rw[h.eq,List.drop_eq_getElem_cons hi,←bC hi,u6 he]
theorem zV{s:bF}{l:List Op}{y:bF}{out:List pC}(h:FB s l l.length y out):oE s l=(y,out,l.length,0):=by
 rw[h.eq,List.drop_length];rfl
theorem zW{s:bF}{l:List Op}(h:bL s=false):oE s l=(bn,[],0,1):=by unfold oE;rw[if_pos h]
def jM(l:List Op):Bool:=(List.range l.length).all (fun i=>nO (nth l i))&&decide ((l.length:Int)≤30)
theorem xz{l:List Op}{i:Nat}(hi:i<l.length)(h:nO (nth l i)=false):jM l=false:=by
 unfold jM;rw[im hi h];rfl
theorem vz{l:List Op}(h:∀i,i<l.length→nO (nth l i)=true):jM l=decide ((l.length:Int)≤30):=by
 unfold jM;rw[all_good h];rfl
theorem re{o:Op}(h:nO o=true):o.name.size≤2^40∧o.b.length≤2^40:=by
 simp only[nO,Bool.and_eq_true,decide_eq_true_eq]at h;omega
theorem g9{l:List Op}(h:jM l=true):l.length≤2^40∧(∀i,i<l.length→(nth l i).name.size≤2^40)∧∀i,i<l.length→(nth l i).b.length≤2^40:=by
 simp only[jM,Bool.and_eq_true,List.all_eq_true,List.mem_range,decide_eq_true_eq]at h;exact⟨by omega,fun i hi=>(re (h.1 i hi)).1,fun i hi=>(re (h.1 i hi)).2⟩
open Go.aN
theorem C4:∀ {l:List Op} {x:bF} {i:Nat} {out:List pC},x.Ok→bL x=true→(Fw x i l out).1.Ok
 | [],x,i,out,h,_=>h
 | o::l,x,i,out,h,hR=>by
  by_cases he:(kv x o).e=0
  ·rw[yX he];exact C4 (xu h hR) (tu hR he)
  ·rw[u6 he];exact gR
theorem HG{s:bF}{l:List Op}(hs:s.Ok):(oE s l).1.Ok:=by
 unfold oE;split
 ·exact gR
 ·rename_i h;exact C4 hs (by simpa using h)
theorem Ef{s:bF}{l:List Op}:(oE s l).2.1.length≤l.length:=by
 unfold oE;split
 ·exact Nat.zero_le _
 ·have:=zT (l:=l) (x:=s) (i:=0) (out:=[]);simpa using this
set_option maxRecDepth 4000
open Go.aN
theorem JS(g:Gl)(s:bF)(o:Op)(hs:s.Ok)(qe:o.b.length≤2^40):a9 Tryz.prog g 68 [cr s,mE o] (bh (tv s o)):=by
 refine xA Tryz.func68 fun B S=>?_
 simp only[cr,mE,List.map,aO,cC];refine xU ?_;refine cW ?_;refine xG [2,3,4,5] ?_;refine xO ?_;refine xC (Ah g s hs) ?_ (he:=by simp[au,Function.comp_def];exact .mk) (hi:=by simp[ax,aJ];exact .mk);refine xH [2,3,4,5,7] ?_;refine ab (xU ?_);refine ay ?_;refine xQ [2,3,4,5,15] ?_ ?_
 ·intro jY;have hR:bL s=false:=by simpa using jY
  have hd:tv s o=bZ 1:=by unfold tv;rw[if_pos hR]
  refine xU ?_;iterate 4 (refine aH ?_)
  refine xH [4,5,6] ?_;refine ar (aG (by simp[Tryz.f68];exact .mk) (by simp;exact .mk) ?_ (by simp[aV]));first|(simp[Tryz.f68,hd,bh,bZ,bn,ax,ai];done)|(simp[Tryz.f68,hd,hX,bh,ax,ai,bj,bf];done)|(exfalso;exact gb he2)|(simp[Tryz.f68,hd,hX,bh,ax,ai,bf,br,dn,bJ,List.map_set];try rfl)
 intro jY;have hR:bL s=true:=by simpa using jY
 have hD:tv s o=kv s o:=by unfold tv;rw[if_neg (by simp[hR])]
 have vi:=I7 g s hs;obtain⟨Q,hQ⟩:∃Q,Q=cO s:=⟨_,rfl⟩;rw[←hQ]at vi;have MU:Q.Ok:=by rw[hQ];exact Cw hs
 have vj:=I6 g Q o MU qe;obtain⟨R,hR0⟩:∃R,R=dR Q o:=⟨_,rfl⟩;rw[←hR0]at vj;have hRe:dR (cO s) o=R:=by rw[hR0,hQ]
 refine af fun _=>?_;refine ab ?_;refine qF (hard:=[]) [1,3,8,9] (aR (by decide)) (by kernel_rfl) 4 [0,2,1,3,4,5,6,7,8,9,10,11,12] [[0,2,1,3,4,5,6,7,9,8,10,11,12],[0,2,1,8,3,4,5,6,7,9,10,11,12],[0,2,1,8,9,3,4,5,6,7,10,11,12],[0,2,1,9,3,4,5,6,7,8,10,11,12],[0,2,1,9,8,3,4,5,6,7,10,11,12],[0,2,8,1,3,4,5,6,7,9,10,11,12],[0,2,8,1,9,3,4,5,6,7,10,11,12],[0,2,8,9,1,3,4,5,6,7,10,11,12],[0,2,9,1,3,4,5,6,7,8,10,11,12],[0,2,9,1,8,3,4,5,6,7,10,11,12],[0,2,9,8,1,3,4,5,6,7,10,11,12]] (by decide +kernel) ?_;refine ay ?_;refine xC (vi) ?_ (he:=by simp[au,Function.comp_def];exact .mk) (hi:=by simp[ax,aJ];exact .mk);refine xC (vj) ?_ (he:=by simp[au,Function.comp_def];exact .mk) (hi:=by simp[ax,aJ];exact .mk);iterate 6 refine xO ?_
 iterate 2 (refine aH ?_)
 refine xO ?_;refine xE [2,3,4,5,8,9,10] ?_;refine⟨_,rfl,⟨?_,?_,?_,?_,?_,?_,?_,?_,?_,?_,?_,trivial⟩,?_⟩
 iterate 11
  ·iterate 13 first|refine xO ?_ (h:=by simp;exact .mk)|refine bA rfl rfl rfl rfl (by simp;exact .mk) (by simp[au,Function.comp_def];exact .mk) vi (by simp) (by simp[ax,aJ,bh];exact .mk) ?_|refine bA rfl rfl rfl rfl (by simp;exact .mk) (by simp[au,Function.comp_def];exact .mk) vj (by simp) (by simp[ax,aJ,bh];exact .mk) ?_
   refine xE [2,3,4,5,8,9,10] ?_
   first | exact Weak.perm [0,1,2,3,4,5,6,7,8,9,10,12,11] [0,1,2,3,4,5,6,7,8,9,10,12,11] rfl rfl rfl
         | exact Weak.perm [0,1,2,3,4,5,6,11,7,8,9,10,12] [0,1,2,3,4,5,6,8,9,10,11,7,12] rfl rfl rfl
         | exact Weak.perm [0,1,2,3,4,5,6,11,12,7,8,9,10] [0,1,2,3,4,5,6,9,10,11,12,7,8] rfl rfl rfl
         | exact Weak.perm [0,1,2,3,4,5,6,12,7,8,9,10,11] [0,1,2,3,4,5,6,8,9,10,11,12,7] rfl rfl rfl
         | exact Weak.perm [0,1,2,3,4,5,6,12,11,7,8,9,10] [0,1,2,3,4,5,6,9,10,11,12,8,7] rfl rfl rfl
         | exact Weak.perm [0,1,2,3,11,4,5,6,7,8,9,10,12] [0,1,2,3,5,6,7,8,9,10,11,4,12] rfl rfl rfl
         | exact Weak.perm [0,1,2,3,11,4,5,6,12,7,8,9,10] [0,1,2,3,5,6,7,9,10,11,12,4,8] rfl rfl rfl
         | exact Weak.perm [0,1,2,3,11,12,4,5,6,7,8,9,10] [0,1,2,3,6,7,8,9,10,11,12,4,5] rfl rfl rfl
         | exact Weak.perm [0,1,2,3,12,4,5,6,7,8,9,10,11] [0,1,2,3,5,6,7,8,9,10,11,12,4] rfl rfl rfl
         | exact Weak.perm [0,1,2,3,12,4,5,6,11,7,8,9,10] [0,1,2,3,5,6,7,9,10,11,12,8,4] rfl rfl rfl
         | exact Weak.perm [0,1,2,3,12,11,4,5,6,7,8,9,10] [0,1,2,3,6,7,8,9,10,11,12,5,4] rfl rfl rfl
 rintro -;refine ab (xU ?_);refine ay ?_;refine xQ [2,3,4,5,8,9,10,27] ?_ ?_
 ·intro h27;have he:R.e≠0:=by simpa using h27
  have hd:=uw (s:=s) (o:=o) (by rw[hRe];exact he);rw[hRe]at hd;rw[←hD]at hd;refine xU ?_;iterate 2 (refine aH ?_)
  refine xO ?_;iterate 2 (refine aH ?_)
  refine xH [4,5,6] ?_;refine ar (aG (by simp[Tryz.f68];exact .mk) (by simp;exact .mk) ?_ (by simp[aV]));first|(simp[Tryz.f68,hd,bh,bZ,bn,ax,ai];done)|(simp[Tryz.f68,hd,hX,bh,ax,ai,bj,bf];done)|(exfalso;exact gb he2)|(simp[Tryz.f68,hd,hX,bh,ax,ai,bf,br,dn,bJ,List.map_set];try rfl)
 intro h27;have he:R.e=0:=by simpa using h27
 have h0:(dR (cO s) o).e=0:=by rw[hRe];exact he
 refine af ?_;refine xT ?_;refine xO ?_;refine xC (xq g s hs) ?_ (he:=by simp[au,Function.comp_def];exact .mk) (hi:=by simp[ax,aJ];exact .mk);refine xO ?_;refine aH ?_;refine xF [2,3,4,5,8,9,10,11] ?_;refine ab (xU ?_);refine bU [2,3,4,5,8,9,10,11,34] ?_;refine ag (xU ?_);refine ay ?_;refine xQ [2,3,4,5,8,9,10,11,34,35] ?_ ?_
 ·intro rt;have k1:o.act=1:=by simpa using rt
  obtain⟨X,hX⟩:∃X,X=(dF s o.n).1:=⟨_,rfl⟩;obtain⟨e,he2⟩:∃e:Int,e=(dF s o.n).2.2:=⟨_,rfl⟩;have hA:dq s (dR (cO s) o).a o=(X,e):=by rw[hX,he2];simp[dq,hRe,k1]
  have cc:=Md g s hs o.n;rw[←hX,←he2]at cc;refine xY ?_;refine aT ?_;refine xC (cc) ?_ (he:=by simp[au,Function.comp_def];exact .mk) (hi:=by simp[ax,aJ];exact .mk);refine bx ?_;refine aH ?_;refine xH [4,5,9,10,11] ?_;refine ab (xU ?_);refine ay ?_;refine xQ [4,5,9,10,11,89] ?_ ?_
  ·intro lk;have gb:e≠0:=by first|(simpa using lk)|(simp[he]at lk;done)
   have hd:=eJ h0 hA gb;rw[←hD]at hd;refine xU ?_;iterate 2 (refine aH ?_)
   refine xO ?_;iterate 2 (refine aH ?_)
   refine xH [4,5,6] ?_;refine ar (aG (by simp[Tryz.f68];exact .mk) (by simp;exact .mk) ?_ (by simp[aV]));first|(simp[Tryz.f68,hd,bh,bZ,bn,ax,ai];done)|(simp[Tryz.f68,hd,hX,bh,ax,ai,bj,bf];done)|(exfalso;exact gb he2)|(simp[Tryz.f68,hd,hX,bh,ax,ai,bf,br,dn,bJ,List.map_set];try rfl)
  intro lk;have gb:e=0:=by first|exact he2|(simpa using lk)
  have hd:=gc h0 (by rw[hA,gb]);rw[hRe,←hD]at hd;refine af fun _=>?_;refine ab ?_;refine cN (hard:=[]) 1 2 (aR (by decide)) (by kernel_rfl) 4 [0,1,2,3,4] [0,2,1,3,4] (by decide +kernel) (by decide +kernel) ?_ ?_
  ·skip
   refine ay ?_;iterate 2 (refine aH ?_)
   refine xH [4,5,6] ?_;refine ar (aG (by simp[Tryz.f68];exact .mk) (by simp;exact .mk) ?_ (by simp[aV]));first|(simp[Tryz.f68,hd,bh,bZ,bn,ax,ai];done)|(simp[Tryz.f68,hd,hX,bh,ax,ai,bj,bf];done)|(exfalso;exact gb he2)|(simp[Tryz.f68,hd,hX,bh,ax,ai,bf,br,dn,bJ,List.map_set];try rfl)
  skip
  refine xO ?_;refine aH ?_;refine xO ?_;refine aH ?_;refine xH [4,5,6] ?_;refine ar (aG (by simp[Tryz.f68];exact .mk) (by simp;exact .mk) ?_ (by simp[aV]));first|(simp[Tryz.f68,hd,bh,bZ,bn,ax,ai];done)|(simp[Tryz.f68,hd,hX,bh,ax,ai,bj,bf];done)|(exfalso;exact gb he2)|(simp[Tryz.f68,hd,hX,bh,ax,ai,bf,br,dn,bJ,List.map_set];try rfl)
 intro rt;have k1:o.act≠1:=by simpa using rt
 refine xU ?_;refine ay ?_;refine xQ [2,3,4,5,8,9,10,11,34,45] ?_ ?_
 ·intro h45;have k2:o.act=2:=by simpa using h45
  obtain⟨X,hX⟩:∃X,X=(fk s o.ix).1:=⟨_,rfl⟩;obtain⟨e,he2⟩:∃e:Int,e=(fk s o.ix).2:=⟨_,rfl⟩;have hA:dq s (dR (cO s) o).a o=(X,e):=by rw[hX,he2];simp[dq,hRe,k1,k2]
  have cc:=Me g s hs o.ix;rw[←hX,←he2]at cc;refine xY ?_;refine bx ?_;refine xC (cc) ?_ (he:=by simp[au,Function.comp_def];exact .mk) (hi:=by simp[ax,aJ];exact .mk);refine aT ?_;refine aH ?_;refine xH [4,5,9,10,11] ?_;refine ab (xU ?_);refine ay ?_;refine xQ [4,5,9,10,11,89] ?_ ?_
  ·intro lk;have gb:e≠0:=by first|(simpa using lk)|(simp[he]at lk;done)
   have hd:=eJ h0 hA gb;rw[←hD]at hd;refine xU ?_;iterate 2 (refine aH ?_)
   refine xO ?_;iterate 2 (refine aH ?_)
   refine xH [4,5,6] ?_;refine ar (aG (by simp[Tryz.f68];exact .mk) (by simp;exact .mk) ?_ (by simp[aV]));first|(simp[Tryz.f68,hd,bh,bZ,bn,ax,ai];done)|(simp[Tryz.f68,hd,hX,bh,ax,ai,bj,bf];done)|(exfalso;exact gb he2)|(simp[Tryz.f68,hd,hX,bh,ax,ai,bf,br,dn,bJ,List.map_set];try rfl)
  intro lk;have gb:e=0:=by first|exact he2|(simpa using lk)
  have hd:=gc h0 (by rw[hA,gb]);rw[hRe,←hD]at hd;refine af fun _=>?_;refine ab ?_;refine cN (hard:=[]) 1 2 (aR (by decide)) (by kernel_rfl) 4 [0,1,2,3,4] [0,2,1,3,4] (by decide +kernel) (by decide +kernel) ?_ ?_
  ·skip
   refine ay ?_;iterate 2 (refine aH ?_)
   refine xH [4,5,6] ?_;refine ar (aG (by simp[Tryz.f68];exact .mk) (by simp;exact .mk) ?_ (by simp[aV]));first|(simp[Tryz.f68,hd,bh,bZ,bn,ax,ai];done)|(simp[Tryz.f68,hd,hX,bh,ax,ai,bj,bf];done)|(exfalso;exact gb he2)|(simp[Tryz.f68,hd,hX,bh,ax,ai,bf,br,dn,bJ,List.map_set];try rfl)
  skip
  refine xO ?_;refine aH ?_;refine xO ?_;refine aH ?_;refine xH [4,5,6] ?_;refine ar (aG (by simp[Tryz.f68];exact .mk) (by simp;exact .mk) ?_ (by simp[aV]));first|(simp[Tryz.f68,hd,bh,bZ,bn,ax,ai];done)|(simp[Tryz.f68,hd,hX,bh,ax,ai,bj,bf];done)|(exfalso;exact gb he2)|(simp[Tryz.f68,hd,hX,bh,ax,ai,bf,br,dn,bJ,List.map_set];try rfl)
 intro h45;have k2:o.act≠2:=by simpa using h45
 refine xU ?_;refine ay ?_;refine xQ [2,3,4,5,8,9,10,11,34,55] ?_ ?_
 ·intro MD;have k3:o.act=3:=by simpa using MD
  obtain⟨X,hX⟩:∃X,X=(gq s o.ix o.n).1:=⟨_,rfl⟩;obtain⟨e,he2⟩:∃e:Int,e=(gq s o.ix o.n).2:=⟨_,rfl⟩;have hA:dq s (dR (cO s) o).a o=(X,e):=by rw[hX,he2];simp[dq,hRe,k1,k2,k3]
  have cc:=Mf g s hs o.ix o.n;rw[←hX,←he2]at cc;refine xY ?_;iterate 6 refine xO ?_
  refine xC (cc) ?_ (he:=by simp[au,Function.comp_def];exact .mk) (hi:=by simp[ax,aJ];exact .mk);refine aT ?_;refine aH ?_;refine xH [4,5,9,10,11] ?_;refine ab (xU ?_);refine ay ?_;refine xQ [4,5,9,10,11,89] ?_ ?_
  ·intro lk;have gb:e≠0:=by first|(simpa using lk)|(simp[he]at lk;done)
   have hd:=eJ h0 hA gb;rw[←hD]at hd;refine xU ?_;iterate 2 (refine aH ?_)
   refine xO ?_;iterate 2 (refine aH ?_)
   refine xH [4,5,6] ?_;refine ar (aG (by simp[Tryz.f68];exact .mk) (by simp;exact .mk) ?_ (by simp[aV]));first|(simp[Tryz.f68,hd,bh,bZ,bn,ax,ai];done)|(simp[Tryz.f68,hd,hX,bh,ax,ai,bj,bf];done)|(exfalso;exact gb he2)|(simp[Tryz.f68,hd,hX,bh,ax,ai,bf,br,dn,bJ,List.map_set];try rfl)
  intro lk;have gb:e=0:=by first|exact he2|(simpa using lk)
  have hd:=gc h0 (by rw[hA,gb]);rw[hRe,←hD]at hd;refine af fun _=>?_;refine ab ?_;refine cN (hard:=[]) 1 2 (aR (by decide)) (by kernel_rfl) 4 [0,1,2,3,4] [0,2,1,3,4] (by decide +kernel) (by decide +kernel) ?_ ?_
  ·skip
   refine ay ?_;iterate 2 (refine aH ?_)
   refine xH [4,5,6] ?_;refine ar (aG (by simp[Tryz.f68];exact .mk) (by simp;exact .mk) ?_ (by simp[aV]));first|(simp[Tryz.f68,hd,bh,bZ,bn,ax,ai];done)|(simp[Tryz.f68,hd,hX,bh,ax,ai,bj,bf];done)|(exfalso;exact gb he2)|(simp[Tryz.f68,hd,hX,bh,ax,ai,bf,br,dn,bJ,List.map_set];try rfl)
  skip
  refine xO ?_;refine aH ?_;refine xO ?_;refine aH ?_;refine xH [4,5,6] ?_;refine ar (aG (by simp[Tryz.f68];exact .mk) (by simp;exact .mk) ?_ (by simp[aV]));first|(simp[Tryz.f68,hd,bh,bZ,bn,ax,ai];done)|(simp[Tryz.f68,hd,hX,bh,ax,ai,bj,bf];done)|(exfalso;exact gb he2)|(simp[Tryz.f68,hd,hX,bh,ax,ai,bf,br,dn,bJ,List.map_set];try rfl)
 intro MD;have k3:o.act≠3:=by simpa using MD
 refine xU ?_;refine ay ?_;refine xQ [3,4,5,8,9,10,11,34,67] ?_ ?_
 ·intro BW;have k5:o.act=5:=by simpa using BW
  obtain⟨k,hix,hk,hk2⟩:=w8 hR h0 k5;rw[hRe]at hk2;obtain⟨X,hX⟩:∃X,X=(bf s k (nth R.a.data k)):=⟨_,rfl⟩;obtain⟨e,he2⟩:∃e:Int,e=0:=⟨_,rfl⟩;have hA:dq s (dR (cO s) o).a o=(X,e):=by rw[hX,he2];simp[dq,hRe,k1,k2,k3,k5,hix]
  rw[hix];refine fq (s2:=slots [(3,.ptr 1 0 0),(4,.ptr 2 0 0),(5,.ptr 3 0 0),(8,.ptr 11 0 0),(9,.ptr 12 0 0),(10,.d (vI R.e)),(11,.ptr 16 0 0)]) (aZ:=[.var 28 [.d (vI s.sh.pages),.d (vI s.sh.slots),.d (vI s.sh.roots),.d (vI s.sh.room),.d (vI s.mode),.d (vI s.base),.d (eG s.slots),.d (rR s.roots),.d (fL s.data)],.var 73 [.d (vI o.act),.d (vI k),.d (vI o.gen),.d (vI o.n),.d (vI o.off),.d (rB o.b),.d (vS o.name)],.var 28 [.d (vI 0),.d (vI 0),.d (vI 0),.d (vI 0),.d (vI 0),.d (vI 0),.d (.v (.slice none 0 0)),.d (.v (.slice none 0 0)),.d (.v (.slice none 0 0))],.var 77 [.d (vI 0),.d (vI 0),.d (.v (.slice none 0 0))],.row 1 (Q.aw.map vI),.row 1 (Q.data.map oB),.row 3 (Q.roots.map ak),.row 1 (R.a.aw.map vI),.hole k 17 (nth R.a.data k).length (R.a.data.map oB),.row 3 (R.a.roots.map ak),.row 1 (R.b.map vB),.var 67 [.hdr 7 0 R.a.aw.length,.hdr 8 0 R.a.data.length,.hdr 9 0 R.a.roots.length],.var 77 [.d (vI R.ix),.d (vI R.gen),.hdr 10 0 R.b.length],.row 5 (s.slots.map aA),.row 3 (s.roots.map ak),.row 1 (s.data.map oB),.var 28 [.d (vI s.sh.pages),.d (vI s.sh.slots),.d (vI s.sh.roots),.d (vI s.sh.room),.d (vI s.mode),.d (vI s.base),.hdr 13 0 s.slots.length,.hdr 14 0 s.roots.length,.hdr 15 0 s.data.length],.row 1 ((nth R.a.data k).map vB)]) (Weak.trans (Weak.kills [3,4,5,8,9,10,11] rfl) (Weak.open (xs:=R.a.data.map oB) (ys:=(nth R.a.data k).map vB) (len:=(nth R.a.data k).length) 8 k rfl rfl (ao (f:=oB) hk2) ?_ ?_ (by simp)) (fun _ _ _ h1 h2=>by rw[←h1.len];exact h2)) ?_
  ·simp
  ·simp[ai,mK]
  refine aS (by kernel_rfl) [] 4 [0,1,2,3,4,5,6,7,8,9,10,11,12,13] (by decide +kernel) ?_;iterate 10 refine xO ?_
  refine xO ?_ (h:=by simp[hk2];exact .mk);refine xO ?_ (h:=by simp[-List.getElem?_map,hk2];exact .mk);refine xO ?_ (h:=by simp[hk];exact .mk);refine xO ?_ (h:=by simp[hk, -List.getElem?_map,ao hk,br,dn,bJ];exact .mk);refine xF [4,5,9,10,11] ?_;refine ab (xU ?_);refine ay ?_;refine xQ [4,5,9,10,11,89] ?_ ?_
  ·intro lk;have gb:e≠0:=by first|(simpa using lk)|(simp[he]at lk;done)
   have hd:=eJ h0 hA gb;rw[←hD]at hd;refine xU ?_;iterate 2 (refine aH ?_)
   refine xO ?_;iterate 2 (refine aH ?_)
   refine xH [4,5,6] ?_;refine ar (aG (by simp[Tryz.f68];exact .mk) (by simp;exact .mk) ?_ (by simp[aV]));first|(simp[Tryz.f68,hd,bh,bZ,bn,ax,ai];done)|(simp[Tryz.f68,hd,hX,bh,ax,ai,bj,bf];done)|(exfalso;exact gb he2)|(simp[Tryz.f68,hd,hX,bh,ax,ai,bf,br,dn,bJ,List.map_set];try rfl)
  intro lk;have gb:e=0:=by first|exact he2|(simpa using lk)
  have hd:=gc h0 (by rw[hA,gb]);rw[hRe,←hD]at hd;refine af fun _=>?_;refine ab ?_;refine cN (hard:=[]) 1 2 (aR (by decide)) (by kernel_rfl) 4 [0,1,2,3,4] [0,2,1,3,4] (by decide +kernel) (by decide +kernel) ?_ ?_
  ·skip
   refine ay ?_;iterate 2 (refine aH ?_)
   refine xH [4,5,6] ?_;refine ar (aG (by simp[Tryz.f68];exact .mk) (by simp;exact .mk) ?_ (by simp[aV]));first|(simp[Tryz.f68,hd,bh,bZ,bn,ax,ai];done)|(simp[Tryz.f68,hd,hX,bh,ax,ai,bj,bf];done)|(exfalso;exact gb he2)|(simp[Tryz.f68,hd,hX,bh,ax,ai,bf,br,dn,bJ,List.map_set];try rfl)
  skip
  refine xO ?_;refine aH ?_;refine xO ?_;refine aH ?_;refine xH [4,5,6] ?_;refine ar (aG (by simp[Tryz.f68];exact .mk) (by simp;exact .mk) ?_ (by simp[aV]));first|(simp[Tryz.f68,hd,bh,bZ,bn,ax,ai];done)|(simp[Tryz.f68,hd,hX,bh,ax,ai,bj,bf];done)|(exfalso;exact gb he2)|(simp[Tryz.f68,hd,hX,bh,ax,ai,bf,br,dn,bJ,List.map_set];try rfl)
 intro BW;have k5:o.act≠5:=by simpa using BW
 refine ab (xU ?_);refine ay ?_;refine xQ [4,5,8,9,10,11,34,82] ?_ ?_
 ·intro E1;have k6:o.act=6:=by simpa using E1
  refine af fun _=>?_;refine bd rfl ?_ ?_
  ·intro BX;have k7:o.act=6∨o.act=8:=by first|exact .inl k6|exact .inr (by simpa using BX)
   obtain⟨X,hX⟩:∃X,X=(bj s R.a.roots):=⟨_,rfl⟩;obtain⟨e,he2⟩:∃e:Int,e=0:=⟨_,rfl⟩;have hA:dq s (dR (cO s) o).a o=(X,e):=by rw[hX,he2];simp[dq,hRe,k1,k2,k3,k5,k7]
   refine xY ?_;refine aT ?_;refine aH ?_;refine xF [4,5,9,10,11] ?_;refine ab (xU ?_);refine ay ?_;refine xQ [4,5,9,10,11,89] ?_ ?_
   ·intro lk;have gb:e≠0:=by first|(simpa using lk)|(simp[he]at lk;done)
    have hd:=eJ h0 hA gb;rw[←hD]at hd;refine xU ?_;iterate 2 (refine aH ?_)
    refine xO ?_;iterate 2 (refine aH ?_)
    refine xH [4,5,6] ?_;refine ar (aG (by simp[Tryz.f68];exact .mk) (by simp;exact .mk) ?_ (by simp[aV]));first|(simp[Tryz.f68,hd,bh,bZ,bn,ax,ai];done)|(simp[Tryz.f68,hd,hX,bh,ax,ai,bj,bf];done)|(exfalso;exact gb he2)|(simp[Tryz.f68,hd,hX,bh,ax,ai,bf,br,dn,bJ,List.map_set];try rfl)
   intro lk;have gb:e=0:=by first|exact he2|(simpa using lk)
   have hd:=gc h0 (by rw[hA,gb]);rw[hRe,←hD]at hd;refine af fun _=>?_;refine ab ?_;refine cN (hard:=[]) 1 2 (aR (by decide)) (by kernel_rfl) 4 [0,1,2,3,4] [0,2,1,3,4] (by decide +kernel) (by decide +kernel) ?_ ?_
   ·skip
    refine ay ?_;iterate 2 (refine aH ?_)
    refine xH [4,5,6] ?_;refine ar (aG (by simp[Tryz.f68];exact .mk) (by simp;exact .mk) ?_ (by simp[aV]));first|(simp[Tryz.f68,hd,bh,bZ,bn,ax,ai];done)|(simp[Tryz.f68,hd,hX,bh,ax,ai,bj,bf];done)|(exfalso;exact gb he2)|(simp[Tryz.f68,hd,hX,bh,ax,ai,bf,br,dn,bJ,List.map_set];try rfl)
   skip
   refine xO ?_;refine aH ?_;refine xO ?_;refine aH ?_;refine xH [4,5,6] ?_;refine ar (aG (by simp[Tryz.f68];exact .mk) (by simp;exact .mk) ?_ (by simp[aV]));first|(simp[Tryz.f68,hd,bh,bZ,bn,ax,ai];done)|(simp[Tryz.f68,hd,hX,bh,ax,ai,bj,bf];done)|(exfalso;exact gb he2)|(simp[Tryz.f68,hd,hX,bh,ax,ai,bf,br,dn,bJ,List.map_set];try rfl)
  intro hq;cases E1.symm.trans hq
 intro E1;have k6:o.act≠6:=by simpa using E1
 refine xY ?_;refine ay ?_;refine xQ [4,5,8,9,10,11,82] ?_ ?_
 ·intro BX;have k7:o.act=6∨o.act=8:=by first|exact .inl k6|exact .inr (by simpa using BX)
  obtain⟨X,hX⟩:∃X,X=(bj s R.a.roots):=⟨_,rfl⟩;obtain⟨e,he2⟩:∃e:Int,e=0:=⟨_,rfl⟩;have hA:dq s (dR (cO s) o).a o=(X,e):=by rw[hX,he2];simp[dq,hRe,k1,k2,k3,k5,k7]
  refine xY ?_;refine aT ?_;refine aH ?_;refine xF [4,5,9,10,11] ?_;refine ab (xU ?_);refine ay ?_;refine xQ [4,5,9,10,11,89] ?_ ?_
  ·intro lk;have gb:e≠0:=by first|(simpa using lk)|(simp[he]at lk;done)
   have hd:=eJ h0 hA gb;rw[←hD]at hd;refine xU ?_;iterate 2 (refine aH ?_)
   refine xO ?_;iterate 2 (refine aH ?_)
   refine xH [4,5,6] ?_;refine ar (aG (by simp[Tryz.f68];exact .mk) (by simp;exact .mk) ?_ (by simp[aV]));first|(simp[Tryz.f68,hd,bh,bZ,bn,ax,ai];done)|(simp[Tryz.f68,hd,hX,bh,ax,ai,bj,bf];done)|(exfalso;exact gb he2)|(simp[Tryz.f68,hd,hX,bh,ax,ai,bf,br,dn,bJ,List.map_set];try rfl)
  intro lk;have gb:e=0:=by first|exact he2|(simpa using lk)
  have hd:=gc h0 (by rw[hA,gb]);rw[hRe,←hD]at hd;refine af fun _=>?_;refine ab ?_;refine cN (hard:=[]) 1 2 (aR (by decide)) (by kernel_rfl) 4 [0,1,2,3,4] [0,2,1,3,4] (by decide +kernel) (by decide +kernel) ?_ ?_
  ·skip
   refine ay ?_;iterate 2 (refine aH ?_)
   refine xH [4,5,6] ?_;refine ar (aG (by simp[Tryz.f68];exact .mk) (by simp;exact .mk) ?_ (by simp[aV]));first|(simp[Tryz.f68,hd,bh,bZ,bn,ax,ai];done)|(simp[Tryz.f68,hd,hX,bh,ax,ai,bj,bf];done)|(exfalso;exact gb he2)|(simp[Tryz.f68,hd,hX,bh,ax,ai,bf,br,dn,bJ,List.map_set];try rfl)
  skip
  refine xO ?_;refine aH ?_;refine xO ?_;refine aH ?_;refine xH [4,5,6] ?_;refine ar (aG (by simp[Tryz.f68];exact .mk) (by simp;exact .mk) ?_ (by simp[aV]));first|(simp[Tryz.f68,hd,bh,bZ,bn,ax,ai];done)|(simp[Tryz.f68,hd,hX,bh,ax,ai,bj,bf];done)|(exfalso;exact gb he2)|(simp[Tryz.f68,hd,hX,bh,ax,ai,bf,br,dn,bJ,List.map_set];try rfl)
 intro BX;have k7:¬(o.act=6∨o.act=8):=fun q=>q.elim k6 (by simpa using BX)
 obtain⟨X,hX⟩:∃X,X=s:=⟨_,rfl⟩;obtain⟨e,he2⟩:∃e:Int,e=0:=⟨_,rfl⟩;have hA:dq s (dR (cO s) o).a o=(X,e):=by rw[hX,he2];simp[dq,hRe,k1,k2,k3,k5,k7]
 refine af fun _=>?_;refine ab (xU ?_);refine ay ?_;refine xQ [4,5,9,10,11,89] ?_ ?_
 ·intro lk;have gb:e≠0:=by first|(simpa using lk)|(simp[he]at lk;done)
  have hd:=eJ h0 hA gb;rw[←hD]at hd;refine xU ?_;iterate 2 (refine aH ?_)
  refine xO ?_;iterate 2 (refine aH ?_)
  refine xH [4,5,6] ?_;refine ar (aG (by simp[Tryz.f68];exact .mk) (by simp;exact .mk) ?_ (by simp[aV]));first|(simp[Tryz.f68,hd,bh,bZ,bn,ax,ai];done)|(simp[Tryz.f68,hd,hX,bh,ax,ai,bj,bf];done)|(exfalso;exact gb he2)|(simp[Tryz.f68,hd,hX,bh,ax,ai,bf,br,dn,bJ,List.map_set];try rfl)
 intro lk;have gb:e=0:=by first|exact he2|(simpa using lk)
 have hd:=gc h0 (by rw[hA,gb]);rw[hRe,←hD]at hd;refine af fun _=>?_;refine ab ?_;refine cN (hard:=[]) 1 2 (aR (by decide)) (by kernel_rfl) 4 [0,1,2,3,4] [0,2,1,3,4] (by decide +kernel) (by decide +kernel) ?_ ?_
 ·skip
  refine ay ?_;iterate 2 (refine aH ?_)
  refine xH [4,5,6] ?_;refine ar (aG (by simp[Tryz.f68];exact .mk) (by simp;exact .mk) ?_ (by simp[aV]));first|(simp[Tryz.f68,hd,bh,bZ,bn,ax,ai];done)|(simp[Tryz.f68,hd,hX,bh,ax,ai,bj,bf];done)|(exfalso;exact gb he2)|(simp[Tryz.f68,hd,hX,bh,ax,ai,bf,br,dn,bJ,List.map_set];try rfl)
 skip
 refine xO ?_;refine aH ?_;refine xO ?_;refine aH ?_;refine xH [4,5,6] ?_;refine ar (aG (by simp[Tryz.f68];exact .mk) (by simp;exact .mk) ?_ (by simp[aV]));first|(simp[Tryz.f68,hd,bh,bZ,bn,ax,ai];done)|(simp[Tryz.f68,hd,hX,bh,ax,ai,bj,bf];done)|(exfalso;exact gb he2)|(simp[Tryz.f68,hd,hX,bh,ax,ai,bf,br,dn,bJ,List.map_set];try rfl)
open Go.aN
attribute [simp] Tryz.f72 Tryz.f73
theorem Mj(g:Gl)(s:bF)(l:List Op)(hs:s.Ok)(hl:l.length≤2^40)(qe:∀i,i<l.length→(nth l i).b.length≤2^40):a9 Tryz.prog g 72 [cr s,rows 7 mE l] (.bK [ax (oE s l).1,K5 (oE s l).2.1,vI (oE s l).2.2.1,vI (oE s l).2.2.2]):=by
 refine xA Tryz.func72 fun B S=>?_
 simp only[cr,List.map,aO,cC];refine xU ?_;refine cW ?_;refine xG [1,2,4] ?_;refine xO ?_;refine xC (Ah g s hs) ?_ (he:=by simp[au,Function.comp_def];exact .mk) (hi:=by simp[ax,bh];exact .mk);refine xH [1,2,4,8] ?_;refine ab (xU ?_);refine ay ?_;refine xQ [1,2,4,18] ?_ ?_
 ·intro h18;have hR:bL s=false:=by simpa using h18
  have hd:=zW (l:=l) hR;refine xU ?_;iterate 2 (refine aH ?_)
  refine dC [4,5,6,7] ?_;refine ar (aG (by simp;exact .mk) (by simp;exact .mk) ?_ (by simp[ax]));first|(simp[hd,bn,ax,ai];done)|(simp[hd,bn,ax,ai,jc])
 intro h18;have hR:bL s=true:=by simpa using h18
 refine af ?_;refine xT ?_;refine xO ?_;refine xC (xq g s hs) ?_ (he:=by simp[au,Function.comp_def];exact .mk) (hi:=by simp[ax,bh];exact .mk);refine xO ?_;refine aH ?_;refine xG [1,4,9] ?_;refine xH [1,4,9,10] ?_;refine ab (xU ?_);refine xH [1,4,9,10,11] ?_;refine ag ?_
 refine aB (fun m σ o=>∃(i:Nat) (x:bF) (out:List pC),m=l.length-i∧i≤l.length∧FB s l i x out∧σ=slots [(1,.d (rows 7 mE l)),(4,.ptr 1 0 0),(9,.ptr 5 0 0),(10,.hdr 6 0 out.length),(11,.d (vI i))]∧o=[.var 28 [.d (vI s.sh.pages),.d (vI s.sh.slots),.d (vI s.sh.roots),.d (vI s.sh.room),.d (vI s.mode),.d (vI s.base),.d (eG s.slots),.d (rR s.roots),.d (fL s.data)],.var 28 [.d (vI 0),.d (vI 0),.d (vI 0),.d (vI 0),.d (vI 0),.d (vI 0),.d (.v (.slice none 0 0)),.d (.v (.slice none 0 0)),.d (.v (.slice none 0 0))],.row 5 (x.slots.map aA),.row 3 (x.roots.map ak),.row 1 (x.data.map oB),.var 28 [.d (vI x.sh.pages),.d (vI x.sh.slots),.d (vI x.sh.roots),.d (vI x.sh.room),.d (vI x.mode),.d (vI x.base),.hdr 2 0 x.slots.length,.hdr 3 0 x.roots.length,.hdr 4 0 x.data.length],.row 3 (out.map jc)]) l.length
  (Weak.trans (Weak.dJ 10 3 rfl) (Weak.kills [1,4,9,10,11] rfl) (fun _ _ _ h1 h2=>by rw[←h1.len];exact h2)) ⟨0,s,[],by simp,by simp,Lp hR hs,by simp,by simp[ai]⟩ ?_
 rintro m σ o ⟨i,x,out,rfl,hi,hI,rfl,rfl⟩ _;have hlen:=hI.len;refine ab (xU ?_);refine bx ?_;refine xQ [1,4,9,10,11,25] ?_ ?_
 ·intro mA;have hi2:i<l.length:=by simpa using mA
  have FO:=JS g x (nth l i) hI.ok (qe i hi2)
  rw[show tv x (nth l i)=kv x (nth l i) by unfold tv;rw[if_neg (by simp[hI.right])]]at FO;obtain⟨E,hE⟩:∃E,E=kv x (nth l i):=⟨_,rfl⟩
  rw[←hE]at FO;refine af fun _=>?_;refine ab (ag ?_);refine ab ?_;refine jS (hard:=[]) [5,10,11] (aR (by decide)) (by kernel_rfl) 4 [0,1,2,3,4,5,6,7,8,9,10,11,12,13,14] [[0,1,2,3,4,5,6,7,8,9,11,10,12,13,14],[0,1,2,3,4,10,5,6,7,8,9,11,12,13,14],[0,1,2,3,4,10,11,5,6,7,8,9,12,13,14],[0,1,2,3,4,11,5,6,7,8,9,10,12,13,14],[0,1,2,3,4,11,10,5,6,7,8,9,12,13,14]] (by decide +kernel) ?_;refine aT ?_;refine xO ?_ (h:=by simp[hi2];exact .mk);refine xO ?_ (h:=by simp[-List.getElem?_map,ao hi2,mE];exact .mk);refine xC (FO) ?_ (he:=by simp[au,Function.comp_def];exact .mk) (hi:=by simp[ax,bh];exact .mk);iterate 6 refine xO ?_
  iterate 2 (refine aH ?_)
  refine xO ?_;refine xE [1,4,9,10,11,12,13,14] ?_;refine⟨_,rfl,⟨?_,?_,?_,?_,?_,trivial⟩,?_⟩
  iterate 5
   ·iterate 15 first|refine xO ?_ (h:=by simp[-List.getElem?_map,ao hi2,mE,hi2];exact .mk)|refine bA rfl rfl rfl rfl (by simp;exact .mk) (by simp[au,Function.comp_def];exact .mk) FO (by simp) (by simp[ax,aJ,bh];exact .mk) ?_
    refine xE [1,4,9,10,11,12,13,14] ?_
    first | exact Weak.perm [0,1,2,3,4,5,6,7,8,9,10,12,11] [0,1,2,3,4,5,6,7,8,9,10,12,11] rfl rfl rfl
          | exact Weak.perm [0,1,2,3,4,5,6,11,7,8,9,10,12] [0,1,2,3,4,5,6,8,9,10,11,7,12] rfl rfl rfl
          | exact Weak.perm [0,1,2,3,4,5,6,11,12,7,8,9,10] [0,1,2,3,4,5,6,9,10,11,12,7,8] rfl rfl rfl
          | exact Weak.perm [0,1,2,3,4,5,6,12,7,8,9,10,11] [0,1,2,3,4,5,6,8,9,10,11,12,7] rfl rfl rfl
          | exact Weak.perm [0,1,2,3,4,5,6,12,11,7,8,9,10] [0,1,2,3,4,5,6,9,10,11,12,8,7] rfl rfl rfl
  rintro -;refine ab (xU ?_);refine ay ?_;refine xQ [1,4,9,10,11,12,13,14,39] ?_ ?_
  ·intro pO;have he:E.e≠0:=by simpa using pO
   have hd:=zU hI hi2 (by rw[←hE];exact he);rw[←hE]at hd;refine xU ?_;refine aH ?_;refine ay ?_;refine aH ?_;refine dC [4,5,6,7] ?_;refine ar (aG (by simp;exact .mk) (by simp;exact .mk) ?_ (by simp[ax]));first|(simp[hd,bn,ax,ai];done)|(simp[hd,bn,ax,ai,jc])
  intro pO;have he:E.e=0:=by simpa using pO
  have hI2:=wW hI hi2 (by rw[←hE];exact he);rw[←hE]at hI2;have e1:(out.length+1)*40≤140737488355328:=by omega
  have e2:out.length≤140737488355327:=by omega
  refine af ?_;refine xT ?_;refine xO ?_;refine aH ?_;refine xF [1,4,9,10,11,13] ?_;refine xY ?_;refine aT ?_;refine xO ?_ (h:=by simp[rows,e1,e2,D.cE];exact .mk);refine xH [1,4,9,10,11] ?_;refine xY ?_;refine aT ?_;refine xE [1,4,9,10,11] ?_;refine ah [1,4,9,10,11] ?_;refine aD [1,4,9,10,11] rfl ?_;refine aC 2 7 3 (by decide) (by simp) (by decide) rfl rfl ?_;refine aC 6 14 1 (by decide) (by simp) (by decide) rfl rfl ?_;refine aq 7 [1,4,9,10,11] (by decide) (by rfl) (by rfl) ?_;refine ae (m':=l.length-(i+1)) (by omega) ⟨i+1,E.s,out++[kh E],rfl,by omega,hI2,?_,?_⟩
  ·rw[wrap64 (by omega) (by omega)];simp;try rfl
  simp[jc,kh];try rfl
 intro mA;obtain rfl:i=l.length:=by simp at mA;omega
 have hd:=zV hI;refine aP (xT ?_);refine bx ?_;refine aH ?_;refine dC [4,5,6,7] ?_;refine ar (aG (by simp;exact .mk) (by simp;exact .mk) ?_ (by simp[ax]));first|(simp[hd,bn,ax,ai];done)|(simp[hd,bn,ax,ai,jc])
theorem Mk(g:Gl)(l:List pC)(hl:l.length≤2^40):a9 Tryz.prog g 73 [rows 3 qk l,rows 3 qk l] (.v (.bool true)):=by
 refine xA Tryz.func73 fun B S=>?_
 refine xU ?_;refine xH [0,1] ?_;refine ab (xU ?_);refine cW ?_;refine xQ [0,1,11] ?_ ?_
 ·intro h11;simp at h11
 intro h11;refine af fun _=>?_;refine ab (xU ?_);refine xH [0,1,5] ?_;refine ag (aB (fun m σ o=>∃i:Nat,m=l.length-i∧i≤l.length∧σ=slots [(0,.d (rows 3 qk l)),(1,.d (rows 3 qk l)),(5,.d (vI i))]∧o=[]) l.length .refl ⟨0,by simp,by simp,rfl,rfl⟩ ?_);rintro m σ o ⟨i,rfl,hi,rfl,rfl⟩ _;refine ab (xU ?_);refine bx ?_;refine xQ [0,1,5,15] ?_ ?_
 ·intro jY;have hi2:i<l.length:=by simpa using jY
  refine af fun _=>?_;refine ab (ag ?_);refine ab ?_;refine aS (by kernel_rfl) [] 4 [0,1,2,3,4,5,6,7,8,9] (by decide +kernel) ?_;refine ay ?_;refine xO ?_ (h:=by simp[hi2];exact .mk);refine xO ?_ (h:=by simp[-List.getElem?_map,ao hi2,qk];exact .mk);refine ay ?_;refine xO ?_ (h:=by simp[hi2];exact .mk);refine xO ?_ (h:=by simp[-List.getElem?_map,ao hi2,qk];exact .mk);refine xC (JT g (nth l i).ix (nth l i).gen (nth l i).b) ?_ (he:=by simp[qk];exact .mk);refine xO ?_;refine xG [0,1,5,6] ?_;refine ay ?_;refine xQ [0,1,5,28] ?_ ?_
  ·intro qu;simp at qu
  intro qu;refine af fun _=>?_;refine xY ?_;refine aT ?_;refine xE [0,1,5] ?_;refine ah [0,1,5] ?_;refine ae (m':=l.length-(i+1)) (by omega) ⟨i+1,rfl,by omega,?_,rfl⟩;rw[wrap64 (by omega) (by omega)];rfl
 intro jY;refine aP (xT ?_);refine xH [4] ?_;refine xZ ?_;simp
open Go.aN
theorem BQ{x:Ei}{ix gen e:Int}{b:List UInt8}(h1:x.ix=ix)(h2:x.gen=gen)(h3:x.b=b)(h4:x.e=e):x=⟨x.s,ix,gen,b,e⟩:=by
 cases x;simp only at h1 h2 h3 h4;subst h1 h2 h3 h4;rfl
theorem AO:∃A B C:bF,∃r1 r2:pC,tv yT (O 1 121 0 [])=⟨A,0,0,[],0⟩∧eK A.slots A.slots.length=1∧tv A (O 1 1 0 [])=⟨B,0,0,[],10⟩∧oE yT [O 1 121 0 [],O 1 1 0 []]=(bn,[],1,10)∧oE yT [O 1 1 0 [],O 5 0 0 [7]]=(C,[r1,r2],2,0):=by
 refine⟨(tv yT (O 1 121 0 [])).s,(tv (tv yT (O 1 121 0 [])).s (O 1 1 0 [])).s,(oE yT [O 1 1 0 [],O 5 0 0 [7]]).1,nth (oE yT [O 1 1 0 [],O 5 0 0 [7]]).2.1 0,nth (oE yT [O 1 1 0 [],O 5 0 0 [7]]).2.1 1,?_,?_,?_,?_,?_⟩
 ·exact BQ (by decide +kernel) (by decide +kernel) (by decide +kernel) (by decide +kernel)
 ·decide +kernel
 ·exact BQ (by decide +kernel) (by decide +kernel) (by decide +kernel) (by decide +kernel)
 ·kernel_rfl
 ·kernel_rfl
open Go.aN
attribute [simp] Tryz.f70
theorem Mi(g:Gl)(l:List Op)(hl:l.length≤9223372036854775807):a9 Tryz.prog g 70 [rows 7 mE l] (.v (.bool (jM l))):=by
 refine xA Tryz.func70 fun B S=>?_
 refine xU ?_;refine xH [0] ?_;refine ab (xU ?_);refine xH [0,3] ?_;refine ag (aB (fun m σ o=>∃i:Nat,m=l.length-i∧i≤l.length∧(∀j,j<i→nO (nth l j)=true)∧σ=slots [(0,.d (rows 7 mE l)),(3,.d (vI i))]∧o=[]) l.length .refl ⟨0,by simp,by simp,by simp,rfl,rfl⟩ ?_);rintro m σ o ⟨i,rfl,hi,hinv,rfl,rfl⟩ _;refine ab (xU ?_);refine bx ?_;refine xQ [0,3,8] ?_ ?_
 ·intro h8;have hi2:i<l.length:=by simpa using h8
  refine af fun _=>?_;refine ab (ag ?_);refine xU ?_;refine ay ?_;refine xO ?_ (h:=by simp[hi2];exact .mk);refine xO ?_ (h:=by simp[-List.getElem?_map,ao hi2,mE];exact .mk);refine xC (JR g (nth l i)) ?_;refine xO ?_;refine xG [0,3,4] ?_;refine ay ?_;refine xQ [0,3,17] ?_ ?_
  ·intro uC;have hr:jM l=false:=xz hi2 (by simpa using uC);refine xU ?_;refine xH [2] ?_;refine xZ ?_;simp[hr]
  intro uC;refine af fun _=>?_;refine xY ?_;refine aT ?_;refine xE [0,3] ?_;refine ah [0,3] ?_;refine ae (m':=l.length-(i+1)) (by omega) ⟨i+1,rfl,by omega,?_,?_,rfl⟩
  ·intro j hj;rcases Nat.lt_succ_iff_lt_or_eq.1 hj with hj|rfl
   ·exact hinv j hj
   simpa using uC
  rw[wrap64 (by omega) (by omega)];rfl
 intro h8;have hr:jM l=decide ((l.length:Int)≤30):=vz (fun j hj=>hinv j (by simp at h8;omega));refine aP (xT ?_);refine bx ?_;refine xF [2] ?_;refine xZ ?_;simp[hr]
open Go.aN
attribute [simp] Tryz.f171 Tryz.f172 Tryz.f173 Tryz.f174 Tryz.f176
theorem Kz(g:Gl)(s:bF)(hs:s.Ok)(Q a:dp)(ix gn:Int)(b:List UInt8)(o:Op)(e:Int)(he:e=0):∀B S,a7 Tryz.prog g B S ⟨14,false⟩ 171 [.ptr 13 0 0] [.var 28 [.d (vI s.sh.pages),.d (vI s.sh.slots),.d (vI s.sh.roots),.d (vI s.sh.room),.d (vI s.mode),.d (vI s.base),.d (eG s.slots),.d (rR s.roots),.d (fL s.data)],.var 73 [.d (vI o.act),.d (vI o.ix),.d (vI o.gen),.d (vI o.n),.d (vI o.off),.d (rB o.b),.d (vS o.name)],.var 28 [.d (vI 0),.d (vI 0),.d (vI 0),.d (vI 0),.d (vI 0),.d (vI 0),.d (.v (.slice none 0 0)),.d (.v (.slice none 0 0)),.d (.v (.slice none 0 0))],.var 77 [.d (vI 0),.d (vI 0),.d (.v (.slice none 0 0))],.row 1 (Q.aw.map vI),.row 1 (Q.data.map oB),.row 3 (Q.roots.map ak),.row 1 (a.aw.map vI),.row 1 (a.data.map oB),.row 3 (a.roots.map ak),.row 1 (b.map vB),.var 67 [.hdr 7 0 a.aw.length,.hdr 8 0 a.data.length,.hdr 9 0 a.roots.length],.var 77 [.d (vI ix),.d (vI gn),.hdr 10 0 b.length],.var 188 [.d (vI s.sh.pages),.d (vI s.sh.slots),.d (vI s.sh.roots),.d (vI s.sh.room),.d (vI s.mode),.d (vI s.base),.d (eG s.slots),.d (rR s.roots),.d (fL s.data),.hdr 7 0 a.aw.length,.hdr 8 0 a.data.length,.hdr 9 0 a.roots.length,.d (vI o.act),.d (vI o.ix),.d (vI o.gen),.d (vI o.n),.d (vI o.off),.d (rB o.b),.d (vS o.name)]]
    (fun x r=>x = .bK [.agg [.d (vI s.sh.pages),.d (vI s.sh.slots),.d (vI s.sh.roots),.d (vI s.sh.room),.d (vI s.mode),.d (vI s.base),.hdr 15 0 s.slots.length,.hdr 16 0 s.roots.length,.hdr 17 0 s.data.length],.d (vI e)]∧r=[.var 28 [.d (vI s.sh.pages),.d (vI s.sh.slots),.d (vI s.sh.roots),.d (vI s.sh.room),.d (vI s.mode),.d (vI s.base),.d (eG s.slots),.d (rR s.roots),.d (fL s.data)],.var 73 [.d (vI o.act),.d (vI o.ix),.d (vI o.gen),.d (vI o.n),.d (vI o.off),.d (rB o.b),.d (vS o.name)],.var 28 [.d (vI 0),.d (vI 0),.d (vI 0),.d (vI 0),.d (vI 0),.d (vI 0),.d (.v (.slice none 0 0)),.d (.v (.slice none 0 0)),.d (.v (.slice none 0 0))],.var 77 [.d (vI 0),.d (vI 0),.d (.v (.slice none 0 0))],.row 1 (Q.aw.map vI),.row 1 (Q.data.map oB),.row 3 (Q.roots.map ak),.row 1 (a.aw.map vI),.row 1 (a.data.map oB),.row 3 (a.roots.map ak),.row 1 (b.map vB),.var 67 [.hdr 7 0 a.aw.length,.hdr 8 0 a.data.length,.hdr 9 0 a.roots.length],.var 77 [.d (vI ix),.d (vI gn),.hdr 10 0 b.length],.var 188 [.d (vI s.sh.pages),.d (vI s.sh.slots),.d (vI s.sh.roots),.d (vI s.sh.room),.d (vI s.mode),.d (vI s.base),.d (eG s.slots),.d (rR s.roots),.d (fL s.data),.hdr 7 0 a.aw.length,.hdr 8 0 a.data.length,.hdr 9 0 a.roots.length,.d (vI o.act),.d (vI o.ix),.d (vI o.gen),.d (vI o.n),.d (vI o.off),.d (rB o.b),.d (vS o.name)],.var 28 [.d (vI s.sh.pages),.d (vI s.sh.slots),.d (vI s.sh.roots),.d (vI s.sh.room),.d (vI s.mode),.d (vI s.base),.hdr 15 0 s.slots.length,.hdr 16 0 s.roots.length,.hdr 17 0 s.data.length],.row 5 (s.slots.map aA),.row 3 (s.roots.map ak),.row 1 (s.data.map oB)]):=by
 refine aL Tryz.func171 rfl (Nat.le_of_ble_eq_true rfl) fun B S=>?_
 subst he;refine xU ?_;refine ay ?_;refine xG [0,2] ?_;refine bx ?_;refine xC (vq g s hs) ?_ (he:=by simp[au,Function.comp_def];exact .mk) (hi:=by simp[ax];exact .mk);refine aH ?_;refine xH [2,3] ?_;refine ar (al (by simp;exact .mk) ?_ ?_)
 ·simp
 simp[ai]
theorem KA(g:Gl)(s:bF)(hs:s.Ok)(Q a:dp)(ix gn:Int)(b:List UInt8)(o:Op)(X:bF)(e:Int)(hX:X=(dF s o.n).1)(he:e=(dF s o.n).2.2):∀B S,a7 Tryz.prog g B S ⟨14,false⟩ 172 [.ptr 13 0 0] [.var 28 [.d (vI s.sh.pages),.d (vI s.sh.slots),.d (vI s.sh.roots),.d (vI s.sh.room),.d (vI s.mode),.d (vI s.base),.d (eG s.slots),.d (rR s.roots),.d (fL s.data)],.var 73 [.d (vI o.act),.d (vI o.ix),.d (vI o.gen),.d (vI o.n),.d (vI o.off),.d (rB o.b),.d (vS o.name)],.var 28 [.d (vI 0),.d (vI 0),.d (vI 0),.d (vI 0),.d (vI 0),.d (vI 0),.d (.v (.slice none 0 0)),.d (.v (.slice none 0 0)),.d (.v (.slice none 0 0))],.var 77 [.d (vI 0),.d (vI 0),.d (.v (.slice none 0 0))],.row 1 (Q.aw.map vI),.row 1 (Q.data.map oB),.row 3 (Q.roots.map ak),.row 1 (a.aw.map vI),.row 1 (a.data.map oB),.row 3 (a.roots.map ak),.row 1 (b.map vB),.var 67 [.hdr 7 0 a.aw.length,.hdr 8 0 a.data.length,.hdr 9 0 a.roots.length],.var 77 [.d (vI ix),.d (vI gn),.hdr 10 0 b.length],.var 188 [.d (vI s.sh.pages),.d (vI s.sh.slots),.d (vI s.sh.roots),.d (vI s.sh.room),.d (vI s.mode),.d (vI s.base),.d (eG s.slots),.d (rR s.roots),.d (fL s.data),.hdr 7 0 a.aw.length,.hdr 8 0 a.data.length,.hdr 9 0 a.roots.length,.d (vI o.act),.d (vI o.ix),.d (vI o.gen),.d (vI o.n),.d (vI o.off),.d (rB o.b),.d (vS o.name)]]
    (fun x r=>x = .bK [.agg [.d (vI X.sh.pages),.d (vI X.sh.slots),.d (vI X.sh.roots),.d (vI X.sh.room),.d (vI X.mode),.d (vI X.base),.hdr 15 0 X.slots.length,.hdr 16 0 X.roots.length,.hdr 17 0 X.data.length],.d (vI e)]∧r=[.var 28 [.d (vI s.sh.pages),.d (vI s.sh.slots),.d (vI s.sh.roots),.d (vI s.sh.room),.d (vI s.mode),.d (vI s.base),.d (eG s.slots),.d (rR s.roots),.d (fL s.data)],.var 73 [.d (vI o.act),.d (vI o.ix),.d (vI o.gen),.d (vI o.n),.d (vI o.off),.d (rB o.b),.d (vS o.name)],.var 28 [.d (vI 0),.d (vI 0),.d (vI 0),.d (vI 0),.d (vI 0),.d (vI 0),.d (.v (.slice none 0 0)),.d (.v (.slice none 0 0)),.d (.v (.slice none 0 0))],.var 77 [.d (vI 0),.d (vI 0),.d (.v (.slice none 0 0))],.row 1 (Q.aw.map vI),.row 1 (Q.data.map oB),.row 3 (Q.roots.map ak),.row 1 (a.aw.map vI),.row 1 (a.data.map oB),.row 3 (a.roots.map ak),.row 1 (b.map vB),.var 67 [.hdr 7 0 a.aw.length,.hdr 8 0 a.data.length,.hdr 9 0 a.roots.length],.var 77 [.d (vI ix),.d (vI gn),.hdr 10 0 b.length],.var 188 [.d (vI s.sh.pages),.d (vI s.sh.slots),.d (vI s.sh.roots),.d (vI s.sh.room),.d (vI s.mode),.d (vI s.base),.d (eG s.slots),.d (rR s.roots),.d (fL s.data),.hdr 7 0 a.aw.length,.hdr 8 0 a.data.length,.hdr 9 0 a.roots.length,.d (vI o.act),.d (vI o.ix),.d (vI o.gen),.d (vI o.n),.d (vI o.off),.d (rB o.b),.d (vS o.name)],.var 28 [.d (vI X.sh.pages),.d (vI X.sh.slots),.d (vI X.sh.roots),.d (vI X.sh.room),.d (vI X.mode),.d (vI X.base),.hdr 15 0 X.slots.length,.hdr 16 0 X.roots.length,.hdr 17 0 X.data.length],.row 5 (X.slots.map aA),.row 3 (X.roots.map ak),.row 1 (X.data.map oB),.var 28 [.d (vI X.sh.pages),.d (vI X.sh.slots),.d (vI X.sh.roots),.d (vI X.sh.room),.d (vI X.mode),.d (vI X.base),.hdr 15 0 X.slots.length,.hdr 16 0 X.roots.length,.hdr 17 0 X.data.length],.var 50 [.d (vI (dF s o.n).2.1.1),.d (vI (dF s o.n).2.1.2)]]):=by
 refine aL Tryz.func172 rfl (Nat.le_of_ble_eq_true rfl) fun B S=>?_
 have FN:=Ma g s hs o.n;rw[←hX,←he]at FN;refine xU ?_;refine bU [0,2] ?_;refine ab ?_;refine jS (hard:=[]) [9,14,15] (aR (by decide)) (by kernel_rfl) 4 [0,1,2,3,4,5,6,7,8,9,10,11,12,13,14,15,16,17,18] [[0,1,2,3,4,5,6,7,8,9,10,11,12,13,15,14,16,17,18],[0,1,2,3,4,5,6,7,8,14,9,10,11,12,13,15,16,17,18],[0,1,2,3,4,5,6,7,8,14,15,9,10,11,12,13,16,17,18],[0,1,2,3,4,5,6,7,8,15,9,10,11,12,13,14,16,17,18],[0,1,2,3,4,5,6,7,8,15,14,9,10,11,12,13,16,17,18]] (by decide +kernel) ?_;iterate 9 refine xO ?_
 refine xC (FN) ?_ (he:=by simp[au,Function.comp_def];exact .mk) (hi:=by simp[ax];exact .mk);iterate 6 refine xO ?_
 iterate 2 (refine aH ?_)
 refine xO ?_;refine xE [2,4,6] ?_;refine⟨_,rfl,⟨?_,?_,?_,?_,?_,trivial⟩,?_⟩
 ·skip
  iterate 9 refine xO ?_
  refine xC (FN) ?_ (he:=by simp[au,Function.comp_def];exact .mk) (hi:=by simp[ax];exact .mk);iterate 6 refine xO ?_
  iterate 2 (refine aH ?_)
  refine xO ?_;refine xE [2,4,6] ?_;exact Weak.perm [0,1,2,3,4,5,6,7,8,9,10,11,12,13,14,15,16,17,19,18] [0,1,2,3,4,5,6,7,8,9,10,11,12,13,14,15,16,17,19,18] rfl rfl rfl
 ·skip
  iterate 10 refine xO ?_
  refine xC (FN) ?_ (he:=by simp[au,Function.comp_def];exact .mk) (hi:=by simp[ax];exact .mk);refine cW ?_;iterate 2 (refine aH ?_)
  refine xO ?_;refine xE [2,4,6] ?_;exact Weak.perm [0,1,2,3,4,5,6,7,8,9,10,11,12,13,14,18,15,16,17,19] [0,1,2,3,4,5,6,7,8,9,10,11,12,13,14,16,17,18,15,19] rfl rfl rfl
 ·skip
  iterate 11 refine xO ?_
  refine xC (FN) ?_ (he:=by simp[au,Function.comp_def];exact .mk) (hi:=by simp[ax];exact .mk);refine bx ?_;iterate 2 (refine aH ?_)
  refine xO ?_;refine xE [2,4,6] ?_;exact Weak.perm [0,1,2,3,4,5,6,7,8,9,10,11,12,13,14,18,19,15,16,17] [0,1,2,3,4,5,6,7,8,9,10,11,12,13,14,17,18,19,15,16] rfl rfl rfl
 ·skip
  iterate 10 refine xO ?_
  refine xC (FN) ?_ (he:=by simp[au,Function.comp_def];exact .mk) (hi:=by simp[ax];exact .mk);refine cW ?_;iterate 2 (refine aH ?_)
  refine xO ?_;refine xE [2,4,6] ?_;exact Weak.perm [0,1,2,3,4,5,6,7,8,9,10,11,12,13,14,19,15,16,17,18] [0,1,2,3,4,5,6,7,8,9,10,11,12,13,14,16,17,18,19,15] rfl rfl rfl
 ·skip
  iterate 11 refine xO ?_
  refine xC (FN) ?_ (he:=by simp[au,Function.comp_def];exact .mk) (hi:=by simp[ax];exact .mk);refine bx ?_;iterate 2 (refine aH ?_)
  refine xO ?_;refine xE [2,4,6] ?_;exact Weak.perm [0,1,2,3,4,5,6,7,8,9,10,11,12,13,14,19,18,15,16,17] [0,1,2,3,4,5,6,7,8,9,10,11,12,13,14,17,18,19,16,15] rfl rfl rfl
 refine xT ?_;refine ay ?_;refine aH ?_;refine xH [2,3] ?_;refine ar (al (by simp;exact .mk) ?_ ?_)
 ·simp
 simp[ai]
theorem KB(g:Gl)(s:bF)(hs:s.Ok)(Q a:dp)(ix gn:Int)(b:List UInt8)(o:Op)(X:bF)(e:Int)(hX:X=(fk s o.ix).1)(he:e=(fk s o.ix).2):∀B S,a7 Tryz.prog g B S ⟨14,false⟩ 173 [.ptr 13 0 0] [.var 28 [.d (vI s.sh.pages),.d (vI s.sh.slots),.d (vI s.sh.roots),.d (vI s.sh.room),.d (vI s.mode),.d (vI s.base),.d (eG s.slots),.d (rR s.roots),.d (fL s.data)],.var 73 [.d (vI o.act),.d (vI o.ix),.d (vI o.gen),.d (vI o.n),.d (vI o.off),.d (rB o.b),.d (vS o.name)],.var 28 [.d (vI 0),.d (vI 0),.d (vI 0),.d (vI 0),.d (vI 0),.d (vI 0),.d (.v (.slice none 0 0)),.d (.v (.slice none 0 0)),.d (.v (.slice none 0 0))],.var 77 [.d (vI 0),.d (vI 0),.d (.v (.slice none 0 0))],.row 1 (Q.aw.map vI),.row 1 (Q.data.map oB),.row 3 (Q.roots.map ak),.row 1 (a.aw.map vI),.row 1 (a.data.map oB),.row 3 (a.roots.map ak),.row 1 (b.map vB),.var 67 [.hdr 7 0 a.aw.length,.hdr 8 0 a.data.length,.hdr 9 0 a.roots.length],.var 77 [.d (vI ix),.d (vI gn),.hdr 10 0 b.length],.var 188 [.d (vI s.sh.pages),.d (vI s.sh.slots),.d (vI s.sh.roots),.d (vI s.sh.room),.d (vI s.mode),.d (vI s.base),.d (eG s.slots),.d (rR s.roots),.d (fL s.data),.hdr 7 0 a.aw.length,.hdr 8 0 a.data.length,.hdr 9 0 a.roots.length,.d (vI o.act),.d (vI o.ix),.d (vI o.gen),.d (vI o.n),.d (vI o.off),.d (rB o.b),.d (vS o.name)]]
    (fun x r=>x = .bK [.agg [.d (vI X.sh.pages),.d (vI X.sh.slots),.d (vI X.sh.roots),.d (vI X.sh.room),.d (vI X.mode),.d (vI X.base),.hdr 15 0 X.slots.length,.hdr 16 0 X.roots.length,.hdr 17 0 X.data.length],.d (vI e)]∧r=[.var 28 [.d (vI s.sh.pages),.d (vI s.sh.slots),.d (vI s.sh.roots),.d (vI s.sh.room),.d (vI s.mode),.d (vI s.base),.d (eG s.slots),.d (rR s.roots),.d (fL s.data)],.var 73 [.d (vI o.act),.d (vI o.ix),.d (vI o.gen),.d (vI o.n),.d (vI o.off),.d (rB o.b),.d (vS o.name)],.var 28 [.d (vI 0),.d (vI 0),.d (vI 0),.d (vI 0),.d (vI 0),.d (vI 0),.d (.v (.slice none 0 0)),.d (.v (.slice none 0 0)),.d (.v (.slice none 0 0))],.var 77 [.d (vI 0),.d (vI 0),.d (.v (.slice none 0 0))],.row 1 (Q.aw.map vI),.row 1 (Q.data.map oB),.row 3 (Q.roots.map ak),.row 1 (a.aw.map vI),.row 1 (a.data.map oB),.row 3 (a.roots.map ak),.row 1 (b.map vB),.var 67 [.hdr 7 0 a.aw.length,.hdr 8 0 a.data.length,.hdr 9 0 a.roots.length],.var 77 [.d (vI ix),.d (vI gn),.hdr 10 0 b.length],.var 188 [.d (vI s.sh.pages),.d (vI s.sh.slots),.d (vI s.sh.roots),.d (vI s.sh.room),.d (vI s.mode),.d (vI s.base),.d (eG s.slots),.d (rR s.roots),.d (fL s.data),.hdr 7 0 a.aw.length,.hdr 8 0 a.data.length,.hdr 9 0 a.roots.length,.d (vI o.act),.d (vI o.ix),.d (vI o.gen),.d (vI o.n),.d (vI o.off),.d (rB o.b),.d (vS o.name)],.var 28 [.d (vI X.sh.pages),.d (vI X.sh.slots),.d (vI X.sh.roots),.d (vI X.sh.room),.d (vI X.mode),.d (vI X.base),.hdr 15 0 X.slots.length,.hdr 16 0 X.roots.length,.hdr 17 0 X.data.length],.row 5 (X.slots.map aA),.row 3 (X.roots.map ak),.row 1 (X.data.map oB)]):=by
 refine aL Tryz.func173 rfl (Nat.le_of_ble_eq_true rfl) fun B S=>?_
 have cc:=Mb g s hs o.ix;rw[←hX,←he]at cc;refine xU ?_;refine bU [0,2] ?_;refine ab ?_;refine aS (by kernel_rfl) [] 4 [0,1,2,3,4,5,6,7,8,9,10,11,12,13,14] (by decide +kernel) ?_;iterate 10 refine xO ?_
 refine xC (cc) ?_ (he:=by simp[au,Function.comp_def];exact .mk) (hi:=by simp[ax];exact .mk);refine ay ?_;refine aH ?_;refine xH [2,3] ?_;refine ar (al (by simp;exact .mk) ?_ ?_)
 ·simp
 simp[ai]
theorem KC(g:Gl)(s:bF)(hs:s.Ok)(Q a:dp)(ix gn:Int)(b:List UInt8)(o:Op)(X:bF)(e:Int)(hX:X=(gq s o.ix o.n).1)(he:e=(gq s o.ix o.n).2):∀B S,a7 Tryz.prog g B S ⟨14,false⟩ 174 [.ptr 13 0 0] [.var 28 [.d (vI s.sh.pages),.d (vI s.sh.slots),.d (vI s.sh.roots),.d (vI s.sh.room),.d (vI s.mode),.d (vI s.base),.d (eG s.slots),.d (rR s.roots),.d (fL s.data)],.var 73 [.d (vI o.act),.d (vI o.ix),.d (vI o.gen),.d (vI o.n),.d (vI o.off),.d (rB o.b),.d (vS o.name)],.var 28 [.d (vI 0),.d (vI 0),.d (vI 0),.d (vI 0),.d (vI 0),.d (vI 0),.d (.v (.slice none 0 0)),.d (.v (.slice none 0 0)),.d (.v (.slice none 0 0))],.var 77 [.d (vI 0),.d (vI 0),.d (.v (.slice none 0 0))],.row 1 (Q.aw.map vI),.row 1 (Q.data.map oB),.row 3 (Q.roots.map ak),.row 1 (a.aw.map vI),.row 1 (a.data.map oB),.row 3 (a.roots.map ak),.row 1 (b.map vB),.var 67 [.hdr 7 0 a.aw.length,.hdr 8 0 a.data.length,.hdr 9 0 a.roots.length],.var 77 [.d (vI ix),.d (vI gn),.hdr 10 0 b.length],.var 188 [.d (vI s.sh.pages),.d (vI s.sh.slots),.d (vI s.sh.roots),.d (vI s.sh.room),.d (vI s.mode),.d (vI s.base),.d (eG s.slots),.d (rR s.roots),.d (fL s.data),.hdr 7 0 a.aw.length,.hdr 8 0 a.data.length,.hdr 9 0 a.roots.length,.d (vI o.act),.d (vI o.ix),.d (vI o.gen),.d (vI o.n),.d (vI o.off),.d (rB o.b),.d (vS o.name)]]
    (fun x r=>x = .bK [.agg [.d (vI X.sh.pages),.d (vI X.sh.slots),.d (vI X.sh.roots),.d (vI X.sh.room),.d (vI X.mode),.d (vI X.base),.hdr 15 0 X.slots.length,.hdr 16 0 X.roots.length,.hdr 17 0 X.data.length],.d (vI e)]∧r=[.var 28 [.d (vI s.sh.pages),.d (vI s.sh.slots),.d (vI s.sh.roots),.d (vI s.sh.room),.d (vI s.mode),.d (vI s.base),.d (eG s.slots),.d (rR s.roots),.d (fL s.data)],.var 73 [.d (vI o.act),.d (vI o.ix),.d (vI o.gen),.d (vI o.n),.d (vI o.off),.d (rB o.b),.d (vS o.name)],.var 28 [.d (vI 0),.d (vI 0),.d (vI 0),.d (vI 0),.d (vI 0),.d (vI 0),.d (.v (.slice none 0 0)),.d (.v (.slice none 0 0)),.d (.v (.slice none 0 0))],.var 77 [.d (vI 0),.d (vI 0),.d (.v (.slice none 0 0))],.row 1 (Q.aw.map vI),.row 1 (Q.data.map oB),.row 3 (Q.roots.map ak),.row 1 (a.aw.map vI),.row 1 (a.data.map oB),.row 3 (a.roots.map ak),.row 1 (b.map vB),.var 67 [.hdr 7 0 a.aw.length,.hdr 8 0 a.data.length,.hdr 9 0 a.roots.length],.var 77 [.d (vI ix),.d (vI gn),.hdr 10 0 b.length],.var 188 [.d (vI s.sh.pages),.d (vI s.sh.slots),.d (vI s.sh.roots),.d (vI s.sh.room),.d (vI s.mode),.d (vI s.base),.d (eG s.slots),.d (rR s.roots),.d (fL s.data),.hdr 7 0 a.aw.length,.hdr 8 0 a.data.length,.hdr 9 0 a.roots.length,.d (vI o.act),.d (vI o.ix),.d (vI o.gen),.d (vI o.n),.d (vI o.off),.d (rB o.b),.d (vS o.name)],.var 28 [.d (vI X.sh.pages),.d (vI X.sh.slots),.d (vI X.sh.roots),.d (vI X.sh.room),.d (vI X.mode),.d (vI X.base),.hdr 15 0 X.slots.length,.hdr 16 0 X.roots.length,.hdr 17 0 X.data.length],.row 5 (X.slots.map aA),.row 3 (X.roots.map ak),.row 1 (X.data.map oB)]):=by
 refine aL Tryz.func174 rfl (Nat.le_of_ble_eq_true rfl) fun B S=>?_
 have cc:=Mc g s hs o.ix o.n;rw[←hX,←he]at cc;refine xU ?_;refine bU [0,2] ?_;refine ab ?_;refine aS (by kernel_rfl) [] 4 [0,1,2,3,4,5,6,7,8,9,10,11,12,13,14,15,16,17,18,19] (by decide +kernel) ?_;iterate 15 refine xO ?_
 refine xC (cc) ?_ (he:=by simp[au,Function.comp_def];exact .mk) (hi:=by simp[ax];exact .mk);refine ay ?_;refine aH ?_;refine xH [2,3] ?_;refine ar (al (by simp;exact .mk) ?_ ?_)
 ·simp
 simp[ai]
theorem E8(g:Gl)(s:bF)(hs:s.Ok)(Q a:dp)(ix gn:Int)(b:List UInt8)(o:Op)(e:Int)(he:e=0):∀B S,a7 Tryz.prog g B S ⟨14,false⟩ 176 [.ptr 13 0 0] [.var 28 [.d (vI s.sh.pages),.d (vI s.sh.slots),.d (vI s.sh.roots),.d (vI s.sh.room),.d (vI s.mode),.d (vI s.base),.d (eG s.slots),.d (rR s.roots),.d (fL s.data)],.var 73 [.d (vI o.act),.d (vI o.ix),.d (vI o.gen),.d (vI o.n),.d (vI o.off),.d (rB o.b),.d (vS o.name)],.var 28 [.d (vI 0),.d (vI 0),.d (vI 0),.d (vI 0),.d (vI 0),.d (vI 0),.d (.v (.slice none 0 0)),.d (.v (.slice none 0 0)),.d (.v (.slice none 0 0))],.var 77 [.d (vI 0),.d (vI 0),.d (.v (.slice none 0 0))],.row 1 (Q.aw.map vI),.row 1 (Q.data.map oB),.row 3 (Q.roots.map ak),.row 1 (a.aw.map vI),.row 1 (a.data.map oB),.row 3 (a.roots.map ak),.row 1 (b.map vB),.var 67 [.hdr 7 0 a.aw.length,.hdr 8 0 a.data.length,.hdr 9 0 a.roots.length],.var 77 [.d (vI ix),.d (vI gn),.hdr 10 0 b.length],.var 188 [.d (vI s.sh.pages),.d (vI s.sh.slots),.d (vI s.sh.roots),.d (vI s.sh.room),.d (vI s.mode),.d (vI s.base),.d (eG s.slots),.d (rR s.roots),.d (fL s.data),.hdr 7 0 a.aw.length,.hdr 8 0 a.data.length,.hdr 9 0 a.roots.length,.d (vI o.act),.d (vI o.ix),.d (vI o.gen),.d (vI o.n),.d (vI o.off),.d (rB o.b),.d (vS o.name)]]
    (fun x r=>x = .bK [.agg [.d (vI s.sh.pages),.d (vI s.sh.slots),.d (vI s.sh.roots),.d (vI s.sh.room),.d (vI s.mode),.d (vI s.base),.hdr 15 0 s.slots.length,.hdr 9 0 a.roots.length,.hdr 17 0 s.data.length],.d (vI e)]∧r=[.var 28 [.d (vI s.sh.pages),.d (vI s.sh.slots),.d (vI s.sh.roots),.d (vI s.sh.room),.d (vI s.mode),.d (vI s.base),.d (eG s.slots),.d (rR s.roots),.d (fL s.data)],.var 73 [.d (vI o.act),.d (vI o.ix),.d (vI o.gen),.d (vI o.n),.d (vI o.off),.d (rB o.b),.d (vS o.name)],.var 28 [.d (vI 0),.d (vI 0),.d (vI 0),.d (vI 0),.d (vI 0),.d (vI 0),.d (.v (.slice none 0 0)),.d (.v (.slice none 0 0)),.d (.v (.slice none 0 0))],.var 77 [.d (vI 0),.d (vI 0),.d (.v (.slice none 0 0))],.row 1 (Q.aw.map vI),.row 1 (Q.data.map oB),.row 3 (Q.roots.map ak),.row 1 (a.aw.map vI),.row 1 (a.data.map oB),.row 3 (a.roots.map ak),.row 1 (b.map vB),.var 67 [.hdr 7 0 a.aw.length,.hdr 8 0 a.data.length,.hdr 9 0 a.roots.length],.var 77 [.d (vI ix),.d (vI gn),.hdr 10 0 b.length],.var 188 [.d (vI s.sh.pages),.d (vI s.sh.slots),.d (vI s.sh.roots),.d (vI s.sh.room),.d (vI s.mode),.d (vI s.base),.d (eG s.slots),.d (rR s.roots),.d (fL s.data),.hdr 7 0 a.aw.length,.hdr 8 0 a.data.length,.hdr 9 0 a.roots.length,.d (vI o.act),.d (vI o.ix),.d (vI o.gen),.d (vI o.n),.d (vI o.off),.d (rB o.b),.d (vS o.name)],.var 28 [.d (vI s.sh.pages),.d (vI s.sh.slots),.d (vI s.sh.roots),.d (vI s.sh.room),.d (vI s.mode),.d (vI s.base),.hdr 15 0 s.slots.length,.hdr 9 0 a.roots.length,.hdr 17 0 s.data.length],.row 5 (s.slots.map aA),.row 3 (s.roots.map ak),.row 1 (s.data.map oB),.var 28 [.d (vI s.sh.pages),.d (vI s.sh.slots),.d (vI s.sh.roots),.d (vI s.sh.room),.d (vI s.mode),.d (vI s.base),.hdr 15 0 s.slots.length,.hdr 9 0 a.roots.length,.hdr 17 0 s.data.length]]):=by
 refine aL Tryz.func176 rfl (Nat.le_of_ble_eq_true rfl) fun B S=>?_
 subst he;refine xU ?_;refine ay ?_;refine xG [0,2] ?_;refine bx ?_;refine xC (vq g s hs) ?_ (he:=by simp[au,Function.comp_def];exact .mk) (hi:=by simp[ax];exact .mk);refine xO ?_;refine aH ?_;refine xG [0,2,4] ?_;iterate 6 refine xO ?_
 refine aH ?_;refine xG [2,4] ?_;refine xO ?_;refine aH ?_;refine xH [2,3] ?_;refine ar (al (by simp;exact .mk) ?_ ?_)
 ·simp[bj]
 simp[ai,bj]
open Go.aN
attribute [simp] Tryz.f175
theorem KD(g:Gl)(s:bF)(hs:s.Ok)(Q a:dp)(ix gn:Int)(b:List UInt8)(o:Op)(e:Int)(he:e=0)(k:Nat)(hix:o.ix=k)(hk:k<s.data.length)(hk2:k<a.data.length):∀B S,a7 Tryz.prog g B S ⟨14,false⟩ 175 [.ptr 13 0 0] [.var 28 [.d (vI s.sh.pages),.d (vI s.sh.slots),.d (vI s.sh.roots),.d (vI s.sh.room),.d (vI s.mode),.d (vI s.base),.d (eG s.slots),.d (rR s.roots),.d (fL s.data)],.var 73 [.d (vI o.act),.d (vI o.ix),.d (vI o.gen),.d (vI o.n),.d (vI o.off),.d (rB o.b),.d (vS o.name)],.var 28 [.d (vI 0),.d (vI 0),.d (vI 0),.d (vI 0),.d (vI 0),.d (vI 0),.d (.v (.slice none 0 0)),.d (.v (.slice none 0 0)),.d (.v (.slice none 0 0))],.var 77 [.d (vI 0),.d (vI 0),.d (.v (.slice none 0 0))],.row 1 (Q.aw.map vI),.row 1 (Q.data.map oB),.row 3 (Q.roots.map ak),.row 1 (a.aw.map vI),.row 1 (a.data.map oB),.row 3 (a.roots.map ak),.row 1 (b.map vB),.var 67 [.hdr 7 0 a.aw.length,.hdr 8 0 a.data.length,.hdr 9 0 a.roots.length],.var 77 [.d (vI ix),.d (vI gn),.hdr 10 0 b.length],.var 188 [.d (vI s.sh.pages),.d (vI s.sh.slots),.d (vI s.sh.roots),.d (vI s.sh.room),.d (vI s.mode),.d (vI s.base),.d (eG s.slots),.d (rR s.roots),.d (fL s.data),.hdr 7 0 a.aw.length,.hdr 8 0 a.data.length,.hdr 9 0 a.roots.length,.d (vI o.act),.d (vI o.ix),.d (vI o.gen),.d (vI o.n),.d (vI o.off),.d (rB o.b),.d (vS o.name)]]
    (fun x r=>x = .bK [.agg [.d (vI s.sh.pages),.d (vI s.sh.slots),.d (vI s.sh.roots),.d (vI s.sh.room),.d (vI s.mode),.d (vI s.base),.hdr 15 0 s.slots.length,.hdr 16 0 s.roots.length,.hdr 17 0 s.data.length],.d (vI e)]∧r=[.var 28 [.d (vI s.sh.pages),.d (vI s.sh.slots),.d (vI s.sh.roots),.d (vI s.sh.room),.d (vI s.mode),.d (vI s.base),.d (eG s.slots),.d (rR s.roots),.d (fL s.data)],.var 73 [.d (vI o.act),.d (vI o.ix),.d (vI o.gen),.d (vI o.n),.d (vI o.off),.d (rB o.b),.d (vS o.name)],.var 28 [.d (vI 0),.d (vI 0),.d (vI 0),.d (vI 0),.d (vI 0),.d (vI 0),.d (.v (.slice none 0 0)),.d (.v (.slice none 0 0)),.d (.v (.slice none 0 0))],.var 77 [.d (vI 0),.d (vI 0),.d (.v (.slice none 0 0))],.row 1 (Q.aw.map vI),.row 1 (Q.data.map oB),.row 3 (Q.roots.map ak),.row 1 (a.aw.map vI),.hole k 19 (nth a.data k).length (a.data.map oB),.row 3 (a.roots.map ak),.row 1 (b.map vB),.var 67 [.hdr 7 0 a.aw.length,.hdr 8 0 a.data.length,.hdr 9 0 a.roots.length],.var 77 [.d (vI ix),.d (vI gn),.hdr 10 0 b.length],.var 188 [.d (vI s.sh.pages),.d (vI s.sh.slots),.d (vI s.sh.roots),.d (vI s.sh.room),.d (vI s.mode),.d (vI s.base),.d (eG s.slots),.d (rR s.roots),.d (fL s.data),.hdr 7 0 a.aw.length,.hdr 8 0 a.data.length,.hdr 9 0 a.roots.length,.d (vI o.act),.d (vI o.ix),.d (vI o.gen),.d (vI o.n),.d (vI o.off),.d (rB o.b),.d (vS o.name)],.var 28 [.d (vI s.sh.pages),.d (vI s.sh.slots),.d (vI s.sh.roots),.d (vI s.sh.room),.d (vI s.mode),.d (vI s.base),.hdr 15 0 s.slots.length,.hdr 16 0 s.roots.length,.hdr 17 0 s.data.length],.row 5 (s.slots.map aA),.row 3 (s.roots.map ak),.row 1 ((s.data.set k (nth a.data k)).map oB),.var 28 [.d (vI s.sh.pages),.d (vI s.sh.slots),.d (vI s.sh.roots),.d (vI s.sh.room),.d (vI s.mode),.d (vI s.base),.hdr 15 0 s.slots.length,.hdr 16 0 s.roots.length,.hdr 17 0 s.data.length],.dead]):=by
 refine aL Tryz.func175 rfl (Nat.le_of_ble_eq_true rfl) fun B S=>?_
 subst he;rw[hix];refine xU ?_;refine ay ?_;refine xG [0,2] ?_;refine bx ?_;refine xC (vq g s hs) ?_ (he:=by simp[au,Function.comp_def];exact .mk) (hi:=by simp[ax];exact .mk);refine xO ?_;refine aH ?_;refine xG [0,2,4] ?_;iterate 7 refine xO ?_
 refine xF [0,2,4,5] ?_;refine ab (fq (s2:=slots [(0,.ptr 13 0 0),(2,.ptr 14 0 0),(4,.ptr 18 0 0),(5,.d (vI k))]) (aZ:=[.var 28 [.d (vI s.sh.pages),.d (vI s.sh.slots),.d (vI s.sh.roots),.d (vI s.sh.room),.d (vI s.mode),.d (vI s.base),.d (eG s.slots),.d (rR s.roots),.d (fL s.data)],.var 73 [.d (vI o.act),.d (vI k),.d (vI o.gen),.d (vI o.n),.d (vI o.off),.d (rB o.b),.d (vS o.name)],.var 28 [.d (vI 0),.d (vI 0),.d (vI 0),.d (vI 0),.d (vI 0),.d (vI 0),.d (.v (.slice none 0 0)),.d (.v (.slice none 0 0)),.d (.v (.slice none 0 0))],.var 77 [.d (vI 0),.d (vI 0),.d (.v (.slice none 0 0))],.row 1 (Q.aw.map vI),.row 1 (Q.data.map oB),.row 3 (Q.roots.map ak),.row 1 (a.aw.map vI),.hole k 19 (nth a.data k).length (a.data.map oB),.row 3 (a.roots.map ak),.row 1 (b.map vB),.var 67 [.hdr 7 0 a.aw.length,.hdr 8 0 a.data.length,.hdr 9 0 a.roots.length],.var 77 [.d (vI ix),.d (vI gn),.hdr 10 0 b.length],.var 188 [.d (vI s.sh.pages),.d (vI s.sh.slots),.d (vI s.sh.roots),.d (vI s.sh.room),.d (vI s.mode),.d (vI s.base),.d (eG s.slots),.d (rR s.roots),.d (fL s.data),.hdr 7 0 a.aw.length,.hdr 8 0 a.data.length,.hdr 9 0 a.roots.length,.d (vI o.act),.d (vI k),.d (vI o.gen),.d (vI o.n),.d (vI o.off),.d (rB o.b),.d (vS o.name)],.var 28 [.d (vI 0),.d (vI 0),.d (vI 0),.d (vI 0),.d (vI 0),.d (vI 0),.d (.v (.slice none 0 0)),.d (.v (.slice none 0 0)),.d (.v (.slice none 0 0))],.row 5 (s.slots.map aA),.row 3 (s.roots.map ak),.row 1 (s.data.map oB),.var 28 [.d (vI s.sh.pages),.d (vI s.sh.slots),.d (vI s.sh.roots),.d (vI s.sh.room),.d (vI s.mode),.d (vI s.base),.hdr 15 0 s.slots.length,.hdr 16 0 s.roots.length,.hdr 17 0 s.data.length],.row 1 ((nth a.data k).map vB)]) (Weak.open (xs:=a.data.map oB) (ys:=(nth a.data k).map vB) (len:=(nth a.data k).length) 8 k rfl rfl (ao (f:=oB) hk2) ?_ ?_ (by simp)) ?_)
 ·simp
 ·simp[ai,mK]
 refine aS (by kernel_rfl) [] 4 [0,1,2,3,4,5,6,7,8,9,10,11,12] (by decide +kernel) ?_;iterate 9 refine xO ?_
 refine xO ?_ (h:=by simp[hk2];exact .mk);refine xO ?_ (h:=by simp[-List.getElem?_map,hk2];exact .mk);refine xO ?_ (h:=by simp[hk];exact .mk);refine xO ?_ (h:=by simp[splice,hk, -List.getElem?_map,ao hk,br,dn,bJ];exact .mk);refine xG [2,4] ?_;refine xO ?_;refine aH ?_;refine xH [2,3] ?_;refine ar (al (by simp;exact .mk) ?_ ?_)
 ·simp
 simp[ai,List.map_set,br];try rfl
open Go.aN
theorem Mh(g:Gl)(s:bF)(hs:s.Ok):a9 Tryz.prog g 60 [cr s] (aJ (cO s)):=by
 refine xA Tryz.func60 fun B S=>?_
 simp only[cr,List.map,aO,cC];have q1:=hs.h1;refine xU ?_;refine ay ?_;refine xG [1,2] ?_;refine xO ?_;refine xO ?_ (h:=by simp[aA,ak];exact .mk);refine xC (Dx g _ hs.h2) ?_ (he:=by simp[au,Function.comp_def];exact .mk) (hi:=by simp[aJ];exact .mk);refine aH ?_;refine xO ?_;refine aH ?_;refine xF [1,2,3] ?_;refine ab (xU ?_);refine xO ?_;refine xO ?_ (h:=by simp[aA,ak];exact .mk);refine bU [1,2,3,12,13,14] ?_;refine ag ?_
 refine aB (fun m σ o=>∃i:Nat,m=s.slots.length-i∧i≤s.slots.length∧σ=slots [(1,.ptr 0 0 0),(2,.ptr 1 0 0),(3,.ptr 3 0 0),(12,.d (eG s.slots)),(13,.d (vI s.slots.length)),(14,.d (vI i))]∧o=[.var 28 [.d (vI s.sh.pages),.d (vI s.sh.slots),.d (vI s.sh.roots),.d (vI s.sh.room),.d (vI s.mode),.d (vI s.base),.d (eG s.slots),.d (rR s.roots),.d (fL s.data)],.var 67 [.d (.v (.slice none 0 0)),.d (.v (.slice none 0 0)),.d (.v (.slice none 0 0))],.row 3 (s.roots.map ak),.var 67 [.hdr 4 0 i,.hdr 5 0 i,.hdr 2 0 s.roots.length],.row 1 ((Cv s i).map vI),.row 1 ((AD s i).map oB)]) s.slots.length
  (Weak.trans (Weak.kR 3 0 1 rfl rfl) (Weak.kR 3 1 1 rfl rfl) (fun _ _ _ h1 h2=>by rw[←h1.len];exact h2)) ⟨0,by simp,by simp,by simp,by simp[Cv,AD]⟩ ?_
 rintro m σ o ⟨i,rfl,hi,rfl,rfl⟩ _;refine xU ?_;refine xH [1,2,3,12,13,14,15] ?_;refine ab (bd rfl ?_ ?_)
 ·intro jY;have hi2:i<s.slots.length:=by simpa using jY
  have e4:(i+1)*16≤140737488355328:=by omega
  have e5:i≤140737488355327:=by omega
  have e6:(i+1)*8≤140737488355328:=by omega
  have e7:(i+1)*24≤140737488355328:=by omega
  refine af fun _=>?_;refine ab (ag ?_);refine xU ?_;refine xO ?_;refine xO ?_ (h:=by simp[aA,ak,hi2];exact .mk);refine xO ?_ (h:=by simp[-List.getElem?_map,ao hi2,aA];exact .mk);refine ay ?_;refine aH ?_;refine xG [1,2,3,4,5,12,13,14] ?_;refine xH [1,2,3,4,5,6,12,13,14] ?_;refine ab (xU ?_);refine xO ?_;refine xO ?_ (h:=by simp[aA,ak];exact .mk);refine xO ?_;iterate 2 refine xI ?_
  refine xI ?_ (h:=fun hb=>by simp[aA,ak];exact .mk);iterate 2 refine xI ?_
  refine xP ?_;refine xQ [1,2,3,4,5,6,12,13,14,27] ?_ ?_
  ·intro h27;have hc:(nth s.slots i).live=true∧i<s.data.length:=by simpa using h27
   have hx:xa s i=nth s.data i:=by unfold xa;rw[if_pos (by simpa using hc)]
   have hd:=hc.2;refine xY ?_;refine xO ?_;refine xO ?_ (h:=by simp[aA,ak];exact .mk);refine xO ?_;refine xO ?_ (h:=by simp[aA,ak,hd];exact .mk);refine xO ?_ (h:=by simp[-List.getElem?_map,ao hd];exact .mk);refine xC (Dy g _ (hs.h4 i hd)) ?_ (he:=by simp[au,Function.comp_def];exact .mk) (hi:=by simp[aJ];exact .mk);refine xH [1,2,3,5,6,12,13,14] ?_;refine iP (hard:=[]) [1,3,4,5,7,9] (aR (by decide)) (by kernel_rfl) 4 [[0,2,6,8,1,3,4,5,7,11,9,10,12,13,14],[0,2,6,8,1,3,4,5,9,7,10,11,12,13,14],[0,2,6,8,1,3,4,7,5,11,9,10,12,13,14],[0,2,6,8,1,3,4,7,9,5,10,11,12,13,14],[0,2,6,8,1,3,4,9,5,7,10,11,12,13,14],[0,2,6,8,1,3,4,9,7,5,10,11,12,13,14],[0,2,6,8,1,3,7,4,5,11,9,10,12,13,14],[0,2,6,8,1,3,7,4,9,5,10,11,12,13,14],[0,2,6,8,1,3,7,9,4,5,10,11,12,13,14],[0,2,6,8,1,3,9,4,5,7,10,11,12,13,14],[0,2,6,8,1,3,9,4,7,5,10,11,12,13,14],[0,2,6,8,1,3,9,7,4,5,10,11,12,13,14],[0,2,6,8,1,7,9,3,4,5,10,11,12,13,14],[0,2,6,8,1,9,3,4,5,7,10,11,12,13,14],[0,2,6,8,1,9,3,4,7,5,10,11,12,13,14],[0,2,6,8,1,9,3,7,4,5,10,11,12,13,14],[0,2,6,8,3,4,1,5,7,11,9,10,12,13,14],[0,2,6,8,3,4,1,5,9,7,10,11,12,13,14],[0,2,6,8,3,4,1,7,5,11,9,10,12,13,14],[0,2,6,8,3,4,1,7,9,5,10,11,12,13,14],[0,2,6,8,3,4,1,9,5,7,10,11,12,13,14],[0,2,6,8,3,4,1,9,7,5,10,11,12,13,14],[0,2,6,8,3,4,7,9,1,5,10,11,12,13,14],[0,2,6,8,3,4,9,1,5,7,10,11,12,13,14],[0,2,6,8,3,4,9,1,7,5,10,11,12,13,14],[0,2,6,8,3,7,4,1,5,11,9,10,12,13,14],[0,2,6,8,3,7,4,1,9,5,10,11,12,13,14],[0,2,6,8,3,7,4,9,1,5,10,11,12,13,14],[0,2,6,8,3,7,9,1,4,5,10,11,12,13,14],[0,2,6,8,3,7,9,4,1,5,10,11,12,13,14],[0,2,6,8,3,9,1,4,5,7,10,11,12,13,14],[0,2,6,8,3,9,1,4,7,5,10,11,12,13,14],[0,2,6,8,3,9,1,7,4,5,10,11,12,13,14],[0,2,6,8,3,9,4,1,5,7,10,11,12,13,14],[0,2,6,8,3,9,4,1,7,5,10,11,12,13,14],[0,2,6,8,3,9,7,4,1,5,10,11,12,13,14],[0,2,6,8,7,9,1,3,4,5,10,11,12,13,14],[0,2,6,8,7,9,3,4,1,5,10,11,12,13,14],[0,2,6,8,9,1,3,4,5,7,10,11,12,13,14],[0,2,6,8,9,1,3,4,7,5,10,11,12,13,14],[0,2,6,8,9,1,3,7,4,5,10,11,12,13,14],[0,2,6,8,9,3,4,1,5,7,10,11,12,13,14],[0,2,6,8,9,3,4,1,7,5,10,11,12,13,14],[0,2,6,8,9,3,7,4,1,5,10,11,12,13,14]] (by decide +kernel) ⟨?_,?_,?_,?_,?_,?_,?_,?_,?_,?_,?_,?_,?_,?_,?_,?_,?_,?_,?_,?_,?_,?_,?_,?_,?_,?_,?_,?_,?_,?_,?_,?_,?_,?_,?_,?_,?_,?_,?_,?_,?_,?_,?_,?_,trivial⟩
   all_goals
    iterate 15 (first|refine xO ?_|refine xO ?_ (h:=by simp[aA,ak];exact .mk) ?_|refine kV rfl rfl rfl (by simp[rows,e4,e5,e6,e7];exact .mk) ?_|refine kV rfl rfl rfl (by simp[rows,e4,e5,e6,e7,D.cE];exact .mk) ?_|refine kV rfl rfl rfl (by simp[splice];exact .mk))
    refine xF [1,2,3,12,13,14] ?_;refine xY ?_;refine ay ?_;refine xE [1,2,3,12,13,14] ?_;first|(refine aD [1,2,3,12,13,14] rfl ?_;refine aC 4 9 1 (by decide) (by simp) (by decide) rfl rfl ?_;refine aC 5 11 1 (by decide) (by simp) (by decide) rfl rfl ?_;refine aq 6 [1,2,3,12,13,14] (by decide) (by rfl) (by rfl) ?_;exact ae (m':=s.slots.length-(i+1)) (by omega) ⟨i+1,rfl,by omega,by rw[wrap64 (by omega) (by omega)];rfl,by rw[ln,lq,hx];first|(rw[List.map_append,List.map_append];rfl)|(simp only[List.map_append];rfl)|(simp[iI];try rfl)⟩)|(refine aD [1,2,3,12,13,14] rfl ?_;refine aC 4 10 1 (by decide) (by simp) (by decide) rfl rfl ?_;refine aC 5 11 1 (by decide) (by simp) (by decide) rfl rfl ?_;refine aq 6 [1,2,3,12,13,14] (by decide) (by rfl) (by rfl) ?_;exact ae (m':=s.slots.length-(i+1)) (by omega) ⟨i+1,rfl,by omega,by rw[wrap64 (by omega) (by omega)];rfl,by rw[ln,lq,hx];first|(rw[List.map_append,List.map_append];rfl)|(simp only[List.map_append];rfl)|(simp[iI];try rfl)⟩)
  intro h27;have hc:¬((nth s.slots i).live&&decide (i<s.data.length))=true:=by simpa using h27
  have hx:xa s i=[]:=by unfold xa;rw[if_neg hc]
  refine fq (Weak.dJ 6 1 rfl) ?_;refine af fun _=>?_;refine iP (hard:=[]) [1,3,4,5,7,9] (aR (by decide)) (by kernel_rfl) 4 [[0,2,6,8,1,3,4,5,7,11,9,10,12,13,14],[0,2,6,8,1,3,4,5,9,7,10,11,12,13,14],[0,2,6,8,1,3,4,7,5,11,9,10,12,13,14],[0,2,6,8,1,3,4,7,9,5,10,11,12,13,14],[0,2,6,8,1,3,4,9,5,7,10,11,12,13,14],[0,2,6,8,1,3,4,9,7,5,10,11,12,13,14],[0,2,6,8,1,3,7,4,5,11,9,10,12,13,14],[0,2,6,8,1,3,7,4,9,5,10,11,12,13,14],[0,2,6,8,1,3,7,9,4,5,10,11,12,13,14],[0,2,6,8,1,3,9,4,5,7,10,11,12,13,14],[0,2,6,8,1,3,9,4,7,5,10,11,12,13,14],[0,2,6,8,1,3,9,7,4,5,10,11,12,13,14],[0,2,6,8,1,7,9,3,4,5,10,11,12,13,14],[0,2,6,8,1,9,3,4,5,7,10,11,12,13,14],[0,2,6,8,1,9,3,4,7,5,10,11,12,13,14],[0,2,6,8,1,9,3,7,4,5,10,11,12,13,14],[0,2,6,8,3,4,1,5,7,11,9,10,12,13,14],[0,2,6,8,3,4,1,5,9,7,10,11,12,13,14],[0,2,6,8,3,4,1,7,5,11,9,10,12,13,14],[0,2,6,8,3,4,1,7,9,5,10,11,12,13,14],[0,2,6,8,3,4,1,9,5,7,10,11,12,13,14],[0,2,6,8,3,4,1,9,7,5,10,11,12,13,14],[0,2,6,8,3,4,7,9,1,5,10,11,12,13,14],[0,2,6,8,3,4,9,1,5,7,10,11,12,13,14],[0,2,6,8,3,4,9,1,7,5,10,11,12,13,14],[0,2,6,8,3,7,4,1,5,11,9,10,12,13,14],[0,2,6,8,3,7,4,1,9,5,10,11,12,13,14],[0,2,6,8,3,7,4,9,1,5,10,11,12,13,14],[0,2,6,8,3,7,9,1,4,5,10,11,12,13,14],[0,2,6,8,3,7,9,4,1,5,10,11,12,13,14],[0,2,6,8,3,9,1,4,5,7,10,11,12,13,14],[0,2,6,8,3,9,1,4,7,5,10,11,12,13,14],[0,2,6,8,3,9,1,7,4,5,10,11,12,13,14],[0,2,6,8,3,9,4,1,5,7,10,11,12,13,14],[0,2,6,8,3,9,4,1,7,5,10,11,12,13,14],[0,2,6,8,3,9,7,4,1,5,10,11,12,13,14],[0,2,6,8,7,9,1,3,4,5,10,11,12,13,14],[0,2,6,8,7,9,3,4,1,5,10,11,12,13,14],[0,2,6,8,9,1,3,4,5,7,10,11,12,13,14],[0,2,6,8,9,1,3,4,7,5,10,11,12,13,14],[0,2,6,8,9,1,3,7,4,5,10,11,12,13,14],[0,2,6,8,9,3,4,1,5,7,10,11,12,13,14],[0,2,6,8,9,3,4,1,7,5,10,11,12,13,14],[0,2,6,8,9,3,7,4,1,5,10,11,12,13,14]] (by decide +kernel) ⟨?_,?_,?_,?_,?_,?_,?_,?_,?_,?_,?_,?_,?_,?_,?_,?_,?_,?_,?_,?_,?_,?_,?_,?_,?_,?_,?_,?_,?_,?_,?_,?_,?_,?_,?_,?_,?_,?_,?_,?_,?_,?_,?_,?_,trivial⟩
  all_goals
   iterate 15 (first|refine xO ?_|refine xO ?_ (h:=by simp[aA,ak];exact .mk) ?_|refine kV rfl rfl rfl (by simp[rows,e4,e5,e6,e7];exact .mk) ?_|refine kV rfl rfl rfl (by simp[rows,e4,e5,e6,e7,D.cE];exact .mk) ?_|refine kV rfl rfl rfl (by simp[splice];exact .mk))
   refine xF [1,2,3,12,13,14] ?_;refine xY ?_;refine ay ?_;refine xE [1,2,3,12,13,14] ?_;first|(refine aD [1,2,3,12,13,14] rfl ?_;refine aC 4 9 1 (by decide) (by simp) (by decide) rfl rfl ?_;refine aC 5 11 1 (by decide) (by simp) (by decide) rfl rfl ?_;refine aq 6 [1,2,3,12,13,14] (by decide) (by rfl) (by rfl) ?_;exact ae (m':=s.slots.length-(i+1)) (by omega) ⟨i+1,rfl,by omega,by rw[wrap64 (by omega) (by omega)];rfl,by rw[ln,lq,hx];first|(rw[List.map_append,List.map_append];rfl)|(simp only[List.map_append];rfl)|(simp[iI];try rfl)⟩)|(refine aD [1,2,3,12,13,14] rfl ?_;refine aC 4 10 1 (by decide) (by simp) (by decide) rfl rfl ?_;refine aC 5 11 1 (by decide) (by simp) (by decide) rfl rfl ?_;refine aq 6 [1,2,3,12,13,14] (by decide) (by rfl) (by rfl) ?_;exact ae (m':=s.slots.length-(i+1)) (by omega) ⟨i+1,rfl,by omega,by rw[wrap64 (by omega) (by omega)];rfl,by rw[ln,lq,hx];first|(rw[List.map_append,List.map_append];rfl)|(simp only[List.map_append];rfl)|(simp[iI];try rfl)⟩)
 intro jY;obtain rfl:i=s.slots.length:=by simp at jY;omega
 refine aP (xT ?_);refine xO ?_ (h:=by simp[aA,ak];exact .mk);refine aH ?_;refine xF [2] ?_;refine ar (aG (by simp[Tryz.f60];exact .mk) (by simp;exact .mk) ?_ (by simp[aJ]));simp[Tryz.f60,aJ,cO,ai]
end Go.Proofs
