/- Contracts of the program's functions and plain facts, for arguments as each lemma says. -/
import Derived.Test.YtokgokbgidgfeaaGreatCA
import Derived.Test.YtokgokbgidgfeaaGreatCG
import Derived.Test.YtokgokbgidgfeaaGreatAwpD
import Derived.Test.YtokgokbgidgfeaaGreatCF
import Derived.Test.YtokgokbgidgfeaaGreatCB
import Derived.Test.YtokgokbgidgfeaaGreatCC
import Derived.Test.YtokgokbgidgfeaaGreatCD
set_option linter.all false
set_option maxHeartbeats 4000000
namespace Go.Proofs
open Go.aN
/- The first rune of a text, as the document says. -/
def bt(s:ByteArray)(k:Nat):Nat:=(s.data.toList.getD k 0).toNat
theorem pE(s:ByteArray)(k:Nat):bt s k<256:=UInt8.toNat_lt _
theorem get_bt(s:ByteArray)(k:Nat):(s.get! k).toNat=bt s k:=by
 unfold bt
 show (s.data[k]!).toNat=_
 congr 1;rw[List.getD_eq_getElem?_getD,Array.getElem?_toList,getElem!_def];cases s.data[k]?<;>rfl
def lH(b:Nat):Nat×Nat×Nat:=if 194≤b∧b<224 then (2,128,192)else if 224≤b∧b<240 then (3,2048,224)else if 240≤b∧b<245 then (4,65536,240)else (0,0,0)
def gw(b:Nat):Bool:=decide (128≤b∧b<192)
def jT(s:ByteArray)(a:Int):Nat→Int
 | 0=>a
 | i+1=>jT s a i*64+bt s (i+1)-128
def xd(a:Int)(least:Nat):Bool:=decide (a<least∨1114111<a∨(55296≤a∧a≤57343))
def eW(s:ByteArray):Int×Int:=
 if bt s 0<128 then (bt s 0,1)
 else if (lH (bt s 0)).1=0∨s.size<(lH (bt s 0)).1 then (0,0)
 else if (List.range ((lH (bt s 0)).1-1)).all (fun i=>gw (bt s (i+1)))=true then
  (if xd (jT s ((bt s 0:Int)-(lH (bt s 0)).2.2) ((lH (bt s 0)).1-1)) (lH (bt s 0)).2.1=true then (0,0)else (jT s ((bt s 0:Int)-(lH (bt s 0)).2.2) ((lH (bt s 0)).1-1),(lH (bt s 0)).1))
 else (0,0)
theorem qT(b:Nat):(194≤b∧b<224∧lH b=(2,128,192))∨(224≤b∧b<240∧lH b=(3,2048,224))∨(240≤b∧b<245∧lH b=(4,65536,240))∨((b<194∨245≤b)∧lH b=(0,0,0)):=by
 unfold lH;by_cases h1:194≤b∧b<224
 ·rw[if_pos h1];exact .inl ⟨h1.1,h1.2,rfl⟩
 ·rw[if_neg h1];by_cases h2:224≤b∧b<240
  ·rw[if_pos h2];exact .inr (.inl ⟨h2.1,h2.2,rfl⟩)
  ·rw[if_neg h2];by_cases h3:240≤b∧b<245
   ·rw[if_pos h3];exact .inr (.inr (.inl ⟨h3.1,h3.2,rfl⟩))
   ·rw[if_neg h3];exact .inr (.inr (.inr ⟨by omega,rfl⟩))
theorem qy{s:ByteArray}{k le ba:Nat}(h0:¬bt s 0<128)(e:lH (bt s 0)=(k,le,ba))(hk:k≠0):eW s=if s.size<k then (0,0)else if (List.range (k-1)).all (fun i=>gw (bt s (i+1)))=true then (if xd (jT s ((bt s 0:Int)-ba) (k-1)) le=true then (0,0)else (jT s ((bt s 0:Int)-ba) (k-1),(k:Int)))else (0,0):=by
 unfold eW;rw[if_neg h0,e];simp only;by_cases h:s.size<k
 ·rw[if_pos (.inr h),if_pos h]
 ·rw[if_neg (by omega),if_neg h]
theorem CE{r:Int×Int}{d:Nat×Nat}(h:(r=(0,0)∧d.1=65533)∨(r=((d.1:Int),(d.2:Int))∧d.2≠0)):(r.2=0∧d.1=65533)∨(r.2≠0∧r.1=d.1∧r.2=d.2):=by
 rcases h with ⟨rfl,h⟩|⟨rfl,h⟩
 ·exact .inl ⟨rfl,h⟩
 ·exact .inr ⟨by simpa using h,rfl,rfl⟩
theorem uX{s:ByteArray}(h:0<s.size):((eW s).2=0∧(Utf8.decode s 0).1=65533)∨((eW s).2≠0∧(eW s).1=(Utf8.decode s 0).1∧(eW s).2=(Utf8.decode s 0).2):=by
 apply CE;have l0:=pE s 0;have l1:=pE s 1;have l2:=pE s 2;have l3:=pE s 3;unfold Utf8.decode;simp only[Nat.zero_add,get_bt,Utf8.valid,Utf8.runeError];by_cases h0:bt s 0<128
 ·rw[if_pos h0];right;unfold eW;rw[if_pos h0];exact⟨rfl,by simp⟩
 have hn0:=h0;rw[if_neg h0];rcases qT (bt s 0)with ⟨a1,a2,e⟩|⟨a1,a2,e⟩|⟨a1,a2,e⟩|⟨a1,e⟩
 ·rw[qy h0 e (by decide)];have hall:(List.range (2-1)).all (fun i=>gw (bt s (i+1)))=gw (bt s 1):=by simp[List.range_succ]
  have hacc:jT s ((bt s 0:Int)-(192:Nat)) (2-1)=((bt s 0:Int)-192)*64+bt s 1-128:=rfl;rw[hall,hacc];generalize bt s 0=b0 at *;generalize bt s 1=b1 at *;have d1:b0/32=6:=by omega
  have d2:b0/16≠14:=by omega
  have d3:b0/8≠30:=by omega
  simp only[d1,d2,d3,gw,xd,beq_iff_eq,Bool.and_eq_true,decide_eq_true_eq,true_and,false_and,if_false,BEq.rfl];by_cases hz:1<s.size∧b1/64=2
  ·rw[if_pos hz,if_neg (by omega),if_pos (by omega),if_neg (by omega),if_pos (by omega)];right;constructor
   ·exact Prod.ext (by show _=((b0%32*64+b1%64:Nat):Int);omega) rfl
   ·show (2:Nat)≠0;decide
  ·rw[if_neg hz];left;refine⟨?_,rfl⟩;by_cases hs:s.size<2
   ·rw[if_pos hs]
   ·rw[if_neg hs,if_neg (by omega)]
 ·rw[qy h0 e (by decide)];have hall:(List.range (3-1)).all (fun i=>gw (bt s (i+1)))=(gw (bt s 1)&&gw (bt s 2)):=by simp[List.range_succ]
  have hacc:jT s ((bt s 0:Int)-(224:Nat)) (3-1)=(((bt s 0:Int)-224)*64+bt s 1-128)*64+bt s 2-128:=rfl;rw[hall,hacc];generalize bt s 0=b0 at *;generalize bt s 1=b1 at *;generalize bt s 2=b2 at *;have d1:b0/32≠6:=by omega
  have d2:b0/16=14:=by omega
  have d3:b0/8≠30:=by omega
  simp only[d1,d2,d3,gw,xd,beq_iff_eq,Bool.and_eq_true,Bool.or_eq_true,decide_eq_true_eq,true_and,false_and,if_false,BEq.rfl];by_cases hz:(1<s.size∧b1/64=2)∧2<s.size∧b2/64=2
  ·rw[if_pos hz,if_neg (by omega),if_pos (by omega)];by_cases hb:(((b0:Int)-224)*64+b1-128)*64+b2-128<(2048:Nat)∨1114111<(((b0:Int)-224)*64+b1-128)*64+b2-128∨55296≤(((b0:Int)-224)*64+b1-128)*64+b2-128∧(((b0:Int)-224)*64+b1-128)*64+b2-128≤57343
   ·rw[if_pos hb,if_neg (by omega)];exact .inl ⟨rfl,rfl⟩
   ·rw[if_neg hb,if_pos (by omega)];right;constructor
    ·exact Prod.ext (by show _=((b0%16*4096+b1%64*64+b2%64:Nat):Int);omega) rfl
    ·show (3:Nat)≠0;decide
  ·rw[if_neg hz];left;refine⟨?_,rfl⟩;by_cases hs:s.size<3
   ·rw[if_pos hs]
   ·rw[if_neg hs,if_neg (by omega)]
 ·rw[qy h0 e (by decide)];have hall:(List.range (4-1)).all (fun i=>gw (bt s (i+1)))=(gw (bt s 1)&&(gw (bt s 2)&&gw (bt s 3))):=by simp[List.range_succ,Bool.and_assoc]
  have hacc:jT s ((bt s 0:Int)-(240:Nat)) (4-1)=((((bt s 0:Int)-240)*64+bt s 1-128)*64+bt s 2-128)*64+bt s 3-128:=rfl;rw[hall,hacc];generalize bt s 0=b0 at *;generalize bt s 1=b1 at *;generalize bt s 2=b2 at *;generalize bt s 3=b3 at *;have d1:b0/32≠6:=by omega
  have d2:b0/16≠14:=by omega
  have d3:b0/8=30:=by omega
  obtain⟨A,hA⟩:∃A:Int,A=((((b0:Int)-240)*64+b1-128)*64+b2-128)*64+b3-128:=⟨_,rfl⟩;rw[←hA];simp only[d1,d2,d3,gw,xd,beq_iff_eq,Bool.and_eq_true,Bool.or_eq_true,decide_eq_true_eq,true_and,false_and,if_false,BEq.rfl];by_cases hz:((1<s.size∧b1/64=2)∧2<s.size∧b2/64=2)∧3<s.size∧b3/64=2
  ·rw[if_pos hz,if_neg (by omega),if_pos (by omega)];have hv:((b0%8*262144+b1%64*4096+b2%64*64+b3%64:Nat):Int)=A:=by omega
   by_cases hb:A<(65536:Nat)∨1114111<A∨55296≤A∧A≤57343
   ·rw[if_pos hb,if_neg (by omega)];exact .inl ⟨rfl,rfl⟩
   ·rw[if_neg hb,if_pos (by omega)];right;constructor
    ·exact Prod.ext (by show _=((b0%8*262144+b1%64*4096+b2%64*64+b3%64:Nat):Int);omega) rfl
    ·show (4:Nat)≠0;decide
  ·rw[if_neg hz];left;refine⟨?_,rfl⟩;by_cases hs:s.size<4
   ·rw[if_pos hs]
   ·rw[if_neg hs,if_neg (by omega)]
 ·left;have hr:eW s=(0,0):=by unfold eW;rw[if_neg h0,if_pos (.inl (by rw[e]))]
  refine⟨hr,?_⟩;generalize bt s 0=b0 at *;generalize bt s 1=b1 at *;generalize bt s 2=b2 at *;generalize bt s 3=b3 at *;simp only[beq_iff_eq,Bool.and_eq_true,Bool.or_eq_true,decide_eq_true_eq]
  repeat' split
  all_goals first|rfl|omega
open Go.aN
theorem IH{s:ByteArray}{k:Nat}(h:k<s.data.size):s.data[k].toNat=bt s k:=by rw[bt,List.getD_eq_getElem?_getD,Array.getElem?_toList,Array.getElem?_eq_getElem h];rfl
theorem CO{s:ByteArray}(h:0<s.size):(eW s).2≤s.size:=by
 unfold eW;split
 ·show (1:Int)≤_;omega
 ·split
  ·show (0:Int)≤_;omega
  ·rename_i q;split
   ·split
    ·show (0:Int)≤_;omega
    ·show (((lH (bt s 0)).1:Nat):Int)≤_;omega
   ·show (0:Int)≤_;omega
theorem get_extract{t:ByteArray}{w p:Nat}(hw:w≤t.size):(t.extract w t.size).get! p=t.get! (w+p):=by
 show (t.extract w t.size).data[p]! = t.data[w+p]!
 rw[ByteArray.data_extract,getElem!_def,getElem!_def,Array.getElem?_extract];have:t.data.size=t.size:=rfl;by_cases h:p<min t.size t.data.size-w
 ·rw[if_pos h]
 ·rw[if_neg h,Array.getElem?_eq_none (by omega)]
theorem uv{t:ByteArray}{w p:Nat}(hw:w≤t.size):Utf8.decode t (w+p)=Utf8.decode (t.extract w t.size) p:=by
 unfold Utf8.decode;have hs:(t.extract w t.size).size=t.size-w:=by rw[ByteArray.size_extract];omega
 have hc:∀k,decide (w+(p+k)<t.size)=decide (p+k<t.size-w):=fun k=>decide_eq_decide.2 (by omega)
 simp only[get_extract hw,hs,Nat.add_assoc,hc]
theorem mI{t:ByteArray}{w:Nat}(hw:w≤t.size):∀(n p:Nat),t.size-(w+p)≤n→dc t (w+p)=dc (t.extract w t.size) p
 | n,p,hn=>by
  have hs:(t.extract w t.size).size=t.size-w:=by rw[ByteArray.size_extract];omega
  conv=>lhs;rw[dc]
  conv=>rhs;rw[dc]
  rw[hs,uv hw];by_cases h:w+p<t.size
  ·rw[if_pos h,if_pos (by omega)];have hd:=mS (t.extract w t.size) p
   cases n with
   | zero=>omega
   | succ n=>
    rw[Nat.add_assoc,mI hw n (p+(Utf8.decode (t.extract w t.size) p).2) (by omega)]
  ·rw[if_neg h,if_neg (by omega)]
theorem uY{t:ByteArray}(h:0<t.size):((eW t).2=0∨oZ (eW t).1=false→dc t 0=false) ∧
    ((eW t).2≠0→oZ (eW t).1=true→∃w:Nat,(eW t).2=w∧0<w∧w≤t.size∧dc t 0=dc (t.extract w t.size) 0):=by
 have hu:dc t 0=(oZ (Utf8.decode t 0).1&&dc t (0+(Utf8.decode t 0).2)):=by
  conv=>lhs;rw[dc]
  rw[if_pos h]
 have hle:=CO h;rcases uX h with ⟨h1,h2⟩|⟨h1,h2,h3⟩
 ·refine⟨fun _=>?_,fun q=>absurd h1 q⟩;rw[hu,h2];rfl
 ·refine⟨fun q=>?_,fun _ q=>?_⟩
  ·rw[hu,←h2,q.resolve_left h1];rfl
  ·refine⟨(Utf8.decode t 0).2,h3,by omega,by omega,?_⟩;have:=mI (t:=t) (w:=(Utf8.decode t 0).2) (by omega) t.size 0 (by omega);rw[hu,←h2,q,Nat.zero_add];exact this
theorem yh{s:ByteArray}(h:s.size<1∨16<s.size):cu s=false:=by
 unfold cu;rcases h with h|h
 ·have:s.toList=[]:=by
   apply List.eq_nil_of_length_eq_zero;have e:=l8 s;omega
  simp[this]
 ·simp[show ¬(s.size:Int)≤16 by omega]
theorem we{s:ByteArray}(h:1≤s.size∧s.size≤16):cu s=dc s 0:=by
 unfold cu;have e:=l8 s;have:s.toList≠[]:=fun q=>by rw[q]at e;simp at e;omega
 simp[this,show (s.size:Int)≤16 by omega]
set_option maxRecDepth 4000
open Go.aN
attribute [simp] Tryz.f94 Tryz.f146 Tryz.f147 Tryz.f148 Tryz.f203
theorem Jr(g:Gl)(s:ByteArray)(hs:0<s.size):a9 Tryz.prog g 203 [vS s] (.bK [vI (eW s).1,vI (eW s).2]):=by
 refine xA Tryz.func203 fun B S=>?_
 have wb:∀k,IntKind.i64.wrap (bt s k:Int)=bt s k:=fun k=>wrap64 (by have:=pE s k;omega) (by have:=pE s k;omega)
 have hb0:=pE s 0;refine xU ?_;refine ay ?_;refine xG [0] ?_;refine aT ?_;refine xG [0,4] ?_;refine xO ?_;refine xO ?_ (h:=by simp[kO,hs,IH (k:=0) hs];exact .mk);refine xO ?_ (h:=by simp[fO,gM,wb];exact .mk);refine xH [0,4,5] ?_;refine ab (xU ?_);refine ay ?_;refine xQ [0,4,5,16] ?_ ?_
 ·intro h16;have hr:eW s=((bt s 0:Int),1):=by unfold eW;rw[if_pos (by simp at h16;omega)]
  refine xU ?_;refine dC [2,3] ?_;refine xZ ?_;simp[hr]
 intro h16;have h0:¬bt s 0<128:=by simp at h16;omega
 obtain⟨k,le,ba,e⟩:∃k le ba,lH (bt s 0)=(k,le,ba):=⟨_,_,_,rfl⟩;have hcc:=qT (bt s 0);rw[e]at hcc;simp only[Prod.mk.injEq]at hcc;refine af ?_;refine xT ?_;refine xO ?_;refine xG [0,4,5,6] ?_;refine xH [0,4,5,6,7] ?_;refine ab (xU ?_);refine aT ?_;iterate 2 refine xI ?_
 refine xP ?_;refine xF [0,4,5,6,7,23] ?_;refine y9 ([(0,.d (vS s)),(4,.d (vI s.size)),(5,.d (vI ((bt s 0:Int)-ba))),(6,.d (vI k)),(7,.d (vI le))]) ([]) ?_ ?_
 ·skip
  refine bd rfl ?_ ?_
  ·intro h23;obtain⟨rfl,rfl,rfl⟩:k=2∧le=128∧ba=192:=by simp at h23;omega
   have w1:IntKind.i64.wrap ((bt s 0:Int)-192)=(bt s 0:Int)-192:=wrap64 (by omega) (by omega);refine xU ?_;refine xO ?_;refine xG [0,4,5,6] ?_;refine xH [0,4,5,6,7] ?_;refine xY ?_;refine xO ?_;refine xO ?_ (h:=by simp[w1];exact .mk);refine xO ?_;refine xE [0,4,5,6,7] ?_;exact⟨rfl,Weak.kills [0,4,5,6,7] (by simp)⟩
  intro h23;refine xU ?_;refine aT ?_;iterate 2 refine xI ?_
  refine xP ?_;refine xQ [0,4,5,6,7,31] ?_ ?_
  ·intro h31;obtain⟨rfl,rfl,rfl⟩:k=3∧le=2048∧ba=224:=by simp at h31;omega
   have w1:IntKind.i64.wrap ((bt s 0:Int)-224)=(bt s 0:Int)-224:=wrap64 (by omega) (by omega);refine xU ?_;refine xO ?_;refine xG [0,4,5,6] ?_;refine xH [0,4,5,6,7] ?_;refine xY ?_;refine xO ?_;refine xO ?_ (h:=by simp[w1];exact .mk);refine xO ?_;refine xE [0,4,5,6,7] ?_;exact⟨rfl,Weak.kills [0,4,5,6,7] (by simp)⟩
  intro h31;refine xU ?_;refine aT ?_;iterate 2 refine xI ?_
  refine xP ?_;refine xQ [0,4,5,6,7,39] ?_ ?_
  ·intro pO;obtain⟨rfl,rfl,rfl⟩:k=4∧le=65536∧ba=240:=by simp at pO;omega
   have w1:IntKind.i64.wrap ((bt s 0:Int)-240)=(bt s 0:Int)-240:=wrap64 (by omega) (by omega);refine xU ?_;refine xO ?_;refine xG [0,4,5,6] ?_;refine xH [0,4,5,6,7] ?_;refine xY ?_;refine xO ?_;refine xO ?_ (h:=by simp[w1];exact .mk);refine xO ?_;refine xE [0,4,5,6,7] ?_;exact⟨rfl,Weak.kills [0,4,5,6,7] (by simp)⟩
  intro pO;obtain⟨rfl,rfl,rfl⟩:k=0∧le=0∧ba=0:=by simp at *;omega
  refine af ?_;exact⟨rfl,Weak.kills [0,4,5,6,7] (by simp)⟩
 rintro -;refine ab (xU ?_);refine aT ?_;iterate 3 refine xI ?_
 refine xP ?_;refine xQ [0,5,6,7,48] ?_ ?_
 ·intro h48;have hr:eW s=(0,0):=by unfold eW;rw[if_neg h0,if_pos (by rw[e];simp at h48;omega)]
  refine xU ?_;refine bU [2,3] ?_;refine xZ ?_;simp[hr]
 intro h48;have hk:k≠0∧k≤s.size:=by simp at h48;omega
 have hr0:=qy h0 e hk.1;rw[if_neg (by omega)]at hr0;have hk4:2≤k∧k≤4∧(ba:Int)≤bt s 0∧(bt s 0:Int)-ba<32:=by omega
 obtain⟨a,ha⟩:∃a:Int,a=(bt s 0:Int)-ba:=⟨_,rfl⟩;rw[←ha]at hr0 hk4 ⊢;refine af fun _=>?_;refine ab (xU ?_);refine xH [0,5,6,7,8] ?_;refine ag (aB (fun m σ o=>∃j:Nat,m=k-(j+1)∧j+1≤k∧(∀t,t<j→gw (bt s (t+1))=true)∧(0≤jT s a j∧jT s a j<32*64^j)∧σ=slots [(0,.d (vS s)),(5,.d (vI (jT s a j))),(6,.d (vI k)),(7,.d (vI le)),(8,.d (vI ((j+1:Nat):Int)))]∧o=[]) (k-1) .refl ⟨0,by simp,by omega,by simp,⟨by show 0≤a;omega,by show a<32;omega⟩,rfl,rfl⟩ ?_);rintro m σ o ⟨j,rfl,hj,hinv,hab,rfl,rfl⟩ _;have hpw:(64:Int)^j≤64^3:=by exact_mod_cast Nat.pow_le_pow_right (by decide:0<64) (by omega:j≤3)
 refine ab (xU ?_);refine aT ?_;refine xQ [0,5,6,7,8,51] ?_ ?_
 ·intro tb;have hj2:j+1<k:=by simp at tb;omega
  have hj3:j+1<s.size:=by omega
  have Po:(j:Int)+1<s.size:=by omega
  have Pp:(0:Int)≤(j:Int)+1:=by omega
  have Pq:((j:Int)+1).toNat=j+1:=by omega
  have hbj:=pE s (j+1);refine af fun _=>?_;refine ab (ag ?_);refine xU ?_;refine ay ?_;refine xO ?_ (h:=by simp[kO,hj3,Po,Pp,Pq,IH hj3];exact .mk);refine xO ?_ (h:=by simp[fO,gM,wb];exact .mk);refine xH [0,5,6,7,8,9] ?_;refine ab (xU ?_);refine aT ?_;iterate 2 refine xI ?_
  refine xP ?_;refine xQ [0,5,6,7,8,9,63] ?_ ?_
  ·intro h63
   have hr:eW s=(0,0):=by
    rw[hr0,if_neg];rw[im (i:=j) (by omega) (by simp[gw];simp at h63;omega)];simp
   refine xU ?_;refine bU [2,3] ?_;refine xZ ?_;simp[hr]
  intro h63;have hct:gw (bt s (j+1))=true:=by simp[gw];simp at h63;omega
  have hcb:128≤bt s (j+1)∧bt s (j+1)<192:=by simpa [gw]using hct
  have w1:IntKind.i64.wrap (jT s a j*64)=jT s a j*64:=wrap64 (by omega) (by omega);have w2:IntKind.i64.wrap (jT s a j*64+bt s (j+1))=jT s a j*64+bt s (j+1):=wrap64 (by omega) (by omega);have w3:IntKind.i64.wrap (jT s a j*64+bt s (j+1)-128)=jT s a j*64+bt s (j+1)-128:=wrap64 (by omega) (by omega);refine af fun _=>?_;refine xY ?_;refine xO ?_;refine xO ?_ (h:=by simp[w1];exact .mk);refine xO ?_;refine xO ?_ (h:=by simp[w2];exact .mk);refine xO ?_ (h:=by simp[w3];exact .mk);refine xH [0,5,6,7,8] ?_;refine xY ?_;refine aT ?_;refine xE [0,5,6,7,8] ?_;refine ah [0,5,6,7,8] ?_;refine ae (m':=k-(j+1+1)) (by omega) ⟨j+1,rfl,by omega,?_,?_,?_,rfl⟩
  ·intro t ht;rcases Nat.lt_succ_iff_lt_or_eq.1 ht with ht|rfl
   ·exact hinv t ht
   exact hct
  ·have:jT s a (j+1)=jT s a j*64+bt s (j+1)-128:=rfl;have hp:(64:Int)^(j+1)=64^j*64:=Int.pow_succ 64 j;omega
  rw[wrap64 (by omega) (by omega)];rfl
 intro tb;obtain rfl:k=j+1:=by simp at tb;omega
 have hall:(List.range (j+1-1)).all (fun i=>gw (bt s (i+1)))=true:=all_good (fun t ht=>hinv t (by omega));rw[if_pos hall,Nat.add_sub_cancel]at hr0;refine aP ?_;rintro -;refine ab (xU ?_);refine bx ?_;iterate 2 refine xI ?_
 refine xP ?_;refine xB ?_;iterate 5 refine xI ?_
 iterate 2 refine xP ?_
 refine xQ [5,6,83] ?_ ?_
 ·intro MK;have hr:eW s=(0,0):=by rw[hr0,if_pos];simp[xd];simp at MK;grind
  refine xU ?_;refine bU [2,3] ?_;refine xZ ?_;simp[hr]
 intro MK;have hr:eW s=(jT s a j,((j+1:Nat):Int)):=by rw[hr0,if_neg];simp[xd];simp at MK;grind
 refine af ?_;refine xT ?_;refine bx ?_;refine xF [2,3] ?_;refine xZ ?_;simp[hr]
theorem BF(g:Gl)(s:ByteArray):a9 Tryz.prog g 146 [vS s] (.v (.bool (cu s))):=by
 refine xA Tryz.func146 fun B S=>?_
 refine xU ?_;refine xH [0] ?_;refine ab (xU ?_);refine bx ?_;iterate 3 refine xI ?_
 refine xP ?_;refine xQ [0,12] ?_ ?_
 ·intro h12;have hr:cu s=false:=yh (by simp at h12;omega);refine xU ?_;refine xH [2] ?_;refine xZ ?_;simp[hr]
 intro h12;have hsz:1≤s.size∧s.size≤16:=by simp at h12;omega
 have hr0:=we hsz;refine af fun _=>?_;refine ab (ag ?_);refine aB (fun m σ o=>∃t:ByteArray,m=t.size∧dc s 0=dc t 0∧σ=slots [(0,.d (vS t))]∧o=[]) s.size (Weak.kills [0] rfl) ⟨s,rfl,rfl,rfl,rfl⟩ ?_;rintro m σ o ⟨t,rfl,hro,rfl,rfl⟩ _;refine ab (xU ?_);refine aT ?_;refine xQ [0,15] ?_ ?_
 ·intro jY;have ht0:0<t.size:=by simp at jY;omega
  obtain⟨s1,s2⟩:=uY ht0;refine af fun _=>?_;refine ag (xU ?_);refine xO ?_;refine xC (Jr g t ht0) ?_;refine cW ?_;refine xF [0,3,4] ?_;refine ab (xU ?_);refine aT ?_;iterate 2 refine xI ?_
  refine xP ?_;refine xB ?_;iterate 5 refine xI ?_
  iterate 2 refine xP ?_
  refine xB ?_;iterate 2 refine xI ?_
  refine xP ?_;refine xQ [0,4,38] ?_ ?_
  ·intro Bk;have hr:cu s=false:=by rw[hr0,hro];apply s1;simp[oZ];simp at Bk;grind
   refine xU ?_;refine xH [2] ?_;refine xZ ?_;simp[hr]
  intro Bk;obtain⟨w,w1,w2,w3,w4⟩:=s2 (by simp at Bk;grind) (by simp[oZ];simp at Bk;grind);have w5:(w:Int)≤t.size:=by omega
  refine af fun _=>?_;refine xY ?_;refine ay ?_;refine xO ?_ (h:=by simp[ie,ew,w1,w3,w5];exact .mk);refine xO ?_;refine xE [0] ?_;refine ah [0] ?_;refine ae (m':=(t.extract w t.size).size) (by have q1:0<w:=w2;have q2:w≤t.size:=w3;rw[ByteArray.size_extract,Nat.min_self];omega) ⟨t.extract w t.size,rfl,by rw[hro,w4],rfl,rfl⟩
 intro jY;have hz:¬0<t.size:=by have q:=of_decide_eq_false jY;omega
 have hr:cu s=true:=by
  rw[hr0,hro]
  conv=>lhs;rw[dc]
  exact if_neg hz
 refine aP (xT ?_);refine xH [2] ?_;refine xZ ?_;simp[hr]
theorem Ex(g:Gl)(a b:Int):a9 Tryz.prog g 147 [.agg [vI a,vI b]] (.v (.bool (fZ a b))):=by
 refine xA Tryz.func147 fun B S=>?_
 simp only[List.map,aO];refine xU ?_;refine ay ?_;refine xG [1] ?_;refine bx ?_;iterate 3 refine xI ?_
 refine xP ?_;refine xB ?_;iterate 3 refine xI ?_
 refine xP ?_;refine xB ?_;iterate 3 refine xI ?_
 refine xP ?_;refine xB ?_;refine xF [2] ?_;refine xZ ?_;first|(simp[fZ,Bool.and_assoc];done)|(simp[fZ,Bool.and_assoc];grind)
theorem vn(g:Gl)(l:List Root)(nm:ByteArray)(hl:l.length≤2^40):a9 Tryz.prog g 148 [rR l,vS nm] (vI (cD l nm)):=by
 refine xA Tryz.func148 fun B S=>?_
 refine xU ?_;refine xH [0,1] ?_;refine ab (xU ?_);refine xH [0,1,5] ?_;refine ag (aB (fun m σ o=>∃i:Nat,m=l.length-i∧i≤l.length∧(∀j,j<i→((nth l j).name.toList==nm.toList)=false)∧σ=slots [(0,.d (rR l)),(1,.d (vS nm)),(5,.d (vI i))]∧o=[]) l.length .refl ⟨0,by simp,by simp,by simp,rfl,rfl⟩ ?_);rintro m σ o ⟨i,rfl,hi,hinv,rfl,rfl⟩ _;refine ab (xU ?_);refine bx ?_;refine xQ [0,1,5,9] ?_ ?_
 ·intro h9;have hi2:i<l.length:=by simpa using h9
  refine af fun _=>?_;refine ab (ag ?_);refine xU ?_;refine ay ?_;refine xO ?_ (h:=by simp[ak,hi2];exact .mk);refine xO ?_;refine xO ?_ (h:=by simp[-List.getElem?_map,ao hi2,ak];exact .mk);refine ay ?_;refine xQ [0,1,5,18] ?_ ?_
  ·intro h18;have hr:=tE hi2 hinv h18;refine xU ?_;refine bU [4] ?_;refine xZ ?_;simp[hr]
  intro h18;refine af fun _=>?_;refine xY ?_;refine aT ?_;refine xE [0,1,5] ?_;refine ah [0,1,5] ?_;refine ae (m':=l.length-(i+1)) (by omega) ⟨i+1,rfl,by omega,?_,?_,rfl⟩
  ·intro j hj;rcases Nat.lt_succ_iff_lt_or_eq.1 hj with hj|rfl
   ·exact hinv j hj
   exact h18
  rw[wrap64 (by omega) (by omega)];rfl
 intro h9;have hr:=lL (l:=l) (nm:=nm) (fun j hj=>hinv j (by simp at h9;omega));refine aP (xT ?_);refine xH [4] ?_;refine xZ ?_;simp[hr]
theorem FX(g:Gl)(l:List Root)(hl:l.length≤2^40):a9 Tryz.prog g 94 [rR l] (.v (.bool (ck l))):=by
 refine xA Tryz.func94 fun B S=>?_
 refine xU ?_;refine xO ?_;refine xG [0] ?_;refine aH ?_;refine xO ?_;refine aH ?_;refine xF [0,3] ?_;refine ab (xU ?_);refine xH [0,3,4] ?_;refine ag (aB (fun m σ o=>∃i:Nat,m=l.length-i∧i≤l.length∧(∀j,j<i→dW l j=true)∧σ=slots [(0,.d (rR l)),(3,.ptr 0 0 0),(4,.d (vI i))]∧o=[.var 50 [.d (vI 0),.d (vI 0)]]) l.length .refl ⟨0,by simp,by simp,by simp,rfl,rfl⟩ ?_);rintro m σ o ⟨i,rfl,hi,hinv,rfl,rfl⟩ _;refine ab (xU ?_);refine bx ?_;refine xQ [0,3,4,11] ?_ ?_
 ·intro h11;have hi2:i<l.length:=by simpa using h11
  refine af fun _=>?_;refine ab (ag ?_);refine ab (xU ?_);refine ay ?_;refine xO ?_ (h:=by simp[ak,hi2];exact .mk);refine xO ?_;refine xO ?_ (h:=by simp[-List.getElem?_map,ao hi2,ak];exact .mk);refine xO ?_;refine xQ [0,3,4,19] ?_ ?_
  ·intro h19;have hz0:(nth l i).name.toList=[]:=by simpa using h19
   have hz:((nth l i).name.toList==(⟨#[]⟩:ByteArray).toList)=true:=by rw[hz0,toList_eq];rfl
   refine ab (ab ?_);refine aS (by kernel_rfl) [] 4 [0,1,2,3,4,5,6] (by decide +kernel) ?_;refine ay ?_;refine xO ?_ (h:=by simp[ak,hi2];exact .mk);refine xO ?_;refine xO ?_ (h:=by simp[-List.getElem?_map,ao hi2,ak];exact .mk);refine xO ?_ (h:=by simp[ak];exact .mk);refine xO ?_;refine xQ [0,3,4,26] ?_ ?_
   ·intro i8
    have hr:ck l=false:=ki hi2 (by
      have hn : cu (nth l i).name = false := by unfold cu; rw [hz0]; simp
      unfold dW isZero; rw [hn, hz]; simp at i8; simp; grind)
    refine xU ?_;refine xH [2] ?_;refine xZ ?_;first|(simp[hr];done)|(simp[hr,fQ];grind)
   intro i8;have hok:dW l i=true:=by unfold dW isZero;rw[hz];simp at i8;simp;grind
   refine af fun _=>?_;refine aP ?_;rintro -;refine xY ?_;refine aT ?_;refine xE [0,3,4] ?_;refine ah [0,3,4] ?_;refine ae (m':=l.length-(i+1)) (by omega) ⟨i+1,rfl,by omega,?_,?_,rfl⟩
   ·intro j hj;rcases Nat.lt_succ_iff_lt_or_eq.1 hj with hj|rfl
    ·exact hinv j hj
    exact hok
   rw[wrap64 (by omega) (by omega)];rfl
  intro h19
  have hz:((nth l i).name.toList==(⟨#[]⟩:ByteArray).toList)=false:=by
   have hz0:(nth l i).name.toList≠[]:=by simpa using h19
   rw[toList_eq ⟨#[]⟩];simpa using hz0
  refine af ?_;refine xT ?_;refine ay ?_;refine xO ?_ (h:=by simp[ak,hi2];exact .mk);refine xO ?_;refine xO ?_ (h:=by simp[-List.getElem?_map,ao hi2,ak];exact .mk);refine xC (BF g (nth l i).name) ?_;refine xO ?_;refine xG [0,3,4,5] ?_;refine ay ?_;refine xO ?_ (h:=by simp[ak,hi2];exact .mk);refine xO ?_;refine xO ?_ (h:=by simp[-List.getElem?_map,ao hi2,ak];exact .mk);refine xC (Ex g (nth l i).ix (nth l i).gen) ?_;refine xH [0,3,4,5,6] ?_;refine ab ?_;refine aS (by kernel_rfl) [] 4 [0,1,2,3,4,5,6,7,8,9,10,11,12,13,14,15,16,17] (by decide +kernel) ?_;refine aT ?_;iterate 2 refine xI ?_
  refine xP ?_;refine xB ?_;iterate 2 refine xI ?_
  refine xI ?_ (h:=fun hb=>by simp[ew,hi2,Nat.le_of_lt hi2];exact .mk);iterate 2 refine xI ?_
  refine xI ?_ (h:=fun hb=>by simp[ak,hi2];exact .mk);refine xI ?_;refine xI ?_ (h:=fun hb=>by simp[-List.getElem?_map,ao hi2,ak];exact .mk);refine bI rfl (by simp;exact .mk) rfl rfl (by simp) (by simp;exact .mk) (by simp;exact .mk) (fun hb=>vn g (l.take i) (nth l i).name (by simp;omega)) (by simp) (by simp;exact .mk) (by simp) ?_;refine xI ?_;refine xP ?_;refine xQ [0,3,4,56] ?_ ?_
  ·intro Dd;have hr:ck l=false:=ki hi2 (by unfold dW isZero;rw[hz];simp at Dd;simp;grind);refine xU ?_;refine xH [2] ?_;refine xZ ?_;first|(simp[hr];done)|(simp[hr,fQ];grind)
  intro Dd;have hok:dW l i=true:=by unfold dW isZero;rw[hz];simp at Dd;simp;grind
  refine af fun _=>?_;refine xY ?_;refine aT ?_;refine xE [0,3,4] ?_;refine ah [0,3,4] ?_;refine ae (m':=l.length-(i+1)) (by omega) ⟨i+1,rfl,by omega,?_,?_,rfl⟩
  ·intro j hj;rcases Nat.lt_succ_iff_lt_or_eq.1 hj with hj|rfl
   ·exact hinv j hj
   exact hok
  rw[wrap64 (by omega) (by omega)];rfl
 intro h11;have hr:ck l=fQ l.length:=sF (fun j hj=>hinv j (by simp at h11;omega));refine aP (xT ?_);refine bx ?_;iterate 3 refine xI ?_
 refine xP ?_;refine xB ?_;iterate 4 refine xI ?_
 refine xP ?_;refine xB ?_;refine xF [2] ?_;refine xZ ?_;first|(simp[hr];done)|(simp[hr,fQ];grind)
open Go.aN
theorem Ax{pages:Int}{l:List (Int×Int)}:(er pages l).2=(cR pages l).isSome:=by
 unfold er;cases cR pages l<;>rfl
theorem tS{n:Int}:(cK n).2=0↔cV n=true:=by
 rw[dY];unfold cK;split
 ·simp;omega
 ·simp;omega
theorem G4{l:List Slot}{i:Nat}(h:dV (nth l i)=true):jv l (i+1)=qg (jv l i) (gv l i):=by
 conv=>lhs;unfold jv
 rw[if_pos h]
theorem G3{l:List Slot}{i:Nat}(h:dV (nth l i)=false):jv l (i+1)=jv l i:=by
 conv=>lhs;unfold jv
 rw[if_neg (by simp[h])]
def gS(mode:Int):List Bool:=if mode=1 then [false]else if mode=2 then [true]else if mode=3 then [true,false]else if mode=4 then [false,true]else []
theorem CC{mode:Int}:(gS mode).length≤2:=by
 unfold gS;repeat' split
 all_goals simp
def lK(s:bF)(n:Int):List Bool→Option (Bool×Int)
 | []=>none
 | b::l=>(oA s n b).or (lK s n l)
theorem rg{s:bF}{n:Int}:b9 s n=lK s n (gS s.mode):=by
 unfold b9 gS
 repeat' split
 all_goals simp[lK]
theorem pK{s:bF}{n a:Int}:∀ {l:List Bool} {i:Nat},i<l.length→cH s (nth l i) n=some a→(∀j,j<i→cH s (nth l j) n=none)→lK s n l=some (nth l i,a)
 | [],_,h,_,_=>by simp at h
 | b::l,0,_,h,_=>by
  have h:cH s b n=some a:=h;simp[lK,oA,h,nth]
 | b::l,i+1,hi,h,hn=>by
  have h0:cH s b n=none:=hn 0 (by omega);have:=pK (s:=s) (n:=n) (a:=a) (l:=l) (i:=i) (by simpa using hi) h (fun j hj=>hn (j+1) (by omega));simp only[lK,oA,h0,Option.map_none,Option.none_or,this];rfl
theorem pJ{s:bF}{n:Int}:∀ {l:List Bool},(∀j,j<l.length→cH s (nth l j) n=none)→lK s n l=none
 | [],_=>rfl
 | b::l,h=>by
  have h0:cH s b n=none:=h 0 (by simp);simp only[lK,oA,h0,Option.map_none,Option.none_or];exact pJ fun j hj=>h (j+1) (by simpa using hj)
theorem s7{s:bF}(h:df s.slots=true):∀i,i<(bW s.slots).length→(nth (bW s.slots) i).1≤2^62:=fun i hi=>by
 have:=s6 h i hi;omega
open Go.aN
attribute [simp] Tryz.f29 Tryz.f33
theorem JN(g:Gl)(s:bF)(hs:s.Ok):a9 Tryz.prog g 29 [cr s] (On (ca s.slots)):=by
 refine xA Tryz.func29 fun B S=>?_
 simp only[cr,List.map,aO,cC];have q0:=hs.h1;refine xU ?_;refine ay ?_;refine xG [1] ?_;refine xH [1,3] ?_;refine ab (xU ?_);refine xH [1,3,4] ?_;refine ag (aB (fun m σ o=>∃i:Nat,m=s.slots.length-i∧i≤s.slots.length∧σ=slots [(1,.ptr 0 0 0),(3,.hdr 1 0 (jv s.slots i).length),(4,.d (vI i))]∧o=[.var 28 [.d (vI s.sh.pages),.d (vI s.sh.slots),.d (vI s.sh.roots),.d (vI s.sh.room),.d (vI s.mode),.d (vI s.base),.d (eG s.slots),.d (rR s.roots),.d (fL s.data)],.row 3 ((jv s.slots i).map a6)]) s.slots.length (Weak.trans (Weak.dJ 3 3 rfl) (Weak.kills [1,3,4] rfl) (fun _ _ _ h1 h2=>by rw[←h1.len];exact h2)) ⟨0,by simp,by simp,by simp[jv],by simp[jv]⟩ ?_);rintro m σ o ⟨i,rfl,hi,rfl,rfl⟩ _;have hle:=B9 (l:=s.slots) (i:=i);obtain⟨L,hL⟩:∃L,L=jv s.slots i:=⟨_,rfl⟩;rw[←hL]at hle ⊢;refine ab (xU ?_);refine ay ?_;refine xO ?_ (h:=by simp[a6];exact .mk);refine ay ?_;refine xQ [1,3,4,14] ?_ ?_
 ·intro fe;have hi2:i<s.slots.length:=by simpa using fe
  refine af fun _=>?_;refine ab (ag ?_);refine xU ?_;refine xO ?_;refine xO ?_ (h:=by simp[a6];exact .mk);refine xO ?_;refine xO ?_ (h:=by simp[a6,hi2];exact .mk);refine xO ?_ (h:=by simp[-List.getElem?_map,ao hi2,aA];exact .mk);refine xO ?_;refine aH ?_;refine xF [1,3,4,5] ?_;refine ab (xU ?_);refine xO ?_;refine xO ?_ (h:=by simp[a6];exact .mk);refine ay ?_;refine xI ?_;refine xI ?_ (h:=fun hb=>by simp[a6];exact .mk);refine xP ?_;refine xQ [1,3,4,5,28] ?_ ?_
  ·intro qu;have h2:dV (nth s.slots i)=false:=by simp[dV];simp at qu;grind
   have hI:jv s.slots (i+1)=L:=by rw[hL];exact G3 h2
   refine aP ?_;rintro -;refine xY ?_;refine aT ?_;refine xE [1,3,4] ?_;refine ah [1,3,4] ?_;first
   | (refine aD [1,3,4] rfl ?_
      refine aq 2 [1,3,4] (by decide) (by rfl) (by rfl) ?_
      refine ae (m' := s.slots.length - (i+1)) (by omega) ⟨i+1, rfl, by omega, ?_, ?_⟩
      · rw [wrap64 (by omega) (by omega), hI]; rfl
      rw [hI]; rfl)
   | (refine aD [1,3,4] rfl ?_
      refine aC 1 6 1 (by decide) (by simp) (by decide) rfl rfl ?_
      refine aq 2 [1,3,4] (by decide) (by rfl) (by rfl) ?_
      refine ae (m' := s.slots.length - (i+1)) (by omega) ⟨i+1, rfl, by omega, ?_, ?_⟩
      · rw [wrap64 (by omega) (by omega), hI]; simp [em, e12]
      rw [hI, List.map_append, List.map_cons, List.map_take, List.map_drop, htk, List.append_cons (List.take k (L.map a6)) (a6 (gv s.slots i)) (List.drop k (L.map a6))]; simp [a6, gv]; rfl)
  intro qu;have h2:dV (nth s.slots i)=true:=by simp[dV];simp at qu;grind
  have hI:jv s.slots (i+1)=qg L (gv s.slots i):=by rw[hL];exact G4 h2
  refine af ?_;refine xT ?_;refine xO ?_;refine xO ?_ (h:=by simp[a6];exact .mk);refine xC (JV g (nth s.slots i).len) ?_;refine cW ?_;refine xG [1,3,4,5,6] ?_;refine xH [1,3,4,5,6,8] ?_;refine ab (ag ?_);refine aB (fun m σ o=>∃k:Nat,m=L.length-k∧k≤L.length∧(∀j,j<k→(nth L j).at_≤(nth s.slots i).at_)∧σ=slots [(1,.ptr 0 0 0),(3,.hdr 1 0 L.length),(4,.d (vI i)),(5,.ptr 2 0 0),(6,.d (vI (cK (nth s.slots i).len).1)),(8,.d (vI k))]∧o=[.var 28 [.d (vI s.sh.pages),.d (vI s.sh.slots),.d (vI s.sh.roots),.d (vI s.sh.room),.d (vI s.mode),.d (vI s.base),.d (eG s.slots),.d (rR s.roots),.d (fL s.data)],.row 3 (L.map a6),.var 92 [.d (vI (nth s.slots i).gen),.d (vT (nth s.slots i).live),.d (vT (nth s.slots i).two),.d (vI (nth s.slots i).at_),.d (vI (nth s.slots i).len)]]) L.length .refl ⟨0,by simp,by simp,by simp,rfl,rfl⟩ ?_;rintro m σ o ⟨k,rfl,hk,et,rfl,rfl⟩ _;refine ab (ab ?_);refine aS (by kernel_rfl) [] 4 [0,1,2,3,4,5,6,7,8,9,10,11,12,13] (by decide +kernel) ?_;refine cW ?_;iterate 2 refine xI ?_
  refine bg rfl (by simp;exact .mk) rfl (by simp<;>first|omega|grind) (fun hb=>by simp at hb;simp[hb];exact .mk) ?_;refine xI ?_;refine bg rfl (by simp;exact .mk) rfl (by simp<;>first|omega|grind) (fun hb=>by simp at hb;simp[-List.getElem?_map,ao hb,a6];exact .mk) ?_;refine xI ?_;refine xI ?_ (h:=fun hb=>by simp[a6];exact .mk);refine xI ?_;refine xP ?_;refine xQ [1,3,4,5,6,8,48] ?_ ?_
  ·intro h48;have hk2:k<L.length∧(nth L k).at_≤(nth s.slots i).at_:=by simpa using h48
   refine af fun _=>?_;refine ag ?_;refine xY ?_;refine aT ?_;refine xE [1,3,4,5,6,8] ?_;refine ah [1,3,4,5,6,8] ?_;refine ae (m':=L.length-(k+1)) (by omega) ⟨k+1,rfl,by omega,?_,?_,rfl⟩
   ·intro t ht;rcases Nat.lt_succ_iff_lt_or_eq.1 ht with ht|rfl
    ·exact et t ht
    exact hk2.2
   rw[wrap64 (by omega) (by omega)];rfl
  intro h48;have hk3:k<L.length→(nth s.slots i).at_<(nth L k).at_:=by simp at h48;omega
  rw[zq (b:=gv s.slots i) hk et hk3]at hI;have e1:(L.length+1)*24≤140737488355328:=by omega
  have e2:L.length≤140737488355327:=by omega
  have e3:k*24≤140737488355328:=by omega
  have e4:k≤140737488355328:=by omega
  have e5:(k+1)*24≤140737488355328:=by omega
  have e6:k≤140737488355327:=by omega
  have e7:(k+1+(L.length-k))*24≤140737488355328:=by omega
  have e8:k+1+(L.length-k)≤140737488355328:=by omega
  have em:min k L.length=k:=by omega
  have e9:(L.length-k)*24≤140737488355328:=by omega
  have e10:(k:Int)≤L.length:=by omega
  have e11:¬L.length<k+(L.length-k):=by omega
  have e12:k+1+(L.length-k)=k+(L.length-k+1):=by omega
  have htk:List.take (L.length-k) (List.drop k (L.map a6))=List.drop k (L.map a6):=List.take_of_length_le (by simp);have hn1:∀x,x∈List.take k (L.map a6)→x.cE=true:=fun x hx=>by obtain⟨b,_,rfl⟩:=List.mem_map.1 (List.mem_of_mem_take hx);simp
  have hn2:∀x,x∈List.drop k (L.map a6)→x.cE=true:=fun x hx=>by obtain⟨b,_,rfl⟩:=List.mem_map.1 (List.mem_of_mem_drop hx);simp
  have Kk:∀x,x∈List.take (L.length-k) (List.drop k (L.map a6))→x.cE=true:=fun x hx=>hn2 x (List.mem_of_mem_take hx)
  refine aP (xT ?_);refine xO ?_;refine xG [1,3,4,5,6,8,9] ?_;refine aT ?_;refine xO ?_ (h:=by simp[ew,hk,e10];exact .mk);refine xO ?_ (h:=by simp[rows,em,e3,e4,Nat.not_lt.2 hk,if_pos hn1];exact .mk);refine xO ?_;refine xG [1,3,4,5,6,8,9] ?_;refine ay ?_;refine xO ?_ (h:=by simp[a6];exact .mk);refine ay ?_;refine aH ?_;refine xO ?_;refine xO ?_ (h:=by simp[rows,em,e5,e6];exact .mk);refine xH [1,3,4,8,9] ?_;refine xY ?_;refine aT ?_;refine xO ?_ (h:=by simp[ew,hk,e10];exact .mk);refine xO ?_ (h:=by simp[rows,em,e7,e8,e9,e11,Nat.not_lt.2 hk,if_pos hn2,if_pos Kk];exact .mk);refine xH [1,3,4] ?_;refine xY ?_;refine aT ?_;refine xE [1,3,4] ?_;refine ah [1,3,4] ?_;first
  | (refine aD [1,3,4] rfl ?_
     refine aq 2 [1,3,4] (by decide) (by rfl) (by rfl) ?_
     refine ae (m' := s.slots.length - (i+1)) (by omega) ⟨i+1, rfl, by omega, ?_, ?_⟩
     · rw [wrap64 (by omega) (by omega), hI]; rfl
     rw [hI]; rfl)
  | (refine aD [1,3,4] rfl ?_
     refine aC 1 6 1 (by decide) (by simp) (by decide) rfl rfl ?_
     refine aq 2 [1,3,4] (by decide) (by rfl) (by rfl) ?_
     refine ae (m' := s.slots.length - (i+1)) (by omega) ⟨i+1, rfl, by omega, ?_, ?_⟩
     · rw [wrap64 (by omega) (by omega), hI]; simp [em, e12]
     rw [hI, List.map_append, List.map_cons, List.map_take, List.map_drop, htk, List.append_cons (List.take k (L.map a6)) (a6 (gv s.slots i)) (List.drop k (L.map a6))]; simp [a6, gv]; rfl)
 intro fe;obtain rfl:i=s.slots.length:=by simp at fe;omega
 rw[x9]at hL;subst hL;refine aP (xT ?_);refine bU [2] ?_;refine xZ ?_;simp[ai];try rfl
theorem Ah(g:Gl)(s:bF)(hs:s.Ok):a9 Tryz.prog g 33 [cr s] (.v (.bool (bL s))):=by
 refine xA Tryz.func33 fun B S=>?_
 simp only[cr,List.map,aO,cC];have q0:=hs.h1;refine xU ?_;refine ay ?_;refine xG [1] ?_;iterate 6 refine xO ?_
 refine xC (Mu g s.sh s.mode s.base) ?_;refine xO ?_;refine xG [1,3] ?_;refine ay ?_;refine xC (FW g s.slots hs.h1) ?_;refine xO ?_;refine xG [1,3,4] ?_;refine ay ?_;refine xC (FX g s.roots hs.h2) ?_;refine xH [1,3,4,5] ?_;refine ab (xU ?_);refine aT ?_;iterate 2 refine xI ?_
 refine xP ?_;refine xB ?_;iterate 2 refine xI ?_
 refine xP ?_;refine xB ?_;iterate 7 refine xI ?_
 refine xP ?_;refine xB ?_;iterate 7 refine xI ?_
 refine xP ?_;refine xB ?_;iterate 7 refine xI ?_
 refine xP ?_;refine xQ [1,62] ?_ ?_
 ·intro lh
  have hr:bL s=false:=by
   cases hz:bL s with
   | false=>rfl
   | true=>
    exfalso;obtain⟨⟨z1,z2,z3⟩,_,_,z4,_⟩:=pq.1 (dw hz);have z5:=ij hz;have z6:=kq hz;simp[z1,z2,z3,z4,z5,z6]at lh
  refine xU ?_;refine xH [2] ?_;refine xZ ?_;first|(simp[hr];done)|(cases b1<;>cases b2<;>by_cases m1:s.mode=1<;>by_cases m2:s.mode=2<;>simp[hr1,jO,hsl,m1,m2]<;>(rw[Bool.beq_eq_decide_eq];simp))
 intro lh;have hh:cI s.sh s.mode s.base=true∧df s.slots=true∧ck s.roots=true∧(s.slots.length:Int)=s.sh.slots∧(s.roots.length:Int)=s.sh.roots∧s.data.length=s.slots.length:=by simp at lh;grind
 obtain⟨z1,z2,z3,z4,z5,z6⟩:=hh;have hr0:bL s=((List.range s.slots.length).all (j7 s)&&((cR s.base (bW s.slots)).isSome&&(dt (s.base*32) (s.sh.pages*32) (bV s.slots)&&jO s))):=by simp[bL,dH,z1,z2,z3,z4,z5,z6]
 refine af fun _=>?_;refine ab (xU ?_);refine xH [1,6] ?_;refine ag (aB (fun m σ o=>∃i:Nat,m=s.slots.length-i∧i≤s.slots.length∧(∀j,j<i→j7 s j=true)∧σ=slots [(1,.ptr 0 0 0),(6,.d (vI i))]∧o=[.var 28 [.d (vI s.sh.pages),.d (vI s.sh.slots),.d (vI s.sh.roots),.d (vI s.sh.room),.d (vI s.mode),.d (vI s.base),.d (eG s.slots),.d (rR s.roots),.d (fL s.data)]]) s.slots.length .refl ⟨0,by simp,by simp,by simp,rfl,rfl⟩ ?_);rintro m σ o ⟨i,rfl,hi,hinv,rfl,rfl⟩ _;refine ab (xU ?_);refine cW ?_;refine xQ [1,6,67] ?_ ?_
 ·intro BW;have hi2:i<s.slots.length:=by simpa using BW
  have hi3:i<s.data.length:=by omega
  refine af fun _=>?_;refine ab (ag ?_);refine ab ?_;refine aS (by kernel_rfl) [] 4 [0,1,2,3,4,5,6,7,8,9,10,11,12] (by decide +kernel) ?_;refine aT ?_;refine xO ?_ (h:=by simp[hi3];exact .mk);refine xO ?_ (h:=by simp[-List.getElem?_map,ao hi3];exact .mk);refine bx ?_;refine xO ?_ (h:=by simp[hi2];exact .mk);refine xO ?_;refine xO ?_ (h:=by simp[-List.getElem?_map,ao hi2,aA];exact .mk);refine xO ?_;refine xQ [1,6,82] ?_ ?_
  ·intro E1;have hr:bL s=false:=by rw[hr0,im hi2 (by simp[j7];simpa using E1)];rfl
   refine xU ?_;refine xH [2] ?_;refine xZ ?_;first|(simp[hr];done)|(cases b1<;>cases b2<;>by_cases m1:s.mode=1<;>by_cases m2:s.mode=2<;>simp[hr1,jO,hsl,m1,m2]<;>(rw[Bool.beq_eq_decide_eq];simp))
  intro E1;have hok:j7 s i=true:=by simp[j7];simpa using E1
  refine af fun _=>?_;refine xY ?_;refine aT ?_;refine xE [1,6] ?_;refine ah [1,6] ?_;refine ae (m':=s.slots.length-(i+1)) (by omega) ⟨i+1,rfl,by omega,?_,?_,rfl⟩
  ·intro j hj;rcases Nat.lt_succ_iff_lt_or_eq.1 hj with hj|rfl
   ·exact hinv j hj
   exact hok
  rw[wrap64 (by omega) (by omega)];rfl
 intro BW;have hr1:bL s=((cR s.base (bW s.slots)).isSome&&(dt (s.base*32) (s.sh.pages*32) (bV s.slots)&&jO s)):=by rw[hr0,all_good (fun j hj=>hinv j (by simp at BW;omega))];rfl
 have hb:=gP z1;have w1:IntKind.i64.wrap (32*s.base)=s.base*32:=(wrap64 (by omega) (by omega)).trans (Int.mul_comm _ _);have w2:IntKind.i64.wrap (32*s.sh.pages)=s.sh.pages*32:=(wrap64 (by omega) (by omega)).trans (Int.mul_comm _ _);have hT:=jt z2;have hol:=mm (l:=s.slots);have htl:=mv (l:=s.slots);have hsl:(bV s.slots).length=(ca s.slots).length:=by simp[bV]
 have IQ:=JX g (ca s.slots) (by omega);rw[show (ca s.slots).map fC=bV s.slots from rfl]at IQ;have L3:=JY g s.base (bW s.slots) (by omega) (s7 z2);rw[Ax]at L3;have NZ:=JW g (s.base*32) (s.sh.pages*32) (bV s.slots) (by omega);obtain⟨b1,hb1⟩:∃b,b=(cR s.base (bW s.slots)).isSome:=⟨_,rfl⟩;obtain⟨b2,hb2⟩:∃b,b=dt (s.base*32) (s.sh.pages*32) (bV s.slots):=⟨_,rfl⟩;rw[←hb1]at L3 hr1;rw[←hb2]at NZ hr1;refine aP (xT ?_);refine xO ?_;refine xC (JN g s hs) ?_;refine xO ?_;refine xG [1,7] ?_;refine xO ?_;refine xC (JF g s hs) ?_;refine cW ?_;refine xF [1,7,8] ?_;refine ab ?_;refine aS (by kernel_rfl) [] 4 [0,1,2,3,4,5,6,7,8,9,10] (by decide +kernel) ?_;refine ay ?_;refine xO ?_ (h:=by simp[w1];exact .mk);refine aT ?_;refine xO ?_ (h:=by simp[w2];exact .mk);refine xO ?_;refine xC (IQ) ?_;refine xC (NZ) ?_;refine xO ?_;refine xG [1,7,8,10] ?_;refine aT ?_;refine xC (L3) ?_;refine cW ?_;refine xG [1,7,8,10,12] ?_;refine ay ?_;refine xI ?_;refine xP ?_;refine xB ?_;iterate 7 refine xI ?_
 iterate 2 refine xP ?_
 refine xB ?_;iterate 7 refine xI ?_
 iterate 2 refine xP ?_
 refine xB ?_;refine xF [2] ?_;refine xZ ?_;first|(simp[hr];done)|(cases b1<;>cases b2<;>by_cases m1:s.mode=1<;>by_cases m2:s.mode=2<;>simp[hr1,jO,hsl,m1,m2]<;>(rw[Bool.beq_eq_decide_eq];simp))
open Go.aN
attribute [simp] Tryz.f39 Tryz.f41 Tryz.f114 Tryz.f117
theorem Ep(g:Gl)(n:Int):a9 Tryz.prog g 114 [vI n] (.v (.bool (cV n))):=by
 refine xA Tryz.func114 fun B S=>?_
 refine xU ?_;refine xO ?_;refine xG [0] ?_;refine aT ?_;iterate 2 refine xI ?_
 refine xP ?_;refine xB ?_;refine xF [2] ?_;refine xZ ?_;first|(simp[cV]at *;grind)|simp[cV, *]
theorem Es(g:Gl)(s:bF)(hs:s.Ok)(k:Int):a9 Tryz.prog g 117 [cr s,vI k] (.v (.bool (fI s k))):=by
 refine xA Tryz.func117 fun B S=>?_
 simp only[cr,List.map,aO,cC];refine xU ?_;refine ay ?_;refine xG [1,2] ?_;refine cq ?_;refine xC (Ah g s hs) ?_;refine xO ?_;refine xG [1,2,5] ?_;refine ay ?_;iterate 2 refine xI ?_
 refine xP ?_;refine xB ?_;iterate 2 refine xI ?_
 refine xI ?_ (h:=fun hb=>by simp[aA];exact .mk);iterate 2 refine xI ?_
 refine xP ?_;refine xB ?_;refine xI ?_;refine xI ?_ (h:=fun hb=>by simp[aA];exact .mk);refine xI ?_;refine bg rfl (by simp;exact .mk) rfl (by simp<;>first|omega|grind) (fun hb=>by simp at hb;simp[show 0≤k∧k<s.slots.length from by omega];exact .mk) ?_;refine xI ?_;refine xI ?_ (h:=fun hb=>by simp[aA];exact .mk);refine xP ?_;refine xB ?_;refine xF [4] ?_;refine xZ ?_;simp[fI,ka,Bool.and_assoc]
theorem L9(g:Gl)(s:bF)(hs:s.Ok)(two:Bool)(n:Int):a9 Tryz.prog g 39 [cr s,vT two,vI n] (.bK [vI ((cH s two n).getD 0),.v (.bool (cH s two n).isSome)]):=by
 refine xA Tryz.func39 fun B S=>?_
 simp only[cr,List.map,aO,cC];have q0:=hs.h1;refine xU ?_;refine aT ?_;refine xG [1,2,3] ?_;refine xO ?_ (h:=by simp[aE];exact .mk);refine xC (Ah g s hs) ?_;refine xO ?_;refine xG [1,2,3,8] ?_;refine xO ?_;refine xC (JV g n) ?_;refine cW ?_;refine xF [1,2,3,8,9,10] ?_;refine ab (xU ?_);refine aT ?_;iterate 2 refine xI ?_
 refine xP ?_;refine xQ [1,2,3,9,29] ?_ ?_
 ·intro qd
  have hr:cH s two n=none:=by
   unfold cH;rw[if_neg];intro hq;simp only[Bool.and_eq_true]at hq;have:=tS.2 hq.2;simp[hq.1,this]at qd
  refine xU ?_;refine bU [6,7] ?_;refine xZ ?_;first|(simp[hr];done)|(cases BB<;>simp[hr])
 intro qd;have hz:bL s=true∧(cK n).2=0:=by simp at qd;grind
 have hR:=hz.1;have hsz:=tS.1 hz.2;have hr0:cH s two n=mH s two n:=by unfold cH;rw[if_pos (by simp[hR,hsz])]
 have hb:=gP (ij hR);have w1:IntKind.i64.wrap (32*s.base)=s.base*32:=(wrap64 (by omega) (by omega)).trans (Int.mul_comm _ _);have w2:IntKind.i64.wrap (32*s.sh.pages)=s.sh.pages*32:=(wrap64 (by omega) (by omega)).trans (Int.mul_comm _ _);have hT:=jt (kq hR);have hol:=mm (l:=s.slots);have htl:=mv (l:=s.slots);have hsl:(bV s.slots).length=(ca s.slots).length:=by simp[bV]
 refine af fun _=>?_;refine ab (xU ?_);refine xO ?_;refine xQ [2,3,9,30] ?_ ?_
 ·intro fm;obtain rfl:two=true:=fm;have hr:cH s true n=db s.base (bW s.slots) n:=by rw[hr0];rfl
  refine xU ?_;refine xO ?_ (h:=by simp[aE];exact .mk);refine xC (JF g s hs) ?_;refine cW ?_;refine xG [2,3,11] ?_;refine xO ?_;refine xO ?_ (h:=by simp[aE];exact .mk);refine ay ?_;refine xC (IY g s.base (bW s.slots) n (by omega) (s7 (kq hR))) ?_;refine bx ?_;refine xF [6,7] ?_;refine xZ ?_;first|(simp[hr];done)|(cases BB<;>simp[hr])
 intro fm;obtain rfl:two=false:=fm;have IQ:=JX g (ca s.slots) (by omega);rw[show (ca s.slots).map fC=bV s.slots from rfl]at IQ;have c105:=IZ g (s.base*32) (s.sh.pages*32) (bV s.slots) (by omega);have hgr:pM (s.base*32) (s.sh.pages*32) (bV s.slots)=(dr (s.sh.pages*32) (s.base*32) (bV s.slots),0):=by unfold pM;rw[if_pos (pw hR)]
 rw[hgr]at c105;have hgl:=oW (to:=s.sh.pages*32) (l:=bV s.slots) (a:=s.base*32);have hr:cH s false n=(dy (dr (s.sh.pages*32) (s.base*32) (bV s.slots)) (cK n).1).map (·.1):=by rw[hr0];show qj s n=_;unfold qj;rw[if_neg (by simp[hz.2])]
 obtain⟨BB,Pb⟩:∃BB,BB=dy (dr (s.sh.pages*32) (s.base*32) (bV s.slots)) (cK n).1:=⟨_,rfl⟩;have II:=I0 g (dr (s.sh.pages*32) (s.base*32) (bV s.slots)) (by omega) (cK n).1;rw[←Pb]at hr II;refine af fun _=>?_;refine ab ?_;refine aS (by kernel_rfl) [] 4 [0,1,2,3,4,5,6,7,8,9,10,11,12,13,14,15] (by decide +kernel) ?_;refine xO ?_;refine xO ?_ (h:=by simp[aE];exact .mk);refine xO ?_ (h:=by simp[w1];exact .mk);refine ay ?_;refine xO ?_ (h:=by simp[aE];exact .mk);refine xO ?_ (h:=by simp[w2];exact .mk);refine xO ?_ (h:=by simp[aE];exact .mk);refine xC (JN g s hs) ?_;refine xC (IQ) ?_;refine xC (c105) ?_;refine cW ?_;refine xG [9,13] ?_;refine ay ?_;refine xC (II) ?_;refine bx ?_;refine aH ?_;refine xO ?_;refine xG [15,16] ?_;refine xO ?_;refine xO ?_ (h:=by simp[aE];exact .mk);refine dC [6,7] ?_;refine xZ ?_;first|(simp[hr];done)|(cases BB<;>simp[hr])
theorem JP(g:Gl)(s:bF)(hs:s.Ok)(n:Int):a9 Tryz.prog g 41 [cr s,vI n] (.bK [vT ((b9 s n).getD (false,0)).1,vI ((b9 s n).getD (false,0)).2,vT (b9 s n).isSome]):=by
 refine xA Tryz.func41 fun B S=>?_
 simp only[cr,List.map,aO,cC];refine xU ?_;refine bx ?_;refine xG [1,2] ?_;refine xH [1,2,7] ?_;refine ab (xU ?_);refine bU [1,2,7,12] ?_;refine y9 ([(1,.d (vI n)),(2,.ptr 0 0 0),(7,.hdr 1 0 (gS s.mode).length)]) ([.var 28 [.d (vI s.sh.pages),.d (vI s.sh.slots),.d (vI s.sh.roots),.d (vI s.sh.room),.d (vI s.mode),.d (vI s.base),.d (eG s.slots),.d (rR s.roots),.d (fL s.data)],.row 1 ((gS s.mode).map vT)]) ?_ ?_
 ·skip
  refine ag (xU ?_);refine ay ?_;refine xQ [1,2,7,12,13] ?_ ?_
  ·intro i7;have ho:gS s.mode=[false]:=by simp[gS]at i7 ⊢;simp[i7]
   refine xY ?_;refine ay ?_;refine xE [1,2,7] ?_;first
   | (simp only[ho];exact⟨rfl,Weak.kills [1,2,7] rfl⟩)
   | (simp only[ho];exact⟨rfl,Weak.trans (Weak.dJ 7 1 rfl) (Weak.kills [1,2,7] rfl) (fun _ _ _ h1 h2=>by rw[←h1.len];exact h2)⟩)
  intro i7;refine xU ?_;refine ay ?_;refine xQ [1,2,7,12,16] ?_ ?_
  ·intro h16;have ho:gS s.mode=[true]:=by simp[gS]at h16 ⊢;simp[h16]
   refine xY ?_;refine ay ?_;refine xE [1,2,7] ?_;first
   | (simp only[ho];exact⟨rfl,Weak.kills [1,2,7] rfl⟩)
   | (simp only[ho];exact⟨rfl,Weak.trans (Weak.dJ 7 1 rfl) (Weak.kills [1,2,7] rfl) (fun _ _ _ h1 h2=>by rw[←h1.len];exact h2)⟩)
  intro h16;refine xU ?_;refine ay ?_;refine xQ [1,2,7,12,19] ?_ ?_
  ·intro h19;have ho:gS s.mode=[true,false]:=by simp[gS]at h19 ⊢;simp[h19]
   refine xY ?_;refine ay ?_;refine xE [1,2,7] ?_;first
   | (simp only[ho];exact⟨rfl,Weak.kills [1,2,7] rfl⟩)
   | (simp only[ho];exact⟨rfl,Weak.trans (Weak.dJ 7 1 rfl) (Weak.kills [1,2,7] rfl) (fun _ _ _ h1 h2=>by rw[←h1.len];exact h2)⟩)
  intro h19;refine xU ?_;refine ay ?_;refine xQ [1,2,7,22] ?_ ?_
  ·intro h22;have ho:gS s.mode=[false,true]:=by simp[gS]at h22 ⊢;simp[h22]
   refine xY ?_;refine ay ?_;refine xE [1,2,7] ?_;first
   | (simp only[ho];exact⟨rfl,Weak.kills [1,2,7] rfl⟩)
   | (simp only[ho];exact⟨rfl,Weak.trans (Weak.dJ 7 1 rfl) (Weak.kills [1,2,7] rfl) (fun _ _ _ h1 h2=>by rw[←h1.len];exact h2)⟩)
  intro h22;have ho:gS s.mode=[]:=by simp[gS]at *;simp[*]
  refine af ?_;first
  | (simp only[ho];exact⟨rfl,Weak.kills [1,2,7] rfl⟩)
  | (simp only[ho];exact⟨rfl,Weak.trans (Weak.dJ 7 1 rfl) (Weak.kills [1,2,7] rfl) (fun _ _ _ h1 h2=>by rw[←h1.len];exact h2)⟩)
 rintro -;refine ab (xU ?_);refine xH [1,2,7,8] ?_;refine ag (aB (fun m σ o=>∃i:Nat,m=(gS s.mode).length-i∧i≤(gS s.mode).length∧(∀j,j<i→cH s (nth (gS s.mode) j) n=none)∧σ=slots [(1,.d (vI n)),(2,.ptr 0 0 0),(7,.hdr 1 0 (gS s.mode).length),(8,.d (vI i))]∧o=[.var 28 [.d (vI s.sh.pages),.d (vI s.sh.slots),.d (vI s.sh.roots),.d (vI s.sh.room),.d (vI s.mode),.d (vI s.base),.d (eG s.slots),.d (rR s.roots),.d (fL s.data)],.row 1 ((gS s.mode).map vT)]) ((gS s.mode).length) .refl ⟨0,by simp,by simp,by simp,rfl,rfl⟩ ?_);rintro m σ o ⟨i,rfl,hi,hinv,rfl,rfl⟩ _;have hol:=CC (mode:=s.mode);refine ab (xU ?_);refine bx ?_;refine xQ [1,2,7,8,28] ?_ ?_
 ·intro qu;have hi2:i<(gS s.mode).length:=by simpa using qu
  refine af fun _=>?_;refine ab (ag ?_);refine ab ?_;refine aS (by kernel_rfl) [] 4 [0,1,2,3,4,5,6,7,8,9,10,11] (by decide +kernel) ?_;refine aT ?_;refine xO ?_ (h:=by simp[hi2];exact .mk);refine xO ?_ (h:=by simp[-List.getElem?_map,ao hi2];exact .mk);refine xO ?_;refine xC (L9 g s hs (nth (gS s.mode) i) n) ?_;refine cW ?_;refine xG [1,2,7,8,9,10] ?_;refine xO ?_;refine xQ [1,2,7,8,9,41] ?_ ?_
  ·intro j0;obtain⟨a,ha⟩:∃a,cH s (nth (gS s.mode) i) n=some a:=Option.isSome_iff_exists.1 j0;have hr:b9 s n=some (nth (gS s.mode) i,a):=by rw[rg];exact pK hi2 ha hinv
   refine xU ?_;refine ay ?_;refine xO ?_ (h:=by simp[hi2];exact .mk);refine xO ?_ (h:=by simp[-List.getElem?_map,ao hi2];exact .mk);refine bx ?_;refine xF [4,5,6] ?_;refine xZ ?_;first|(simp[hr];done)|simp[hr,ha]
  intro j0;have hno:cH s (nth (gS s.mode) i) n=none:=by simpa using j0
  refine af fun _=>?_;refine xY ?_;refine aT ?_;refine xE [1,2,7,8] ?_;refine ah [1,2,7,8] ?_;refine ae (m':=(gS s.mode).length-(i+1)) (by omega) ⟨i+1,rfl,by omega,?_,?_,rfl⟩
  ·intro j hj;rcases Nat.lt_succ_iff_lt_or_eq.1 hj with hj|rfl
   ·exact hinv j hj
   exact hno
  rw[wrap64 (by omega) (by omega)];rfl
 intro qu;have hr:b9 s n=none:=by rw[rg];exact pJ (fun j hj=>hinv j (by simp at qu;omega))
 refine aP (xT ?_);refine dC [4,5,6] ?_;refine xZ ?_;first|(simp[hr];done)|simp[hr,ha]
open Go.aN
def Bf(x:Slot)(two:Bool):Slot := {x with two:=two}
def CG(x:Slot)(a:Int):Slot := {x with at_:=a}
theorem DN{l:List Slot}{m:Nat}{two:Bool}:(l.map aA).set m (D.agg [vI (nth l m).gen,vT (nth l m).live,vT two,vI (nth l m).at_,vI (nth l m).len])=(l.set m (Bf (nth l m) two)).map aA:=(List.map_set (f:=aA) (a:=Bf (nth l m) two)).symm
theorem DM{l:List Slot}{m:Nat}{a:Int}:(l.map aA).set m (D.agg [vI (nth l m).gen,vT (nth l m).live,vT (nth l m).two,vI a,vI (nth l m).len])=(l.set m (CG (nth l m) a)).map aA:=(List.map_set (f:=aA) (a:=CG (nth l m) a)).symm
theorem DZ{l:List Slot}{m:Nat}(h:m<l.length){two:Bool}{a:Int}:(l.set m (Bf (nth l m) two)).set m (CG (nth (l.set m (Bf (nth l m) two)) m) a)=l.set m (LX (nth l m) two a):=by
 rw[List.set_set,bT h,if_pos rfl];rfl
open Go.aN
open Go.aN
def IW(f:Nat→Bool)(n:Nat):Nat:=((List.range n).filter f).length
structure Kept (s t:bF):Prop where
 sh:t.sh=s.sh
 len:t.slots.length=s.slots.length
 slot:∀i,i<s.slots.length→(nth t.slots i).gen=(nth s.slots i).gen∧(nth t.slots i).live=(nth s.slots i).live∧(nth t.slots i).len=(nth s.slots i).len
 roots:t.roots=s.roots
 data:t.data=s.data
theorem Kept.refl(s:bF):Kept s s:=⟨rfl,rfl,fun _ _=>⟨rfl,rfl,rfl⟩,rfl,rfl⟩
theorem Kept.trans{s t u:bF}(h:Kept s t)(k:Kept t u):Kept s u:=⟨k.sh.trans h.sh,k.len.trans h.len,fun i hi=>by
  have a := h.slot i hi
  have b := k.slot i (by rw [h.len]; exact hi)
  exact ⟨b.1.trans a.1, b.2.1.trans a.2.1, b.2.2.trans a.2.2⟩, k.roots.trans h.roots, k.data.trans h.data⟩
open Go.aN
def IF(s:bF)(x:Slot):Bool:=eI x&&xp s.base (s.base-1) (x.at_,x.len)
def IG(s:bF):Nat:=IW (fun i=>IF s (nth s.slots i)) s.slots.length
def leftD(s:bF):Nat:=if s.base=0 then 1 else 15*(s.base-1).toNat+IG s+2
def uL(s:bF):Bool:=decide (s.mode=3)||decide (s.mode=4)
def zw(s:bF):Nat:=if s.mode=3 then KU s else leftD s
open Go.aN
def J0:Nat→Nat→bF→bF×Nat×Int
 | 0,n,_=>(bn,n,1)
 | f+1,n,s=>if 0<n∧uL s=false then (s,n,0)else if (CU s).2≠0 then (bn,n,(CU s).2)else J0 f (n+1) (CU s).1
def KZ(n:Nat)(s:bF):Nat:=if uL s=true then zw s+1 else 1
def J1(s:bF):bF×Nat×Int:=J0 (KZ 0 s) 0 s
structure O6 (s t:bF) (n k:Nat):Prop where
 right:bL t=true
 kept:Kept s t
 mode:(s.mode=3→t.mode=2∨t.mode=3)∧(s.mode=4→t.mode=1∨t.mode=4)
 left:uL t=true→k+zw t≤n+zw s
 few:k≤n+zw s
def LZ(s:bF):Int:=if s.mode=3 then 9*s.sh.pages+1 else if s.mode=4 then 15*s.sh.pages+1 else 0
def J7(up:Bool):Int:=if up=true then 1 else 2
def toM(up:Bool):Int:=if up=true then 3 else 4
def NO(s:bF)(up:Bool):bF×Int:=if bL s=false then (bn,1)else if s.mode≠J7 up then (bn,12)else if (J1 (sZ s (toM up) 0)).2.2≠0 then (bn,(J1 (sZ s (toM up) 0)).2.2)else (sZ s (toM up) 0,0)
open Go.aN
open Go.aN
def Qf(l:List Int)(x:Int):Int:=if l.contains x=true then (l.idxOf x:Int)else -1
open Go.aN
def Qj:Shape:=⟨4,2,2,30⟩
open Go.aN
open Go.aN
open Go.aN
open Go.aN
open Go.aN
open Go.aN
open Go.aN
open Go.aN
open Go.aN
open Go.aN
open Go.aN
open Go.aN
open Go.aN
open Go.aN
open Go.aN
open Go.aN
open Go.aN
open Go.aN
open Go.aN
attribute [simp] Tryz.f116 Tryz.f118
theorem I5(g:Gl)(l:List Slot)(hl:l.length≤2^40)(k:Int)(hg:∀i,i<l.length → -2^40≤(nth l i).gen∧(nth l i).gen≤2^40):a9 Tryz.prog g 118 [eG l,vI k] (.bK [Fk (iM l k).1,vI (iM l k).2]):=by
 refine xA Tryz.func118 fun B S=>?_
 have q1:l.length*32≤140737488355328:=by omega
 have q2:l.length≤140737488355328:=by omega
 refine xU ?_;refine ay ?_;refine xG [0,1] ?_;refine xO ?_;refine xC (FW g l hl) ?_;refine xH [0,1,6] ?_;refine ab (xU ?_);refine aT ?_;iterate 2 refine xI ?_
 refine xP ?_;refine xB ?_;iterate 4 refine xI ?_
 refine xP ?_;refine xB ?_;iterate 2 refine xI ?_
 refine bg rfl (by simp;exact .mk) rfl (by simp<;>first|omega|grind) (fun hb=>by simp at hb;simp[show 0≤k∧k<l.length from by omega];exact .mk) ?_;refine xI ?_;refine xI ?_ (h:=fun hb=>by simp[aA];exact .mk);refine xI ?_;refine xP ?_;refine xQ [0,1,29] ?_ ?_
 ·intro qd;have hr:iM l k=([],1):=by unfold iM;rw[if_neg];intro h;simp[ka]at h qd;grind
  refine xU ?_;refine bU [4,5] ?_;refine xZ ?_;first|(simp[hr,ai];done)|(simp[hr,ai,List.map_set,iN,aA];try rfl)
 intro qd;have hlv:df l=true∧ka l k=true:=by simp[ka]at qd ⊢;grind
 obtain⟨n,rfl,hn,hnl⟩:=oY hlv.2;have hr:iM l n=(l.set n (iN (nth l n)),0):=by unfold iM;rw[if_pos hlv];rfl
 obtain⟨g1,g2⟩:=hg n hn;have e1:IntKind.i64.wrap ((nth l n).gen+1)=(nth l n).gen+1:=wrap64 (by omega) (by omega);refine af ?_;refine xT ?_;refine ay ?_;refine xO ?_ (h:=by simp[rows,q1,q2];exact .mk);refine xO ?_;refine xG [0,1,7] ?_;refine bx ?_;refine xO ?_ (h:=by simp[aA,hn];exact .mk);refine xO ?_;refine cq ?_;refine xO ?_ (h:=by simp[e1];exact .mk);refine xO ?_;refine aH ?_;refine xO ?_ (h:=by simp[aA,hn];exact .mk);refine xO ?_ (h:=by simp[splice,hn,br,dn,bJ,splice];exact .mk);refine xG [7] ?_;refine dC [4,5] ?_;refine xZ ?_;first|(simp[hr,ai];done)|(simp[hr,ai,List.map_set,iN,aA];try rfl)
theorem I4(g:Gl)(l:List Slot)(hl:l.length≤2^40)(x:Slot):a9 Tryz.prog g 116 [eG l,aA x] (.bK [Fk (c0 l x).1,.agg [vI (c0 l x).2.1.1,vI (c0 l x).2.1.2],vI (c0 l x).2.2]):=by
 refine xA Tryz.func116 fun B S=>?_
 simp only[aA,List.map,aO];have q1:l.length*32≤140737488355328:=by omega
 have q2:l.length≤140737488355328:=by omega
 refine xU ?_;refine bx ?_;refine xG [0,3,5] ?_;refine xO ?_;refine xC (FW g l hl) ?_;refine xH [0,3,5,7] ?_;refine ab (xU ?_);refine ay ?_;refine xQ [0,3,5,16] ?_ ?_
 ·intro h16;have hr:c0 l x=([],(0,0),1):=by unfold c0;rw[if_neg (by simpa using h16)]
  refine xU ?_;refine aH ?_;refine xO ?_;refine aH ?_;refine xH [4,5,6] ?_;refine xZ ?_;first|(simp[hr,ai,List.map_set];done)|(simp[hr,ai,List.map_set,hk];done)|(simp[hr,ai,List.map_set,hk,fV,aA];try rfl)
 intro h16;have ht:df l=true:=by simpa using h16
 refine af ?_;refine xT ?_;refine xO ?_;refine xC (Er g l hl) ?_;refine cW ?_;refine xF [0,3,5,8,9] ?_;refine ab (xU ?_);refine ay ?_;refine xQ [0,3,5,8,24] ?_ ?_
 ·intro cv;have hn:dh l=none:=by simpa using cv
  have hr:c0 l x=([],(0,0),9):=by unfold c0;rw[if_pos ht,hn]
  refine xU ?_;refine aH ?_;refine xO ?_;refine aH ?_;refine xH [4,5,6] ?_;refine xZ ?_;first|(simp[hr,ai,List.map_set];done)|(simp[hr,ai,List.map_set,hk];done)|(simp[hr,ai,List.map_set,hk,fV,aA];try rfl)
 intro cv;obtain⟨k,hk⟩:∃k,dh l=some k:=Option.isSome_iff_exists.1 (by simpa using cv);obtain⟨hkl,_,_⟩:=fv hk;have hkk:(((dh l).getD 0:Nat):Int)=k:=by rw[hk];rfl
 refine af fun _=>?_;refine ab ?_;refine aS (by kernel_rfl) [] 4 [0,1,2,3,4,5,6,7,8,9,10,11,12,13] (by decide +kernel) ?_;refine ay ?_;refine xO ?_ (h:=by simp[aA,hk,hkl];exact .mk);refine xO ?_;refine cq ?_;refine xO ?_;refine cq ?_;refine xO ?_;refine cq ?_;refine xO ?_;refine cq ?_;refine aH ?_;refine xO ?_;refine aH ?_;refine xG [0,5,8,10] ?_;refine cq ?_;refine bA rfl rfl rfl rfl (by simp;exact .mk) (by simp;exact .mk) (by have:=Ew g (fV x (nth l k).gen);exact this) (by simp) (by simp;exact .mk) ?_;refine xH [0,5,8,10,11] ?_;refine ab (xU ?_);refine ay ?_;refine xQ [0,5,8,10,41] ?_ ?_
 ·intro j0;have hr:c0 l x=([],(0,0),1):=by unfold c0;rw[if_pos ht,hk];simp only;rw[if_neg (by simpa using j0)]
  refine xU ?_;refine aH ?_;refine xO ?_;refine aH ?_;refine xH [4,5,6] ?_;refine xZ ?_;first|(simp[hr,ai,List.map_set];done)|(simp[hr,ai,List.map_set,hk];done)|(simp[hr,ai,List.map_set,hk,fV,aA];try rfl)
 intro j0;have hr:c0 l x=(l.set k (fV x (nth l k).gen),((k:Int),(nth l k).gen),0):=by unfold c0;rw[if_pos ht,hk];simp only;rw[if_pos (by simpa using j0)]
 refine af ?_;refine xT ?_;refine ay ?_;refine xO ?_ (h:=by simp[rows,q1,q2];exact .mk);refine xO ?_;refine xG [5,8,10,12] ?_;refine ay ?_;refine cq ?_;refine xO ?_ (h:=by simp[aA,hk,hkl];exact .mk);refine xO ?_ (h:=by simp[splice,hk,hkl,br,dn,bJ,splice];exact .mk);refine xF [5,8,10,12] ?_;refine ab ?_;refine aS (by kernel_rfl) [] 4 [0,1,2,3,4,5,6,7] (by decide +kernel) ?_;refine aT ?_;refine cq ?_;refine aH ?_;refine xO ?_;refine aH ?_;refine xH [4,5,6] ?_;refine xZ ?_;first|(simp[hr,ai,List.map_set];done)|(simp[hr,ai,List.map_set,hk];done)|(simp[hr,ai,List.map_set,hk,fV,aA];try rfl)
open Go.aN
theorem Me(g:Gl)(s:bF)(hs:s.Ok)(k:Int):a9 Tryz.prog g 47 [cr s,vI k] (.bK [ax (fk s k).1,vI (fk s k).2]):=by
 refine xA Tryz.func47 fun B S=>?_
 simp only[cr,List.map,aO,cC];refine xU ?_;refine aT ?_;refine xG [1,2,4] ?_;refine cq ?_;refine xO ?_;refine xC (Es g s hs k) ?_ (hi:=by simp[ax];exact .mk);refine xH [1,2,4,6] ?_;refine ab (xU ?_);refine ay ?_;refine xQ [1,2,4,12] ?_ ?_
 ·intro h12;have hr:fk s k=(bn,1):=by unfold fk;rw[if_neg (by simpa using h12)]
  refine xU ?_;iterate 2 (refine aH ?_)
  refine xH [4,5] ?_;refine ar (aG (by simp[Tryz.f47];exact .mk) (by simp;exact .mk) ?_ (by simp[ax]));simp[Tryz.f47,hr,ax,bn,ai,jR,List.map_set];try exact⟨rfl,rfl⟩
 intro h12;have hlv:fI s k=true:=by simpa using h12
 obtain⟨n,rfl,hn,hnl,hnd,hg⟩:=j9 hlv;have hr:fk s n=(jR s n,0):=by unfold fk;rw[if_pos hlv];rfl
 have hf:iM s.slots n=(s.slots.set n (iN (nth s.slots n)),0):=rN hlv;refine af ?_;refine xT ?_;refine cq ?_;refine xC (xq g s hs) ?_ (hi:=by simp[ax];exact .mk);refine xO ?_;refine aH ?_;refine xG [1,2,4,7] ?_;refine xO ?_;refine cq ?_;refine xO ?_;refine bA rfl rfl rfl rfl (by simp;exact .mk) (by simp;exact .mk) (by have:=I5 g s.slots hs.h1 n hg;rw[hf]at this;exact this) (by simp) (by simp[ax];exact .mk) ?_;refine bx ?_;refine aH ?_;refine xG [1,4,7] ?_;refine xO ?_;refine cq ?_;refine xO ?_;refine xO ?_ (h:=by simp[aA,hnd];exact .mk);refine xO ?_ (h:=by simp[splice,hnd,br,dn,bJ];exact .mk);refine xG [4,7] ?_;refine cq ?_;refine aH ?_;refine xH [4,5] ?_;refine ar (aG (by simp[Tryz.f47];exact .mk) (by simp;exact .mk) ?_ (by simp[ax]));simp[Tryz.f47,hr,ax,bn,ai,jR,List.map_set];try exact⟨rfl,rfl⟩
theorem Md(g:Gl)(s:bF)(hs:s.Ok)(n:Int):a9 Tryz.prog g 46 [cr s,vI n] (.bK [ax (dF s n).1,.agg [vI (dF s n).2.1.1,vI (dF s n).2.1.2],vI (dF s n).2.2]):=by
 refine xA Tryz.func46 fun B S=>?_
 simp only[cr,List.map,aO,cC];refine xU ?_;refine bx ?_;refine xG [1,2,4,5] ?_;refine cq ?_;refine xC (Ah g s hs) ?_ (hi:=by simp[ax];exact .mk);refine xH [1,2,4,5,7] ?_;refine ab (xU ?_);refine aT ?_;refine xI ?_;refine bI rfl (by simp;exact .mk) rfl rfl (by simp) (by simp;exact .mk) (by simp;exact .mk) (fun hb=>Ep g n) (by simp) (by simp[ax];exact .mk) (by simp) ?_;refine xI ?_;refine xP ?_;refine xQ [1,2,4,5,25] ?_ ?_
 ·intro mA;have hr:dF s n=(bn,(0,0),1):=by unfold dF;rw[if_neg];simp at mA ⊢;grind
  refine xU ?_;iterate 4 (refine aH ?_)
  refine xH [4,5,6] ?_;refine ar (aG (by simp[Tryz.f46];exact .mk) (by simp;exact .mk) ?_ (by simp[ax]));first|(simp[Tryz.f46,hr,ax,bn,ai];done)|(simp[Tryz.f46,hr,ax,bn,ai,putAt,d8,List.map_set];try exact⟨rfl,rfl⟩)
 intro mA;have hR:bL s=true∧cV n=true:=by simp at mA;grind
 have hR2:(bL s&&cV n)=true:=by simp[hR]
 have hn:=dY.1 hR.2;refine af ?_;refine xT ?_;refine xO ?_;refine cq ?_;refine xC (Er g s.slots hs.h1) ?_ (hi:=by simp[ax];exact .mk);refine cW ?_;refine xF [1,2,4,5,9] ?_;refine ab (xU ?_);refine ay ?_;refine xQ [1,2,4,5,35] ?_ ?_
 ·intro rt;have hx:dh s.slots=none:=by simpa using rt
  have hr:dF s n=(bn,(0,0),9):=by unfold dF;rw[if_pos hR2,hx]
  refine xU ?_;iterate 4 (refine aH ?_)
  refine xH [4,5,6] ?_;refine ar (aG (by simp[Tryz.f46];exact .mk) (by simp;exact .mk) ?_ (by simp[ax]));first|(simp[Tryz.f46,hr,ax,bn,ai];done)|(simp[Tryz.f46,hr,ax,bn,ai,putAt,d8,List.map_set];try exact⟨rfl,rfl⟩)
 intro rt;obtain⟨k,hk⟩:∃k,dh s.slots=some k:=Option.isSome_iff_exists.1 (by simpa using rt);obtain⟨hkl,hko,_⟩:=fv hk;refine af ?_;refine xT ?_;refine cq ?_;refine xO ?_;refine xC (JP g s hs n) ?_ (hi:=by simp[ax];exact .mk);iterate 7 refine xO ?_
 refine xF [1,2,4,5,10,11,12] ?_;refine ab (xU ?_);refine ay ?_;refine xQ [1,2,4,5,10,11,46] ?_ ?_
 ·intro h46;have hx:b9 s n=none:=by simpa using h46
  have hr:dF s n=(bn,(0,0),10):=by unfold dF;rw[if_pos hR2,hk];simp only;rw[hx]
  refine xU ?_;iterate 4 (refine aH ?_)
  refine xH [4,5,6] ?_;refine ar (aG (by simp[Tryz.f46];exact .mk) (by simp;exact .mk) ?_ (by simp[ax]));first|(simp[Tryz.f46,hr,ax,bn,ai];done)|(simp[Tryz.f46,hr,ax,bn,ai,putAt,d8,List.map_set];try exact⟨rfl,rfl⟩)
 intro h46;obtain⟨p,hp⟩:∃p,b9 s n=some p:=Option.isSome_iff_exists.1 (by simpa using h46);have hr:dF s n=(putAt s k (eh (nth s.slots k).gen n p.1 p.2) (d8 n),((k:Int),(nth s.slots k).gen),0):=by unfold dF;rw[if_pos hR2,hk];simp only;rw[hp]
 obtain⟨two,a⟩:=p;have ht:c0 s.slots ⟨0,false,two,a,n⟩=(s.slots.set k (eh (nth s.slots k).gen n two a),((k:Int),(nth s.slots k).gen),0):=wF hR.1 hR.2 hk hp;have c70:=I4 g s.slots hs.h1 ⟨0,false,two,a,n⟩;rw[ht]at c70;rw[hp];have hkd:k<s.data.length:=by have:=ib (dw hR.1);omega
 have e1:0≤n:=by omega
 have e2:n≤140737488355328:=by omega
 refine af ?_;refine xT ?_;refine cq ?_;refine xC (xq g s hs) ?_ (hi:=by simp[ax];exact .mk);refine xO ?_;refine aH ?_;refine xG [1,2,4,5,10,11,13] ?_;refine xO ?_;refine cq ?_;refine aT ?_;refine aH ?_;refine xC (c70) ?_ (hi:=by simp[ax];exact .mk);iterate 6 refine xO ?_
 refine aH ?_;refine xO ?_;refine xG [1,4,5,13,14,15] ?_;refine ay ?_;refine aH ?_;refine xF [1,4,5,13,15] ?_;refine ab ?_;refine aS (by kernel_rfl) [] 4 [0,1,2,3,4,5,6,7] (by decide +kernel) ?_;refine xO ?_;refine cq ?_;refine xO ?_;refine cq ?_;refine xO ?_;refine xO ?_ (h:=by simp[e1,e2];exact .mk);refine xO ?_ (h:=by simp[aA,hkd];exact .mk);refine xO ?_ (h:=by simp[splice,hkd,br,dn,bJ];exact .mk);refine xF [4,5,13,15] ?_;refine ab ?_;refine jS (hard:=[]) [1,2] (aR (by decide)) (by kernel_rfl) 4 [0,1,2,3,4] [[0,2,1,3,4]] (by decide +kernel) ?_;iterate 2 (refine cq ?_)
 iterate 2 (refine aH ?_)
 refine xO ?_;refine xE [4,5,6] ?_;refine⟨_,rfl,⟨?_,trivial⟩,?_⟩
 ·skip
  refine cq ?_;refine aH ?_;refine cq ?_;refine aH ?_;refine xO ?_;refine xE [4,5,6] ?_;exact Weak.perm [0,1,2,3,4,5,6,7,8,9] [0,1,2,3,4,5,6,7,8,9] rfl rfl rfl
 rintro -;refine ar (aG (by simp[Tryz.f46];exact .mk) (by simp;exact .mk) ?_ (by simp[ax]));first|(simp[Tryz.f46,hr,ax,bn,ai];done)|(simp[Tryz.f46,hr,ax,bn,ai,putAt,d8,List.map_set];try exact⟨rfl,rfl⟩)
open Go.aN
@[simp] theorem Ls:xy Tryz.prog 106=true:=by kernel_rfl
@[simp] theorem Mx:xy Tryz.prog 98=true:=by kernel_rfl
def LQ(a b:ik):Bool:=a.at_==b.at_&&(a.len==b.len&&a.slot==b.slot)
def LR(a b:Int×Int):Bool:=a.1==b.1&&a.2==b.2
end Go.Proofs
namespace Go.Proofs
open Go.Lib Go.aN
def th(d:List UInt8)(n:Int)(i:Nat):List UInt8:=d.take i++List.replicate (n.toNat-i) 0
theorem Cm{d:List UInt8}{n:Int}{i:Nat}(h1:i≤n.toNat)(h2:i≤d.length):(th d n i).length=n.toNat:=by simp[th];omega
theorem G9{d:List UInt8}{n:Int}:th d n 0=List.replicate n.toNat 0:=by simp[th]
theorem Ha{d:List UInt8}{n:Int}{i:Nat}(h1:i<n.toNat)(h2:i<d.length):(th d n i).set i (nth d i)=th d n (i+1):=by
 unfold th;rw[take_succ h2,List.set_append_right _ _ (by simp;omega),List.append_assoc];congr 1;rw[show n.toNat-i=(n.toNat-(i+1))+1 by omega,List.replicate_succ];rw[show i-(d.take i).length=0 by simp;omega];rfl
theorem Cl{d:List UInt8}{n:Int}{i:Nat}(h1:i≤n.toNat)(h2:i≤d.length)(h:¬(i<n.toNat∧i<d.length)):th d n i=nq d n:=by
 unfold th nq;rcases Nat.lt_or_ge i n.toNat with h3|h3
 ·obtain rfl:i=d.length:=by omega
  rw[List.take_of_length_le (Nat.le_refl _),List.take_of_length_le (by omega)]
 ·obtain rfl:i=n.toNat:=by omega
  rw[show n.toNat-n.toNat=n.toNat-d.length by omega]
set_option maxHeartbeats 4000000
set_option maxRecDepth 4000
open Go.aN
theorem Mf(g:Gl)(s:bF)(hs:s.Ok)(k n:Int):a9 Tryz.prog g 48 [cr s,vI k,vI n] (.bK [ax (gq s k n).1,vI (gq s k n).2]):=by
 refine xA Tryz.func48 fun B S=>?_
 simp only[cr,List.map,aO,cC];refine xU ?_;refine aT ?_;refine xG [1,2,3,6] ?_;refine cq ?_;refine xO ?_;refine xC (Es g s hs k) ?_ (he:=by simp[au,Function.comp_def];exact .mk) (hi:=by simp[ax];exact .mk);refine xH [1,2,3,6,8] ?_;refine ab (xU ?_);refine aT ?_;refine xI ?_;refine bI rfl (by simp;exact .mk) rfl rfl (by simp) (by simp;exact .mk) (by simp[au,Function.comp_def];exact .mk) (fun hb=>Ep g n) (by simp) (by simp[ax];exact .mk) (by simp) ?_;refine xI ?_;refine xP ?_;refine xQ [1,2,3,6,25] ?_ ?_
 ·intro mA;have hr:gq s k n=(bn,1):=by unfold gq;rw[if_neg];simp at mA ⊢;grind
  refine xU ?_;iterate 2 (refine aH ?_)
  refine xH [6,7] ?_;refine ar (aG (by simp[Tryz.f48];exact .mk) (by simp;exact .mk) ?_ (by simp[ax]));first|(simp[Tryz.f48,hr,ax,bn,ai];done)|(simp[Tryz.f48,hr,ax,bn,ai,putAt,d8,List.map_set];try exact⟨rfl,rfl⟩)
 intro mA;have hR:fI s k=true∧cV n=true:=by simp at mA;grind
 have hR2:(fI s k&&cV n)=true:=by simp[hR]
 have hn:=dY.1 hR.2;obtain⟨m,rfl,hm,hml,hmd,hg⟩:=j9 hR.1;have e1:0≤n:=by omega
 have e2:n≤140737488355328:=by omega
 have hz:(nq (nth s.data m) n).length=n.toNat:=by have:=ou (d:=nth s.data m) e1;omega
 have hr0:gq s m n=(if bL (eb s m n)=true then (eb s m n,(0:Int))else match b9 s n with
   | none => (bn, 10)
   | some p => (j6 (eb s m n) m p.1 p.2, 0)) := by unfold gq; rw [if_pos hR2]; rfl
 refine af ?_;refine xT ?_;refine cq ?_;refine xC (xq g s hs) ?_ (he:=by simp[au,Function.comp_def];exact .mk) (hi:=by simp[ax];exact .mk);refine xO ?_;refine aH ?_;refine xG [1,2,3,6,9] ?_;refine xO ?_;refine xO ?_ (h:=by simp[e1,e2];exact .mk);refine xH [1,2,3,6,9,10] ?_;refine ab (xU ?_);refine xH [1,2,3,6,9,10,11] ?_;refine ag (aB (fun m' σ o=>∃i:Nat,m'=n.toNat-i∧i≤n.toNat∧i≤(nth s.data m).length∧σ=slots [(1,.d (vI m)),(2,.d (vI n)),(3,.ptr 0 0 0),(6,.ptr 1 0 0),(9,.ptr 5 0 0),(10,.hdr 6 0 n.toNat),(11,.d (vI i))]∧o=[.var 28 [.d (vI s.sh.pages),.d (vI s.sh.slots),.d (vI s.sh.roots),.d (vI s.sh.room),.d (vI s.mode),.d (vI s.base),.d (eG s.slots),.d (rR s.roots),.d (fL s.data)],.var 28 [.d (vI 0),.d (vI 0),.d (vI 0),.d (vI 0),.d (vI 0),.d (vI 0),.d (.v (.slice none 0 0)),.d (.v (.slice none 0 0)),.d (.v (.slice none 0 0))],.row 5 (s.slots.map aA),.row 3 (s.roots.map ak),.row 1 (s.data.map oB),.var 28 [.d (vI s.sh.pages),.d (vI s.sh.slots),.d (vI s.sh.roots),.d (vI s.sh.room),.d (vI s.mode),.d (vI s.base),.hdr 2 0 s.slots.length,.hdr 3 0 s.roots.length,.hdr 4 0 s.data.length],.row 1 ((th (nth s.data m) n i).map vB)]) n.toNat .refl ⟨0,by simp,by simp,by simp,rfl,by rw[G9];simp⟩ ?_);rintro m' σ o ⟨i,rfl,hi,hid,rfl,rfl⟩ _;have Kj:=Cm hi hid;refine ab (xU ?_);refine bx ?_;iterate 2 refine xI ?_
 refine xI ?_ (h:=fun hb=>by simp[aA];exact .mk);refine xI ?_;refine xI ?_ (h:=fun hb=>by simp[hmd];exact .mk);refine xI ?_ (h:=fun hb=>by simp[-List.getElem?_map,ao hmd];exact .mk);iterate 2 refine xI ?_
 refine xP ?_;refine xQ [1,2,3,6,9,10,11,43] ?_ ?_
 ·intro h43;have hi2:i<n.toNat∧i<(nth s.data m).length:=by simp at h43;omega
  obtain⟨hi3,hi4⟩:=hi2;have hi5:(i:Int)<max n 0:=by omega
  refine af fun _=>?_;refine ab (ag ?_);refine xY ?_;refine aT ?_;refine cq ?_;refine xO ?_;refine xO ?_ (h:=by simp[aA,hmd];exact .mk);refine xO ?_ (h:=by simp[-List.getElem?_map,ao hmd];exact .mk);refine xO ?_;refine xO ?_ (h:=by simp[aA,hi4];exact .mk);refine xO ?_ (h:=by simp[-List.getElem?_map,ao hi4];exact .mk);refine xO ?_ (h:=by simp[aA,Kj,hi3,hi5];exact .mk);refine xO ?_ (h:=by simp[splice,Kj,hi3,hi5,br,dn,bJ,splice];exact .mk);refine xF [1,2,3,6,9,10,11] ?_;refine xY ?_;refine aT ?_;refine xE [1,2,3,6,9,10,11] ?_;refine ah [1,2,3,6,9,10,11] ?_;refine ae (m':=n.toNat-(i+1)) (by omega) ⟨i+1,rfl,by omega,by omega,?_,?_⟩
  ·rw[wrap64 (by omega) (by omega)];rfl
  rw[←Ha hi3 hi4,List.map_set]
 intro h43;have hi2:¬(i<n.toNat∧i<(nth s.data m).length):=by simp at h43;omega
 rw[Cl hi hid hi2];refine aP (xT ?_);refine xO ?_;refine cq ?_;refine ay ?_;refine xO ?_ (h:=by simp[aA,hmd];exact .mk);refine xO ?_ (h:=by simp[splice,hz, -List.getElem?_map,ao hmd];exact .mk);refine xE [1,2,3,6,9] ?_
 erw [tX]
 simp only[vJ];obtain⟨DL,Kf⟩:∃x,x=s.data.set m (nq (nth s.data m) n):=⟨_,rfl⟩;rw[show s.data.length=(s.data.set m (nq (nth s.data m) n)).length by simp,←Kf];refine xT ?_;refine xO ?_;refine cq ?_;refine ay ?_;refine xO ?_ (h:=by simp[aA,hm];exact .mk);refine xO ?_;refine xO ?_ (h:=by simp[-List.getElem?_map,ao hm,aA,br,dn,bJ,splice];exact .mk);refine xE [1,2,3,6,9] ?_;simp only[vK];obtain⟨SL,HU⟩:∃x,x=s.slots.set m (uJ (nth s.slots m) n):=⟨_,rfl⟩;rw[show s.slots.length=(s.slots.set m (uJ (nth s.slots m) n)).length by simp,←HU];have hX:eb s m n=⟨s.sh,s.mode,s.base,SL,s.roots,DL⟩:=by rw[HU,Kf];rfl
 have LA:m<SL.length:=by rw[HU];simpa using hm
 refine xT ?_;refine cq ?_;refine bA rfl rfl rfl rfl (by simp;exact .mk) (by simp[au,Function.comp_def];exact .mk) (by have:=Ah g (eb s m n) (km hs hn);rw[hX]at this;exact this) (by simp) (by simp[ax];exact .mk) ?_;refine xH [1,2,3,6,9,12] ?_;refine ab (xU ?_);refine xO ?_;refine xQ [1,2,3,6,9,70] ?_ ?_
 ·intro Gu;have hr:gq s m n=(⟨s.sh,s.mode,s.base,SL,s.roots,DL⟩,0):=by rw[hr0,hX,if_pos (by simpa using Gu)]
  refine xU ?_;refine cq ?_;refine aH ?_;refine xH [6,7] ?_;refine ar (aG (by simp[Tryz.f48];exact .mk) (by simp;exact .mk) ?_ (by simp[ax]));first|(simp[Tryz.f48,hr,ax,bn,ai];done)|(simp[Tryz.f48,hr,ax,bn,ai,putAt,d8,List.map_set];try exact⟨rfl,rfl⟩)
 intro Gu;rw[hX,if_neg (by simpa using Gu)]at hr0;refine af ?_;refine xT ?_;refine cq ?_;refine xO ?_;refine xC (JP g s hs n) ?_ (he:=by simp[au,Function.comp_def];exact .mk) (hi:=by simp[ax];exact .mk);iterate 7 refine xO ?_
 refine xF [1,6,9,13,14,15] ?_;refine ab (xU ?_);refine ay ?_;refine xQ [1,6,9,13,14,80] ?_ ?_
 ·intro h80;have hx:b9 s n=none:=by simpa using h80
  rw[hx]at hr0;have hr:=hr0;refine xU ?_;iterate 2 (refine aH ?_)
  refine xH [6,7] ?_;refine ar (aG (by simp[Tryz.f48];exact .mk) (by simp;exact .mk) ?_ (by simp[ax]));first|(simp[Tryz.f48,hr,ax,bn,ai];done)|(simp[Tryz.f48,hr,ax,bn,ai,putAt,d8,List.map_set];try exact⟨rfl,rfl⟩)
 intro h80;obtain⟨p,hp⟩:∃p,b9 s n=some p:=Option.isSome_iff_exists.1 (by simpa using h80);rw[hp]at hr0 ⊢;obtain⟨two,a⟩:=p;refine af ?_;refine xT ?_;refine xO ?_;refine cq ?_;refine ay ?_;refine xO ?_ (h:=by simp[aA,LA];exact .mk);refine xO ?_;refine xO ?_ (h:=by simp[-List.getElem?_map,ao LA,aA,br,dn,bJ,splice];exact .mk);refine xE [1,6,9,14] ?_;simp only[DN];obtain⟨SM,hSM⟩:∃x,x=SL.set m (Bf (nth SL m) two):=⟨_,rfl⟩;rw[show SL.length=(SL.set m (Bf (nth SL m) two)).length by simp,←hSM];have Oa:m<SM.length:=by rw[hSM];simpa using LA
 refine xT ?_;refine xO ?_;refine cq ?_;refine ay ?_;refine xO ?_ (h:=by simp[aA,Oa];exact .mk);refine xO ?_;refine xO ?_ (h:=by simp[-List.getElem?_map,ao Oa,aA,br,dn,bJ,splice];exact .mk);refine xE [6,9] ?_;simp only[DM];obtain⟨SN,N9⟩:∃x,x=SM.set m (CG (nth SM m) a):=⟨_,rfl⟩;rw[show SM.length=(SM.set m (CG (nth SM m) a)).length by simp,←N9];have hr:gq s m n=(⟨s.sh,s.mode,s.base,SN,s.roots,DL⟩,0):=by rw[hr0,N9,hSM,DZ LA];rfl
 refine xT ?_;refine cq ?_;refine aH ?_;refine xH [6,7] ?_;refine ar (aG (by simp[Tryz.f48];exact .mk) (by simp;exact .mk) ?_ (by simp[ax]));first|(simp[Tryz.f48,hr,ax,bn,ai];done)|(simp[Tryz.f48,hr,ax,bn,ai,putAt,d8,List.map_set];try exact⟨rfl,rfl⟩)
open Go.aN
def xa(s:bF)(i:Nat):List UInt8:=if (nth s.slots i).live&&decide (i<s.data.length)then nth s.data i else []
def AD(s:bF)(i:Nat):List (List UInt8):=(List.range i).map (xa s)
def Cv(s:bF)(i:Nat):List Int:=(List.range i).map fun j=>(nth s.slots j).gen
def cO(s:bF):dp:=⟨Cv s s.slots.length,AD s s.slots.length,s.roots⟩
theorem ln{s:bF}{i:Nat}:AD s (i+1)=AD s i++[xa s i]:=by simp[AD,List.range_succ]
theorem lq{s:bF}{i:Nat}:Cv s (i+1)=Cv s i++[(nth s.slots i).gen]:=by simp[Cv,List.range_succ]
@[simp] theorem LJ{s:bF}{i:Nat}:(AD s i).length=i:=by simp[AD]
@[simp] theorem LK{s:bF}{i:Nat}:(Cv s i).length=i:=by simp[Cv]
open Go.aN
attribute [simp] Tryz.f177
theorem Jk(g:Gl)(a:dp)(ha:a.Ok):a9 Tryz.prog g 177 [mz a] (.v (.bool (bH a))):=by
 refine xA Tryz.func177 fun B S=>?_
 simp only[mz,List.map,aO];have q1:=ha.h1;refine xU ?_;refine bU [1] ?_;refine ab (xU ?_);iterate 8 refine xO ?_
 iterate 4 refine xI ?_
 refine xP ?_;refine xB ?_;iterate 4 refine xI ?_
 refine xP ?_;refine xB ?_;iterate 5 refine xI ?_
 refine xP ?_;refine xQ [1,29] ?_ ?_
 ·intro qd;have hr:bH a=false:=t0 (by simp[hZ]at *;omega);refine xU ?_;refine xH [2] ?_;refine xZ ?_;simp[hr]
 intro qd;have h0:hZ a=true:=by simp[hZ]at *;omega
 have hgd:a.aw.length=a.data.length:=by simp[hZ]at h0;omega
 refine af fun _=>?_;refine ab (xU ?_);refine xH [1,3] ?_;refine ag (aB (fun m σ o=>∃i:Nat,m=a.aw.length-i∧i≤a.aw.length∧(∀j,j<i→ig a j=true)∧σ=slots [(1,.ptr 0 0 0),(3,.d (vI i))]∧o=[.var 67 [.d (rI a.aw),.d (fL a.data),.d (rR a.roots)]]) a.aw.length .refl ⟨0,by simp,by simp,by simp,rfl,rfl⟩ ?_);rintro m σ o ⟨i,rfl,hi,hinv,rfl,rfl⟩ _;refine ab (xU ?_);refine cW ?_;refine xQ [1,3,34] ?_ ?_
 ·intro DO;have hi2:i<a.aw.length:=by simpa using DO
  have hi3:i<a.data.length:=by omega
  refine af fun _=>?_;refine ab (ag ?_);refine xU ?_;refine aT ?_;refine xO ?_ (h:=by simp[hi2];exact .mk);refine xO ?_ (h:=by simp[-List.getElem?_map,ao hi2];exact .mk);refine ay ?_;iterate 3 refine xI ?_
  refine xI ?_ (h:=fun hb=>by simp[hi2];exact .mk);refine xI ?_ (h:=fun hb=>by simp[-List.getElem?_map,ao hi2];exact .mk);refine xI ?_;refine xP ?_;refine xB ?_;iterate 3 refine xI ?_
  refine xI ?_ (h:=fun hb=>by simp[hi3];exact .mk);refine xI ?_ (h:=fun hb=>by simp[-List.getElem?_map,ao hi3];exact .mk);iterate 2 refine xI ?_
  refine xP ?_;refine xQ [1,3,59] ?_ ?_
  ·intro mB;have hr:bH a=false:=tZ hi2 (by simp[ig]at *;omega);refine xU ?_;refine xH [2] ?_;refine xZ ?_;simp[hr]
  intro mB;refine af fun _=>?_;refine xY ?_;refine aT ?_;refine xE [1,3] ?_;refine ah [1,3] ?_;refine ae (m':=a.aw.length-(i+1)) (by omega) ⟨i+1,rfl,by omega,?_,?_,rfl⟩
  ·intro j hj;rcases Nat.lt_succ_iff_lt_or_eq.1 hj with hj|rfl
   ·exact hinv j hj
   simp[ig]at *;omega
  rw[wrap64 (by omega) (by omega)];rfl
 intro DO;have hr:bH a=ck a.roots:=sD h0 (fun j hj=>hinv j (by simp at DO;omega));refine aP (xT ?_);refine ay ?_;refine xC (FX g _ ha.h3) ?_;refine xH [2] ?_;refine xZ ?_;simp[hr]
open Go.aN
theorem I7(g:Gl)(s:bF)(hs:s.Ok):a9 Tryz.prog g 131 [cr s] (aJ (cO s)):=by
 refine xA Tryz.func131 fun B S=>?_
 simp only[cr,List.map,aO,cC];have q1:=hs.h1;have q2:=hs.h2;have q3:=hs.h3;have e3:s.roots.length*32≤140737488355328:=by omega
 have e4':s.roots.length≤140737488355328:=by omega
 refine xU ?_;refine ay ?_;refine xG [1,2] ?_;refine ay ?_;refine xO ?_ (h:=by simp[aA,ak];exact .mk);refine xO ?_ (h:=by simp[rows,e3,e4'];exact .mk);refine aH ?_;refine xO ?_;refine aH ?_;refine xE [1,2,3] ?_;simp only[au];rintro -;refine ab (xU ?_);refine xH [1,2,3,4] ?_;refine ag ?_
 refine aB (fun m σ o=>∃i:Nat,m=s.slots.length-i∧i≤s.slots.length∧σ=slots [(1,.ptr 0 0 0),(2,.ptr 1 0 0),(3,.ptr 4 0 0),(4,.d (vI i))]∧o=[.var 28 [.d (vI s.sh.pages),.d (vI s.sh.slots),.d (vI s.sh.roots),.d (vI s.sh.room),.d (vI s.mode),.d (vI s.base),.d (eG s.slots),.d (rR s.roots),.d (fL s.data)],.var 67 [.d (.v (.slice none 0 0)),.d (.v (.slice none 0 0)),.d (.v (.slice none 0 0))],.dead,.row 3 (s.roots.map ak),.var 67 [.hdr 5 0 i,.hdr 6 0 i,.hdr 3 0 s.roots.length],.row 1 ((Cv s i).map vI),.row 1 ((AD s i).map oB)]) s.slots.length
  (Weak.trans (Weak.kR 4 0 1 rfl rfl) (Weak.kR 4 1 1 rfl rfl) (fun _ _ _ h1 h2=>by rw[←h1.len];exact h2)) ⟨0,by simp,by simp,by simp,by simp[Cv,AD]⟩ ?_
 rintro m σ o ⟨i,rfl,hi,rfl,rfl⟩ _;refine ab (xU ?_);refine ay ?_;refine xO ?_ (h:=by simp[aA,ak];exact .mk);refine ay ?_;refine xQ [1,2,3,4,15] ?_ ?_
 ·intro jY;have hi2:i<s.slots.length:=by simpa using jY
  have e4:(i+1)*16≤140737488355328:=by omega
  have e5:i≤140737488355327:=by omega
  have e6:(i+1)*8≤140737488355328:=by omega
  have e7:(i+1)*24≤140737488355328:=by omega
  refine af fun _=>?_;refine ab (ag ?_);refine ab ?_;refine il (hard:=[]) [1,8] (aR (by decide)) (by kernel_rfl) 4 [[0,1,2,3,4,5,6,7,8,9,10,11],[0,2,3,4,5,6,7,8,1,9,10,11]] (by decide +kernel) ⟨?_,?_,trivial⟩
  ·skip
   refine xO ?_;refine xO ?_ (h:=by simp[aA,ak];exact .mk);refine xO ?_;refine xO ?_ (h:=by simp[aA,ak];exact .mk);refine xO ?_;refine xO ?_ (h:=by simp[aA,ak,hi2];exact .mk);refine xO ?_;refine xO ?_ (h:=by simp[-List.getElem?_map,ao hi2,aA];exact .mk);refine xO ?_;refine xO ?_ (h:=by simp[rows,e4,e5,e6,e7];exact .mk);refine xO ?_;refine aH ?_;refine xE [1,2,3,4] ?_;simp only[au];refine xT ?_;refine xH [1,2,3,4,5] ?_;refine ab (xU ?_);refine xO ?_;refine xO ?_ (h:=by simp[aA,ak];exact .mk);refine xO ?_;refine xO ?_ (h:=by simp[aA,ak,hi2];exact .mk);refine xO ?_;refine xO ?_ (h:=by simp[-List.getElem?_map,ao hi2,aA];exact .mk);refine xO ?_;iterate 2 refine xI ?_
   refine xI ?_ (h:=fun hb=>by simp[aA,ak];exact .mk);iterate 2 refine xI ?_
   refine xP ?_;refine xQ [1,2,3,4,5,41] ?_ ?_
   ·intro j0;have hc:(nth s.slots i).live=true∧i<s.data.length:=by simpa using j0
    have hx:xa s i=nth s.data i:=by unfold xa;rw[if_pos (by simpa using hc)]
    have hd:=hc.2;have hb:=hs.h4 i hd;have f1:(nth s.data i).length≤140737488355328:=by omega
    refine xY ?_;refine ay ?_;refine xO ?_ (h:=by simp[aA,ak];exact .mk);refine xO ?_;refine xO ?_ (h:=by simp[aA,ak,hd];exact .mk);refine xO ?_ (h:=by simp[-List.getElem?_map,ao hd];exact .mk);refine xO ?_ (h:=by simp[rows,f1];exact .mk);refine xH [1,2,3,4,5] ?_;refine xY ?_;refine xO ?_;refine xO ?_ (h:=by simp[aA,ak];exact .mk);refine ay ?_;refine xO ?_ (h:=by simp[rows,e4,e5,e6,e7,D.cE];exact .mk);refine xO ?_;refine aH ?_;refine xF [1,2,3,4] ?_;refine xY ?_;refine aT ?_;refine xE [1,2,3,4] ?_;refine ah [1,2,3,4] ?_;refine aD [1,2,3,4] rfl ?_;refine aC 5 8 1 (by decide) (by simp) (by decide) rfl rfl ?_;first
    | (refine aC 6 12 1 (by decide) (by simp) (by decide) rfl rfl ?_
       refine aq 7 [1,2,3,4] (by decide) (by rfl) (by rfl) ?_
       refine ae (m' := s.slots.length - (i+1)) (by omega) ⟨i+1, rfl, by omega, by rw [wrap64 (by omega) (by omega)]; rfl, by rw [ln, lq, hx]; simp; try rfl⟩)
    | (refine aC 6 11 1 (by decide) (by simp) (by decide) rfl rfl ?_
       refine aq 7 [1,2,3,4] (by decide) (by rfl) (by rfl) ?_
       refine ae (m' := s.slots.length - (i+1)) (by omega) ⟨i+1, rfl, by omega, by rw [wrap64 (by omega) (by omega)]; rfl, by rw [ln, lq, hx]; simp; try rfl⟩)
   intro j0;have hc:¬((nth s.slots i).live&&decide (i<s.data.length))=true:=by simpa using j0
   have hx:xa s i=[]:=by unfold xa;rw[if_neg hc]
   refine fq (Weak.dJ 5 1 rfl) ?_;refine af fun _=>?_;refine xY ?_;refine xO ?_;refine xO ?_ (h:=by simp[aA,ak];exact .mk);refine ay ?_;refine xO ?_ (h:=by simp[rows,e4,e5,e6,e7,D.cE];exact .mk);refine xO ?_;refine aH ?_;refine xF [1,2,3,4] ?_;refine xY ?_;refine aT ?_;refine xE [1,2,3,4] ?_;refine ah [1,2,3,4] ?_;refine aD [1,2,3,4] rfl ?_;refine aC 5 8 1 (by decide) (by simp) (by decide) rfl rfl ?_;first
   | (refine aC 6 12 1 (by decide) (by simp) (by decide) rfl rfl ?_
      refine aq 7 [1,2,3,4] (by decide) (by rfl) (by rfl) ?_
      refine ae (m' := s.slots.length - (i+1)) (by omega) ⟨i+1, rfl, by omega, by rw [wrap64 (by omega) (by omega)]; rfl, by rw [ln, lq, hx]; simp; try rfl⟩)
   | (refine aC 6 11 1 (by decide) (by simp) (by decide) rfl rfl ?_
      refine aq 7 [1,2,3,4] (by decide) (by rfl) (by rfl) ?_
      refine ae (m' := s.slots.length - (i+1)) (by omega) ⟨i+1, rfl, by omega, by rw [wrap64 (by omega) (by omega)]; rfl, by rw [ln, lq, hx]; simp; try rfl⟩)
  skip
  refine ay ?_;refine xO ?_ (h:=by simp[aA,ak];exact .mk);refine xO ?_;refine xO ?_ (h:=by simp[aA,ak,hi2];exact .mk);refine xO ?_;refine xO ?_ (h:=by simp[-List.getElem?_map,ao hi2,aA];exact .mk);refine xO ?_;refine xO ?_ (h:=by simp[aA,ak];exact .mk);refine xO ?_ (h:=by simp[rows,e4,e5,e6,e7];exact .mk);refine xO ?_;refine aH ?_;refine xE [1,2,3,4] ?_;simp only[au];refine xT ?_;refine xH [1,2,3,4,5] ?_;refine ab (xU ?_);refine xO ?_;refine xO ?_ (h:=by simp[aA,ak];exact .mk);refine xO ?_;refine xO ?_ (h:=by simp[aA,ak,hi2];exact .mk);refine xO ?_;refine xO ?_ (h:=by simp[-List.getElem?_map,ao hi2,aA];exact .mk);refine xO ?_;iterate 2 refine xI ?_
  refine xI ?_ (h:=fun hb=>by simp[aA,ak];exact .mk);iterate 2 refine xI ?_
  refine xP ?_;refine xQ [1,2,3,4,5,41] ?_ ?_
  ·intro j0;have hc:(nth s.slots i).live=true∧i<s.data.length:=by simpa using j0
   have hx:xa s i=nth s.data i:=by unfold xa;rw[if_pos (by simpa using hc)]
   have hd:=hc.2;have hb:=hs.h4 i hd;have f1:(nth s.data i).length≤140737488355328:=by omega
   refine xY ?_;refine ay ?_;refine xO ?_ (h:=by simp[aA,ak];exact .mk);refine xO ?_;refine xO ?_ (h:=by simp[aA,ak,hd];exact .mk);refine xO ?_ (h:=by simp[-List.getElem?_map,ao hd];exact .mk);refine xO ?_ (h:=by simp[rows,f1];exact .mk);refine xH [1,2,3,4,5] ?_;refine xY ?_;refine xO ?_;refine xO ?_ (h:=by simp[aA,ak];exact .mk);refine ay ?_;refine xO ?_ (h:=by simp[rows,e4,e5,e6,e7,D.cE];exact .mk);refine xO ?_;refine aH ?_;refine xF [1,2,3,4] ?_;refine xY ?_;refine aT ?_;refine xE [1,2,3,4] ?_;refine ah [1,2,3,4] ?_;refine aD [1,2,3,4] rfl ?_;refine aC 5 8 1 (by decide) (by simp) (by decide) rfl rfl ?_;first
   | (refine aC 6 12 1 (by decide) (by simp) (by decide) rfl rfl ?_
      refine aq 7 [1,2,3,4] (by decide) (by rfl) (by rfl) ?_
      refine ae (m' := s.slots.length - (i+1)) (by omega) ⟨i+1, rfl, by omega, by rw [wrap64 (by omega) (by omega)]; rfl, by rw [ln, lq, hx]; simp; try rfl⟩)
   | (refine aC 6 11 1 (by decide) (by simp) (by decide) rfl rfl ?_
      refine aq 7 [1,2,3,4] (by decide) (by rfl) (by rfl) ?_
      refine ae (m' := s.slots.length - (i+1)) (by omega) ⟨i+1, rfl, by omega, by rw [wrap64 (by omega) (by omega)]; rfl, by rw [ln, lq, hx]; simp; try rfl⟩)
  intro j0;have hc:¬((nth s.slots i).live&&decide (i<s.data.length))=true:=by simpa using j0
  have hx:xa s i=[]:=by unfold xa;rw[if_neg hc]
  refine fq (Weak.dJ 5 1 rfl) ?_;refine af fun _=>?_;refine xY ?_;refine xO ?_;refine xO ?_ (h:=by simp[aA,ak];exact .mk);refine ay ?_;refine xO ?_ (h:=by simp[rows,e4,e5,e6,e7,D.cE];exact .mk);refine xO ?_;refine aH ?_;refine xF [1,2,3,4] ?_;refine xY ?_;refine aT ?_;refine xE [1,2,3,4] ?_;refine ah [1,2,3,4] ?_;refine aD [1,2,3,4] rfl ?_;refine aC 5 8 1 (by decide) (by simp) (by decide) rfl rfl ?_;first
  | (refine aC 6 12 1 (by decide) (by simp) (by decide) rfl rfl ?_
     refine aq 7 [1,2,3,4] (by decide) (by rfl) (by rfl) ?_
     refine ae (m' := s.slots.length - (i+1)) (by omega) ⟨i+1, rfl, by omega, by rw [wrap64 (by omega) (by omega)]; rfl, by rw [ln, lq, hx]; simp; try rfl⟩)
  | (refine aC 6 11 1 (by decide) (by simp) (by decide) rfl rfl ?_
     refine aq 7 [1,2,3,4] (by decide) (by rfl) (by rfl) ?_
     refine ae (m' := s.slots.length - (i+1)) (by omega) ⟨i+1, rfl, by omega, by rw [wrap64 (by omega) (by omega)]; rfl, by rw [ln, lq, hx]; simp; try rfl⟩)
 intro jY;obtain rfl:i=s.slots.length:=by simp at jY;omega
 refine aP (xT ?_);refine xO ?_ (h:=by simp[aA,ak];exact .mk);refine aH ?_;refine xF [2] ?_;refine ar (aG (by simp[Tryz.f131];exact .mk) (by simp;exact .mk) ?_ (by simp[aJ]));simp[Tryz.f131,aJ,cO,ai]
open Go.aN
theorem tY{len:Nat}{off n:Int}(h:len≤2^40):(decide (0≤off)&&(decide (off≤(len:Int))&&(decide (0≤n)&&decide (n≤IntKind.i64.wrap ((len:Int)-off)))))=cx len off n:=by
 by_cases h1:off<0
 ·simp[cx,h1];omega
 by_cases h2:(len:Int)<off
 ·simp[cx,h2];omega
 rw[wrap64 (by omega) (by omega)];simp only[cx,h1,h2];rw[Bool.eq_iff_iff];simp;omega
theorem lJ{l:List Root}{nm:ByteArray}(h:(bO l nm).2=0):(bO l nm).1=cD l nm:=by
 unfold bO at h ⊢;by_cases q1:ck l=false
 ·simp[q1]at h
 by_cases q2:cu nm=false
 ·simp[q1,q2]at h
 rw[if_neg q1,if_neg q2]
end Go.Proofs
