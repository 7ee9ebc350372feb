/- Contracts of the program's functions and plain facts, for arguments as each lemma says. -/
import Derived.Test.YtokgokbgidgfeaaGreatAwpD
import Derived.Test.YtokgokbgidgfeaaGreatCB
import Derived.Test.YtokgokbgidgfeaaGreatCA
set_option linter.all false
set_option maxHeartbeats 4000000
set_option maxRecDepth 4000
namespace Go.Proofs
open Go.aN
attribute [simp] Tryz.f141 Tryz.f199
theorem KL(g:Gl)(o0 o1 o2 o3 o4:aN.Obj)(pages:Int)(l:List (Int×Int)):∀B S,a7 Tryz.prog g B S ⟨5,true⟩ 199 [.d (vI pages),.d (rO l)] [o0,o1,o2,o3,o4]
    (fun x r=>x = .fn (.func 231) [] [.ptr 6 0 0,.ptr 5 0 0]∧r=[o0,o1,o2,o3,o4,.var 3 [.d (vI pages)],.var 32 [.d (rO l)]]):=by
 refine aL Tryz.func199 rfl (Nat.le_of_ble_eq_true rfl) fun B S=>?_
 refine xU ?_;refine aT ?_;refine xE [2,3] ?_;refine xT ?_;refine ay ?_;refine xE [4] fun _=>?_;refine ar (al (by simp;exact .mk) ?_ ?_)
 ·simp
 simp
theorem E7(g:Gl)(pages:Int)(l:List (Int×Int))(hl:l.length≤2^40)(ho:∀i,i<l.length→(nth l i).1≤2^40):∀B S,a7 Tryz.prog g B S ⟨0,true⟩ 141 [.d (vI pages),.d (rO l)] [] (fun x r=>(match cR pages l with
    | some y => x = .bK [.ptr 3 0 0, .d (vT true)] ∧ r = [.var 157 [.ptr 3 0 0], .var 4 [.d (vT true)], .row 1 (y.1.map vI), .var 163 (AV.hdr 2 0 pages.toNat :: y.2.map cU)]
    | none => x = .bK [.d (.v (.pointer none)), .d (vT false)] ∧ r = [])) := by
 refine ma Tryz.func141 rfl (Nat.le_of_ble_eq_true rfl) fun B S=>?_
 refine cd ?_;refine cB rfl ?_ (by decide +kernel);refine ay ?_;refine xE [0,1,4,5] fun _=>?_;refine cd ?_;refine cd ?_;refine cB rfl ?_ (by decide +kernel);refine aT ?_;iterate 2 refine xI ?_
 refine xP ?_;refine xE [0,1,4,5,15] fun _=>?_;refine fY rfl ?_ ?_
 ·intro jY
  have hr:cR pages l=none:=by
   have:¬(0≤pages∧pages≤64):=by simp at jY;omega
   simp[cR,this]
  refine cd ?_;refine cB rfl ?_ (by decide +kernel);iterate 2 (refine aH ?_)
  refine xE [4,5] fun _=>?_;refine mO ?_;try simp only[cm,cp,bQ,cM,bY,cn,if_true]
  refine gZ (fn:=Tryz.f141) (rs:=[.d (.v (.pointer none)),.d (vT false)]) 0 .nil ?_ (Nat.le_refl _) ?_ ?_ ?_
  ·simp;exact .mk
  ·rfl
  ·rfl
  rw[hr];exact⟨rfl,rfl⟩
 intro jY;have hp:0≤pages∧pages≤64:=by simp at jY;omega
 obtain⟨n,rfl⟩:∃n:Nat,pages=n:=⟨pages.toNat,by omega⟩;refine kz ?_;rintro -;refine cd ?_;refine cB rfl ?_ (by decide +kernel);refine xO ?_;refine xO ?_ (h:=by simp[hp,show 8*(n:Int)≤140737488355328 by omega,show (n:Int)≤140737488355328 by omega];exact .mk);refine aH ?_;refine ay ?_;refine aH ?_;refine xE [0,1,4,5,6] fun _=>?_;refine cd ?_;refine cd ?_;refine cB rfl ?_ (by decide +kernel);iterate 6 refine xO ?_
 refine xE [0,1,4,5,6,24,25] fun _=>?_;refine fM ?_;obtain⟨z64,hz⟩:∃z:List Nat,List.replicate 64 0=z:=⟨_,rfl⟩;refine tn (fun m σ o=>∃i:Nat,m=n-i∧i≤n∧σ=slots [(0,.d (vI n)),(1,.d (rO l)),(4,.ptr 0 0 0),(5,.ptr 1 0 0),(6,.ptr 4 0 0),(24,.d (vI n)),(25,.d (vI i))]∧o=[.var 157 [.d (.v (.pointer none))],.var 4 [.d (vT false)],.row 1 ((jz n i).map vI),.var 163 (AV.hdr 2 0 n::z64.map cU),.var 157 [.ptr 3 0 0]]) n .refl ⟨0,by simp,by simp,by simp,by rw[←hz,zk];simp;rfl⟩ ?_;rintro m σ o ⟨i,rfl,hi,rfl,rfl⟩ _;refine cd ?_;refine cB rfl ?_ (by decide +kernel);refine xO ?_;refine xE [0,1,4,5,6,24,25,26] fun _=>?_;refine cd ?_;refine fY rfl ?_ ?_
 ·intro i8;have hi2:i<n:=by simp at i8;omega
  have r1:i<(jz n i).length:=by rw[tB hi];exact hi2
  refine kz ?_;rintro -;refine cd ?_;refine fM ?_;refine cd ?_;refine cB rfl ?_ (by decide +kernel);refine ay ?_;refine xE [0,1,4,5,6,7,24,25] fun _=>?_;refine cB rfl ?_ (by decide +kernel);refine cW ?_;refine xO ?_ (h:=by simp[*];exact .mk);refine xO ?_ (h:=by simp[splice,r1,bJ,br,dn, -List.map_set, -List.map_append];exact .mk);refine xE [0,1,4,5,6,24,25] fun _=>?_;refine cB rfl ?_ (by decide +kernel);refine ay ?_;refine xE [0,1,4,5,6,24,25] ?_;refine sH ?_;refine aq 5 [0,1,4,5,6,24,25] (by simp) (by simp[gX,AV.cells,AV.aX]) (by simp[gX,AV.cells,AV.aX]) ?_;exact ae (m':=n-(i+1)) (by omega) ⟨i+1,rfl,by omega,by rw[wrap64 (by omega) (by omega)];rfl,by simp[tC hi2]⟩
 intro i8;obtain rfl:n=i:=by simp at i8;omega
 rw[show jz n n=(ei (n:Int) l 0).1 by rw[zl];simp[ei],show z64=(ei (n:Int) l 0).2 from hz.symm];clear hz;refine y8 ?_;rintro -;refine cd ?_;refine cd ?_;refine cB rfl ?_ (by decide +kernel);refine ay ?_;refine az rfl rfl rfl rfl (by simp;exact .mk) ⟨_,Tryz.func199,rfl,rfl⟩ (KL g _ _ _ _ _ n l) (.inl (by simp)) ?_;refine xE [4,5,6,37] fun _=>?_;refine fM ?_;refine nC [4,5,6] (by simp;exact .mk) ⟨_,Tryz.func231,rfl,rfl⟩ (by simp;exact .mk) _ (fun fn b lb B S=>KQ g n l hp hl ho b lb _ _ rfl ?_ (fun _=>.var 157 [.d (.v (.pointer none))]) (fun _=>.var 4 [.d (vT false)]) (fun i=>.row 1 ((ei (n:Int) l i).1.map vI)) (fun i=>.var 163 (AV.hdr 2 0 n::(ei (n:Int) l i).2.map cU)) (fun _=>.var 157 [.ptr 3 0 0]) (lu (n:Int) l) (fun _=>rfl) (fun _=>rfl) (fun _=>rfl) (fun _=>by simp) (fun _=>rfl) rfl (fun i hi B S=>?_) B S) ?_
 ·intro p hp2;have hp3:p=38∨p=39:=by simpa using hp2
  show p<49
  rcases hp3 with rfl|rfl<;>decide
 ·skip
  cases hsp:(aM (n:Int) (nth l i)).2
  ·skip
   have hA:ei (n:Int) l (i+1)=ei (n:Int) l i:=by simp only[ei,lA];rw[if_neg (by simp[hsp])]
   have hk:lu (n:Int) l i=false:=by simp only[lu,lA];rw[if_neg (by simp[hsp])]
   rw[hA,hk];unfold ky;refine kA (Weak.kills [4,5,6,38,39] (L:=[(4,.ptr 0 0 0),(5,.ptr 1 0 0),(6,.ptr 4 0 0),(38,.agg [.d (vI (aM (n:Int) (nth l i)).1.page),.d (vI (aM (n:Int) (nth l i)).1.count),.d (vT (aM (n:Int) (nth l i)).1.small),.d (vI (aM (n:Int) (nth l i)).1.cls),.d (vI (aM (n:Int) (nth l i)).1.cell)]),(39,.d (vT false))]) rfl) ?_;refine cd ?_;refine cB rfl ?_ (by decide +kernel);refine xO ?_;refine aH ?_;refine xE [4,5,6,8,39] fun _=>?_;refine cB rfl ?_ (by decide +kernel);refine xO ?_;refine xE [4,5,6,8,9] ?_;refine⟨rfl,rfl,rfl,fun _=>?_⟩;refine fM ?_;refine cd ?_;refine cB rfl ?_ (by decide +kernel);refine aT ?_;iterate 2 refine xI ?_
   iterate 2 (refine mo (av:=.dead) rfl (by simp;exact .mk) rfl ?_)
   refine xP ?_;refine xE [4,5,47] fun _=>?_;refine fY rfl ?_ ?_
   ·intro h47;refine cd ?_;refine cB rfl ?_ (by decide +kernel);iterate 2 (refine aH ?_)
    refine xE [4,5] fun _=>?_;refine kA (Weak.drop (m:=10) [] (Nat.le_refl _) rfl (by simp)) ?_;refine mO ?_;simp only[cm,bQ];refine⟨?_,?_,?_⟩<;>first|trivial|rfl
   intro h47;simp at h47
  skip
  obtain⟨p,k,c,e,e1,e2,e3,e4⟩:=uZ hsp;obtain⟨sm,hsm⟩:∃sm,sm=(aM (n:Int) (nth l i)).1.small:=⟨_,rfl⟩;obtain⟨kd,hkd⟩:∃kd,kd=(aM (n:Int) (nth l i)).1.cls:=⟨_,rfl⟩;rw[←hsm,←hkd]at e;have hA:ei (n:Int) l (i+1)=(gm (ei (n:Int) l i).1 (ei (n:Int) l i).2 p k sm kd c).2:=by simp only[ei,lA];rw[if_pos hsp,e];rfl
  have hk:lu (n:Int) l i=(gm (ei (n:Int) l i).1 (ei (n:Int) l i).2 p k sm kd c).1:=by simp only[lu,lA];rw[if_pos hsp,e];rfl
  rw[hA,hk,e];unfold ky;refine kA (Weak.kills [4,5,6,38,39] (L:=[(4,.ptr 0 0 0),(5,.ptr 1 0 0),(6,.ptr 4 0 0),(38,.agg [.d (vI p),.d (vI k),.d (vT sm),.d (vI kd),.d (vI c)]),(39,.d (vT true))]) rfl) ?_;refine cd ?_;refine cB rfl ?_ (by decide +kernel);refine xO ?_;refine aH ?_;refine xE [4,5,6,8,39] fun _=>?_;refine cB rfl ?_ (by decide +kernel);refine xO ?_;refine xE [4,5,6,8,9] ?_;refine⟨rfl,rfl,rfl,fun _=>?_⟩;refine fM ?_;refine cd ?_;refine cB rfl ?_ (by decide +kernel);refine aT ?_;iterate 2 refine xI ?_
  refine CN rfl (by simp;exact .mk) rfl rfl (by simp) (by simp;exact .mk) ⟨_,Tryz.func200,rfl,rfl⟩ (KM g _ _ _ _ _ _ _ _ _ (ei (n:Int) l i).1 n (by rw[ek.1];rfl) (ei (n:Int) l i).2 p k sm kd c ek.2 (by rw[ek.1];omega) (by rw[ek.1];omega) (by rw[ek.1];omega) e4 (u1 p (by omega)) rfl rfl rfl rfl rfl rfl rfl rfl rfl) (.inl (by simp)) ?_;refine xI ?_;refine xP ?_;refine xE [4,5,47] fun _=>?_;refine fY rfl ?_ ?_
  ·intro h47;refine cd ?_;refine cB rfl ?_ (by decide +kernel);iterate 2 (refine aH ?_)
   refine xE [4,5] fun _=>?_;refine kA (Weak.drop (m:=10) [] (Nat.le_refl _) rfl (by simp)) ?_;refine mO ?_;have hf:(gm (ei (n:Int) l i).1 (ei (n:Int) l i).2 p k sm kd c).1=false:=by simpa using h47
   simp only[cm,bQ];refine⟨rfl,hf.symm,?_⟩;rw[if_neg (by simp[hf])];rfl
  intro h47;have hf:(gm (ei (n:Int) l i).1 (ei (n:Int) l i).2 p k sm kd c).1=true:=by simpa using h47
  refine kA (Weak.drop (m:=10) [] (Nat.le_refl _) rfl (by simp)) ?_;refine kz ?_;simp only[bN];refine⟨rfl,hf.symm,?_⟩;rw[if_pos hf];rfl
 rintro fn b lb av o ⟨rfl,⟨hok,rfl⟩|⟨i,hi,hok,rfl⟩⟩
 ·refine⟨_,_,rfl,by simp,?_⟩;have hr:cR (n:Int) l=some (ei (n:Int) l l.length):=by simp[cR,hp];exact hok
  simp only[oo,bN];rintro -;refine cd ?_;refine cB rfl ?_ (by decide +kernel);refine xO ?_;iterate 2 (refine aH ?_)
  refine xE [4,5] fun _=>?_;refine mO ?_;try simp only[cm,cp,bQ,cM,bY,cn,if_true]
  refine gZ (fn:=Tryz.f141) (rs:=[.ptr 3 0 0,.d (vT true)]) 4 (.cons (r:=7) rfl .nil) ?_ (Nat.zero_le _) ?_ ?_ ?_
  ·simp;exact .mk
  ·rfl
  ·simp
  rw[hr];exact⟨rfl,rfl⟩
 refine⟨_,_,rfl,by simp,?_⟩;have hr:cR (n:Int) l=none:=by simp[cR];exact fun _=>⟨i,hi,hok⟩
 simp only[pX,cm,bQ];refine gZ (fn:=Tryz.f141) (rs:=[.d (.v (.pointer none)),.d (vT false)]) 0 (.cons (r:=7) rfl .nil) ?_ (Nat.le_refl _) ?_ ?_ ?_
 ·simp;exact .mk
 ·rfl
 ·rfl
 rw[hr];exact⟨rfl,rfl⟩
open Go.aN
attribute [simp] Tryz.f139 Tryz.f161 Tryz.f226 Tryz.f228
theorem JC(g:Gl)(s:Shape):a9 Tryz.prog g 226 [fc s] (.v (.bool (de s))):=by
 refine xA Tryz.func226 fun B S=>?_
 simp only[fc,List.map,aO];refine xU ?_;refine bU [1] ?_;refine ab (ag ?_);refine ab (xU ?_);refine bx ?_;refine xQ [1,3] ?_ ?_
 ·intro h3;refine af fun _=>?_;refine bd rfl ?_ ?_
  ·intro h3';refine xU ?_;refine xH [2] ?_;refine xZ ?_;simp[de]at *;grind
  intro hq;cases h3.symm.trans hq
 intro h3;refine xU ?_;refine bx ?_;refine xQ [1,3] ?_ ?_
 ·intro h3';refine af fun _=>?_;refine bd rfl ?_ ?_
  ·intro xW;refine xU ?_;refine xH [2] ?_;refine xZ ?_;simp[de]at *;grind
  intro hq;cases h3'.symm.trans hq
 intro h3';refine xU ?_;refine bx ?_;refine xQ [1,3] ?_ ?_
 ·intro xW;refine af fun _=>?_;refine bd rfl ?_ ?_
  ·intro EZ;refine xU ?_;refine xH [2] ?_;refine xZ ?_;simp[de]at *;grind
  intro hq;cases xW.symm.trans hq
 intro xW;refine xY ?_;refine bx ?_;refine xQ [1,3] ?_ ?_
 ·intro EZ;refine xU ?_;refine xH [2] ?_;refine xZ ?_;simp[de]at *;grind
 intro EZ;refine ab (xU ?_);refine bx ?_;refine xQ [1,16] ?_ ?_
 ·intro h16;refine af fun _=>?_;refine bd rfl ?_ ?_
  ·intro Gn;refine xU ?_;refine xH [2] ?_;refine xZ ?_;simp[de]at *;grind
  intro hq;cases h16.symm.trans hq
 intro h16;refine xU ?_;refine bx ?_;refine xQ [1,16] ?_ ?_
 ·intro Gn;refine af fun _=>?_;refine bd rfl ?_ ?_
  ·intro EX;refine xU ?_;refine xH [2] ?_;refine xZ ?_;simp[de]at *;grind
  intro hq;cases Gn.symm.trans hq
 intro Gn;refine xY ?_;refine cW ?_;refine xQ [1,16] ?_ ?_
 ·intro EX;refine xU ?_;refine xH [2] ?_;refine xZ ?_;simp[de]at *;grind
 intro EX;refine af ?_;refine xT ?_;refine bx ?_;iterate 3 refine xI ?_
 refine xP ?_;refine xB ?_;iterate 4 refine xI ?_
 refine xP ?_;refine xB ?_;refine xF [2] ?_;refine xZ ?_;simp[de]at *;grind
theorem JE(g:Gl)(mark first room n:Int)(h1 : -2^40≤mark∧mark≤2^40)(h2 : -2^40≤n∧n≤2^40)(h3:0≤first∧first≤2^40)(h4:0≤room∧room≤4096):a9 Tryz.prog g 228 [.agg [vI mark,vI first,vI room],vI n] (.v (.bool (s8 mark first room n))):=by
 refine xA Tryz.func228 fun B S=>?_
 simp only[List.map,aO,cC];have e1:IntKind.i64.wrap (2*room)=2*room:=wrap64 (by omega) (by omega);have e2:IntKind.i64.wrap (n-first)=n-first:=wrap64 (by omega) (by omega);have e3:IntKind.i64.wrap (mark-first)=mark-first:=wrap64 (by omega) (by omega);refine xU ?_;refine bU [1,2] ?_;refine ab (ag ?_);refine ab (xU ?_);refine bx ?_;refine xQ [1,2,5] ?_ ?_
 ·intro h5;refine af fun _=>?_;refine bd rfl ?_ ?_
  ·intro h5';refine xU ?_;refine xH [4] ?_;refine xZ ?_;simp[s8]at *;grind
  intro hq;cases h5.symm.trans hq
 intro h5;refine xU ?_;refine bx ?_;refine xQ [1,2,5] ?_ ?_
 ·intro h5';refine af fun _=>?_;refine bd rfl ?_ ?_
  ·intro Gs;refine xU ?_;refine xH [4] ?_;refine xZ ?_;simp[s8]at *;grind
  intro hq;cases h5'.symm.trans hq
 intro h5';refine xU ?_;refine bx ?_;refine xQ [1,2,5] ?_ ?_
 ·intro Gs;refine af fun _=>?_;refine bd rfl ?_ ?_
  ·intro E0;refine xU ?_;refine xH [4] ?_;refine xZ ?_;simp[s8]at *;grind
  intro hq;cases Gs.symm.trans hq
 intro Gs;refine xY ?_;refine cW ?_;refine xQ [1,2,5] ?_ ?_
 ·intro E0;refine xU ?_;refine xH [4] ?_;refine xZ ?_;simp[s8]at *;grind
 intro E0;refine ab (xU ?_);refine ay ?_;refine xO ?_ (h:=by simp[e1];exact .mk);refine aT ?_;refine xO ?_ (h:=by simp[e2];exact .mk);refine ay ?_;refine xQ [1,2,19] ?_ ?_
 ·intro h19;refine af fun _=>?_;refine bd rfl ?_ ?_
  ·intro Gq;refine xU ?_;refine xH [4] ?_;refine xZ ?_;simp[s8]at *;grind
  intro hq;cases h19.symm.trans hq
 intro h19;refine xU ?_;refine bx ?_;refine xQ [1,2,19] ?_ ?_
 ·intro Gq;refine af fun _=>?_;refine bd rfl ?_ ?_
  ·intro EY;refine xU ?_;refine xH [4] ?_;refine xZ ?_;simp[s8]at *;grind
  intro hq;cases Gq.symm.trans hq
 intro Gq;refine xY ?_;refine cW ?_;refine xQ [2,19] ?_ ?_
 ·intro EY;refine xU ?_;refine xH [4] ?_;refine xZ ?_;simp[s8]at *;grind
 intro EY;refine af ?_;refine xT ?_;iterate 6 refine xO ?_
 iterate 4 refine xI ?_
 refine xI ?_ (h:=fun hb=>by simp[e3];exact .mk);iterate 2 refine xI ?_
 refine xI ?_ (h:=fun hb=>by simp[e1];exact .mk);refine xI ?_;refine xP ?_;refine xB ?_;refine xF [4] ?_;refine xZ ?_;simp[s8]at *;grind
theorem vo(g:Gl)(s:Slot):a9 Tryz.prog g 161 [aA s] (.v (.bool (dv s))):=by
 refine xA Tryz.func161 fun B S=>?_
 simp only[aA,List.map,aO];refine xU ?_;refine bU [1] ?_;refine ab (ag ?_);refine xU ?_;refine bx ?_;iterate 3 refine xI ?_
 refine xP ?_;refine xB ?_;refine xQ [1,3] ?_ ?_
 ·intro h3;refine xU ?_;refine xH [2] ?_;refine xZ ?_;simp[dv]at *;grind
 intro h3;refine xU ?_;refine bx ?_;refine xQ [1,12] ?_ ?_
 ·intro h12;refine xU ?_;refine aT ?_;refine aH ?_;refine bU [2] ?_;refine xZ ?_;simp[dv]at *;grind
 intro h12;refine af ?_;refine xT ?_;refine bx ?_;iterate 3 refine xI ?_
 refine xP ?_;refine xB ?_;iterate 3 refine xI ?_
 refine xP ?_;refine xB ?_;iterate 3 refine xI ?_
 refine xP ?_;refine xB ?_;refine xF [2] ?_;refine xZ ?_;simp[dv]at *;grind
theorem BD(g:Gl)(l:List Slot)(hl:l.length≤2^40):a9 Tryz.prog g 139 [eG l] (.v (.bool (df l))):=by
 refine xA Tryz.func139 fun B S=>?_
 refine xU ?_;refine xH [0] ?_;refine ab (xU ?_);refine dC [0,7,8,9] ?_;refine ag (aB (fun m σ o=>∃i:Nat,m=l.length-i∧i≤l.length∧(∀j,j<i→dv (nth l j)=true)∧σ=slots [(0,.d (eG l)),(7,.d (eG l)),(8,.d (vI l.length)),(9,.d (vI i))]∧o=[]) l.length .refl ⟨0,by simp,by simp,by simp,rfl,rfl⟩ ?_);rintro m σ o ⟨i,rfl,hi,hinv,rfl,rfl⟩ _;refine xU ?_;refine xH [0,7,8,9,10] ?_;refine ab (bd rfl ?_ ?_)
 ·intro h10;have hi2:i<l.length:=by simpa using h10
  refine af fun _=>?_;refine ab (ag ?_);refine xU ?_;refine xO ?_ (h:=by simp[aA, *];exact .mk);refine cq ?_;refine xO ?_;refine aH ?_;refine xG [0,4,7,8,9] ?_;refine cq ?_;refine xC (vo g (nth l i)) ?_;refine xO ?_;refine xQ [0,7,8,9,15] ?_ ?_
  ·intro jY;have hr:df l=false:=by unfold df;rw[im hi2 (by simpa using jY)];rfl
   refine xU ?_;refine xH [2] ?_;refine xZ ?_;simp[hr];try (cases eO l.length<;>rfl)
  intro jY;refine af fun _=>?_;refine xY ?_;refine ay ?_;refine xE [0,7,8,9] ?_;refine aq 0 [0,7,8,9] (by simp) (by simp[gX,AV.cells,AV.aX]) (by simp[gX,AV.cells,AV.aX]) ?_;refine ae (m':=l.length-(i+1)) (by omega) ⟨i+1,rfl,by omega,?_,?_,rfl⟩
  ·intro j hj;rcases Nat.lt_succ_iff_lt_or_eq.1 hj with hj|rfl
   ·exact hinv j hj
   simpa using jY
  rw[wrap64 (by omega) (by omega)];rfl
 intro h10;have hr:df l=eO l.length:=by unfold df;rw[all_good (fun j hj=>hinv j (by simp at h10;omega))];rfl
 refine aP (xT ?_);refine ay ?_;refine xC (BA g _) ?_;refine cW ?_;refine xG [6] ?_;refine dC [2] ?_;refine xZ ?_;simp[hr];try (cases eO l.length<;>rfl)
open Go.aN
attribute [simp] Tryz.f88 Tryz.f138 Tryz.f196 Tryz.f227 Tryz.f245 Tryz.f246
theorem tJ(g:Gl)(o0 o1 o2:aN.Obj)(n k:Int)(h : -2^60≤n+k∧n+k≤2^60):∀B S,a7 Tryz.prog g B S ⟨4,true⟩ 245 [.d (vI k),.ptr 3 0 0] [o0,o1,o2,.var 3 [.d (vI n)]]
    (fun x r=>x = .d (vI n)∧r=[o0,o1,o2,.var 3 [.d (vI (n+k))]]):=by
 refine aL Tryz.func245 rfl (Nat.le_of_ble_eq_true rfl) fun B S=>?_
 have e1:IntKind.i64.wrap (n+k)=n+k:=wrap64 (by omega) (by omega);refine xU ?_;refine xO ?_;refine xG [0,1] ?_;refine ay ?_;refine xG [0,1,4] ?_;refine ay ?_;refine xO ?_ (h:=by simp[e1];exact .mk);refine aH ?_;refine xG [4] ?_;refine bU [3] ?_;refine ar (al (by simp;exact .mk) ?_ ?_)
 ·simp
 simp
theorem JK(g:Gl):a9 Tryz.prog g 246 [vI 64] (vI 13):=by
 refine xA Tryz.func246 fun B S=>?_
 refine xU ?_;refine xH [0] ?_;refine ab (xU ?_);refine ay ?_;refine xQ [0,5] ?_ ?_
 ·intro h5;simp at h5
 intro h5;refine af ?_;refine xT ?_;refine xO ?_;refine xC (BM g 64 (by omega)) ?_;refine xO ?_;refine xG [0] ?_;refine bU [0,3] ?_;refine ab (ag ?_);refine aB (fun m σ o=>((m=3∧σ=slots [(0,.d (vI 10)),(3,.d (vI 10))])∨(m=2∧σ=slots [(0,.d (vI 2)),(3,.d (vI 12))])∨(m=1∧σ=slots [(0,.d (vI 1)),(3,.d (vI 13))]))∧o=[]) 3 .refl ⟨.inl ⟨rfl,rfl⟩,rfl⟩ ?_;rintro m σ o ⟨⟨rfl,rfl⟩|⟨rfl,rfl⟩|⟨rfl,rfl⟩,rfl⟩ _
 ·skip
  skip
  refine ab (xU ?_);refine ay ?_;refine xQ [0,3,10] ?_ ?_
  ·intro h10;refine af fun _=>?_;refine ag (xU ?_);refine xO ?_;refine xC (BM g 10 (by omega)) ?_;refine xH [0,3] ?_;refine xY ?_;refine bx ?_;refine xE [0,3] ?_;refine ah [0,3] ?_;exact ae (m':=2) (by omega) ⟨.inr (.inl ⟨rfl,rfl⟩),rfl⟩
  intro h10;simp at h10
 ·skip
  skip
  refine ab (xU ?_);refine ay ?_;refine xQ [0,3,10] ?_ ?_
  ·intro h10;refine af fun _=>?_;refine ag (xU ?_);refine xO ?_;refine xC (BM g 2 (by omega)) ?_;refine xH [0,3] ?_;refine xY ?_;refine bx ?_;refine xE [0,3] ?_;refine ah [0,3] ?_;exact ae (m':=1) (by omega) ⟨.inr (.inr ⟨rfl,rfl⟩),rfl⟩
  intro h10;simp at h10
 skip
 skip
 refine ab (xU ?_);refine ay ?_;refine xQ [0,3,10] ?_ ?_
 ·intro h10;simp at h10
 intro h10;refine aP (xT ?_);refine bU [2] ?_;refine xZ ?_;simp
theorem JD(g:Gl)(s:Shape)(hs:de s=true):a9 Tryz.prog g 227 [fc s] (.agg [vI 1,vI 2,vI s.room,vI (jh s),vI (js s),vI (jn s),vI (l9 s),vI (mF s),vI (jN s)]):=by
 refine xA Tryz.func227 fun B S=>?_
 simp only[fc,List.map,aO];have hb:1≤s.pages∧s.pages≤64∧1≤s.room∧s.room≤4096∧2≤s.slots∧s.slots≤32∧2≤s.roots∧s.roots≤8:=by simp[de]at hs;omega
 have d1:0≤s.slots.tdiv 2∧s.slots.tdiv 2≤16:=by rw[Int.tdiv_eq_ediv_of_nonneg (by omega)];omega
 have d2:0≤s.roots.tdiv 2∧s.roots.tdiv 2≤4:=by rw[Int.tdiv_eq_ediv_of_nonneg (by omega)];omega
 have q1:jh s=2+s.room*2:=rfl;have q2:js s=jh s+1:=rfl;have q3:jn s=js s+s.slots.tdiv 2:=rfl;have q4:l9 s=jn s+s.roots.tdiv 2:=rfl;have q5:mF s=l9 s+26:=rfl;have e1:IntKind.i64.wrap (s.room*2)=s.room*2:=wrap64 (by omega) (by omega);have e2:IntKind.i64.wrap (s.slots.tdiv 2)=s.slots.tdiv 2:=wrap64 (by omega) (by omega);have e3:IntKind.i64.wrap (s.roots.tdiv 2)=s.roots.tdiv 2:=wrap64 (by omega) (by omega);have e4:IntKind.i64.wrap (s.pages*4)=s.pages*4:=wrap64 (by omega) (by omega);have e5:IntKind.i64.wrap 26=26:=rfl;refine xU ?_;refine ay ?_;refine xG [1,2] ?_;refine ay ?_;iterate 2 (refine aH ?_)
 refine xO ?_;refine aH ?_;refine xG [1,2,3] ?_;refine xO ?_;refine aH ?_;refine xG [1,2,3,4] ?_;refine ay ?_;refine xG [1,2,3,4,5] ?_;refine aT ?_;refine xO ?_ (h:=by simp[e1];exact .mk);refine az rfl rfl rfl rfl (by simp;exact .mk) ⟨_,Tryz.func245,rfl,rfl⟩ (tJ g _ _ _ (2) (s.room*2) (by omega)) (.inl (by simp)) ?_;refine xG [1,2,3,4,5] ?_;refine xO ?_;refine az rfl rfl rfl rfl (by simp;exact .mk) ⟨_,Tryz.func245,rfl,rfl⟩ (tJ g _ _ _ (jh s) (1) (by omega)) (.inl (by simp)) ?_;refine xO ?_;refine aH ?_;refine xG [1,2,3,4,5] ?_;refine aT ?_;refine xO ?_ (h:=by simp[e2];exact .mk);refine az rfl rfl rfl rfl (by simp;exact .mk) ⟨_,Tryz.func245,rfl,rfl⟩ (tJ g _ _ _ (js s) (s.slots.tdiv 2) (by omega)) (.inl (by simp)) ?_;refine xO ?_;refine aH ?_;refine xG [1,2,3,4,5] ?_;refine aT ?_;refine xO ?_ (h:=by simp[e3];exact .mk);refine az rfl rfl rfl rfl (by simp;exact .mk) ⟨_,Tryz.func245,rfl,rfl⟩ (tJ g _ _ _ (jn s) (s.roots.tdiv 2) (by omega)) (.inl (by simp)) ?_;refine xO ?_;refine aH ?_;refine xG [1,2,3,4,5] ?_;refine xO ?_;refine xC (JK g) ?_;refine xO ?_ (h:=by simp[e5];exact .mk);refine az rfl rfl rfl rfl (by simp;exact .mk) ⟨_,Tryz.func245,rfl,rfl⟩ (tJ g _ _ _ (l9 s) (26) (by omega)) (.inl (by simp)) ?_;refine xO ?_;refine aH ?_;refine xG [1,2,3,4,5] ?_;refine aT ?_;refine xO ?_ (h:=by simp[e4];exact .mk);refine az rfl rfl rfl rfl (by simp;exact .mk) ⟨_,Tryz.func245,rfl,rfl⟩ (tJ g _ _ _ (mF s) (s.pages*4) (by omega)) (.inl (by simp)) ?_;refine xO ?_;refine aH ?_;refine xG [2,3,4] ?_;refine ay ?_;refine aH ?_;refine xG [2,3] ?_;refine xO ?_;refine aH ?_;refine xF [2] ?_;refine xZ ?_;simp;rfl
theorem Jo(g:Gl)(s:Shape):a9 Tryz.prog g 196 [fc s] (.bK [if eN s then .agg [vI 1,vI 2,vI s.room,vI (jh s),vI (js s),vI (jn s),vI (l9 s),vI (mF s),vI (jN s)]else .agg [vI 0,vI 0,vI 0,vI 0,vI 0,vI 0,vI 0,vI 0,vI 0],vI (if eN s then 0 else 1)]):=by
 refine xA Tryz.func196 fun B S=>?_
 simp only[fc,List.map,aO];refine xU ?_;refine dC [1,2] ?_;refine ab (xU ?_);refine xO ?_;refine xC (JC g s) ?_;refine xO ?_;refine xQ [1,2,7] ?_ ?_
 ·intro h7;have hz:de s=false:=by simpa using h7
  have hr:eN s=false:=by simp[eN,hz]
  refine xU ?_;iterate 2 (refine aH ?_)
  refine xH [2,3] ?_;refine ar (aG (by simp;exact .mk) (by simp;exact .mk) ?_ (by simp[hr]));simp[hr]
 intro h7;have hz:de s=true:=by simpa using h7
 have hb:1≤s.pages∧s.pages≤64∧1≤s.room∧s.room≤4096∧2≤s.slots∧s.slots≤32∧2≤s.roots∧s.roots≤8:=by simp[de]at hz;omega
 have d1:0≤s.slots.tdiv 2∧s.slots.tdiv 2≤16:=by rw[Int.tdiv_eq_ediv_of_nonneg (by omega)];omega
 have d2:0≤s.roots.tdiv 2∧s.roots.tdiv 2≤4:=by rw[Int.tdiv_eq_ediv_of_nonneg (by omega)];omega
 have hL:jN s=2+s.room*2+1+s.slots.tdiv 2+s.roots.tdiv 2+26+s.pages*4:=rfl;have hw:s8 1 2 s.room (jN s)=true:=by simp[s8];omega
 refine af ?_;refine xT ?_;refine xO ?_;refine xC (JD g s hz) ?_;refine xO ?_;refine aH ?_;refine xF [2,4] ?_;refine ab (xU ?_);refine bx ?_;iterate 4 refine xI ?_
 refine bI rfl (by simp;exact .mk) rfl rfl (by simp) (by simp;exact .mk) (by simp;exact .mk) (fun hb=>JE g 1 2 s.room (jN s) (by omega) (by omega) (by omega) (by omega)) (by simp) (by simp;exact .mk) (by simp) ?_;refine xI ?_;refine xP ?_;refine xQ [2,4,21] ?_ ?_
 ·intro h21;have hr:eN s=false:=by simp[hw]at h21;simp[eN,hz];omega
  refine xU ?_;iterate 2 (refine aH ?_)
  refine xH [2,3] ?_;refine ar (aG (by simp;exact .mk) (by simp;exact .mk) ?_ (by simp[hr]));simp[hr]
 intro h21;have hr:eN s=true:=by simp[hw]at h21;simp[eN,hz];omega
 refine af ?_;refine xT ?_;refine xO ?_;refine aH ?_;refine xH [2,3] ?_;refine ar (aG (by simp;exact .mk) (by simp;exact .mk) ?_ (by simp[hr]));simp[hr]
theorem Jb(g:Gl)(s:Shape):a9 Tryz.prog g 138 [fc s] (.v (.bool (eN s))):=by
 refine xA Tryz.func138 fun B S=>?_
 simp only[fc,List.map,aO];have hc:=Jo g s;refine xU ?_;refine bU [1] ?_;refine ab ?_;cases hr:eN s
 ·skip
  simp only[hr,Bool.false_eq_true,if_false,if_true]at hc;refine xY ?_;refine xO ?_;refine xC (hc) ?_;refine bx ?_;refine aH ?_;refine xO ?_;refine xG [3,4] ?_;refine aT ?_;refine xI ?_;refine xI ?_ (h:=fun hb=>by simp[splice];exact .mk);refine xI ?_;refine xP ?_;refine xB ?_;refine xF [2] ?_;refine xZ ?_;simp[hr]
 skip
 simp only[hr,Bool.false_eq_true,if_false,if_true]at hc;refine xY ?_;refine xO ?_;refine xC (hc) ?_;refine bx ?_;refine aH ?_;refine xO ?_;refine xG [3,4] ?_;refine aT ?_;refine xI ?_;refine xI ?_ (h:=fun hb=>by simp[splice];exact .mk);refine xI ?_;refine xP ?_;refine xB ?_;refine xF [2] ?_;refine xZ ?_;simp[hr]
theorem BO(g:Gl)(s:Shape)(mode base:Int):a9 Tryz.prog g 88 [fc s,vI mode,vI base] (.v (.bool (cI s mode base))):=by
 refine xA Tryz.func88 fun B S=>?_
 simp only[fc,List.map,aO,cC];refine xU ?_;refine bU [1,2,3] ?_;refine ab (xU ?_);refine xO ?_;refine xC (Jb g s) ?_;refine ay ?_;iterate 2 refine xI ?_
 refine xP ?_;refine xB ?_;iterate 4 refine xI ?_
 refine xP ?_;refine xQ [1,2,3,19] ?_ ?_
 ·intro h19;refine xU ?_;refine xH [6] ?_;refine xZ ?_;simp[cI]at *;grind
 intro h19;refine af fun _=>?_;refine ab (xU ?_);refine xH [1,2,3,20] ?_;refine ag (xU ?_);refine ay ?_;refine xQ [1,2,3,20,21] ?_ ?_
 ·intro h21;refine xU ?_;refine dC [6] ?_;refine xZ ?_;simp[cI]at *;grind
 intro h21;refine xU ?_;refine ay ?_;refine xQ [1,2,3,25] ?_ ?_
 ·intro mA;refine xU ?_;refine cW ?_;refine xF [6] ?_;refine xZ ?_;simp[cI]at *;grind
 intro mA;refine af ?_;refine xT ?_;refine aT ?_;iterate 2 refine xI ?_
 refine xP ?_;refine xB ?_;refine xF [6] ?_;refine xZ ?_;simp[cI]at *;grind
open Go.aN
attribute [simp] Tryz.f188 Tryz.f197 Tryz.f223
theorem JB(g:Gl)(c:Int):a9 Tryz.prog g 223 [.v (.int .i32 c)] (.v (.bool (oZ c))):=by
 refine xA Tryz.func223 fun B S=>?_
 refine xU ?_;refine xH [0] ?_;refine ab (ag ?_);refine ab (xU ?_);refine aT ?_;refine xQ [0,3] ?_ ?_
 ·intro h3;refine af fun _=>?_;refine bd rfl ?_ ?_
  ·intro h3';refine xU ?_;refine xH [2] ?_;refine xZ ?_;simp[oZ]at * <;> omega
  intro h3';refine af ?_;refine xT ?_;refine xH [2] ?_;refine xZ ?_;simp[oZ]at * <;> omega
 intro h3;refine xU ?_;refine aT ?_;iterate 2 (refine bg rfl (by simp;exact .mk) rfl (by simp<;>omega) (fun hb=>by simp;exact .mk) ?_)
 refine xP ?_;refine bM rfl rfl rfl (by simp<;>omega) (by simp;exact .mk) ?_;refine run_end [0,3] (by simp<;>omega) (by simp;exact .mk) ?_;rintro -;refine bd rfl ?_ ?_
 ·intro h3';refine af fun _=>?_;refine bd rfl ?_ ?_
  ·intro xW;refine xU ?_;refine xH [2] ?_;refine xZ ?_;simp[oZ]at * <;> omega
  intro xW;refine af ?_;refine xT ?_;refine xH [2] ?_;refine xZ ?_;simp[oZ]at * <;> omega
 intro h3';refine xY ?_;refine aT ?_;refine xQ [3] ?_ ?_
 ·intro xW;refine xU ?_;refine xH [2] ?_;refine xZ ?_;simp[oZ]at * <;> omega
 intro xW;refine af ?_;refine xT ?_;refine xH [2] ?_;refine xZ ?_;simp[oZ]at * <;> omega
theorem EB(g:Gl)(a b:Int):a9 Tryz.prog g 197 [.agg [vI a,vI b]] (.v (.bool (fZ a b))):=by
 refine xA Tryz.func197 fun B S=>?_
 refine xU ?_;refine ay ?_;refine xG [1] ?_;refine bx ?_;iterate 3 (refine bg rfl (by simp;exact .mk) rfl (by simp<;>omega) (fun hb=>by simp;exact .mk) ?_)
 refine xP ?_;refine bM rfl rfl rfl (by simp<;>omega) (by simp;exact .mk) ?_;iterate 3 (refine bg rfl (by simp;exact .mk) rfl (by simp<;>omega) (fun hb=>by simp;exact .mk) ?_)
 refine xP ?_;refine bM rfl rfl rfl (by simp<;>omega) (by simp;exact .mk) ?_;iterate 3 (refine bg rfl (by simp;exact .mk) rfl (by simp<;>omega) (fun hb=>by simp;exact .mk) ?_)
 refine xP ?_;refine bM rfl rfl rfl (by simp<;>omega) (by simp;exact .mk) ?_;refine run_end [2] (by simp<;>omega) (by simp;exact .mk) ?_;rintro -;refine xZ ?_;simp[fZ]
theorem mC(g:Gl)(s:ByteArray)(hs:s.size≤2^40):a9 Tryz.prog g 188 [vS s] (.v (.bool (cu s))):=by
 refine xA Tryz.func188 fun B S=>?_
 refine xU ?_;refine xH [0] ?_;refine ab (xU ?_);refine bU [0,6] ?_;refine ag (aB (fun m σ o=>∃pos:Nat,m=s.size+1-pos∧dc s pos=dc s 0∧σ=slots [(0,.d (vS s)),(6,.ptr 0 0 0)]∧o=[.it s pos]) (s.size+1) .refl ⟨0,by simp,rfl,rfl,rfl⟩ ?_);rintro m σ o ⟨pos,rfl,hinv,rfl,rfl⟩ _;refine ab ?_;by_cases hp:pos<s.size
 ·skip
  refine xY ?_;refine xO ?_ (h:=by simp[hp];exact .mk);refine xH [0,6,7,8] ?_;refine ab (bd rfl ?_ ?_)
  ·intro h8;refine af fun _=>?_;refine ag (xU ?_);refine ay ?_;refine xG [0,4,6] ?_;refine xO ?_;refine xC (JB g _) ?_;refine xO ?_;refine xQ [0,6,12] ?_ ?_
   ·intro h12;have hr:dc s 0=false:=by rw[←hinv,dc];simp at h12;simp[hp,h12]
    refine xU ?_;refine xH [2] ?_;refine xZ ?_;simp[cu,hr]
   intro h12;refine af ?_;refine ah [0,6] ?_;refine ae (m':=s.size+1-(pos+(Utf8.decode s pos).2)) (by have:=mS s pos;omega) ⟨pos+(Utf8.decode s pos).2,rfl,?_,rfl,rfl⟩;rw[←hinv];conv=>rhs;rw[dc]
   simp at h12;simp[hp,h12]
  intro h8;simp at h8
 skip
 refine xY ?_;refine xO ?_ (h:=by simp[hp];exact .mk);refine xH [0,6,7,8] ?_;refine ab (bd rfl ?_ ?_)
 ·intro h8;simp at h8
 intro h8;refine aP ?_;rintro -;refine ab ?_;have hr:dc s 0=true:=by rw[←hinv,dc];simp[hp]
 refine xY ?_;refine aT ?_;iterate 3 (refine bg rfl (by simp;exact .mk) rfl (by simp<;>omega) (fun hb=>by simp;exact .mk) ?_)
 refine xP ?_;refine bM rfl rfl rfl (by simp<;>omega) (by simp;exact .mk) ?_;refine run_end [2] (by simp<;>omega) (by simp;exact .mk) ?_;rintro -;refine xZ ?_;simp[cu,hr]
open Go.aN
attribute [simp] Tryz.f121 Tryz.f198 Tryz.f229 Tryz.f230
theorem KP(g:Gl)(nm:ByteArray)(r:Root)(a b c:D):∀B S,a7 Tryz.prog g B S ⟨2,true⟩ 230 [.agg [.d (vS r.name),.d (vI r.ix),.d (vI r.gen)],.ptr 0 0 0] [.var 9 [.d (vS nm)],.var 96 [.d a,.d b,.d c]]
    (fun q o=>q = .d (.v (.bool (r.name.toList==nm.toList)))∧o=[.var 9 [.d (vS nm)],.var 96 [.d a,.d b,.d c]]):=by
 refine aL Tryz.func230 rfl (Nat.le_of_ble_eq_true rfl) fun B S=>?_
 refine xU ?_;refine ay ?_;refine xG [1,2] ?_;refine cW ?_;refine xF [3] ?_;refine ar (aK 2 (by simp;exact .mk) ?_ ?_ (by simp) (by simp) (by simp))
 ·rfl
 rfl
theorem KO(g:Gl)(l:List Root)(nm:ByteArray)(hl:l.length≤2^40):∀B S,a7 Tryz.prog g B S ⟨1,true⟩ 229 [.d (rR l),.fn (.func 230) [] [.ptr 0 0 0]] [.var 9 [.d (vS nm)]]
    (fun a o=>a = .d (vI (cD l nm))∧o=[.var 9 [.d (vS nm)]]):=by
 refine aL Tryz.func229 rfl (Nat.le_of_ble_eq_true rfl) fun B S=>?_
 refine xU ?_;refine xH [0,1] ?_;refine ab (xU ?_);refine dC [1,7,8,9] ?_;refine ag (aB (fun m σ o=>∃i:Nat,m=l.length-i∧i≤l.length∧(∀j,j<i→((nth l j).name.toList==nm.toList)=false)∧σ=slots [(1,.fn (.func 230) [] [.ptr 0 0 0]),(7,.d (rR l)),(8,.d (vI l.length)),(9,.d (vI i))]∧o=[.var 9 [.d (vS nm)]]) l.length .refl ⟨0,by simp,by simp,by simp,rfl,rfl⟩ ?_);rintro m σ o ⟨i,rfl,hi,hinv,rfl,rfl⟩ _;refine xU ?_;refine xH [1,7,8,9,10] ?_;refine ab (bd rfl ?_ ?_)
 ·intro h10;have hi2:i<l.length:=by simpa using h10
  refine af fun _=>?_;refine ab (ag ?_);refine xU ?_;refine xO ?_;refine xO ?_ (h:=by simp[ak, *];exact .mk);refine xO ?_ (h:=by simp[ak];exact .mk);refine ay ?_;refine aH ?_;refine xG [1,5,6,7,8,9] ?_;refine xO ?_;refine xO ?_ (h:=by simp[ak];exact .mk);refine az rfl rfl rfl rfl (by simp;exact .mk) ⟨_,Tryz.func230,rfl,rfl⟩ (KP g nm (nth l i) _ _ _) (.inr ⟨[],rfl⟩) ?_;refine xQ [1,5,7,8,9,16] ?_ ?_
  ·intro h16;have hr:cD l nm=i:=tE hi2 hinv h16;refine xU ?_;refine bU [4] ?_;refine ar (aK 1 (by simp;exact .mk) ?_ ?_ (by simp) (by simp) (by simp))
   ·rw[hr];rfl
   rfl
  intro h16;refine af fun _=>?_;refine xY ?_;refine ay ?_;refine xE [1,7,8,9] ?_;refine aq 1 [1,7,8,9] (by simp) (by simp) (by simp) ?_;refine ae (m':=l.length-(i+1)) (by omega) ⟨i+1,rfl,by omega,?_,?_,rfl⟩
  ·intro j hj;rcases Nat.lt_succ_iff_lt_or_eq.1 hj with hj|rfl
   ·exact hinv j hj
   exact h16
  rw[wrap64 (by omega) (by omega)];rfl
 intro h10;have hr:cD l nm = -1:=lL (fun j hj=>hinv j (by simp at h10;omega));refine aP (xT ?_);refine xH [4] ?_;refine ar (aK 1 (by simp;exact .mk) ?_ ?_ (by simp) (by simp) (by simp))
 ·rw[hr];rfl
 rfl
theorem BI(g:Gl)(l:List Root)(nm:ByteArray)(hl:l.length≤2^40):a9 Tryz.prog g 198 [rR l,vS nm] (vI (cD l nm)):=by
 refine xA Tryz.func198 fun B S=>?_
 refine xU ?_;refine ay ?_;refine xG [0,3] ?_;refine ay ?_;refine az rfl rfl rfl rfl (by simp;exact .mk) ⟨_,Tryz.func229,rfl,rfl⟩ (KO g l nm hl) (.inr ⟨[],rfl⟩) ?_;refine xH [4] ?_;refine xZ ?_;simp[qi,wj]
theorem BC(g:Gl)(n:Int):a9 Tryz.prog g 121 [vI n] (.bK [oR (if fQ n then List.replicate n.toNat fX else []),vI (if fQ n then 0 else 1)]):=by
 refine xA Tryz.func121 fun B S=>?_
 refine xU ?_;refine bU [0] ?_;refine ab (xU ?_);refine aT ?_;iterate 2 (refine bg rfl (by simp;exact .mk) rfl (by simp<;>omega) (fun hb=>by simp;exact .mk) ?_)
 refine xP ?_;refine bM rfl rfl rfl (by simp<;>omega) (by simp;exact .mk) ?_;iterate 3 (refine bg rfl (by simp;exact .mk) rfl (by simp<;>omega) (fun hb=>by simp;exact .mk) ?_)
 refine xP ?_;refine run_end [0,14] (by simp<;>omega) (by simp;exact .mk) ?_;rintro -;refine bd rfl ?_ ?_
 ·intro fe;have hr:fQ n=false:=by simp at fe;simp[fQ];omega
  refine xU ?_;refine bU [2,3] ?_;refine xZ ?_;simp[hr,ai,ak,fX]
 intro fe;have hr:fQ n=true:=by simp at fe;simp[fQ];omega
 have hn:2≤n∧n≤8:=by simp at fe;omega
 refine af fun _=>?_;refine ab ?_;have e1:0≤n:=by omega
 have e2:32*n≤140737488355328:=by omega
 have e3:n≤140737488355328:=by omega
 refine xY ?_;refine xO ?_;refine xO ?_ (h:=by simp[e1,e2,e3];exact .mk);refine bU [2,3] ?_;refine xZ ?_;simp[hr,ai,ak,fX]
open Go.aN
attribute [simp] Tryz.f140
theorem BE(g:Gl)(l:List Root)(hl:l.length≤2^40)(hn:∀i,i<l.length→(nth l i).name.size≤2^40):a9 Tryz.prog g 140 [rR l] (.v (.bool (ck l))):=by
 refine xA Tryz.func140 fun B S=>?_
 refine xU ?_;refine xH [0] ?_;refine ab (xU ?_);refine dC [0,7,8,9] ?_;refine ag (aB (fun m σ o=>∃i:Nat,m=l.length-i∧i≤l.length∧(∀j,j<i→dW l j=true)∧σ=slots [(0,.d (rR l)),(7,.d (rR l)),(8,.d (vI l.length)),(9,.d (vI i))]∧o=[]) l.length .refl ⟨0,by simp,by simp,by simp,rfl,rfl⟩ ?_);rintro m σ o ⟨i,rfl,hi,hinv,rfl,rfl⟩ _;refine xU ?_;refine xH [0,7,8,9,10] ?_;refine ab (bd rfl ?_ ?_)
 ·intro h10;have hi2:i<l.length:=by simpa using h10
  refine af fun _=>?_;refine ab (ag ?_);refine xU ?_;refine xO ?_;refine xO ?_ (h:=by simp[ak, *];exact .mk);refine xO ?_ (h:=by simp[ak];exact .mk);refine ay ?_;refine aH ?_;refine xF [0,3,4,7,8,9] ?_;refine ag (xU ?_);refine xO ?_ (h:=by simp[ak];exact .mk);refine aH ?_;refine ay ?_;refine xQ [0,3,4,7,8,9,14] ?_ ?_
  ·intro fe;refine af fun _=>?_;refine xY ?_;refine ay ?_;refine xE [0,7,8,9] ?_;refine aq 0 [0,7,8,9] (by simp) (by simp) (by simp) ?_;refine ae (m':=l.length-(i+1)) (by omega) ⟨i+1,rfl,by omega,?_,?_,rfl⟩
   ·intro j hj;rcases Nat.lt_succ_iff_lt_or_eq.1 hj with hj|rfl
    ·exact hinv j hj
    simp[dW,isZero]at *;simp_all
   rw[wrap64 (by omega) (by omega)];rfl
  intro fe;refine ab (xU ?_);refine xO ?_;refine xO ?_ (h:=by simp[ak];exact .mk);refine xC (mC g _ (hn i hi2)) ?_;refine ay ?_;refine xQ [0,3,4,7,8,9,18] ?_ ?_
  ·intro h18;refine af fun _=>?_;refine bd rfl ?_ ?_
   ·intro Gp;refine ab ?_;have hr:ck l=false:=ki hi2 (by simp[dW,isZero]at *;simp_all);refine xY ?_;refine xH [2] ?_;refine xZ ?_;simp[hr];try (cases fQ l.length<;>rfl)
   intro Gp;refine af fun _=>?_;refine xY ?_;refine ay ?_;refine xE [0,7,8,9] ?_;refine aq 0 [0,7,8,9] (by simp) (by simp) (by simp) ?_;refine ae (m':=l.length-(i+1)) (by omega) ⟨i+1,rfl,by omega,?_,?_,rfl⟩
   ·intro j hj;rcases Nat.lt_succ_iff_lt_or_eq.1 hj with hj|rfl
    ·exact hinv j hj
    simp[dW,isZero]at *;simp_all
   rw[wrap64 (by omega) (by omega)];rfl
  intro h18;refine xU ?_;refine xO ?_;refine xO ?_ (h:=by simp[ak];exact .mk);refine xC (EB g _ _) ?_;refine ay ?_;refine xQ [0,3,4,7,8,9,18] ?_ ?_
  ·intro Gp;refine af fun _=>?_;refine bd rfl ?_ ?_
   ·intro BU;refine ab ?_;have hr:ck l=false:=ki hi2 (by simp[dW,isZero]at *;simp_all);refine xY ?_;refine xH [2] ?_;refine xZ ?_;simp[hr];try (cases fQ l.length<;>rfl)
   intro BU;refine af fun _=>?_;refine xY ?_;refine ay ?_;refine xE [0,7,8,9] ?_;refine aq 0 [0,7,8,9] (by simp) (by simp) (by simp) ?_;refine ae (m':=l.length-(i+1)) (by omega) ⟨i+1,rfl,by omega,?_,?_,rfl⟩
   ·intro j hj;rcases Nat.lt_succ_iff_lt_or_eq.1 hj with hj|rfl
    ·exact hinv j hj
    simp[dW,isZero]at *;simp_all
   rw[wrap64 (by omega) (by omega)];rfl
  intro Gp;refine aS (by kernel_rfl) [] 4 [0,1,2,3,4,5,6,7] (by decide +kernel) ?_;refine ay ?_;refine xO ?_ (h:=by simp[ew, *];exact .mk);refine xO ?_;refine xO ?_ (h:=by simp[ak];exact .mk);refine bA rfl rfl rfl rfl (by simp;exact .mk) (by simp;exact .mk) (by have:=BI g (l.take i) (nth l i).name (by simp;omega);exact this) (by simp) (by simp;exact .mk) ?_;refine ay ?_;refine xQ [0,7,8,9,18] ?_ ?_
  ·intro BU;refine ab ?_;have hr:ck l=false:=ki hi2 (by simp[dW,isZero]at *;simp_all);refine xY ?_;refine xH [2] ?_;refine xZ ?_;simp[hr];try (cases fQ l.length<;>rfl)
  intro BU;refine af fun _=>?_;refine xY ?_;refine ay ?_;refine xE [0,7,8,9] ?_;refine aq 0 [0,7,8,9] (by simp) (by simp) (by simp) ?_;refine ae (m':=l.length-(i+1)) (by omega) ⟨i+1,rfl,by omega,?_,?_,rfl⟩
  ·intro j hj;rcases Nat.lt_succ_iff_lt_or_eq.1 hj with hj|rfl
   ·exact hinv j hj
   simp[dW,isZero]at *;simp_all
  rw[wrap64 (by omega) (by omega)];rfl
 intro h10;refine aP ?_;rintro -;refine ab ?_;have hr:ck l=fQ l.length:=sF (fun j hj=>hinv j (by simp at h10;omega));refine xY ?_;refine ay ?_;refine xC (BC g _) ?_;refine cW ?_;refine xG [6] ?_;refine dC [2] ?_;refine xZ ?_;simp[hr];try (cases fQ l.length<;>rfl)
open Go.aN
attribute [simp] Tryz.f22 Tryz.f35 Tryz.f89 Tryz.f143
theorem L7(g:Gl)(s:bF)(hs:s.Ok):a9 Tryz.prog g 35 [cr s] (vI (eK s.slots s.slots.length)):=by
 refine xA Tryz.func35 fun B S=>?_
 simp only[cr,List.map,aO];have q0:=hs.h1;refine xU ?_;refine ay ?_;refine xG [1] ?_;refine xH [1,3] ?_;refine ab (xU ?_);refine xO ?_;refine cq ?_;refine bU [3,7,8,9] ?_;refine ag (aB (fun m σ o=>∃i:Nat,m=s.slots.length-i∧i≤s.slots.length∧σ=slots [(3,.d (vI (eK s.slots i))),(7,.d (eG s.slots)),(8,.d (vI s.slots.length)),(9,.d (vI i))]∧o=[.var 28 [.d (vI s.sh.pages),.d (vI s.sh.slots),.d (vI s.sh.roots),.d (vI s.sh.room),.d (vI s.mode),.d (vI s.base),.d (eG s.slots),.d (rR s.roots),.d (fL s.data)]]) s.slots.length .refl ⟨0,by simp,by simp,by simp[eK],rfl⟩ ?_);rintro m σ o ⟨i,rfl,hi,rfl,rfl⟩ _;have hle:=Ay (l:=s.slots) (i:=i);refine xU ?_;refine xH [3,7,8,9,10] ?_;refine ab (bd rfl ?_ ?_)
 ·intro h10;have hi2:i<s.slots.length:=by simpa using h10
  have e1:IntKind.i64.wrap (((eK s.slots i:Nat):Int)+1)=((eK s.slots i:Nat):Int)+1:=wrap64 (by omega) (by omega);refine af fun _=>?_;refine ab (ag ?_);refine xU ?_;refine xO ?_ (h:=by simp[aA, *];exact .mk);refine cq ?_;refine xO ?_;refine aH ?_;refine xG [3,5,7,8,9] ?_;refine xO ?_;refine cq ?_;refine xQ [3,7,8,9,14] ?_ ?_
  ·intro fe;refine xY ?_;refine xO ?_;refine xO ?_ (h:=by simp[e1];exact .mk);refine xH [3,7,8,9] ?_;refine xY ?_;refine ay ?_;refine xE [3,7,8,9] ?_;refine aq 1 [3,7,8,9] (by simp) (by simp[gX,AV.cells,AV.aX]) (by simp[gX,AV.cells,AV.aX]) ?_;refine ae (m':=s.slots.length-(i+1)) (by omega) ⟨i+1,rfl,by omega,?_,rfl⟩;rw[wrap64 (by omega) (by omega),j8,fe];rfl
  intro fe;refine af fun _=>?_;refine xY ?_;refine ay ?_;refine xE [3,7,8,9] ?_;refine aq 1 [3,7,8,9] (by simp) (by simp[gX,AV.cells,AV.aX]) (by simp[gX,AV.cells,AV.aX]) ?_;refine ae (m':=s.slots.length-(i+1)) (by omega) ⟨i+1,rfl,by omega,?_,rfl⟩;rw[wrap64 (by omega) (by omega),j8,fe];rfl
 intro h10;obtain rfl:i=s.slots.length:=by simp at h10;omega
 refine aP (xT ?_);refine bU [2] ?_;refine xZ ?_;simp
theorem Jx(g:Gl)(s:bF)(hs:s.Ok):a9 Tryz.prog g 22 [cr s] (.bK [oO (bW s.slots),oI (ud s.slots)]):=by
 refine xA Tryz.func22 fun B S=>?_
 simp only[cr,List.map,aO];have q0:=hs.h1;refine xU ?_;refine aT ?_;refine xG [1] ?_;refine xO ?_;refine xG [1,4] ?_;refine xH [1,4,5] ?_;refine ab (xU ?_);refine xO ?_;refine cq ?_;refine bU [4,5,9,10,11] ?_;refine ag ?_
 refine aB (fun m σ o=>∃i:Nat,m=s.slots.length-i∧i≤s.slots.length∧σ=slots [(4,.hdr 1 0 (dz s.slots i).length),(5,.hdr 2 0 (dz s.slots i).length),(9,.d (eG s.slots)),(10,.d (vI s.slots.length)),(11,.d (vI i))]∧o=[.var 28 [.d (vI s.sh.pages),.d (vI s.sh.slots),.d (vI s.sh.roots),.d (vI s.sh.room),.d (vI s.mode),.d (vI s.base),.d (eG s.slots),.d (rR s.roots),.d (fL s.data)],.row 2 ((dz s.slots i).map fun j=>aE (pV s.slots j)),.row 1 ((dz s.slots i).map fun(j:Nat)=>vI j)]) s.slots.length
  (Weak.trans (Weak.dJ 4 2 rfl) (Weak.trans (Weak.dJ 5 1 rfl) (Weak.kills [4,5,9,10,11] rfl) (fun _ _ _ h1 h2=>by rw[←h1.len];exact h2)) (fun _ _ _ h1 h2=>by rw[←h1.len];exact h2)) ⟨0,by simp,by simp,by simp[dz],by simp[dz]⟩ ?_
 rintro m σ o ⟨i,rfl,hi,rfl,rfl⟩ _;have hle:=pA (l:=s.slots) (i:=i);refine xU ?_;refine xH [4,5,9,10,11,12] ?_;refine ab (bd rfl ?_ ?_)
 ·intro h12;have hi2:i<s.slots.length:=by simpa using h12
  refine af fun _=>?_;refine ab (ag ?_);refine xU ?_;refine xO ?_;refine xO ?_ (h:=by simp[aA, *];exact .mk);refine cq ?_;refine ay ?_;refine aH ?_;refine xG [4,5,6,7,9,10,11] ?_;refine xO ?_;refine cq ?_;refine xO ?_;refine xI ?_;refine xI ?_ (h:=fun hb=>by simp[aA];exact .mk);refine xP ?_;refine xQ [4,5,6,7,9,10,11,21] ?_ ?_
  ·intro h21;have h2:eI (nth s.slots i)=true:=h21;have e1:((dz s.slots i).length+1)*16≤140737488355328:=by omega
   have e2:(dz s.slots i).length≤140737488355327:=by omega
   have e3:((dz s.slots i).length+1)*8≤140737488355328:=by omega
   refine xY ?_;refine ay ?_;refine cq ?_;refine xO ?_;refine cq ?_;refine aH ?_;refine xO ?_;refine xO ?_ (h:=by simp[rows,e1,e2];exact .mk);refine aT ?_;refine xO ?_ (h:=by simp[rows,e3,e2];exact .mk);refine bU [4,5,9,10,11] ?_;refine xY ?_;refine ay ?_;refine xE [4,5,9,10,11] ?_;refine ah [4,5,9,10,11] ?_;first
   | (refine aq 3 [4,5,9,10,11] (by decide) (by rfl) (by rfl) ?_
      refine ae (m' := s.slots.length - (i+1)) (by omega) ⟨i+1, rfl, by omega, ?_, ?_⟩
      · rw [wrap64 (by omega) (by omega), jI h2]; rfl
      rw [jI h2]; rfl)
   | (refine aD [4,5,9,10,11] rfl ?_
      refine aC 1 5 1 (by decide) (by simp) (by decide) rfl rfl ?_
      refine aC 2 7 1 (by decide) (by simp) (by decide) rfl rfl ?_
      refine aq 3 [4,5,9,10,11] (by decide) (by rfl) (by rfl) ?_
      refine ae (m' := s.slots.length - (i+1)) (by omega) ⟨i+1, rfl, by omega, ?_, ?_⟩
      · rw [wrap64 (by omega) (by omega), jJ h2]; simp; try rfl
      rw [jJ h2]; simp [aE, pV]; try rfl)
  intro h21;have h2:eI (nth s.slots i)=false:=h21;refine af fun _=>?_;refine xY ?_;refine ay ?_;refine xE [4,5,9,10,11] ?_;refine ah [4,5,9,10,11] ?_;first
  | (refine aq 3 [4,5,9,10,11] (by decide) (by rfl) (by rfl) ?_
     refine ae (m' := s.slots.length - (i+1)) (by omega) ⟨i+1, rfl, by omega, ?_, ?_⟩
     · rw [wrap64 (by omega) (by omega), jI h2]; rfl
     rw [jI h2]; rfl)
  | (refine aD [4,5,9,10,11] rfl ?_
     refine aC 1 5 1 (by decide) (by simp) (by decide) rfl rfl ?_
     refine aC 2 7 1 (by decide) (by simp) (by decide) rfl rfl ?_
     refine aq 3 [4,5,9,10,11] (by decide) (by rfl) (by rfl) ?_
     refine ae (m' := s.slots.length - (i+1)) (by omega) ⟨i+1, rfl, by omega, ?_, ?_⟩
     · rw [wrap64 (by omega) (by omega), jJ h2]; simp; try rfl
     rw [jJ h2]; simp [aE, pV]; try rfl)
 intro h12;obtain rfl:i=s.slots.length:=by simp at h12;omega
 refine aP (xT ?_);refine bx ?_;refine xF [2,3] ?_;refine xZ ?_;simp[ai,bW,ud];try rfl
theorem Mr(g:Gl)(s:bF)(hs:s.Ok):a9 Tryz.prog g 89 [cr s] (.v (.bool (dH s))):=by
 refine xA Tryz.func89 fun B S=>?_
 simp only[cr,List.map,aO];have q0:=hs.h1;refine xU ?_;refine bU [1] ?_;refine ab (ag ?_);refine ab (xU ?_);iterate 8 refine xO ?_
 refine xQ [1,4] ?_ ?_
 ·intro h4;refine af fun _=>?_;refine bd rfl ?_ ?_
  ·intro h4';refine xU ?_;refine xH [2] ?_;refine xZ ?_;first|(simp[hr];done)|(simp[show dH s=false from by(simp[dH]at *;grind)])
  intro hq;cases h4.symm.trans hq
 intro h4;refine xU ?_;iterate 8 refine xO ?_
 refine xQ [1,4] ?_ ?_
 ·intro h4';refine af fun _=>?_;refine bd rfl ?_ ?_
  ·intro Kb;refine xU ?_;refine xH [2] ?_;refine xZ ?_;first|(simp[hr];done)|(simp[show dH s=false from by(simp[dH]at *;grind)])
  intro hq;cases h4'.symm.trans hq
 intro h4';refine xY ?_;iterate 8 refine xO ?_
 refine xQ [1,4] ?_ ?_
 ·intro Kb;refine xU ?_;refine xH [2] ?_;refine xZ ?_;first|(simp[hr];done)|(simp[show dH s=false from by(simp[dH]at *;grind)])
 intro Kb;refine ab (xU ?_);refine ay ?_;refine xC (BD g s.slots hs.h1) ?_;refine ay ?_;refine xQ [1,26] ?_ ?_
 ·intro i8;refine af fun _=>?_;refine bd rfl ?_ ?_
  ·intro J9;refine xU ?_;refine xH [2] ?_;refine xZ ?_;first|(simp[hr];done)|(simp[show dH s=false from by(simp[dH]at *;grind)])
  intro hq;cases i8.symm.trans hq
 intro i8;refine xY ?_;refine ay ?_;refine xC (BE g s.roots hs.h2 hs.h5) ?_;refine ay ?_;refine xQ [1,26] ?_ ?_
 ·intro J9;refine xU ?_;refine xH [2] ?_;refine xZ ?_;first|(simp[hr];done)|(simp[show dH s=false from by(simp[dH]at *;grind)])
 intro J9;refine af fun _=>?_;refine ab (ab ?_);have hh:(s.slots.length:Int)=s.sh.slots∧(s.roots.length:Int)=s.sh.roots∧s.data.length=s.slots.length∧df s.slots=true∧ck s.roots=true:=by simp at *;grind
 have hr0:dH s=(List.range s.slots.length).all (j7 s):=by simp[dH,hh]
 obtain⟨_,_,hdl,_,_⟩:=hh;refine xY ?_;refine bx ?_;refine xF [1,37,38] ?_;refine ag (aB (fun m σ o=>∃i:Nat,m=s.slots.length-i∧i≤s.slots.length∧(∀j,j<i→j7 s j=true)∧σ=slots [(1,.ptr 0 0 0),(37,.d (vI s.slots.length)),(38,.d (vI i))]∧o=[.var 28 [.d (vI s.sh.pages),.d (vI s.sh.slots),.d (vI s.sh.roots),.d (vI s.sh.room),.d (vI s.mode),.d (vI s.base),.d (eG s.slots),.d (rR s.roots),.d (fL s.data)]]) s.slots.length .refl ⟨0,by simp,by simp,by simp,rfl,rfl⟩ ?_);rintro m σ o ⟨i,rfl,hi,hinv,rfl,rfl⟩ _;refine xU ?_;refine xH [1,37,38,39] ?_;refine ab (bd rfl ?_ ?_)
 ·intro pO;have hi2:i<s.slots.length:=by simpa using pO
  have hi3:i<s.data.length:=by omega
  refine af fun _=>?_;refine ab (ag ?_);refine xU ?_;refine bU [1,3,37,38] ?_;refine ab ?_;refine aS (by kernel_rfl) [] 4 [0,1,2,3,4,5,6,7,8,9,10,11,12] (by decide +kernel) ?_;refine aT ?_;refine xO ?_ (h:=by simp[hi3];exact .mk);refine cW ?_;refine xO ?_ (h:=by simp[hi2];exact .mk);refine aT ?_;refine xQ [1,37,38,53] ?_ ?_
  ·intro lN;have hr:dH s=false:=by rw[hr0];exact im hi2 (by simp[j7]at *;simpa [aA]using lN)
   refine xU ?_;refine xH [2] ?_;refine xZ ?_;first|(simp[hr];done)|(simp[show dH s=false from by(simp[dH]at *;grind)])
  intro lN;refine af fun _=>?_;refine xY ?_;refine ay ?_;refine xE [1,37,38] ?_;refine ah [1,37,38] ?_;refine ae (m':=s.slots.length-(i+1)) (by omega) ⟨i+1,rfl,by omega,?_,?_,rfl⟩
  ·intro j hj;rcases Nat.lt_succ_iff_lt_or_eq.1 hj with hj|rfl
   ·exact hinv j hj
   simp[j7]at *;simpa [aA]using lN
  rw[wrap64 (by omega) (by omega)];rfl
 intro pO;have hr:dH s=true:=by rw[hr0];exact all_good (fun j hj=>hinv j (by simp at pO;omega))
 refine aP (xT ?_);refine xH [2] ?_;refine xZ ?_;first|(simp[hr];done)|(simp[show dH s=false from by(simp[dH]at *;grind)])
theorem Ev(g:Gl)(a b:Int):a9 Tryz.prog g 143 [vI a,vI b] (.bK []):=by
 refine xA Tryz.func143 fun B S=>?_
 refine af ?_;refine xw (by simp;exact .mk) (by simp;exact .mk) ?_ (by simp);simp
open Go.aN
attribute [simp] Tryz.f91 Tryz.f142
theorem Kx(g:Gl)(fr to:Int)(l:List (Int×Int))(hl:l.length≤2^40):∀B S,a7 Tryz.prog g B S ⟨0,true⟩ 142 [.d (vI fr),.d (vI to),.d (rO l),.fn (.func 143) [] []] []
    (fun x r=>x = .d (.v (.bool (dt fr to l)))∧r=[]):=by
 refine aL Tryz.func142 rfl (Nat.le_of_ble_eq_true rfl) fun B S=>?_
 refine xU ?_;refine xH [0,1,2,3] ?_;refine ab (xU ?_);refine aT ?_;iterate 3 refine xI ?_
 refine xP ?_;refine xB ?_;iterate 2 refine xI ?_
 refine xP ?_;refine xB ?_;refine xI ?_;refine bI rfl (by simp;exact .mk) rfl rfl (by simp) (by simp;exact .mk) (by simp;exact .mk) (fun hb=>pH g fr) (by simp) (by simp;exact .mk) (by simp) ?_;refine xI ?_;refine xP ?_;refine xB ?_;refine xI ?_;refine bI rfl (by simp;exact .mk) rfl rfl (by simp) (by simp;exact .mk) (by simp;exact .mk) (fun hb=>pH g to) (by simp) (by simp;exact .mk) (by simp) ?_;refine xI ?_;refine xP ?_;refine xQ [0,1,2,3,32] ?_ ?_
 ·intro h32
  have hr:dt fr to l=false:=by
   have:eP fr to=false:=by simp[eP]at *;grind
   simp[dt,this]
  refine xU ?_;refine xH [8] ?_;refine ar (aK 0 (by simp;exact .mk) ?_ ?_ (by simp) (by simp) (by simp))
  ·simp[hr]
  rfl
 intro h32;have hH:0≤fr∧fr≤to∧to≤2048∧fr.tmod 4=0∧to.tmod 4=0:=by simp at h32;omega
 have hr0:dt fr to l=dI to fr l:=by simp[dt,eP,hH]
 refine af ?_;refine xT ?_;refine bU [1,2,3,9] ?_;refine ab (xU ?_);refine dC [1,3,9,34,35,36] ?_;refine ag (aB (fun m σ o=>∃(i:Nat) (a:Int),m=l.length-i∧i≤l.length∧0≤a∧a≤to∧dI to a (l.drop i)=dI to fr l∧σ=slots [(1,.d (vI to)),(3,.fn (.func 143) [] []),(9,.d (vI a)),(34,.d (rO l)),(35,.d (vI l.length)),(36,.d (vI i))]∧o=[]) l.length .refl ⟨0,fr,by simp,by simp,by omega,by omega,by simp,rfl,rfl⟩ ?_);rintro m σ o ⟨i,a,rfl,hi,ha0,ha1,hinv,rfl,rfl⟩ _;refine xU ?_;refine xH [1,3,9,34,35,36,37] ?_;refine ab (bd rfl ?_ ?_)
 ·intro h37;have hi2:i<l.length:=by simpa using h37
  rw[jA hi2]at hinv;refine af fun _=>?_;refine ab (ag ?_);refine xU ?_;refine xO ?_ (h:=by simp[aE, *];exact .mk);refine xO ?_ (h:=by simp[aE];exact .mk);refine xO ?_;refine aH ?_;refine xF [1,3,9,11,34,35,36] ?_;refine ab (ag ?_);refine ab (xU ?_);refine xO ?_;refine xO ?_ (h:=by simp[aE];exact .mk);refine aT ?_;refine xQ [1,3,9,11,34,35,36,40] ?_ ?_
  ·intro Ar;refine af fun _=>?_;refine bd rfl ?_ ?_
   ·intro xX;refine ab ?_;have hb:di to a (nth l i)=true:=by simp[di,aE]at *;grind
    have hr:dt fr to l=false:=by rw[hr0,←hinv,hb];rfl
    refine xY ?_;refine xH [8] ?_;refine ar (aK 0 (by simp;exact .mk) ?_ ?_ (by simp) (by simp) (by simp))
    ·simp[hr]
    rfl
   intro hq;cases Ar.symm.trans hq
  intro Ar;refine xU ?_;refine xO ?_;refine xO ?_ (h:=by simp[aE];exact .mk);refine aT ?_;refine xQ [1,3,9,11,34,35,36,40] ?_ ?_
  ·intro xX;refine af fun _=>?_;refine bd rfl ?_ ?_
   ·intro ru;refine ab ?_;have hb:di to a (nth l i)=true:=by simp[di,aE]at *;grind
    have hr:dt fr to l=false:=by rw[hr0,←hinv,hb];rfl
    refine xY ?_;refine xH [8] ?_;refine ar (aK 0 (by simp;exact .mk) ?_ ?_ (by simp) (by simp) (by simp))
    ·simp[hr]
    rfl
   intro hq;cases xX.symm.trans hq
  intro xX;refine xU ?_;refine xO ?_;refine xO ?_ (h:=by simp[aE];exact .mk);refine ay ?_;refine xQ [1,3,9,11,34,35,36,40] ?_ ?_
  ·intro ru;refine af fun _=>?_;refine bd rfl ?_ ?_
   ·intro m6;refine ab ?_;have hb:di to a (nth l i)=true:=by simp[di,aE]at *;grind
    have hr:dt fr to l=false:=by rw[hr0,←hinv,hb];rfl
    refine xY ?_;refine xH [8] ?_;refine ar (aK 0 (by simp;exact .mk) ?_ ?_ (by simp) (by simp) (by simp))
    ·simp[hr]
    rfl
   intro hq;cases ru.symm.trans hq
  intro ru;refine ab ?_;have w1:IntKind.i64.wrap (to-(nth l i).1)=to-(nth l i).1:=wrap64 (by simp[aE]at *;omega) (by simp[aE]at *;omega);refine xY ?_;refine xO ?_;refine xO ?_ (h:=by simp[aE];exact .mk);refine ay ?_;refine xO ?_ (h:=by simp[aE];exact .mk);refine xO ?_ (h:=by simp[w1];exact .mk);refine ay ?_;refine xQ [1,3,9,11,34,35,36,40] ?_ ?_
  ·intro m6;refine af fun _=>?_;refine bd rfl ?_ ?_
   ·intro kL;refine ab ?_;have hb:di to a (nth l i)=true:=by simp[di,aE]at *;grind
    have hr:dt fr to l=false:=by rw[hr0,←hinv,hb];rfl
    refine xY ?_;refine xH [8] ?_;refine ar (aK 0 (by simp;exact .mk) ?_ ?_ (by simp) (by simp) (by simp))
    ·simp[hr]
    rfl
   intro hq;cases m6.symm.trans hq
  intro m6;refine xU ?_;refine xO ?_;refine xO ?_ (h:=by simp[aE];exact .mk);refine xC (pH g _) ?_;refine ay ?_;refine xQ [1,3,9,11,34,35,36,40] ?_ ?_
  ·intro kL;refine af fun _=>?_;refine bd rfl ?_ ?_
   ·intro jZ;refine ab ?_;have hb:di to a (nth l i)=true:=by simp[di,aE]at *;grind
    have hr:dt fr to l=false:=by rw[hr0,←hinv,hb];rfl
    refine xY ?_;refine xH [8] ?_;refine ar (aK 0 (by simp;exact .mk) ?_ ?_ (by simp) (by simp) (by simp))
    ·simp[hr]
    rfl
   intro hq;cases kL.symm.trans hq
  intro kL;refine xY ?_;refine xO ?_;refine xO ?_ (h:=by simp[aE];exact .mk);refine xC (pH g _) ?_;refine ay ?_;refine xQ [1,3,9,11,34,35,36,40] ?_ ?_
  ·intro jZ;refine ab ?_;have hb:di to a (nth l i)=true:=by simp[di,aE]at *;grind
   have hr:dt fr to l=false:=by rw[hr0,←hinv,hb];rfl
   refine xY ?_;refine xH [8] ?_;refine ar (aK 0 (by simp;exact .mk) ?_ ?_ (by simp) (by simp) (by simp))
   ·simp[hr]
   rfl
  intro jZ;refine af fun _=>?_;refine ab ?_;have hb:di to a (nth l i)=false:=by simp[di,aE]at *;grind
  have hb2:a≤(nth l i).1∧(nth l i).1≤to∧4≤(nth l i).2∧(nth l i).2≤to-(nth l i).1:=by simp[di]at hb;omega
  have w2:IntKind.i64.wrap ((nth l i).1+(nth l i).2)=(nth l i).1+(nth l i).2:=wrap64 (by omega) (by omega);rw[hb]at hinv;refine xY ?_;refine aT ?_;refine xO ?_ (h:=by simp[aE];exact .mk);refine xC (Ev g _ _) ?_;refine xF [1,3,11,34,35,36] ?_;refine xY ?_;refine xO ?_;refine xO ?_ (h:=by simp[aE];exact .mk);refine xO ?_;refine xO ?_ (h:=by simp[aE];exact .mk);refine xO ?_ (h:=by simp[w2];exact .mk);refine xH [1,3,9,34,35,36] ?_;refine xY ?_;refine ay ?_;refine xE [1,3,9,34,35,36] ?_;refine aq 0 [1,3,9,34,35,36] (by simp) (by simp) (by simp) ?_;refine ae (m':=l.length-(i+1)) (by omega) ⟨i+1,(nth l i).1+(nth l i).2,rfl,by omega,by omega,by omega,by simpa using hinv,?_,rfl⟩;rw[wrap64 (by omega) (by omega)];rfl
 intro h37;obtain rfl:i=l.length:=by simp at h37;omega
 have hr:dt fr to l=true:=by rw[hr0,←hinv];simp[dI]
 refine aP (xT ?_);refine aT ?_;refine xC (Ev g _ _) ?_;refine xG [] ?_;refine xH [8] ?_;refine ar (aK 0 (by simp;exact .mk) ?_ ?_ (by simp) (by simp) (by simp))
 ·simp[hr]
 rfl
theorem Mt(g:Gl)(fr to:Int)(l:List (Int×Int))(hl:l.length≤2^40):a9 Tryz.prog g 91 [vI fr,vI to,rO l] (.v (.bool (dt fr to l))):=by
 refine xA Tryz.func91 fun B S=>?_
 refine xU ?_;refine xO ?_;refine xG [0,1,2] ?_;refine aT ?_;refine az rfl rfl rfl rfl (by simp;exact .mk) ⟨_,Tryz.func142,rfl,rfl⟩ (Kx g fr to l hl) (.inr ⟨[],rfl⟩) ?_;refine xH [6] ?_;refine xZ ?_;simp
open Go.aN
theorem gE{l:List Slot}(h:df l=true):∀i,i<l.length→dv (nth l i)=true:=by
 simp only[df,Bool.and_eq_true,List.all_eq_true,List.mem_range]at h;exact h.1
theorem jt{l:List Slot}(h:df l=true):l.length≤32:=by
 simp only[df,Bool.and_eq_true,eO,decide_eq_true_eq]at h;omega
theorem l5{s:Slot}(h:dv s=true)(hl:s.live=true):0≤s.at_∧s.at_≤2048∧1≤s.len∧s.len≤2048:=by
 unfold dv at h;split at h
 ·cases h
 ·rw[if_neg (by simp[hl])]at h;simpa using h
theorem Be{l:List Slot}{n j:Nat}(h:j∈dz l n):j<n∧eI (nth l j)=true:=by
 simp only[dz,List.mem_filter,List.mem_range]at h;exact h
theorem pf{l:List Slot}{n j:Nat}(h:j∈fy l n):j<n∧dV (nth l j)=true:=by
 simp only[fy,List.mem_filter,List.mem_range]at h;exact h
theorem mj{α β:Type}[Inhabited α][Inhabited β]{f:α→β}{l:List α}{i:Nat}(h:i<l.length):nth (l.map f) i=f (nth l i):=by
 rw[bC (by simpa using h),List.getElem_map,bC h]
theorem zE{α:Type}[Inhabited α]{l:List α}{i:Nat}(h:i<l.length):nth l i∈l:=by
 rw[bC h];exact List.getElem_mem h
theorem s6{l:List Slot}(h:df l=true):∀i,i<(bW l).length→(nth (bW l) i).1≤2^40:=by
 intro i hi;have hi2:i<(dz l l.length).length:=by simpa [bW]using hi
 rw[bW,mj hi2];obtain⟨h1,h2⟩:=Be (zE hi2);have h3:=l5 (gE h _ h1) (by simp[eI]at h2;exact h2.1);simp only[pV];omega
theorem mv{l:List Slot}:(bW l).length≤l.length:=by simpa [bW]using pA
def fC(b:ik):Int×Int:=(b.at_,b.len)
def bV(l:List Slot):List (Int×Int):=(ca l).map fC
def jO(s:bF):Bool:=if s.mode=1 then decide ((bW s.slots).length=0)else if s.mode=2 then decide ((bV s.slots).length=0)else true
def bL(s:bF):Bool:=cI s.sh s.mode s.base&&(dH s&&((cR s.base (bW s.slots)).isSome&&(dt (s.base*32) (s.sh.pages*32) (bV s.slots)&&jO s)))
theorem take_succ{α:Type}[Inhabited α]{l:List α}{i:Nat}(h:i<l.length):l.take (i+1)=l.take i++[nth l i]:=by
 rw[List.take_succ_eq_append_getElem h,bC h]
theorem gP{sh:Shape}{mode base:Int}(h:cI sh mode base=true):0≤base∧base≤sh.pages∧1≤sh.pages∧sh.pages≤64:=by
 simp only[cI,eN,de,Bool.and_eq_true,decide_eq_true_eq]at h;omega
theorem iu{s:bF}(h:dH s=true):df s.slots=true:=by
 simp only[dH,Bool.and_eq_true]at h;exact h.2.1
open Go.aN
attribute [simp] Tryz.f32 Tryz.f90
theorem Ms(g:Gl)(pages:Int)(l:List (Int×Int))(hl:l.length≤2^40)(ho:∀i,i<l.length→(nth l i).1≤2^40):a9 Tryz.prog g 90 [vI pages,rO l] (.bK [oI (match cR pages l with|some y=>y.1|none=>[]),vT (cR pages l).isSome]):=by
 refine xA Tryz.func90 fun B S=>?_
 have hc:=E7 g pages l hl ho;refine xU ?_;refine bU [0,1] ?_;refine ab ?_;cases hr:cR pages l
 ·skip
  simp only[hr]at hc;refine xY ?_;refine ay ?_;refine az rfl rfl rfl rfl (by simp;exact .mk) ⟨_,Tryz.func141,rfl,rfl⟩ hc (.inl (by simp)) ?_;refine cW ?_;refine xF [6,7] ?_;refine ab (xU ?_);refine ay ?_;refine xQ [6,15] ?_ ?_
  ·intro jY;refine xU ?_;refine bU [4,5] ?_;refine xZ ?_;simp[ai];try rfl
  intro jY;simp at jY
 skip
 rename_i y;simp only[hr]at hc
 have hy:y.1.length=pages.toNat:=by
  simp only[cR]at hr;split at hr
  ·cases hr;exact ek.1
  cases hr
 rw[←hy]at hc;refine xY ?_;refine ay ?_;refine az rfl rfl rfl rfl (by simp;exact .mk) ⟨_,Tryz.func141,rfl,rfl⟩ hc (.inl (by simp)) ?_;refine cW ?_;refine xF [6,7] ?_;refine ab (xU ?_);refine ay ?_;refine xQ [6,15] ?_ ?_
 ·intro jY;simp at jY
 intro jY;refine af ?_;refine xT ?_;iterate 6 refine xO ?_
 refine xF [4,5] ?_;refine xZ ?_;simp[ai];try rfl
theorem Ag(g:Gl)(s:bF)(hs:s.Ok):a9 Tryz.prog g 32 [cr s] (.v (.bool (bL s))):=by
 refine xA Tryz.func32 fun B S=>?_
 simp only[cr,List.map,aO];have q0:=hs.h1;refine xU ?_;refine bU [1] ?_;refine ab (xU ?_);refine xO ?_;refine xO ?_ (h:=by simp[a6];exact .mk);refine xO ?_;refine xO ?_ (h:=by simp[a6];exact .mk);refine xO ?_;refine xO ?_ (h:=by simp[a6];exact .mk);refine xC (BO g s.sh s.mode s.base) ?_ (he:=by simp[show D.cF∘aE=aE from funext eE];exact .mk);refine ay ?_;refine xI ?_ (h:=fun hb=>by simp[a6];exact .mk);refine bI rfl (by simp;exact .mk) rfl rfl (by simp) (by simp;exact .mk) (by simp[show D.cF∘aE=aE from funext eE];exact .mk) (fun hb=>Mr g s hs) (by simp) (by simp;exact .mk) (by simp) ?_;refine xI ?_;refine xP ?_;refine xQ [1,22] ?_ ?_
 ·intro h22;have hr:bL s=false:=by simp[bL]at *;grind
  refine xU ?_;refine xH [2] ?_;refine xZ ?_;first|(simp[hr];done)|(simp[hr0];done)|(simp[hr0];generalize bW s.slots=V;cases V<;>simp<;>omega)|(simp[hr0];clear hU hm hm2;cases U<;>simp<;>omega)
 intro h22;have hsu:cI s.sh s.mode s.base=true∧dH s=true:=by simp at h22;exact h22
 have hb:=gP hsu.1;have hT:=iu hsu.2;have M4:=jt hT;have hol:=mm (l:=s.slots);have hr0:bL s=((cR s.base (bW s.slots)).isSome&&(dt (s.base*32) (s.sh.pages*32) (bV s.slots)&&jO s)):=by simp[bL,hsu]
 refine af ?_;refine xT ?_;refine xH [1,3] ?_;refine ab (xU ?_);refine xO ?_ (h:=by simp[a6];exact .mk);refine xC (JM g s hs) ?_ (he:=by simp[show D.cF∘aE=aE from funext eE];exact .mk);refine bU [1,3,24,25,26] ?_;refine ag ?_
 refine aB (fun m σ o=>∃i:Nat,m=(ca s.slots).length-i∧i≤(ca s.slots).length∧σ=slots [(1,.ptr 0 0 0),(3,.hdr 2 0 i),(24,.hdr 1 0 (ca s.slots).length),(25,.d (vI (ca s.slots).length)),(26,.d (vI i))]∧o=[.var 28 [.d (vI s.sh.pages),.d (vI s.sh.slots),.d (vI s.sh.roots),.d (vI s.sh.room),.d (vI s.mode),.d (vI s.base),.d (eG s.slots),.d (rR s.roots),.d (fL s.data)],.row 3 ((ca s.slots).map a6),.row 2 (((ca s.slots).take i).map fun b=>aE (fC b))]) (ca s.slots).length
  (Weak.trans (Weak.dJ 3 2 rfl) (Weak.kills [1,3,24,25,26] rfl) (fun _ _ _ h1 h2=>by rw[←h1.len];exact h2)) ⟨0,by simp,by simp,by simp,by simp⟩ ?_
 rintro m σ o ⟨i,rfl,hi,rfl,rfl⟩ _;refine xU ?_;refine xH [1,3,24,25,26,27] ?_;refine ab (bd rfl ?_ ?_)
 ·intro h27;have hi2:i<(ca s.slots).length:=by simpa using h27
  have e1:(i+1)*16≤140737488355328:=by omega
  have e2:i≤140737488355327:=by omega
  have htk:((ca s.slots).take i).length=i:=by simp;omega
  refine af fun _=>?_;refine ab (ag ?_);refine xU ?_;refine xO ?_ (h:=by simp[a6,hi2];exact .mk);refine xO ?_ (h:=by simp[-List.getElem?_map,ao hi2,a6];exact .mk);refine xO ?_;refine aH ?_;refine xF [1,3,5,24,25,26] ?_;refine xY ?_;refine ay ?_;refine xO ?_ (h:=by simp[a6];exact .mk);refine xO ?_;refine xO ?_ (h:=by simp[a6];exact .mk);refine aH ?_;refine xO ?_;refine xO ?_ (h:=by simp[rows,e1,e2,htk,Nat.min_eq_left hi];exact .mk);refine xH [1,3,24,25,26] ?_;refine xY ?_;refine ay ?_;refine xE [1,3,24,25,26] ?_;refine ah [1,3,24,25,26] ?_;refine aD [1,3,24,25,26] rfl ?_;refine aC 2 5 1 (by decide) (by simp) (by decide) rfl rfl ?_;refine aq 3 [1,3,24,25,26] (by decide) (by rfl) (by rfl) ?_;refine ae (m':=(ca s.slots).length-(i+1)) (by omega) ⟨i+1,rfl,by omega,?_,?_⟩
  ·rw[wrap64 (by omega) (by omega)];simp;try rfl
  rw[take_succ hi2];simp[aE,fC,a6];try rfl
 intro h27;obtain rfl:i=(ca s.slots).length:=by simp at h27;omega
 obtain⟨U,hU⟩:∃U,U=bV s.slots:=⟨_,rfl⟩;have hm:List.take (ca s.slots).length (List.map (fun b=>aE (fC b)) (ca s.slots))=U.map aE:=by rw[hU,bV,←List.map_take,List.take_length,List.map_map];rfl
 have hm2:(ca s.slots).length=U.length:=by rw[hU,bV,List.length_map]
 rw[hm,hm2];have e4:IntKind.i64.wrap (s.base*32)=s.base*32:=wrap64 (by omega) (by omega);have e5:IntKind.i64.wrap (s.sh.pages*32)=s.sh.pages*32:=wrap64 (by omega) (by omega);have htl:=mv (l:=s.slots);rw[←hU]at hr0;refine aP (xT ?_);refine xO ?_ (h:=by simp[a6];exact .mk);refine xC (Jx g s hs) ?_ (he:=by simp[show D.cF∘aE=aE from funext eE];exact .mk);refine cW ?_;refine xG [1,3,6] ?_;refine xO ?_;refine xO ?_ (h:=by simp[a6];exact .mk);refine xO ?_;refine xC (Ms g s.base (bW s.slots) (by omega) (s6 hT)) ?_ (he:=by simp[show D.cF∘aE=aE from funext eE];exact .mk);refine cW ?_;refine xF [1,3,6,9] ?_;refine ab (ag ?_);refine ab (xU ?_);refine aT ?_;refine xQ [1,3,6,51] ?_ ?_
 ·intro tb;have hr:bL s=false:=by rw[hr0];first|(simp at m8;simp[m8];done)|(simp at tb;simp[tb];done)
  refine af fun _=>?_;refine bd rfl ?_ ?_
  ·intro m8;have hr:bL s=false:=by rw[hr0];first|(simp at m8;simp[m8];done)|(simp at tb;simp[tb];done)
   refine xU ?_;refine xH [2] ?_;refine xZ ?_;first|(simp[hr];done)|(simp[hr0];done)|(simp[hr0];generalize bW s.slots=V;cases V<;>simp<;>omega)|(simp[hr0];clear hU hm hm2;cases U<;>simp<;>omega)
  intro hq;cases tb.symm.trans hq
 intro tb;refine xY ?_;refine xO ?_;refine xO ?_ (h:=by simp[a6];exact .mk);refine xO ?_ (h:=by simp[e4];exact .mk);refine ay ?_;refine xO ?_ (h:=by simp[a6];exact .mk);refine xO ?_ (h:=by simp[e5];exact .mk);refine xO ?_;refine xC (Mt g (s.base*32) (s.sh.pages*32) U (by omega)) ?_ (he:=by simp[show D.cF∘aE=aE from funext eE];exact .mk);refine ay ?_;refine xQ [1,3,6,51] ?_ ?_
 ·intro m8;have hr:bL s=false:=by rw[hr0];first|(simp at m8;simp[m8];done)|(simp at tb;simp[tb];done)
  refine xU ?_;refine xH [2] ?_;refine xZ ?_;first|(simp[hr];done)|(simp[hr0];done)|(simp[hr0];generalize bW s.slots=V;cases V<;>simp<;>omega)|(simp[hr0];clear hU hm hm2;cases U<;>simp<;>omega)
 intro m8;have hl:(cR s.base (bW s.slots)).isSome=true:=by simpa using tb
 have hg:dt (s.base*32) (s.sh.pages*32) U=true:=by simpa using m8
 rw[hl,hg,Bool.true_and,Bool.true_and,jO,←hU]at hr0;refine xU ?_;refine xO ?_;refine xO ?_ (h:=by simp[a6];exact .mk);refine ay ?_;refine xQ [1,3,6,64] ?_ ?_
 ·intro h64;rw[if_pos (by simpa using h64)]at hr0;refine xU ?_;refine bx ?_;refine xF [2] ?_;refine xZ ?_;first|(simp[hr];done)|(simp[hr0];done)|(simp[hr0];generalize bW s.slots=V;cases V<;>simp<;>omega)|(simp[hr0];clear hU hm hm2;cases U<;>simp<;>omega)
 intro h64;rw[if_neg (by simpa using h64)]at hr0;refine xU ?_;refine xO ?_;refine xO ?_ (h:=by simp[a6];exact .mk);refine ay ?_;refine xQ [3,71] ?_ ?_
 ·intro lj;rw[if_pos (by simpa using lj)]at hr0;refine xU ?_;refine bx ?_;refine xF [2] ?_;refine xZ ?_;first|(simp[hr];done)|(simp[hr0];done)|(simp[hr0];generalize bW s.slots=V;cases V<;>simp<;>omega)|(simp[hr0];clear hU hm hm2;cases U<;>simp<;>omega)
 intro lj;rw[if_neg (by simpa using lj)]at hr0;refine af ?_;refine xT ?_;refine xH [2] ?_;refine xZ ?_;first|(simp[hr];done)|(simp[hr0];done)|(simp[hr0];generalize bW s.slots=V;cases V<;>simp<;>omega)|(simp[hr0];clear hU hm hm2;cases U<;>simp<;>omega)
open Go.aN
def ax(s:bF):D:=.agg [vI s.sh.pages,vI s.sh.slots,vI s.sh.roots,vI s.sh.room,vI s.mode,vI s.base,Fk s.slots,oR s.roots,Om s.data]
@[simp] theorem Ic(s:bF):(ax s).dS=true:=by simp[ax]
@[simp] theorem H6(s:bF):(ax s).fp=true:=by simp[ax]
def bn:bF:=⟨⟨0,0,0,0⟩,0,0,[],[],[]⟩
def lE(sh:Shape)(mode:Int):Int:=if mode=2 then sh.pages else 0
def dN(sh:Shape)(mode:Int):bF:=⟨sh,mode,lE sh mode,List.replicate sh.slots.toNat zY,List.replicate sh.roots.toNat fX,List.replicate sh.slots.toNat []⟩
def newS(sh:Shape)(mode:Int):bF×Int:=if cI sh mode (lE sh mode)&&decide (mode≤2)then (dN sh mode,0)else (bn,1)
def jd(s:bF):Bool:=(List.range (min s.data.length 100)).all (fun i=>decide (((nth s.data i).length:Int)≤4096))&&((List.range (min s.roots.length 100)).all (fun i=>decide (((nth s.roots i).name.size:Int)≤1024))
  && (decide ((s.slots.length : Int) ≤ 60) && (decide ((s.roots.length : Int) ≤ 60) && decide ((s.data.length : Int) ≤ 60))))
theorem tA{s:bF}(h:jd s=true):s.Ok:=by
 simp[jd]at h;obtain⟨h1,h2,h3,h4,h5⟩:=h;refine⟨by omega,by omega,by omega,fun i hi=>?_,fun i hi=>?_⟩
 ·have:=h1 i (by omega);omega
 ·have:=h2 i (by omega);omega
def Qk:Shape:=⟨4,4,2,30⟩
theorem kr{sh:Shape}{mode base:Int}(h:cI sh mode base=true):(2≤sh.slots∧sh.slots≤32∧sh.slots.tmod 2=0)∧2≤sh.roots∧sh.roots≤8∧sh.roots.tmod 2=0:=by
 simp only[cI,eN,de,Bool.and_eq_true,decide_eq_true_eq]at h;omega
theorem p9{sh:Shape}{mode base:Int}(h:cI sh mode base=true):eO sh.slots=true:=by
 simp only[eO,decide_eq_true_eq];exact(kr h).1
theorem p8{sh:Shape}{mode base:Int}(h:cI sh mode base=true):fQ sh.roots=true:=by
 have:=(kr h).2;simp[fQ];omega
theorem DJ{sh:Shape}{mode base:Int}(h:cI sh mode base=true):(dN sh mode).Ok:=by
 have:=kr h;refine⟨by simp[dN];omega,by simp[dN];omega,by simp[dN];omega,fun i hi=>?_,fun i hi=>?_⟩
 ·simp only[dN,List.length_replicate]at hi ⊢;rw[bC (by simpa using hi),List.getElem_replicate];simp
 ·simp only[dN,List.length_replicate]at hi ⊢;rw[bC (by simpa using hi),List.getElem_replicate];simp[fX,ByteArray.size]
open Go.aN
attribute [simp] Tryz.f20 Tryz.f53
theorem Mg(g:Gl)(sh:Shape)(mode:Int):a9 Tryz.prog g 53 [fc sh,vI mode] (.bK [ax (newS sh mode).1,vI (newS sh mode).2]):=by
 refine xA Tryz.func53 fun B S=>?_
 simp only[fc,List.map,aO,cC];refine xU ?_;refine aT ?_;refine xG [1,2,4] ?_;refine xH [1,2,4,6] ?_;refine ab (xU ?_);refine ay ?_;refine xQ [1,2,4,6,12] ?_ ?_
 ·intro h12;have hm:mode=2:=by simpa using h12
  have hb:lE sh mode=sh.pages:=by rw[lE,if_pos hm]
  refine xY ?_;refine dC [1,2,4,6] ?_;refine ab (xU ?_);refine aT ?_;refine bA rfl rfl rfl rfl (by simp;exact .mk) (by simp;exact .mk) (by first|exact BO g sh mode sh.pages|exact BO g sh mode 0) (by simp) (by simp;exact .mk) ?_;refine ay ?_;iterate 2 refine xI ?_
  refine xP ?_;refine xQ [1,2,4,6,23] ?_ ?_
  ·intro h23;have hr:newS sh mode=(bn,1):=by unfold newS;rw[hb,if_neg];simp at h23 ⊢;grind
   refine xU ?_;iterate 2 (refine aH ?_)
   refine xH [4,5] ?_;refine ar (aG (by simp;exact .mk) (by simp;exact .mk) ?_ (by simp[ax]));simp[hr,ax,bn,dN,hb,ai]
  intro h23;have hs:cI sh mode (lE sh mode)=true∧mode≤2:=by rw[hb];simp at h23;exact h23
  have hr:newS sh mode=(dN sh mode,0):=by unfold newS;rw[if_pos];simp[hs]
  have Bv:=BA g sh.slots;have Db:=BC g sh.roots;simp only[p9 hs.1,p8 hs.1,if_true]at Bv Db;have hsh:=kr hs.1;have e0:0≤sh.slots:=by omega
  have e1:24*sh.slots≤140737488355328:=by omega
  have e2:sh.slots≤140737488355328:=by omega
  refine af ?_;refine xT ?_;refine ay ?_;refine xC (Bv) ?_;refine cW ?_;refine xG [1,2,4,6,7] ?_;refine ay ?_;refine xC (Db) ?_;refine cW ?_;refine xF [1,2,4,6,7,9] ?_;refine ab ?_;refine aS (by kernel_rfl) [] 4 [0,1,2,3,4,5,6,7,8,9,10] (by decide +kernel) ?_;iterate 7 refine xO ?_
  refine xO ?_ (h:=by simp[e0,e1,e2];exact .mk);iterate 2 (refine aH ?_)
  refine xH [4,5] ?_;refine ar (aG (by simp;exact .mk) (by simp;exact .mk) ?_ (by simp[ax]));simp[hr,ax,bn,dN,hb,ai]
 intro h12;have hm:mode≠2:=by simpa using h12
 have hb:lE sh mode=0:=by rw[lE,if_neg hm]
 refine af fun _=>?_;refine ab (xU ?_);refine aT ?_;refine bA rfl rfl rfl rfl (by simp;exact .mk) (by simp;exact .mk) (by first|exact BO g sh mode sh.pages|exact BO g sh mode 0) (by simp) (by simp;exact .mk) ?_;refine ay ?_;iterate 2 refine xI ?_
 refine xP ?_;refine xQ [1,2,4,6,23] ?_ ?_
 ·intro h23;have hr:newS sh mode=(bn,1):=by unfold newS;rw[hb,if_neg];simp at h23 ⊢;grind
  refine xU ?_;iterate 2 (refine aH ?_)
  refine xH [4,5] ?_;refine ar (aG (by simp;exact .mk) (by simp;exact .mk) ?_ (by simp[ax]));simp[hr,ax,bn,dN,hb,ai]
 intro h23;have hs:cI sh mode (lE sh mode)=true∧mode≤2:=by rw[hb];simp at h23;exact h23
 have hr:newS sh mode=(dN sh mode,0):=by unfold newS;rw[if_pos];simp[hs]
 have Bv:=BA g sh.slots;have Db:=BC g sh.roots;simp only[p9 hs.1,p8 hs.1,if_true]at Bv Db;have hsh:=kr hs.1;have e0:0≤sh.slots:=by omega
 have e1:24*sh.slots≤140737488355328:=by omega
 have e2:sh.slots≤140737488355328:=by omega
 refine af ?_;refine xT ?_;refine ay ?_;refine xC (Bv) ?_;refine cW ?_;refine xG [1,2,4,6,7] ?_;refine ay ?_;refine xC (Db) ?_;refine cW ?_;refine xF [1,2,4,6,7,9] ?_;refine ab ?_;refine aS (by kernel_rfl) [] 4 [0,1,2,3,4,5,6,7,8,9,10] (by decide +kernel) ?_;iterate 7 refine xO ?_
 refine xO ?_ (h:=by simp[e0,e1,e2];exact .mk);iterate 2 (refine aH ?_)
 refine xH [4,5] ?_;refine ar (aG (by simp;exact .mk) (by simp;exact .mk) ?_ (by simp[ax]));simp[hr,ax,bn,dN,hb,ai]
theorem Jp(g:Gl)(s:bF):a9 Tryz.prog g 20 [cr s] (.v (.bool (jd s))):=by
 refine xA Tryz.func20 fun B S=>?_
 simp only[cr,List.map,aO];refine xU ?_;refine bU [1] ?_;refine ab (xU ?_);refine xH [1,3] ?_;refine ag (aB (fun m σ r=>∃i:Nat,m=100-i∧i≤min s.data.length 100∧(∀j,j<i→decide (((nth s.data j).length:Int)≤4096)=true)∧σ=slots [(1,.ptr 0 0 0),(3,.d (vI i))]∧r=[.var 28 [.d (vI s.sh.pages),.d (vI s.sh.slots),.d (vI s.sh.roots),.d (vI s.sh.room),.d (vI s.mode),.d (vI s.base),.d (eG s.slots),.d (rR s.roots),.d (fL s.data)]]) 100 .refl ⟨0,by simp,by simp,by simp,rfl,rfl⟩ ?_);rintro m σ r ⟨i,rfl,hi,hinv,rfl,rfl⟩ _;refine ab (xU ?_);refine ay ?_;refine xO ?_ (h:=by simp[ak];exact .mk);refine aT ?_;iterate 2 refine xI ?_
 refine xP ?_;refine xQ [1,3,13] ?_ ?_
 ·intro i7;have h1:i<s.data.length∧i<100:=by simp at i7;omega
  have h2:=h1.1;refine af fun _=>?_;refine ab (ag ?_);refine xU ?_;refine xO ?_;refine xO ?_ (h:=by simp[ak];exact .mk);refine xO ?_;refine xO ?_ (h:=by simp[ak,h2];exact .mk);refine xO ?_ (h:=by simp[ak];exact .mk);refine ay ?_;refine xQ [1,3,22] ?_ ?_
  ·intro h22
   have hr:jd s=false:=by
    have:(List.range (min s.data.length 100)).all (fun i=>decide (((nth s.data i).length:Int)≤4096))=false:=im (i:=i) (by omega) (by simpa using h22);simp[jd,this]
   refine xU ?_;refine xH [2] ?_;refine xZ ?_;simp[hr]<;>try (simp[Bool.and_assoc])
  intro h22;refine af fun _=>?_;refine xY ?_;refine aT ?_;refine xE [1,3] ?_;refine ah [1,3] ?_;refine ae (m':=100-(i+1)) (by omega) ⟨i+1,rfl,by omega,?_,?_,rfl⟩
  ·intro j hj;rcases Nat.lt_succ_iff_lt_or_eq.1 hj with hj|rfl
   ·exact hinv j hj
   simpa using h22
  rw[wrap64 (by omega) (by omega)];rfl
 intro i7;have q1:(List.range (min s.data.length 100)).all (fun i=>decide (((nth s.data i).length:Int)≤4096))=true:=all_good (fun j hj=>hinv j (by simp at i7;omega));refine aP ?_;rintro -;refine ab (xU ?_);refine xH [1,4] ?_;refine ag (aB (fun m σ r=>∃i:Nat,m=100-i∧i≤min s.roots.length 100∧(∀j,j<i→decide (((nth s.roots j).name.size:Int)≤1024)=true)∧σ=slots [(1,.ptr 0 0 0),(4,.d (vI i))]∧r=[.var 28 [.d (vI s.sh.pages),.d (vI s.sh.slots),.d (vI s.sh.roots),.d (vI s.sh.room),.d (vI s.mode),.d (vI s.base),.d (eG s.slots),.d (rR s.roots),.d (fL s.data)]]) 100 .refl ⟨0,by simp,by simp,by simp,rfl,rfl⟩ ?_);rintro m σ r ⟨i,rfl,hi,hinv,rfl,rfl⟩ _;refine ab (xU ?_);refine ay ?_;refine xO ?_ (h:=by simp[ak];exact .mk);refine aT ?_;iterate 2 refine xI ?_
 refine xP ?_;refine xQ [1,4,31] ?_ ?_
 ·intro h31;have h1:i<s.roots.length∧i<100:=by simp at h31;omega
  have h2:=h1.1;refine af fun _=>?_;refine ab (ag ?_);refine xU ?_;refine xO ?_;refine xO ?_ (h:=by simp[ak];exact .mk);refine xO ?_;refine xO ?_ (h:=by simp[ak,h2];exact .mk);refine xO ?_;refine xO ?_ (h:=by simp[ak];exact .mk);refine ay ?_;refine xQ [1,4,41] ?_ ?_
  ·intro j0
   have hr:jd s=false:=by
    have:(List.range (min s.roots.length 100)).all (fun i=>decide (((nth s.roots i).name.size:Int)≤1024))=false:=im (i:=i) (by omega) (by simpa using j0);simp[jd,this]
   refine xU ?_;refine xH [2] ?_;refine xZ ?_;simp[hr]<;>try (simp[Bool.and_assoc])
  intro j0;refine af fun _=>?_;refine xY ?_;refine aT ?_;refine xE [1,4] ?_;refine ah [1,4] ?_;refine ae (m':=100-(i+1)) (by omega) ⟨i+1,rfl,by omega,?_,?_,rfl⟩
  ·intro j hj;rcases Nat.lt_succ_iff_lt_or_eq.1 hj with hj|rfl
   ·exact hinv j hj
   simpa using j0
  rw[wrap64 (by omega) (by omega)];rfl
 intro h31;have q2:(List.range (min s.roots.length 100)).all (fun i=>decide (((nth s.roots i).name.size:Int)≤1024))=true:=all_good (fun j hj=>hinv j (by simp at h31;omega));have hr:jd s=(decide ((s.slots.length:Int)≤60)&&(decide ((s.roots.length:Int)≤60)&&decide ((s.data.length:Int)≤60))):=by rw[jd,q1,q2];rfl
 refine aP (xT ?_);refine xO ?_;refine xO ?_ (h:=by simp[ak];exact .mk);refine aT ?_;refine xI ?_;refine xI ?_ (h:=fun hb=>by simp[ak];exact .mk);iterate 2 refine xI ?_
 refine xP ?_;refine xB ?_;refine xI ?_;refine xI ?_ (h:=fun hb=>by simp[ak];exact .mk);iterate 2 refine xI ?_
 refine xP ?_;refine xB ?_;refine xF [2] ?_;refine xZ ?_;simp[hr]<;>try (simp[Bool.and_assoc])
open Go.aN
theorem kq{s:bF}(h:bL s=true):df s.slots=true:=by
 simp only[bL,Bool.and_eq_true]at h;exact iu h.2.1
theorem pw{s:bF}(h:bL s=true):dt (s.base*32) (s.sh.pages*32) (bV s.slots)=true:=by
 simp only[bL,Bool.and_eq_true]at h;exact h.2.2.2.1
theorem ij{s:bF}(h:bL s=true):cI s.sh s.mode s.base=true:=by
 simp only[bL,Bool.and_eq_true]at h;exact h.1
theorem AJ{l:List Slot}{b:ik}(h:b∈ca l):∃k:Nat,k<l.length∧dV (nth l k)=true∧b=gv l k:=by
 have h1:b∈fi l:=(iH (fi l)).mem_iff.1 h;simp only[fi,List.mem_map]at h1;obtain⟨k,hk,rfl⟩:=h1;exact⟨k,(pf hk).1,(pf hk).2,rfl⟩
open Go.aN
def gI(a b:nB):Prop:=(a.small=true∧b.small=true∧a.cls=b.cls∧a.cell≠b.cell)∨a.page+a.count≤b.page∨b.page+b.count≤a.page
def Holds(st:List Int×List Nat)(a:nB):Prop:=(a.small=true→nth st.1 a.page.toNat=a.cls∧(nth st.2 a.page.toNat).testBit a.cell.toNat=true)∧(a.small=false→∀t:Nat,(t:Int)<a.count→nth st.1 (a.page.toNat+t)=7∨nth st.1 (a.page.toNat+t)=6)
structure iv (pages:Int) (a:nB):Prop where
 p0:0≤a.page
 c1:1≤a.count
 p1:a.page+a.count≤pages
 s1:a.small=true→a.count=1∧0≤a.cls∧a.cls<6∧0≤a.cell∧a.cell<64
theorem bT{α:Type}[Inhabited α]{l:List α}{i j:Nat}{x:α}(hi:i<l.length):nth (l.set i x) j=if i=j then x else nth l j:=by
 by_cases hj:j<l.length
 ·rw[bC (by simpa using hj),List.getElem_set];split
  ·rfl
  ·rw[bC hj]
 ·rw[if_neg (by omega)];simp only[nth];rw[List.getD_eq_getElem?_getD,List.getD_eq_getElem?_getD,List.getElem?_eq_none (by simpa using hj),List.getElem?_eq_none (by omega)]
theorem mV{p:Nat}:∀ {f j:Nat} {l:List Int},(ed p f j l).1=true→p+j+f≤l.length→(∀t,j≤t→t<j+f→nth l (p+t) = -1)∧∀x,nth (ed p f j l).2 x=if p+j≤x∧x<p+j+f then 7 else nth l x
 | 0,j,l,h,hl=>⟨fun t h1 h2=>by omega,fun x=>by rw[if_neg (by omega)];rfl⟩
 | f+1,j,l,h,hl=>by
  by_cases hq:nth l (p+j) = -1
  ·rw[qt hq]at h ⊢;obtain⟨h1,h2⟩:=mV h (by simp;omega);constructor
   ·intro t ht1 ht2;by_cases e:t=j
    ·subst e;exact hq
    ·have:=h1 t (by omega) (by omega)
     rwa [bT (by omega),if_neg (by omega)]at this
   ·intro x;rw[h2,bT (by omega)];by_cases e:p+j=x
    ·subst e;rw[if_neg (by omega),if_pos rfl,if_pos (by omega)]
    ·rw[if_neg e];by_cases e2:p+(j+1)≤x∧x<p+(j+1)+f
     ·rw[if_pos e2,if_pos (by omega)]
     ·rw[if_neg e2,if_neg (by omega)]
  ·rw[uz hq]at h;cases h
theorem zc{m c:Nat}(h:m &&& 2^c=0):m.testBit c=false:=by
 have:=congrArg (fun x=>x.testBit c) h;simpa [Nat.testBit_and,Nat.testBit_two_pow_self]using this
theorem v7{pages:Int}{st:List Int×List Nat}{b:nB}(hp:pages≤64)(h1:st.1.length=pages.toNat)(h2:st.2.length=64)(hb:iv pages b)
    (h:(gm st.1 st.2 b.page.toNat b.count.toNat b.small b.cls b.cell.toNat).1=true) :
    (∀a,iv pages a→Holds st a→gI a b∧Holds (gm st.1 st.2 b.page.toNat b.count.toNat b.small b.cls b.cell.toNat).2 a)∧Holds (gm st.1 st.2 b.page.toNat b.count.toNat b.small b.cls b.cell.toNat).2 b:=by
 obtain⟨bp,bc,bs,bk,bl⟩:=b;obtain⟨p0,c1,p1,s1⟩:=hb;simp only at p0 c1 p1 s1 h ⊢;have hpl:bp.toNat<st.1.length:=by omega
 have hpm:bp.toNat<st.2.length:=by omega
 unfold gm at h ⊢;by_cases hs:bs=true
 ·subst hs;obtain⟨rfl,k0,k6,l0,Qg⟩:=s1 rfl;simp only[if_true]at h ⊢;by_cases hc:nth st.1 bp.toNat=bk∧nth st.2 bp.toNat &&& 2^bl.toNat=0
  ·rw[if_pos hc]at h ⊢;have hbit:=zc hc.2;refine⟨fun a ga ha=>⟨?_,?_⟩,?_⟩
   ·by_cases hpp:a.page+a.count≤bp∨bp+1≤a.page
    ·exact .inr hpp
    ·left
     cases has:a.small with
     | true=>
      obtain⟨q1,q2⟩:=ha.1 has;have gs:=ga.s1 has;have hpe:a.page=bp:=by have:=gs.1;omega
      rw[hpe]at q1 q2;refine⟨rfl,rfl,by rw[←q1,hc.1],fun e=>?_⟩;simp only at e;rw[e]at q2;rw[hbit]at q2;cases q2
     | false=>
      exfalso;have:=ha.2 has (bp-a.page).toNat (by have:=ga.c1;omega);rw[show a.page.toNat+(bp-a.page).toNat=bp.toNat by have:=ga.p0;omega,hc.1]at this;omega
   ·refine⟨fun has=>?_,fun has t ht=>ha.2 has t ht⟩;obtain⟨q1,q2⟩:=ha.1 has;refine⟨q1,?_⟩;rw[bT hpm];split
    ·rename_i e;rw[←e]at q2;rw[Nat.testBit_or,q2];rfl
    ·exact q2
   ·refine⟨fun _=>⟨hc.1,?_⟩,fun e=>by cases e⟩;simp only;rw[bT hpm,if_pos rfl,Nat.testBit_or,Nat.testBit_two_pow_self];simp
  ·rw[if_neg hc]at h ⊢;by_cases hf:nth st.1 bp.toNat = -1
   ·rw[if_pos hf]at h ⊢
    have rV:∀a,iv pages a→Holds st a→a.page+a.count≤bp∨bp+1≤a.page:=by
     intro a ga ha;by_cases hpp:a.page+a.count≤bp∨bp+1≤a.page
     ·exact hpp
     ·exfalso
      cases has:a.small with
      | true=>
       obtain⟨q1,_⟩:=ha.1 has;have gs:=ga.s1 has;rw[show a.page=bp by omega,hf]at q1;omega
      | false=>
       have:=ha.2 has (bp-a.page).toNat (by have:=ga.c1;omega);rw[show a.page.toNat+(bp-a.page).toNat=bp.toNat by have:=ga.p0;omega,hf]at this;omega
    refine⟨fun a ga ha=>⟨.inr (rV a ga ha),?_⟩,?_⟩
    ·have hn:=rV a ga ha;have h0:=ga.p0;have h1:=ga.c1;refine⟨fun has=>?_,fun has t ht=>?_⟩
     ·obtain⟨q1,q2⟩:=ha.1 has;simp only;rw[bT hpl,bT hpm,if_neg (by omega),if_neg (by omega)];exact⟨q1,q2⟩
     ·simp only;rw[bT hpl,if_neg (by omega)];exact ha.2 has t ht
    ·refine⟨fun _=>⟨?_,?_⟩,fun e=>by cases e⟩
     ·simp only;rw[bT hpl,if_pos rfl]
     ·simp only;rw[bT hpm,if_pos rfl,Nat.testBit_two_pow_self]
   ·rw[if_neg hf]at h;cases h
 ·have hs2:bs=false:=by simpa using hs
  subst hs2;simp only[Bool.false_eq_true,if_false]at h ⊢;by_cases hf:(ed bp.toNat bc.toNat 0 st.1).1=true
  ·rw[if_pos hf]at h ⊢;obtain⟨g1,g2⟩:=mV hf (by omega);have hlen:bp.toNat<(ed bp.toNat bc.toNat 0 st.1).2.length:=by rw[mc];exact hpl
   have val:∀x,nth ((ed bp.toNat bc.toNat 0 st.1).2.set bp.toNat 6) x=if bp.toNat=x then 6 else if bp.toNat≤x∧x<bp.toNat+bc.toNat then 7 else nth st.1 x:=by
    intro x;rw[bT hlen,g2];simp only[Nat.add_zero]
   have rV:∀a,iv pages a→Holds st a→a.page+a.count≤bp∨bp+bc≤a.page:=by
    intro a ga ha;by_cases hpp:a.page+a.count≤bp∨bp+bc≤a.page
    ·exact hpp
    ·exfalso;have h0:=ga.p0;have h1:=ga.c1
     cases has:a.small with
     | true=>
      obtain⟨q1,_⟩:=ha.1 has;have gs:=ga.s1 has;have:=g1 (a.page-bp).toNat (by omega) (by omega);rw[show bp.toNat+(a.page-bp).toNat=a.page.toNat by omega,q1]at this;omega
     | false=>
      by_cases hle:a.page≤bp
      ·have e1:=ha.2 has (bp-a.page).toNat (by omega);have e2:=g1 0 (by omega) (by omega);rw[show a.page.toNat+(bp-a.page).toNat=bp.toNat+0 by omega,e2]at e1;omega
      ·have e1:=ha.2 has 0 (by omega);have e2:=g1 (a.page-bp).toNat (by omega) (by omega);rw[show bp.toNat+(a.page-bp).toNat=a.page.toNat+0 by omega]at e2;simp only[Nat.add_zero]at e1 e2;rw[e2]at e1;omega
   refine⟨fun a ga ha=>⟨.inr (rV a ga ha),?_⟩,?_⟩
   ·have hn:=rV a ga ha;have h0:=ga.p0;have h1:=ga.c1;refine⟨fun has=>?_,fun has t ht=>?_⟩
    ·obtain⟨q1,q2⟩:=ha.1 has;refine⟨?_,q2⟩;simp only;rw[val,if_neg (by omega),if_neg (by omega)];exact q1
    ·simp only;rw[val,if_neg (by omega),if_neg (by omega)];exact ha.2 has t ht
   ·refine⟨fun e=>(by cases e),fun _ t ht=>?_⟩;simp only at ht ⊢;rw[val];split
    ·exact .inr rfl
    ·rw[if_pos (by omega)];exact .inl rfl
  ·rw[if_neg hf]at h;cases h
open Go.aN
theorem fW{k:Nat}(h:k<6):nth aI k=2∨nth aI k=3∨nth aI k=5∨nth aI k=7∨nth aI k=10∨nth aI k=15:=by
 have:k=0∨k=1∨k=2∨k=3∨k=4∨k=5:=by omega
 rcases this with h|h|h|h|h|h<;>subst h<;>decide
theorem lG{n:Int}(h:(bB n).2=true):1≤n∧∃k:Nat,k<6∧(bB n).1=k∧n≤nth aI k*8:=by
 unfold bB at h ⊢;split
 ·rename_i h1;rw[if_pos h1]at h;simp at h
 ·rename_i h1;rw[if_neg h1]at h;refine⟨by omega,?_⟩
  cases hf:aI.findIdx? (fun w=>decide (n≤w*8))with
  | none=>rw[hf]at h;simp at h
  | some k=>
   obtain⟨h2,h3,_⟩:=List.findIdx?_eq_some_iff_getElem.1 hf;exact⟨k,h2,rfl,by rw[bC h2];simpa using h3⟩
structure Ej (pages:Int) (o:Int×Int) (a:nB):Prop where
 good:iv pages a
 sm:a.small=true→∃k:Nat,k<6∧a.cls=k∧o.1=32*a.page+4+a.cell*nth aI k∧(o.2+7).tdiv 8≤nth aI k∧4+(a.cell+1)*nth aI k≤32
 lg:a.small=false→o.1=32*a.page∧(o.2+7).tdiv 8≤32*a.count
theorem dK{pages:Int}{o:Int×Int}(h:(aM pages o).2=true):Ej pages o (aM pages o).1:=by
 unfold aM at h ⊢;split
 ·rename_i h1;rw[if_pos h1]at h;simp at h
 ·rename_i h1;rw[if_neg h1]at h
  have Qc:o.1=32*o.1.tdiv 32+o.1.tmod 32:=by
   rw[Int.tdiv_eq_ediv_of_nonneg (by omega),Int.tmod_eq_emod_of_nonneg (by omega)];omega
  have hp:0≤o.1.tdiv 32:=Int.tdiv_nonneg (by omega) (by omega);have hm:0≤o.1.tmod 32∧o.1.tmod 32<32:=by rw[Int.tmod_eq_emod_of_nonneg (by omega)];omega
  split
  ·rename_i h2;rw[if_pos h2]at h;simp only[Bool.and_eq_true,decide_eq_true_eq]at h;obtain⟨hn,k,hk,hcls,hlen⟩:=lG h2;obtain⟨hw,hpg⟩:=h;rw[hcls]at hw ⊢;simp only;have hwk:=fW hk;have hwb:2≤nth aI k∧nth aI k≤15:=by omega
   obtain⟨w,Dg⟩:∃w,w=nth aI k:=⟨_,rfl⟩
   have ll:(o.2+7).tdiv 8≤w:=by
    rw[Int.tdiv_eq_ediv_of_nonneg (by omega)];omega
   have hcell:∃c:Int,(cy k (o.1.tmod 32)).1=c∧0≤c∧o.1.tmod 32=4+c*w∧4+(c+1)*w≤32:=by
    unfold cy at hw ⊢;split
    ·rename_i h3;rw[if_pos h3]at hw;simp at hw
    ·rename_i h3;rw[if_neg h3]at hw;split
     ·rename_i h4;rw[if_pos h4]at hw;simp at hw
     ·rename_i h4;simp only[Int.toNat_natCast]at h4 ⊢;refine⟨_,rfl,Int.tdiv_nonneg (by omega) (by omega),?_⟩;rw[←Dg]at h4 ⊢;have h5:¬(28:Int).tdiv w≤(o.1.tmod 32-4).tdiv w:=by omega
      have h6:(o.1.tmod 32-4).tmod w=0:=by omega
      generalize hx:o.1.tmod 32-4=x at h5 h6;have hx0:0≤x:=by omega
      rw[Int.tdiv_eq_ediv_of_nonneg (by omega),Int.tdiv_eq_ediv_of_nonneg hx0]at h5;rw[Int.tmod_eq_emod_of_nonneg hx0]at h6;rw[Int.tdiv_eq_ediv_of_nonneg hx0];rw[←Dg]at hwk;rcases hwk with e|e|e|e|e|e<;>rw[e]at h5 h6 ⊢ <;> omega
   obtain⟨c,e1,e2,e3,e4⟩:=hcell;rw[e1]
   have hc:c<64:=by
    rw[←Dg]at hwk;rcases hwk with e|e|e|e|e|e<;>rw[e]at e4<;>omega
   refine⟨⟨hp,by simp,by simp only;omega,fun _=>⟨rfl,by simp only;omega,by simp only;omega,e2,hc⟩⟩,fun _=>⟨k,hk,rfl,?_,by rw[←Dg];exact ll,by rw[←Dg];exact e4⟩,fun e=>by cases e⟩;simp only;rw[←Dg];generalize c*w=y at e3 ⊢;omega
  ·rename_i h2;rw[if_neg h2]at h;simp only[Bool.and_eq_true,decide_eq_true_eq]at h;obtain⟨⟨⟨q1,q2⟩,q3⟩,q4⟩:=h
   have hk:1≤(bw o.2).1∧(o.2+7).tdiv 8≤32*(bw o.2).1:=by
    unfold bw at q1 ⊢;split
    ·rename_i h3;rw[if_pos h3]at q1;simp at q1
    ·simp only;rw[Int.tdiv_eq_ediv_of_nonneg (by omega),Int.tdiv_eq_ediv_of_nonneg (by omega)];omega
   refine⟨⟨hp,hk.1,by simp only;omega,fun e=>(by cases e)⟩,fun e=>(by cases e),fun _=>⟨by simp only;omega,hk.2⟩⟩
theorem iB{pages:Int}{l:List (Int×Int)}{i:Nat}(h:lu pages l i=true):(aM pages (nth l i)).2=true:=by
 unfold lu lA at h;split at h
 ·assumption
 ·simp at h
theorem uO{pages:Int}{l:List (Int×Int)}{i:Nat}(h:lu pages l i=true):ei pages l (i+1)=(gm (ei pages l i).1 (ei pages l i).2 (aM pages (nth l i)).1.page.toNat (aM pages (nth l i)).1.count.toNat (aM pages (nth l i)).1.small (aM pages (nth l i)).1.cls (aM pages (nth l i)).1.cell.toNat).2 ∧
    (gm (ei pages l i).1 (ei pages l i).2 (aM pages (nth l i)).1.page.toNat (aM pages (nth l i)).1.count.toNat (aM pages (nth l i)).1.small (aM pages (nth l i)).1.cls (aM pages (nth l i)).1.cell.toNat).1=true:=by
 have hs:=iB h;constructor
 ·simp only[ei,lA];rw[if_pos hs]
 ·simp only[lu,lA]at h;rwa [if_pos hs]at h
theorem laid_holds{pages:Int}{l:List (Int×Int)}(hp:pages≤64):∀ {i:Nat},(∀j,j<i→lu pages l j=true)→∀j,j<i→Holds (ei pages l i) (aM pages (nth l j)).1
 | 0,_,j,h=>by omega
 | i+1,h,j,hj=>by
  obtain⟨e1,e2⟩:=uO (h i (by omega));have hstep:=v7 hp ek.1 ek.2 (dK (iB (h i (by omega)))).good e2;rw[e1];by_cases hji:j=i
  ·subst hji;exact hstep.2
  ·exact(hstep.1 _ (dK (iB (h j (by omega)))).good (laid_holds hp (fun j hj=>h j (by omega)) j (by omega))).2
theorem yf{pages:Int}{l:List (Int×Int)}(hp:pages≤64){i:Nat}(h:∀j,j≤i→lu pages l j=true){j:Nat}(hj:j<i):gI (aM pages (nth l j)).1 (aM pages (nth l i)).1:=by
 obtain⟨_,e2⟩:=uO (h i (by omega));have hstep:=v7 hp ek.1 ek.2 (dK (iB (h i (by omega)))).good e2;exact(hstep.1 _ (dK (iB (h j (by omega)))).good (laid_holds hp (fun j hj=>h j (by omega)) j hj)).1
theorem yS{pages:Int}{o:Int×Int}{a:nB}(h:Ej pages o a):0≤o.1∧o.1+(o.2+7).tdiv 8≤32*pages:=by
 have h1:=h.good.c1;have h2:=h.good.p1;have h3:=h.good.p0
 cases hs:a.small with
 | true=>
  obtain⟨k,hk,e1,e2,e3,e4⟩:=h.sm hs;have hw:=fW hk;have hg:=h.good.s1 hs;rcases hw with e|e|e|e|e|e<;>rw[e]at e2 e3 e4<;>omega
 | false=>
  obtain⟨e1,e2⟩:=h.lg hs;omega
def NP(s:Slot):Int:=(s.len+7).tdiv 8+(if s.two=true then 0 else 2)
theorem Ee{l:List Slot}{k:Nat}(hk:k<l.length)(h:eI (nth l k)=true):∃i,i<(bW l).length∧nth (dz l l.length) i=k:=by
 have hm:k∈dz l l.length:=by simp only[dz,List.mem_filter,List.mem_range];exact⟨hk,h⟩
 obtain⟨i,hi,e⟩:=List.getElem_of_mem hm;exact⟨i,by simpa [bW]using hi,by rw[bC hi,e]⟩
theorem lM{to:Int}:∀ {l:List (Int×Int)} {a:Int},dI to a l=true→l.Pairwise (fun p q=>p.1+p.2≤q.1∨q.1+q.2≤p.1)∧∀p∈l,a≤p.1∧0≤p.2∧p.1+p.2≤to
 | [],a,_=>⟨.nil,by simp⟩
 | p::l,a,h=>by
  simp only[dI,Bool.and_eq_true,di,Bool.not_eq_true',decide_eq_false_iff_not]at h;obtain⟨h1,h2⟩:=lM h.2;refine⟨List.Pairwise.cons (fun q hq=>.inl (h2 q hq).1) h1,fun q hq=>?_⟩;rcases List.mem_cons.1 hq with rfl|hq
  ·omega
  ·have:=h2 q hq;omega
theorem wg{n:Int}(h:1≤n∧n≤2048):(n+7).tdiv 8+2≤(cK n).1:=by
 unfold cK;rw[if_neg (by omega)];simp only[C6];have e1:(n+7).tdiv 8=(n+7)/8:=Int.tdiv_eq_ediv_of_nonneg (by omega);have e2:(n+8-1).tdiv 8=(n+8-1)/8:=Int.tdiv_eq_ediv_of_nonneg (by omega);rw[e1,e2,Int.tdiv_eq_ediv_of_nonneg (a:=2+(n+8-1)/8+4-1) (by omega)];omega
theorem tT{n:Int}(h:1≤n∧n≤2048):4≤(cK n).1:=by
 have:=wg h;have h2:0<(n+7).tdiv 8:=by rw[Int.tdiv_eq_ediv_of_nonneg (by omega)];omega
 have h3:(cK n).1=C6 (2+(n+8-1).tdiv 8):=by unfold cK;rw[if_neg (by omega)]
 rw[h3]at this ⊢;unfold C6 at this ⊢;omega
end Go.Proofs
