/- Lemmas of a walk over abstract states: data, objects, operations, regions, loops, contracts; no condition but those that each lemma names. -/
import Derived.Test.YtokgokbgidgfeaaGreatAwpA
import Derived.Laws.BytesString
import Derived.Laws.RangeAny
import Derived.Laws.StructEq
import Derived.Calls
import Derived.Laws.RangeString
set_option linter.all false
/- Copy, conversions, numbers, strings one by one: what they do to an abstract state, and that it is so. Lemmas alone. -/
namespace Go.aN
open Go.RowKit Go.Lib
def kI(objs:List Obj):AV→Option (Nat×List D)
 | .d (.v (.string s))=>some (1,ql s)
 | y=>match tk objs y with
  | some (k,ys,o1)=>if ys.all D.cE=true then some (k,ys)else none
  | none=>none
def qV(P:Program)(objs:List Obj)(t:TypeId)(x y:AV):Bj:=
 match ty P t with
 | some {k:=.slice e,..}=>match ty P e with
  | some E=>match kI objs y,x with
   | some (k,ys),.hdr r off len=>match objs[r]? with
    | some (.row k' xs)=>
     if k=E.size∧k'=E.size∧off+len≤xs.length then some (.int .i64 ((min ys.length len:Nat):Int),objs.set r (.row k' (splice xs off (ys.take (min ys.length len)))))else none
    | _=>none
   | _,_=>none
  | none=>none
 | _=>none
def bytesD:List D→Option (List Int)
 | []=>some []
 | .v (.int .u8 n)::ds=>(bytesD ds).map (n :: ·)
 | _=>none
def jU(ns:List Int):ByteArray:=ns.foldl (fun r n=>r.push (UInt8.ofNat n.toNat)) ByteArray.empty
def fE(P:Program)(t:TypeId):Bool:=match ty P t with
 | some T=>match T.k with | .str=>true|_=>false
 | none=>false
def gM(P:Program)(t:TypeId):Option IntKind:=match ty P t with
 | some T=>match T.k with | .int k=>some k|_=>none
 | none=>none
def gx(P:Program)(t:TypeId):Bool:=match ty P t with
 | some T=>match T.k with | .slice e=>gM P e==some .u8|_=>false
 | none=>false
def zm:AV→Nat→Bool
 | .hdr _ _ len,n=>len==n
 | _,_=>true
def fO(P:Program)(objs:List Obj)(src dst:TypeId)(x:AV):Bj:=
 match x with
 | .d (.v (.int k n))=>match gM P dst with
  | some k'=>if (gM P src).isSome=true then some (.int k' (k'.wrap n),objs)else none
  | none=>none
 | .d (.v (.string s))=>
  if fE P src=true∧fE P dst=true then some (x,objs)
  else if fE P src=true∧gx P dst=true then some (.d (.row .sn 1 (ql s)),objs)
  else none
 | .d (.v (.slice none 0 0))=>if gx P src=true∧fE P dst=true then some (.str (jU []),objs)else none
 | y => if gx P src = true ∧ fE P dst = true then
     (match gL objs y with
     | some (k, xs) => match bytesD xs with
       | some ns => if k = 1 ∧ zm y xs.length = true then some (.str (jU ns), objs) else none
       | none => none
     | none => none)
  else none
section
variable {P:Program} {B:Nat} {w:World} {S:Nat→Prop} {objs:List Obj} {gs:List G1} {om:Nat→Option (Nat×Bool)}
theorem ub(s:ByteArray):flat (ql s)=ql s:=by
 simp[flat,ql,List.flatMap_map,D.cells]
 induction s.data.toList with
 | nil=>rfl
 | cons a l ih=>simp[List.flatMap_cons,ih]
theorem wP{N:Nat→Prop}(s:ByteArray):aW w S N (ql s) (s.data.toList.map fun b=>.int .u8 b.toNat) []:=by
 unfold ql
 induction s.data.toList with
 | nil=>exact .nil
 | cons a l ih=>exact aW.cons (F:=[]) (G:=[]) (.v rfl) ih
theorem ua(s:ByteArray):∀x∈ql s,Fits 1 x:=by
 intro x hx;simp only[ql,List.mem_map]at hx;obtain⟨b,_,rfl⟩:=hx;exact⟨rfl,by simp[D.cells,D.aX]⟩
theorem p7(s:ByteArray):(ql s).length=s.size:=by simp[ql]
theorem vH{k:Nat}{xs ys:List D}(hx:∀x∈xs,Fits k x)(hy:∀x∈ys,Fits k x)(off:Nat)(h:off+ys.length≤xs.length):flat (splice xs off ys)=splice (flat xs) (off*k) (flat ys):=by
 have h1:flat xs=flat (xs.take off)++flat (xs.drop off):=by simp only[flat];rw[←List.flatMap_append,List.take_append_drop]
 have l1:(flat (xs.take off)).length=off*k:=by
  rw[bP (fun x h=>hx x (List.mem_of_mem_take h))];simp[show min off xs.length=off by omega]
 have h2:flat (xs.drop off)=flat ((xs.drop off).take ys.length)++flat (xs.drop (off+ys.length)):=by
  simp only[flat];rw[←List.flatMap_append,←List.drop_drop,List.take_append_drop]
 have l2:(flat ((xs.drop off).take ys.length)).length=(flat ys).length:=by
  rw[bP (fun x h=>hx x (List.mem_of_mem_drop (List.mem_of_mem_take h))),bP hy];simp[show min ys.length (xs.length-off)=ys.length by omega]
 have e1:(flat xs).take (off*k)=flat (xs.take off):=by
  rw[h1,List.take_append_of_le_length (by omega),List.take_of_length_le (by omega)]
 have e2:(flat xs).drop (off*k+(flat ys).length)=flat (xs.drop (off+ys.length)):=by
  rw[h1,←l1,List.drop_length_add_append,h2,←l2,List.drop_append_of_le_length (Nat.le_refl _)];simp
 unfold Go.splice;rw[e1,e2];simp[flat]
theorem te(hM:bm B w S objs gs om){y vy}(hy:a8 w S (Inner B w om) gs y vy){k ys}(h:kI objs y=some (k,ys)) :
    (∀x∈ys,Fits k x)∧∃news,aW w S (Inner B w om) (flat ys) news []∧(Builtin.lenOf vy).run P w = .ok ys.length w∧(∀n,n≤ys.length→∀kk,kk=k→(Builtin.firstCells kk n vy).run P w = .ok (news.take (n*k)).toArray w):=by
 unfold kI at h;split at h
 ·rename_i s;simp only[Option.some.injEq,Prod.mk.injEq]at h;obtain⟨rfl,rfl⟩:=h;refine⟨ua s,_,by rw[ub];exact wP s,?_,?_⟩
  ·cases hy with|d hy=>cases hy;simp[Builtin.lenOf,p7]
  ·rintro n hn kk rfl
   cases hy with
   | d hy=>
    cases hy;simp only[Builtin.firstCells,Sem.run_pure,Nat.mul_one];congr 1;apply Array.ext';simp[ByteArray.data_extract]
 ·split at h
  ·rename_i k' ys' o1 hsrc;split at h
   ·rename_i hno;simp only[Option.some.injEq,Prod.mk.injEq]at h;obtain⟨rfl,rfl⟩:=h;obtain⟨hf,news,G,g1,g2,g3⟩:=t9 hM hy hsrc;obtain rfl:=jl g1 (rT hno);have hl:news.length=ys'.length*k':=by rw[←g1.length,bP hf]
    refine⟨hf,news,g1,?_,?_⟩
    ·rcases g3 with ⟨rfl,a,c,rfl⟩|⟨ad,c,rfl,_⟩
     ·simp[Builtin.lenOf]
     ·simp[Builtin.lenOf]
    ·rintro n hn kk rfl;rcases g3 with ⟨rfl,a,c,rfl⟩|⟨ad,c,rfl,hc⟩
     ·have:n=0:=by simpa using hn
      subst this
      cases a with
      | none=>simp[Builtin.firstCells]
      | some a=>simpa [Builtin.firstCells]using run_loadCells_list (P:=P) w a [] (by simp)
     ·have:=run_loadCells_list (P:=P) w ad (news.take (n*kk)) (fun j u hu=>hc j u (by rw[List.getElem?_take]at hu;split at hu;exact hu;cases hu));have hle:n*kk≤ys'.length*kk:=Nat.mul_le_mul_right _ hn;rw[List.length_take,show min (n*kk) news.length=n*kk by omega]at this;simp[Builtin.firstCells,this]
   ·cases h
  ·cases h
theorem xo(hM:bm B w S objs gs om){x vx y vy}(hx:a8 w S (Inner B w om) gs x vx)(hy:a8 w S (Inner B w om) gs y vy){t t' ty' av aj}(h:qV P objs t x y=some (av,aj)) :
    ∃v w' gs' bz,(Builtin.copy_ #[t,t'] ty' #[vx,vy]).run P w = .ok v w'∧Ext B w gs om w' gs' bz∧bm B w' S aj gs' bz∧a8 w' S (Inner B w' bz) gs' av v:=by
 unfold qV at h;split at h
 ·rename_i size bytes e zero hT;have ht:=kt hT rfl;split at h
  ·rename_i E hE;split at h
   ·rename_i k ys r off len hsrc;obtain⟨hf,news,g1,g2,g3⟩:=te (P:=P) hM hy hsrc;split at h
    ·rename_i k' xs hr;split at h
     ·rename_i hc;obtain⟨rfl,hk',hfit⟩:=hc;simp only[Option.some.injEq,Prod.mk.injEq]at h;obtain⟨rfl,rfl⟩:=h;have hn1:min ys.length len≤ys.length:=Nat.min_le_left _ _;have hn2:min ys.length len≤len:=Nat.min_le_right _ _;have hfc:=g3 _ hn1 _ rfl;generalize hn:min ys.length len=n at hfc hn1 hn2 ⊢;have hmin:ys.length.min len=n:=hn;have hnl:news.length=ys.length*E.size:=by rw[←g1.length,bP hf]
      have hle:n*E.size≤ys.length*E.size:=Nat.mul_le_mul_right _ hn1
      have hpre:∀b o c,vx = .slice (some ⟨b,o,none⟩) len c→(Builtin.copy_ #[t,t'] ty' #[vx,vy]).run P w=((storeCells ⟨b,o,none⟩ (news.take (n*E.size))).run P w).andThen fun _ w'=>.ok (goInt n) w':=by
       rintro b o c rfl;simp[Builtin.copy_,bD ht,dB hE,g2,hmin,hfc]
      have ho:=hM.obj r _ hr;have Py:∀x∈ys.take n,Fits E.size x:=fun x hx=>hf x (List.mem_of_mem_take hx)
      have GA:(ys.take n).length=n:=by simp;omega
      obtain⟨G,q1,q2⟩:=mr g1 hf 0 n (by omega);obtain rfl:G=[]:=List.eq_nil_iff_forall_not_mem.2 (fun b hb=>by simpa using q2 b hb);simp only[List.drop_zero,Nat.zero_mul]at q1
      cases hx with
      | fP hg hb=>
       obtain rfl:n=0:=by omega
       cases ho with
       | row0 hg' hk' hb'=>
        refine⟨goInt 0,w,gs,om,?_,.refl ..,?_,.d (.v rfl)⟩
        ·simp[Builtin.copy_,bD ht,dB hE,g2,hmin,hfc]
        ·have:objs.set r (.row k' (splice [] 0 (ys.take 0)))=objs:=by
          have hlt:r<objs.length:=(List.getElem?_eq_some_iff.1 hr).1;apply List.ext_getElem?;intro j;rw[List.getElem?_set];split
          ·rename_i h;subst h;rw[hr];try simp[hlt,splice]
          ·rfl
         rw[this];exact hM
       | row hg' dP hb'=>rw[hg]at hg';simp at hg';subst hg';rw[hb]at hb';cases hb'
      | @hdr _ _ _ g b o c hg hb hcap hoff hlc hm=>
       rw[hpre _ _ _ rfl]
       cases ho with
       | row0 hg' hk' hb'=>rw[hg]at hg';simp at hg';subst hg';rw[hb]at hb';cases hb'
       | @row _ _ _ g' b' cur vs F hg' dP hb' hB ho hw hcs hn' hk hvs hl hF dT=>
        obtain rfl:g=g':=by simpa using hg.symm.trans hg'
        obtain rfl:b=b':=by simpa using hb.symm.trans hb'
        have Gz:∀x∈ys.take n,Fits k' x:=by rw[hk'];exact Py
        have vQ:=vH hk Gz off (by rw[GA];omega);have Na:(splice xs off (ys.take n)).length=xs.length:=length_splice _ _ _ (by rw[GA];omega)
        have hfits:∀x∈splice xs off (ys.take n),Fits k' x:=by
         intro x hx;simp only[Go.splice,List.mem_append]at hx;rcases hx with hx|hx|hx
         ·exact hk x (List.mem_of_mem_take hx)
         ·exact Gz x hx
         ·exact hk x (List.mem_of_mem_drop hx)
        by_cases hn0:n=0
        ·subst hn0;have hsame:splice xs off (ys.take 0)=xs:=by simp[Go.splice]
         refine⟨goInt 0,w,gs,om,by simp[storeCells],.refl ..,?_,.d (.v rfl)⟩;rw[hsame]
         have:objs.set r (.row k' xs)=objs:=by
          have hlt:r<objs.length:=(List.getElem?_eq_some_iff.1 hr).1;apply List.ext_getElem?;intro j;rw[List.getElem?_set];split
          ·rename_i h;subst h;rw[hr];try simp[hlt]
          ·rfl
         rw[this];exact hM
        ·have Pu:o=off*g.k:=hoff.resolve_right (by omega);subst Pu;have hlt:(news.take (n*E.size)).length=n*E.size:=by simp;omega
         have E4:off*k'+n*E.size≤xs.length*k':=by
          have:(off+n)*k'≤xs.length*k':=Nat.mul_le_mul_right _ (by omega);rw[Nat.add_mul]at this;rw[←hk'];exact this
         have hrun:=run_storeCells_at P b (off*g.k) _ (news.take (n*E.size)) 0 cur w hw (by rw[hlt,dP,hcs];omega) (fun v hv=>lZ g1 (pL hf) v (List.mem_of_mem_take hv));rw[hrun]
         obtain⟨ee,m⟩:=bm.uf (.refl hM) hr hg hb hw (ys:=flat (ys.take n)) (us:=news.take (n*E.size)) q1 (p:=off*k') (xs':=splice xs off (ys.take n))
          (by rw[bP Gz,bP hk,GA,hk'];rw[hk']at E4;exact E4) vQ Na hfits
         rw[ny,dP,Nat.add_zero];exact⟨_,_,_,_,rfl,ee,m,.d (.v rfl)⟩
     ·cases h
    ·cases h
   ·cases h
  ·cases h
 ·cases h
theorem qQ{N:Nat→Prop}:∀ {ds:List D} {ns:List Int} {vs:List Value} {F},bytesD ds=some ns→aW w S N (flat ds) vs F→vs=ns.map (Value.int .u8)
 | [],ns,vs,F,h,hr=>by
  simp only[bytesD,Option.some.injEq]at h;subst h;simp only[flat,List.flatMap_nil]at hr;cases hr;rfl
 | d::ds,ns,vs,F,h,hr=>by
  unfold bytesD at h;split at h
  ·rename_i heq;cases heq
  ·rename_i n ds' heq;simp only[List.cons.injEq]at heq;obtain⟨rfl,rfl⟩:=heq;obtain⟨ms,hms,rfl⟩:=Option.map_eq_some_iff.1 h;simp only[flat,List.flatMap_cons,D.cells,List.singleton_append]at hr
   cases hr with
   | cons h1 t=>cases h1;simp[qQ hms t]
  ·cases h
theorem isStr{t:TypeId}(h:fE P t=true):P.underlying t=some .string:=by
 unfold fE at h;split at h
 ·rename_i T hT;split at h
  ·rename_i hk;obtain⟨d,h1,h2⟩:=d6 hT;rw[hk]at h2;rw[h1,sW h2]
  ·cases h
 ·cases h
theorem isInt{t:TypeId}{k:IntKind}(h:gM P t=some k):P.underlying t=some (.int k):=by
 unfold gM at h;split at h
 ·rename_i T hT;split at h
  ·rename_i k' hk;simp only[Option.some.injEq]at h;subst h;obtain⟨d,h1,h2⟩:=d6 hT;rw[hk]at h2;rw[h1,C1 h2]
  ·cases h
 ·cases h
theorem isBytes{t:TypeId}(h:gx P t=true):∃e,P.underlying t=some (.slice e)∧P.underlying e=some (.int .u8):=by
 unfold gx at h;split at h
 ·rename_i T hT;split at h
  ·rename_i e hk;obtain⟨d,h1,h2⟩:=d6 hT;rw[hk]at h2;exact⟨e,by rw[h1,oz h2],isInt (by simpa using h)⟩
  ·cases h
 ·cases h
theorem nI{v:Value}{xs:List D}{ns:List Int}{src dst:TypeId}(hs:gx P src=true)(hd:fE P dst=true)(hb:bytesD xs=some ns)
    (h:∃news F,aW w S (Inner B w om) (flat xs) news F∧((xs=[]∧∃a c,v = .slice a 0 c)∨∃ad c,v = .slice (some ad) xs.length c∧∀(j:Nat) u,news[j]?=some u→w.cell? (ad.add j)=some u)) :
    (convert src dst v).run P w = .ok (.string (jU ns)) w:=by
 obtain⟨e,h1,h2⟩:=isBytes hs;have h3:=isStr hd;obtain⟨news,F,g1,g2⟩:=h;have hn:=qQ hb g1
 have hx:xs.length=ns.length:=by
  have:∀ {ds:List D} {ns},bytesD ds=some ns→ds.length=ns.length:=by
   intro ds
   induction ds with
   | nil=>intro ns h;simp[bytesD]at h;simp[h]
   | cons d ds ih=>
    intro ns h;unfold bytesD at h;split at h
    ·rename_i heq;cases heq
    ·rename_i n ds' heq;simp only[List.cons.injEq]at heq;obtain⟨rfl,rfl⟩:=heq;obtain⟨ms,hms,rfl⟩:=Option.map_eq_some_iff.1 h;simp[ih hms]
    ·cases h
  exact this hb
 rcases g2 with ⟨rfl,a,c,rfl⟩|⟨ad,c,rfl,hc⟩
 ·simp[bytesD]at hb;subst hb;rw[run_convert_bytes_string w src dst e _ _ _ h1 h2 h3]
  cases a with
  | none=>simp[Conv.bytesToString,jU]
  | some a=>exact run_bytesToString w a 0 c [] (by simpa using run_loadCells_list (P:=P) w a [] (by simp))
 ·rw[run_convert_bytes_string w src dst e _ _ _ h1 h2 h3];refine run_bytesToString w ad _ c ns ?_;have:=run_loadCells_list (P:=P) w ad news hc;rw[hn]at this;rw[hx];simpa using this
theorem xn(hM:bm B w S objs gs om){x vx}(hx:a8 w S (Inner B w om) gs x vx){src dst av aj}(h:fO P objs src dst x=some (av,aj)) :
    ∃v w' gs' bz,(convert src dst vx).run P w = .ok v w'∧Ext B w gs om w' gs' bz∧bm B w' S aj gs' bz∧a8 w' S (Inner B w' bz) gs' av v:=by
 unfold fO at h;split at h
 ·split at h
  ·rename_i k n _ k' hk;split at h
   ·rename_i hsrc;simp only[Option.some.injEq,Prod.mk.injEq]at h;obtain⟨rfl,rfl⟩:=h;obtain⟨ks,hks⟩:=Option.isSome_iff_exists.1 hsrc
    cases hx with
    | d hx=>cases hx;exact⟨_,w,gs,om,by simp[convert,bD (isInt hks),bD (isInt hk),Conv.intToInt],.refl ..,hM,.d (.v rfl)⟩
   ·cases h
  ·cases h
 ·rename_i s;split at h
  ·rename_i hc;simp only[Option.some.injEq,Prod.mk.injEq]at h;obtain⟨rfl,rfl⟩:=h;have hx0:=hx
   cases hx with
   | d hx=>cases hx;exact⟨_,w,gs,om,by simp[convert,bD (isStr hc.1),bD (isStr hc.2)],.refl ..,hM,hx0⟩
  ·split at h
   ·rename_i hc;simp only[Option.some.injEq,Prod.mk.injEq]at h;obtain⟨rfl,rfl⟩:=h;obtain⟨e,h1,h2⟩:=isBytes hc.2
    cases hx with
    | d hx=>
     cases hx;have hrun:=run_convert_string_bytes (P:=P) w src dst e s (isStr hc.1) h1 h2;have hbel:Below w.heap.size w (bytesWorld w e s):=⟨by simp only[bytesWorld,World.freeze];split<;>rfl,by simp only[bytesWorld,World.freeze];split<;>rfl,by simp only[bytesWorld,World.freeze];split<;>rfl,by rw[bytesWorld_size];omega,fun b hb=>bytesWorld_at_old w e s b hb⟩;obtain⟨bz,pP⟩:∃bz,bz=mark om [w.heap.size] (0,false):=⟨_,rfl⟩;have ee:Ext B w gs om (bytesWorld w e s) gs bz:=.grow List.prefix_rfl hbel hM.hB (pP▸eS);refine⟨_,_,gs,bz,hrun,ee,hM.step ee hM.len (fun r o' ho=>.inl ⟨ho,fun b c hbc hlt=>⟨by rw[pP,eS b hlt];exact hbc,hbel.block b hlt⟩⟩),.d ?_⟩;have hl:=p7 s;have hcap:s.size≤grownCap w s.size 0 e:=grownCap_ge w s.size 0 e
     have:=cb.old (w:=bytesWorld w e s) (S:=S) (N:=Inner B (bytesWorld w e s) bz) (m:=.sn) (k:=1) (xs:=ql s) (off:=0) (c:=grownCap w s.size 0 e) (by simp) (bytesWorld_at_new w e s) (by simp) (fun _=>⟨hM.hB,by rw[bytesWorld_size];omega,fun r=>by rw[pP,da (by simp)];simp⟩)
      (by rw[hl];exact hcap) (ua s) (vs:=s.data.toList.map fun b=>.int .u8 b.toNat) (by rw[hl];simp[bytesCells]) (by simp[hl]) (by rw[ub];exact wP s)
     rw[hl]at this;exact this
   ·cases h
 ·split at h
  ·rename_i hc;simp only[Option.some.injEq,Prod.mk.injEq]at h;obtain⟨rfl,rfl⟩:=h
   cases hx with
   | d hx=>
    cases hx;exact⟨_,w,gs,om,nI (B:=B) (S:=S) (om:=om) hc.1 hc.2 (xs:=[]) rfl ⟨[],[],.nil,.inl ⟨rfl,_,_,rfl⟩⟩,.refl ..,hM,.d (.v rfl)⟩
  ·cases h
 ·split at h
  ·rename_i hc;split at h
   ·rename_i k xs he;split at h
    ·rename_i ns hns;split at h
     ·rename_i hk;obtain⟨rfl,hfull⟩:=hk;simp only[Option.some.injEq,Prod.mk.injEq]at h;obtain⟨rfl,rfl⟩:=h;refine⟨_,w,gs,om,nI (B:=B) (S:=S) (om:=om) hc.1 hc.2 hns ?_,.refl ..,hM,.d (.v rfl)⟩;unfold gL at he;split at he
      ·simp only[Option.some.injEq,Prod.mk.injEq]at he;obtain⟨rfl,rfl⟩:=he
       cases hx with
       | d hx=>cases hx with
        | nil=>exact⟨[],[],.nil,.inl ⟨rfl,_,_,rfl⟩⟩
        | empty hm=>exact absurd rfl hm
        | old hm=>exact absurd rfl hm
      ·cases he
      ·simp only[Option.some.injEq,Prod.mk.injEq]at he;obtain⟨rfl,rfl⟩:=he
       cases hx with
       | d hx=>
        obtain⟨_,news,a,b⟩:=zO hx (by assumption);exact⟨news,[],a,b⟩
      ·simp only[Option.some.injEq,Prod.mk.injEq]at he;obtain⟨rfl,rfl⟩:=he;obtain⟨_,news,a,b⟩:=u0 hx;exact⟨news,[],a,b⟩
      ·rename_i r off len _ _ _;split at he
       ·rename_i k' ys hr;simp only[Option.some.injEq,Prod.mk.injEq]at he;obtain⟨rfl,rfl⟩:=he;simp only[zm,beq_iff_eq]at hfull;have hfit:off+len≤ys.length∨len=0:=by simp at hfull;omega
        cases hx with
        | fP hg hb=>exact⟨[],[],by simpa [flat]using(aW.nil:aW w S (Inner B w om) [] [] []),.inl ⟨by simp,_,_,rfl⟩⟩
        | @hdr _ _ _ g b o c hg hb hcap hoff hlc hm=>
         by_cases hl0:len=0
         ·subst hl0;exact⟨[],[],by simpa [flat]using(aW.nil:aW w S (Inner B w om) [] [] []),.inl ⟨by simp,_,_,rfl⟩⟩
         ·cases hM.obj r _ hr with
          | row0 hg' hk' hb'=>rw[hg]at hg';simp at hg';subst hg';rw[hb]at hb';cases hb'
          | @row _ _ _ g' b' cur vs F hg' dP hb' hB ho hw hcs hn' hk hvs hl hF dT=>
           obtain rfl:g=g':=by simpa using hg.symm.trans hg'
           obtain rfl:b=b':=by simpa using hb.symm.trans hb'
           obtain⟨G,g1,g2⟩:=mr hl hk off len (by omega);refine⟨_,G,g1,.inr ⟨_,_,by rw[←hfull],fun j u hu=>?_⟩⟩;have ho:o=off*g.k:=hoff.resolve_right (by omega);rw[ip hw,ho,dP];subst hvs;simp only[List.getElem?_take,List.getElem?_drop]at hu;split at hu
           ·split at hu
            ·simpa using hu
            ·cases hu
           ·cases hu
       ·cases he
      ·cases he
     ·cases h
    ·cases h
   ·cases h
  ·cases h
end
end Go.aN
/- One operation: what it does to an abstract state, and that it is so. Lemmas alone. -/
namespace Go.aN
open Go.RowKit Go.Lib
def xm:Value→AV
 | .agg vs=>.agg (vs.toList.map fun v=>if v.oneCell'=true then .d (.v v)else .dead)
 | .tuple vs=>.bK (vs.toList.map fun v=>if v.oneCell'=true then .d (.v v)else .dead)
 | v=>.d (.v v)
def bu(s:Nat→AV):Operand→AV
 | .tmp t=>s t
 | .const v=>xm v
 | .global _=>.dead
 | .func f=>.fn (.func f) [] []
def xy(P:Program)(t:TypeId):Bool := !P.stoodInHeld t&&(P.fieldsOf t).toList.all (fun f=>f.name != "_")
mutual
def BR(P:Program):Nat→TypeId→List AV→List AV→Option Bool
 | 0,_,_,_=>none
 | n+1,t,xs,ys=>match ty P t with
  | some T=>match T.k with
   | .struct fs=>if xy P t=true then xx P n fs xs ys else none
   | .int _=>match xs,ys with
    | [.d (.v (.int k a))],[.d (.v (.int k' b))]=>if k=k' then some (a==b)else none
    | _,_=>none
   | .bool=>match xs,ys with
    | [.d (.v (.bool a))],[.d (.v (.bool b))]=>some (a==b)
    | _,_=>none
   | .str=>match xs,ys with
    | [.d (.v (.string a))],[.d (.v (.string b))]=>some (a.toList==b.toList)
    | _,_=>none
   | _=>none
  | none=>none
def xx(P:Program):Nat→List (TypeId×Nat)→List AV→List AV→Option Bool
 | _,[],_,_=>some true
 | 0,_::_,_,_=>none
 | n+1,(t,off)::fs,xs,ys=>match ty P t with
  | some T => if off + T.size ≤ xs.length ∧ off + T.size ≤ ys.length ∧ 0 < T.size then
      match BR P n t ((xs.drop off).take T.size) ((ys.drop off).take T.size),xx P n fs xs ys with
      | some a,some r=>some (a&&r)
      | _,_=>none
   else none
  | none=>none
end
def nU(P:Program)(t:TypeId):Bool:=match ty P t with
 | some T=>match T.k with | .bool=>true|_=>false
 | none=>false
def nV(P:Program)(t:TypeId):Bool:=match ty P t with
 | some T=>match T.k with | .ptr _=>true|_=>false
 | none=>false
def rE(P:Program)(t:TypeId):Bool:=match ty P t with
 | some T=>match T.k with | .fn=>true|_=>false
 | none=>false
def nc(P:Program)(t:TypeId):Bool:=match ty P t with
 | some T=>match T.k with | .struct _=>true|_=>false
 | none=>false
def jL(op:BinOp)(b:Bool):Option AV:=match op with
 | .eql=>some (.bool b)
 | .neq=>some (.bool !b)
 | _=>none
def uk(P:Program)(op:BinOp)(t:TypeId)(x y:AV):Option AV:=
 match x,y with
 | .d (.v (.bool a)),.d (.v (.bool b))=>if nU P t=true then jL op (a==b)else none
 | .d (.v (.pointer none)),.d (.v (.pointer none))=>if nV P t=true then jL op true else none
 | .d (.v (.nilFunc)),.d (.v (.nilFunc))=>if rE P t=true then jL op true else none
 | .ptr ..,.d (.v (.pointer none))=>if nV P t=true then jL op false else none
 | .fn ..,.d (.v (.nilFunc))=>if rE P t=true then jL op false else none
 | .d (.v a),.d (.v b)=>(Bu op a b).map fun v=>.d (.v v)
 | .agg xs,.agg ys=>if P.eqGuardType P.depth t=false∧nc P t=true then match BR P 12 t xs ys with
  | some b=>jL op b
  | none=>none
  else none
 | _,_=>none
def rd(x:AV)(i:Nat):Option AV:=match x with
 | .bK vs=>vs[i]?
 | _=>none
def lR:AV→Option Int
 | .d (.v (.int _ n))=>some n
 | _=>none
def ew(ρ:Operand→AV):Option Operand→Option (Option Int)
 | none=>some none
 | some x=>(lR (ρ x)).map some
def D0:AV→AV→Option AV
 | .d (.v (.int k a)),.d (.v (.int _ b))=>some (.int k (if b<a then b else a))
 | _,_=>none
def KY:AV→AV→Option AV
 | .d (.v (.int k a)),.d (.v (.int _ b))=>some (.int k (if b>a then b else a))
 | _,_=>none
def ft(P:Program)(objs:List Obj)(b:Builtin)(ts:List TypeId)(xs:List AV):Bj:=
 match b,ts,xs with
 | .len,[t],[x]=>match ty P t,uI objs x with
  | some T,some n=>match T.k with
   | .str=>match x with
    | .d (.v (.string _))=>some (.int .i64 n,objs)
    | _=>none
   | .slice _=>match x with
    | .d (.v (.string _))=>none
    | _=>some (.int .i64 n,objs)
   | .array m _=>none
   | _=>none
  | _,_=>none
 | .cap,[t],[x]=>match ty P t,x with
  | some T,.hdr r 0 _=>match T.k,objs[r]? with
   | .slice _,some (.grow c _)=>some (.int .i64 c,objs)
   | _,_=>none
  | _,_=>none
 | .append,[t,t'],[x,y]=>if t=t' then qq P objs t x y else none
 | .copy,[t,_],[x,y]=>qV P objs t x y
 | .min,_,[x,y]=>(D0 x y).map (·,objs)
 | .max,_,[x,y]=>(KY x y).map (·,objs)
 | _,_,_=>none
def sk(objs:List Obj):AV→Bj
 | .d (.v (.string s))=>some (.ptr objs.length 0 0,objs++[.it s 0])
 | _=>none
def zB(objs:List Obj):AV→Bj
 | .ptr r 0 0=>match objs[r]? with
  | some (.it s pos) => if pos < s.size then some (.bK [.bool true, .int .i64 pos, .int .i32 (Utf8.decode s pos).1], objs.set r (.it s (pos + (Utf8.decode s pos).2)))
   else some (.bK [.bool false],objs)
  | _=>none
 | _=>none
def isIface(P:Program)(t:TypeId):Bool:=match ty P t with
 | some T=>match T.k with | .iface=>true|_=>false
 | none=>true
def eM(P:Program)(ρ:Operand→AV)(objs:List Obj)(o:Op):Bj:=
 match o with
 | .move x | .assign x=>some (ρ x,objs)
 | .pick c a b=>match ρ c with
  | .d (.v (.bool t))=>some (bif t then ρ a else ρ b,objs)
  | _=>none
 | .alloc t=>qH P objs t
 | .box t x=>gX objs t (ρ x)
 | .build t ps=>(um P t (ps.toList.map fun p=>(p.1,ρ p.2))).map (·,objs)
 | .buildSlice t n ps=>iy P objs t n (ps.toList.map fun p=>(p.1,ρ p.2))
 | .load t a=>pS P objs t (ρ a)
 | .store t a x=>(u3 P objs t (ρ a) (ρ x)).map (AV.bK [],·)
 | .nilCheck x=>match ρ x with
  | .ptr r i j=>some (.ptr r i j,objs)
  | .rp cs j=>some (.rp cs j,objs)
  | .fn (.func f) a b=>some (.fn (.func f) a b,objs)
  | _=>none
 | .binOp op t x y _=>(uk P op t (ρ x) (ρ y)).map (·,objs)
 | .unOp op _ x=>match ρ x with
  | .d (.v a)=>(LV op a).map fun v=>(.d (.v v),objs)
  | _=>none
 | .convert s d x=>fO P objs s d (ρ x)
 | .makeInterface t x=>if isIface P t=true then none else some (.tH t (ρ x),objs)
 | .makeFunc fn first caps=>some (.fn fn (first.toList.map ρ) (caps.toList.map ρ),objs)
 | .makeSlice t l c=>match lR (ρ l),lR (ρ c)with
  | some l,some c=>jk P objs t l c
  | _,_=>none
 | .slice t x lo hi mx=>match ew ρ lo,ew ρ hi,ew ρ mx with
  | some lo,some hi,some mx=>(ie P objs t (ρ x) lo hi mx).map (·,objs)
  | _,_,_=>none
 | .fieldAddr s x f=>(kK P s (ρ x) f).map (·,objs)
 | .field s x f=>(xD P s (ρ x) f).map (·,objs)
 | .indexAddr t x i=>match lR (ρ i)with
  | some i=>(cL P objs t (ρ x) i).map (·,objs)
  | none=>none
 | .index t x i=>match lR (ρ i)with
  | some i=>(kO P t (ρ x) i).map (·,objs)
  | none=>none
 | .extract x i=>(rd (ρ x) i).map (·,objs)
 | .range t x=>if fE P t=true then sk objs (ρ x)else none
 | .next it str=>if str=true then zB objs (ρ it)else none
 | .call {callee:=.builtin b,args,argTypes}=>ft P objs b argTypes.toList (args.toList.map ρ)
 | _=>none
section
variable {P:Program} {B:Nat} {w:World} {S:Nat→Prop} {objs:List Obj} {gs:List G1} {om:Nat→Option (Nat×Bool)}
theorem qU(v:Value){N:Nat→Prop}:a8 w S N gs (xm v) v:=by
 have key:∀vs:List Value,aQ w S N gs (vs.map fun v=>if v.oneCell'=true then AV.d (.v v)else AV.dead) vs:=by
  intro vs
  induction vs with
  | nil=>exact .nil
  | cons v vs ih=>
   refine .cons ?_ ih;dsimp only;split
   ·rename_i h;exact .d (.v h)
   ·exact .dead
 cases v with
 | agg vs=>exact .agg (key vs.toList)
 | tuple vs=>exact .bK (key vs.toList)
 | _=>exact .d (.v rfl)
mutual
theorem tz{N:Nat→Prop}:∀(n:Nat) {t:TypeId} {xs ys:List AV} {vs us:List Value} {b:Bool} {d:Nat},aQ w S N gs xs vs→aQ w S N gs ys us→BR P n t xs ys=some b→n≤d →
    ∀vx vy,((∃fs T,ty P t=some T∧T.k = .struct fs∧vx = .agg vs.toArray∧vy = .agg us.toArray)∨(vs=[vx]∧us=[vy]∧∀T fs,ty P t=some T→T.k ≠ .struct fs))→(Op.equalIn d t vx vy).run P w = .ok b w
 | 0,t,xs,ys,vs,us,b,d,hx,hy,h,hd,vx,vy,hv=>by simp[BR]at h
 | n+1,t,xs,ys,vs,us,b,d,hx,hy,h,hd,vx,vy,hv=>by
  obtain⟨d,rfl⟩:∃e,d=e+1:=⟨d-1,by omega⟩;simp only[BR]at h;split at h
  ·rename_i T hT;obtain⟨D,hD,hk⟩:=d6 hT;split at h
   ·rename_i fs hfs;rw[hfs]at hk;obtain⟨A,rfl,rfl⟩:=pz hk;split at h
    ·rename_i hok;simp only[xy,Bool.and_eq_true,Bool.not_eq_true']at hok;have hf:P.fieldsOf t=A:=by simp[Program.fieldsOf,hD]
     rcases hv with ⟨_,_,_,_,rfl,rfl⟩|⟨_,_,hne⟩
     ·rw[run_equalIn_struct w d t _ _ (by rw[hf];exact hD) hok.1,hf];rw[hf]at hok;exact q9 n A.toList hx hy h (by omega) (by intro f hf;have:=List.all_eq_true.1 hok.2 f hf;simpa using this)
     ·exact absurd hfs (hne T _ hT)
    ·cases h
   ·rename_i k0 hfs;rw[hfs]at hk;have:=C1 hk;subst this;split at h
    ·rename_i k a k' b';split at h
     ·rename_i hkk;subst hkk;simp only[Option.some.injEq]at h;subst h;rcases hv with ⟨_,T',h1,h2,_⟩|⟨rfl,rfl,_⟩
      ·rw[hT]at h1;simp at h1;subst h1;rw[hfs]at h2;cases h2
      ·cases hx with|cons hx _=>cases hx with|d hx=>cases hx with|v _=>cases hy with|cons hy _=>cases hy with|d hy=>cases hy with|v _=>exact run_equalIn_int w d t k k0 a b' hD
     ·cases h
    ·cases h
   ·rename_i hfs;rw[hfs]at hk;have:=zR hk;subst this;split at h
    ·rename_i a b';simp only[Option.some.injEq]at h;subst h;rcases hv with ⟨_,T',h1,h2,_⟩|⟨rfl,rfl,_⟩
     ·rw[hT]at h1;simp at h1;subst h1;rw[hfs]at h2;cases h2
     ·cases hx with|cons hx _=>cases hx with|d hx=>cases hx with|v _=>cases hy with|cons hy _=>cases hy with|d hy=>cases hy with|v _=>exact run_equalIn_bool' w d t a b' hD
    ·cases h
   ·rename_i hfs;rw[hfs]at hk;have:=sW hk;subst this;split at h
    ·rename_i a b';simp only[Option.some.injEq]at h;subst h;rcases hv with ⟨_,T',h1,h2,_⟩|⟨rfl,rfl,_⟩
     ·rw[hT]at h1;simp at h1;subst h1;rw[hfs]at h2;cases h2
     ·cases hx with|cons hx _=>cases hx with|d hx=>cases hx with|v _=>cases hy with|cons hy _=>cases hy with|d hy=>cases hy with|v _=>exact run_equalIn_string w d t a b' hD
    ·cases h
   ·cases h
  ·cases h
theorem q9{N:Nat→Prop}:∀(n:Nat) (fs:List Field) {xs ys:List AV} {vs us:List Value} {b:Bool} {d:Nat},aQ w S N gs xs vs→aQ w S N gs ys us→xx P n (fs.map fun f=>(f.type,f.offset)) xs ys=some b→n≤d →
    (∀f∈fs,f.name ≠ "_")→(Op.eqFields d vs.toArray us.toArray fs).run P w = .ok b w
 | n,[],xs,ys,vs,us,b,d,hx,hy,h,hd,hf=>by
  cases n<;>(simp[xx]at h;subst h;simp[Op.eqFields])
 | 0,f::fs,xs,ys,vs,us,b,d,hx,hy,h,hd,hf=>by simp[xx]at h
 | n+1,f::fs,xs,ys,vs,us,b,d,hx,hy,h,hd,hf=>by
  simp only[List.map_cons,xx]at h;split at h
  ·rename_i T hT;split at h
   ·rename_i hl;split at h
    ·rename_i a r ha hr;simp only[Option.some.injEq]at h;subst h;have lx:=hx.length;have ly:=hy.length
     -- the parts
     have hpart:∀ {zs:List AV} {qs:List Value},aQ w S N gs zs qs→f.offset+T.size≤zs.length→∃v,(part f.type qs.toArray f.offset).run P w = .ok v w ∧
         ((∃gs' T,ty P f.type=some T∧T.k = .struct gs'∧v = .agg ((qs.drop f.offset).take T.size).toArray)∨(((qs.drop f.offset).take T.size)=[v]∧∀T gs',ty P f.type=some T→T.k ≠ .struct gs')∨∃n e,T.k = .array n e):=by
      intro zs qs hz hzl;have lz:=hz.length;simp only[part,Sem.run_bind,yY hT,Result.andThen_ok];by_cases hag:T.agg=true
      ·simp only[hag,if_true,Sem.run_bind,dB hT,Result.andThen_ok,Sem.run_pure];refine⟨_,rfl,?_⟩
       have e:qs.toArray.extract f.offset (f.offset+T.size)=((qs.drop f.offset).take T.size).toArray:=by
        apply Array.ext';simp[List.take_drop]
       rw[e];unfold Ty.agg at hag;split at hag
       ·rename_i gs' hk;exact .inl ⟨gs',T,hT,hk,rfl⟩
       ·rename_i n e hk;exact .inr (.inr ⟨n,e,hk⟩)
       ·cases hag
      ·have hlt:f.offset<qs.length:=by omega
       have hg:qs.toArray[f.offset]?=some qs[f.offset]:=by simp[hlt]
       simp only[hag,Bool.false_eq_true,if_false,hg,Sem.run_pure];refine⟨_,rfl,.inr (.inl ⟨?_,?_⟩)⟩
       ·-- a leaf has one cell: BR was defined on it
        have h1:((qs.drop f.offset).take T.size).length=T.size:=by simp;omega
        have hs1:T.size=1:=by
         have hal:((xs.drop f.offset).take T.size).length=T.size:=by simp;omega
         cases n with
         | zero=>simp[BR]at ha
         | succ n=>
          simp only[BR,hT]at ha;split at ha
          ·rename_i gs' hk;exact absurd (show T.agg=true by simp[Ty.agg,hk]) hag
          ·split at ha
           ·rename_i e1 _;rw[e1]at hal;simpa using hal.symm
           ·cases ha
          ·split at ha
           ·rename_i e1 _;rw[e1]at hal;simpa using hal.symm
           ·cases ha
          ·split at ha
           ·rename_i e1 _;rw[e1]at hal;simpa using hal.symm
           ·cases ha
          ·cases ha
        rw[hs1,List.take_one,List.head?_drop];simp[hlt]
       ·intro T' gs' hT' hk;rw[hT]at hT';simp at hT';subst hT';exact hag (by simp[Ty.agg,hk])
     obtain⟨v1,p1,q1⟩:=hpart hx hl.1;obtain⟨v2,p2,q2⟩:=hpart hy hl.2.1
     have B2:∀n' e,T.k ≠ .array n' e:=by
      intro n' e hk
      cases n with
      | zero=>simp[BR]at ha
      | succ n=>simp[BR,hT,hk]at ha
     obtain⟨d',rfl⟩:∃e,d=e+1:=⟨d-1,by omega⟩
     have hrun:=tz n (d:=d'+1) ((hx.drop f.offset).take T.size) ((hy.drop f.offset).take T.size) ha (by omega) v1 v2 (by
       rcases q1 with ⟨g1, T1, a1, a2, a3⟩ | ⟨a1, a2⟩ | ⟨n', e, hk⟩
       · rcases q2 with ⟨g2, T2, b1, b2, b3⟩ | ⟨b1, b2⟩ | ⟨n', e, hk⟩
         · rw [hT] at a1 b1; simp at a1 b1; subst a1; subst b1
           exact .inl ⟨g1, _, hT, a2, a3, b3⟩
         · exact absurd a2 (b2 T1 g1 a1)
         · exact absurd hk (B2 n' e)
       · rcases q2 with ⟨g2, T2, b1, b2, b3⟩ | ⟨b1, b2⟩ | ⟨n', e, hk⟩
         · exact absurd b2 (a2 T2 g2 b1)
         · exact .inr ⟨a1, b1, a2⟩
         · exact absurd hk (B2 n' e)
       · exact absurd hk (B2 n' e))
     have hrest:=q9 n fs (d:=d'+1) hx hy hr (by omega) (fun g hg=>hf g (by simp[hg]));simp only[Op.eqFields,hf f (by simp),ne_eq,not_false_eq_true,if_true,Sem.run_bind,p1,p2,Result.andThen_ok,hrun,Sem.run_ite,Sem.run_pure,hrest];cases a<;>simp
    ·cases h
   ·cases h
  ·cases h
end
end
end Go.aN
/- One operation is sound. Lemmas alone. -/
namespace Go.aN
open Go.RowKit Go.Lib
section
variable {P:Program} {B:Nat} {w:World} {S:Nat→Prop} {objs:List Obj} {gs:List G1} {om:Nat→Option (Nat×Bool)}
theorem isBool{t:TypeId}(h:nU P t=true):P.underlying t=some .bool:=by
 unfold nU at h;split at h
 ·rename_i T hT;split at h
  ·rename_i hk;obtain⟨d,h1,h2⟩:=d6 hT;rw[hk]at h2;rw[h1,zR h2]
  ·cases h
 ·cases h
theorem Fe{t:TypeId}(h:nV P t=true):∃e,P.underlying t=some (.pointer e):=by
 unfold nV at h;split at h
 ·rename_i T hT;split at h
  ·rename_i e hk;obtain⟨d,h1,h2⟩:=d6 hT;rw[hk]at h2;exact⟨e,by rw[h1,HF h2]⟩
  ·cases h
 ·cases h
theorem isFn{t:TypeId}(h:rE P t=true):∃a b c,P.underlying t=some (.func a b c):=by
 unfold rE at h;split at h
 ·rename_i T hT;split at h
  ·rename_i hk;obtain⟨d,h1,h2⟩:=d6 hT;rw[hk]at h2;cases d<;>simp[kZ]at h2
   exact⟨_,_,_,h1⟩
  ·cases h
 ·cases h
theorem xg{op:BinOp}{t:TypeId}{a b v:Value}(h:Bu op a b=some v)(hb:∀x y,a = .bool x→b = .bool y→False):(binOp op t a b).run P w = .ok v w∧v.oneCell'=true:=by
 unfold Bu at h;split at h
 ·rename_i k a k' b;split at h
  ·rename_i hs;unfold AZ at h;split at h
   ·cases h
   ·rename_i hb0;cases op<;>simp[qv]at hs<;>simp only[Option.some.injEq]at h<;>subst h<;>simp[binOp,Op.shift,hb0,Value.oneCell']
  ·rename_i hs;split at h
   ·rename_i hk;subst hk
    cases op <;> simp [qv] at hs <;> simp only [Ca, Option.some.injEq] at h <;>
     first
     | (subst h;simp[binOp,Op.intArith,Op.intBits,Op.intCmp,Value.oneCell'];done)
     | (split at h
        · cases h
        · rename_i h0; simp only [Option.some.injEq] at h; subst h; simp [binOp, Op.intDiv, h0, Value.oneCell'])
   ·cases h
 ·rename_i a b
  cases op <;> simp only [CV, Option.some.injEq] at h <;>
   first
   | (subst h;simp[binOp,Op.stringOp,Value.oneCell'];done)
   | (cases h;done)
   | (split at h
      · cases h
      · rename_i h0; simp only [Option.some.injEq] at h; subst h; refine ⟨?_, rfl⟩; simp only [binOp, Op.stringOp, if_neg h0, Sem.run_pure])
 ·rename_i a b;exact(hb a b rfl rfl).elim
 ·cases h
theorem mU{op:BinOp}{b:Bool}{av}(h:jL op b=some av):(op = .eql∧av = .bool b)∨(op = .neq∧av = .bool !b):=by
 unfold jL at h;split at h
 ·simp at h;exact .inl ⟨rfl,h.symm⟩
 ·simp at h;exact .inr ⟨rfl,h.symm⟩
 ·cases h
theorem DG{t e:TypeId}(hu:P.underlying t=some (.pointer e))(d:Nat):(Op.equalIn (d+1) t (.pointer none) (.pointer none)).run P w = .ok true w:=by simp[Op.equalIn,bD hu]
theorem DH{t e:TypeId}(hu:P.underlying t=some (.pointer e))(d:Nat)(a:Addr):(Op.equalIn (d+1) t (.pointer (some a)) (.pointer none)).run P w = .ok false w:=by simp[Op.equalIn,bD hu]
theorem Gc{t:TypeId}{a b c}(hu:P.underlying t=some (.func a b c))(d:Nat):(Op.equalIn (d+1) t .nilFunc .nilFunc).run P w = .ok true w:=by simp[Op.equalIn,bD hu]
theorem Gd{t:TypeId}{a b c}(hu:P.underlying t=some (.func a b c))(d:Nat)(f x y):(Op.equalIn (d+1) t (.func f x y) .nilFunc).run P w = .ok false w:=by simp[Op.equalIn,bD hu]
theorem kJ{op:BinOp}{t:TypeId}{x y:Value}{X Y:Operand}{b:Bool}{av:AV}{N:Nat→Prop}(h:jL op b=some av)(hg:∀o,(eqGuard o t X Y x y).run P w = .ok () w)
    (h1:binOp .eql t x y=(do pure (.bool (←Op.equal t x y)))) (h2:binOp .neq t x y=(do pure (.bool (!(←Op.equal t x y))))) (he:(Op.equalIn (9999+1) t x y).run P w = .ok b w) :
    ∃v,(do eqGuard op t X Y x y;binOp op t x y:Sem Value).run P w = .ok v w∧a8 w S N gs av v:=by
 have he':(Op.equal t x y).run P w = .ok b w:=he;rcases mU h with ⟨rfl,rfl⟩|⟨rfl,rfl⟩
 ·exact⟨.bool b,by simp only[Sem.run_bind,hg,Result.andThen_ok,h1,he',Sem.run_pure],.d (.v rfl)⟩
 ·exact⟨.bool !b,by simp only[Sem.run_bind,hg,Result.andThen_ok,h2,he',Sem.run_pure],.d (.v rfl)⟩
theorem cj{N:Nat→Prop}{x v}(h:a8 w S N gs (.d (.v x)) v):v=x:=by cases h with|d h=>cases h;rfl
theorem vf{op:BinOp}{t:TypeId}{x y:AV}{vx vy:Value}{X Y:Operand}(hx:a8 w S (Inner B w om) gs x vx)(hy:a8 w S (Inner B w om) gs y vy){av}(h:uk P op t x y=some av) :
    ∃v,(do eqGuard op t X Y vx vy;binOp op t vx vy:Sem Value).run P w = .ok v w∧a8 w S (Inner B w om) gs av v:=by
 have zn:∀(b:Bool),a8 w S (Inner B w om) gs (.bool b) (.bool b):=fun b=>.d (.v rfl)
 unfold uk at h;split at h
 ·rename_i a b;split at h
  ·rename_i hb;have hu:=isBool hb;obtain rfl:=cj hx;obtain rfl:=cj hy;rcases mU h with ⟨rfl,rfl⟩|⟨rfl,rfl⟩
   ·exact⟨_,by simp[eqGuard,run_eql_bool w t a b hu],zn _⟩
   ·exact⟨_,by simp[eqGuard,run_neq_bool w t a b hu],zn _⟩
  ·cases h
 ·split at h
  ·rename_i hb;obtain⟨e,hu⟩:=Fe hb;obtain rfl:=cj hx;obtain rfl:=cj hy;exact kJ h (fun o=>by cases o<;>simp[eqGuard]) rfl rfl (DG hu 9999)
  ·cases h
 ·split at h
  ·rename_i hb;obtain⟨e,f,g,hu⟩:=isFn hb;obtain rfl:=cj hx;obtain rfl:=cj hy;exact kJ h (fun o=>by cases o<;>simp[eqGuard]) rfl rfl (Gc hu 9999)
  ·cases h
 ·split at h
  ·rename_i hb;obtain⟨e,hu⟩:=Fe hb;obtain rfl:=cj hy
   cases hx with
   | ptr hg hb=>exact kJ h (fun o=>by cases o<;>simp[eqGuard]) rfl rfl (DH hu 9999 _)
  ·cases h
 ·split at h
  ·rename_i hb;obtain⟨e,f,g,hu⟩:=isFn hb;obtain rfl:=cj hy
   cases hx with
   | fn h1 h2=>exact kJ h (fun o=>by cases o<;>simp[eqGuard]) rfl rfl (Gd hu 9999 _ _ _)
  ·cases h
 ·rename_i a b hnb _ _;obtain⟨v,hv,rfl⟩:=Option.map_eq_some_iff.1 h;obtain rfl:=cj hx;obtain rfl:=cj hy;obtain⟨h1,h2⟩:=xg (P:=P) (w:=w) (t:=t) hv (fun x y e1 e2=>hnb x y (by rw[e1]) (by rw[e2]))
  have hg:(eqGuard op t X Y vx vy).run P w = .ok () w:=by
   unfold Bu at hv;split at hv<;>first|(cases hv;done)|(cases op<;>simp[eqGuard])
  exact⟨v,by simp[hg,h1],.d (.v h2)⟩
 ·rename_i xs ys;split at h
  ·rename_i hgd;split at h
   ·rename_i b hb
    cases hx with
    | @agg _ vs hxs=>
     cases hy with
     | @agg _ us hys=>
      have hst:∃fs T,ty P t=some T∧T.k = .struct fs:=by
       have h2:=hgd.2;unfold nc at h2;split at h2
       ·rename_i T hT;split at h2
        ·rename_i fs hfs;exact⟨fs,T,hT,hfs⟩
        ·cases h2
       ·cases h2
      obtain⟨fs,T,hT,hfs⟩:=hst;have hrun:=tz (w:=w) 12 (d:=10000) hxs hys hb (by omega) (.agg vs.toArray) (.agg us.toArray) (.inl ⟨fs,T,hT,hfs,rfl,rfl⟩);rcases mU h with ⟨rfl,rfl⟩|⟨rfl,rfl⟩
      ·exact⟨_,by simp[run_eqGuard_agg w _ t X Y _ _ hgd.1,run_eql_struct,hrun],zn _⟩
      ·exact⟨_,by simp[run_eqGuard_agg w _ t X Y _ _ hgd.1,run_neq_struct,hrun],zn _⟩
   ·cases h
  ·cases h
 ·cases h
theorem C5{op:UnOp}{a v:Value}(h:LV op a=some v):(Op.unary op a).run P w = .ok v w∧v.oneCell'=true:=by
 unfold LV at h;split at h
 ·simp at h;subst h;simp[Op.unary,Value.oneCell']
 ·simp at h;subst h;simp[Op.unary,Op.intArith,Value.oneCell']
 ·simp only[Option.some.injEq]at h;subst h;simp[Op.unary,Op.intBits,Value.oneCell']
 ·cases h
theorem qE.of{ps:List (Nat×Operand)}{ρ:Operand→AV}{ε:Operand→Value}{N:Nat→Prop}(h:∀x,a8 w S N gs (ρ x) (ε x)):qE w S N gs (ps.map fun p=>(p.1,ρ p.2)) (ps.map fun p=>(p.1,ε p.2)):=by
 induction ps with
 | nil=>exact .nil
 | cons p ps ih=>exact .cons (h _) ih
theorem aQ.of{xs:List Operand}{ρ:Operand→AV}{ε:Operand→Value}{N:Nat→Prop}(h:∀x,a8 w S N gs (ρ x) (ε x)):aQ w S N gs (xs.map ρ) (xs.map ε):=by
 induction xs with
 | nil=>exact .nil
 | cons p ps ih=>exact .cons (h _) ih
theorem jj{N:Nat→Prop}{x v i}(hx:a8 w S N gs x v)(h:lR x=some i):∃k,v = .int k i:=by
 unfold lR at h;split at h
 ·simp only[Option.some.injEq]at h;subst h;exact⟨_,cj hx⟩
 ·cases h
theorem sc{N:Nat→Prop}{ρ:Operand→AV}{ε:Operand→Value}(hr:∀x,a8 w S N gs (ρ x) (ε x)){x:Option Operand}{i}(h:ew ρ x=some i) :
    (i=none∧x.map ε=none)∨∃k j,i=some j∧x.map ε=some (.int k j):=by
 unfold ew at h;split at h
 ·simp at h;subst h;exact .inl ⟨rfl,rfl⟩
 ·rename_i x;obtain⟨j,hj,rfl⟩:=Option.map_eq_some_iff.1 h;obtain⟨k,hk⟩:=jj (hr x) hj;exact .inr ⟨k,j,rfl,by simp[hk]⟩
theorem Cj(hM:bm B w S objs gs om){x v n}(hx:a8 w S (Inner B w om) gs x v)(h:uI objs x=some n):(∃s,x = .d (.v (.string s))∧v = .string s∧n=s.size)∨∃a c,v = .slice a n c:=by
 unfold uI at h;split at h
 ·simp at h;subst h;exact .inl ⟨_,rfl,cj hx,rfl⟩
 ·simp at h;subst h;exact .inr ⟨_,_,cj hx⟩
 ·simp at h;subst h
  cases hx with|d hx=>cases hx with
   | nil=>exact .inr ⟨_,_,rfl⟩
   | empty=>exact .inr ⟨_,_,rfl⟩
   | old hm=>exact absurd rfl hm
 ·cases h
 ·simp at h;subst h
  cases hx with|d hx=>cases hx with
   | nil=>exact .inr ⟨_,_,rfl⟩
   | empty=>exact .inr ⟨_,_,rfl⟩
   | old=>exact .inr ⟨_,_,rfl⟩
 ·simp at h;subst h;cases hx<;>exact .inr ⟨_,_,rfl⟩
 ·simp at h;subst h;cases hx<;>exact .inr ⟨_,_,rfl⟩
 ·cases h
def Dj(P:Program)(B:Nat)(w:World)(S:Nat→Prop)(gs:List G1)(om:Nat→Option (Nat×Bool))(run:World→Result Next)(av:AV)(aj:List Obj):Prop:=
 ∃n w' gs' bz,run w = .ok n w'∧Ext B w gs om w' gs' bz∧bm B w' S aj gs' bz∧((∃v,n = .value v∧a8 w' S (Inner B w' bz) gs' av v)∨(n = .skip∧av = .bK []))
theorem tc(hM:bm B w S objs gs om){b:Builtin}{ts:List TypeId}{xs:List AV}{vs:List Value}{ty':TypeId}{cs:Array Bool}(hx:aQ w S (Inner B w om) gs xs vs){av aj}(h:ft P objs b ts xs=some (av,aj)) :
    Dj P B w S gs om (fun w=>(builtin b ts.toArray ty' cs vs.toArray).run P w) av aj:=by
 have lift:∀(s:Sem Value),(∃v w' gs' bz,s.run P w = .ok v w'∧Ext B w gs om w' gs' bz∧bm B w' S aj gs' bz∧a8 w' S (Inner B w' bz) gs' av v) →
     (builtin b ts.toArray ty' cs vs.toArray).run P w=(do pure (Next.value (←s)):Sem Next).run P w→Dj P B w S gs om (fun w=>(builtin b ts.toArray ty' cs vs.toArray).run P w) av aj:=by
  rintro s ⟨v,w',gs',bz,h1,h2,h3,h4⟩ e;refine⟨.value v,w',gs',bz,?_,h2,h3,.inl ⟨v,rfl,h4⟩⟩
  show (builtin b ts.toArray ty' cs vs.toArray).run P w=_
  rw[e];simp[h1]
 unfold ft at h;split at h
 ·rename_i t x
  cases hx with
  | cons hx h0=>
   cases h0;rename_i v;refine lift (Builtin.len_ #[t] ty' #[v]) ?_ rfl;split at h
   ·rename_i T n hT hn;obtain⟨d,hu,hk⟩:=d6 hT;rcases Cj hM hx hn with ⟨s,rfl,rfl,rfl⟩|⟨a,c,rfl⟩
    ·split at h
     ·rename_i hs;rw[hs]at hk;have:=sW hk;subst this;simp only[Option.some.injEq,Prod.mk.injEq]at h;obtain⟨rfl,rfl⟩:=h;exact⟨_,w,gs,om,by simp[Builtin.len_,bD hu];rfl,.refl ..,hM,.d (.v rfl)⟩
     ·cases h
     ·cases h
     ·cases h
    ·split at h
     ·split at h
      ·exact absurd (cj hx) (by simp)
      ·cases h
     ·rename_i e hs;rw[hs]at hk;have:=oz hk;subst this;split at h
      ·cases h
      ·simp only[Option.some.injEq,Prod.mk.injEq]at h;obtain⟨rfl,rfl⟩:=h;exact⟨_,w,gs,om,by simp[Builtin.len_,bD hu];rfl,.refl ..,hM,.d (.v rfl)⟩
     ·cases h
     ·cases h
   ·cases h
 ·rename_i t x
  cases hx with
  | cons hx h0=>
   cases h0;rename_i v;refine lift (Builtin.cap_ #[t] ty' #[v]) ?_ rfl;split at h
   ·rename_i T r Nn hT;obtain⟨d,hu,hk⟩:=d6 hT;split at h
    ·rename_i e c zs hs hr;rw[hs]at hk;have:=oz hk;subst this;simp only[Option.some.injEq,Prod.mk.injEq]at h;obtain⟨rfl,rfl⟩:=h
     cases hx with
     | @hdr _ _ _ g b o c' hg hb hcap hoff hlc hm=>
      obtain⟨dP,hgc,_⟩:=(hM.obj r _ hr).tG hg;have hgc:=hgc (by rw[hb];simp);have hcc:c'=c:=by rw[dP,Nat.mul_one,Nat.zero_add,hgc]at hcap;exact hcap
      subst hcc;exact⟨_,w,gs,om,by simp[Builtin.cap_,bD hu];rfl,.refl ..,hM,.d (.v rfl)⟩
     | fP hg hb=>
      have hcc:=((hM.obj r _ hr).tG hg).2.2 hb;subst hcc;exact⟨_,w,gs,om,by simp[Builtin.cap_,bD hu];rfl,.refl ..,hM,.d (.v rfl)⟩
    ·cases h
   ·cases h
 ·rename_i t t' x y;split at h
  ·rename_i ht;subst ht
   cases hx with
   | cons hx h0=>cases h0 with
    | cons hy h1=>
     cases h1;exact lift _ (uj hM hx hy h) rfl
  ·cases h
 ·rename_i t t' x y
  cases hx with
  | cons hx h0=>cases h0 with
   | cons hy h1=>
    cases h1;exact lift _ (xo hM hx hy h) rfl
 ·rename_i x y
  cases hx with
  | cons hx h0=>cases h0 with
   | cons hy h1=>
    cases h1;obtain⟨a,ha,he⟩:=Option.map_eq_some_iff.1 h;simp only[Prod.mk.injEq]at he;obtain⟨rfl,rfl⟩:=he;unfold D0 at ha;split at ha
    ·simp only[Option.some.injEq]at ha;subst ha;obtain rfl:=cj hx;obtain rfl:=cj hy;exact lift (Builtin.min_ ts.toArray ty' #[_,_]) ⟨_,w,gs,om,by simp[Builtin.min_,Builtin.min2],.refl ..,hM,.d (.v rfl)⟩ rfl
    ·cases ha
 ·rename_i x y
  cases hx with
  | cons hx h0=>cases h0 with
   | cons hy h1=>
    cases h1;obtain⟨a,ha,he⟩:=Option.map_eq_some_iff.1 h;simp only[Prod.mk.injEq]at he;obtain⟨rfl,rfl⟩:=he;unfold KY at ha;split at ha
    ·simp only[Option.some.injEq]at ha;subst ha;obtain rfl:=cj hx;obtain rfl:=cj hy;exact lift (Builtin.max_ ts.toArray ty' #[_,_]) ⟨_,w,gs,om,by simp[Builtin.max_,Builtin.max2],.refl ..,hM,.d (.v rfl)⟩ rfl
    ·cases ha
 ·cases h
theorem vW{t:TypeId}(h:isIface P t=false):∃d,P.underlying t=some d∧∀ms,d ≠ .interface ms:=by
 unfold isIface at h;split at h
 ·rename_i T hT;obtain⟨d,h1,h2⟩:=d6 hT;refine⟨d,h1,fun ms e=>?_⟩;subst e;split at h
  ·cases h
  ·rename_i hne;exact hne h2.symm
 ·cases h
theorem wH(hM:bm B w S objs gs om){t:TypeId}{x:AV}{vx:Value}{av aj}(hx:a8 w S (Inner B w om) gs x vx)(ht:fE P t=true)(h:sk objs x=some (av,aj)) :
    ∃v w' gs' bz,(Instr.range t vx).run P w = .ok v w'∧Ext B w gs om w' gs' bz∧bm B w' S aj gs' bz∧a8 w' S (Inner B w' bz) gs' av v:=by
 unfold sk at h;split at h
 ·rename_i s;simp only[Option.some.injEq,Prod.mk.injEq]at h;obtain⟨rfl,rfl⟩:=h;have:=cj hx;subst this;have hb:=eH w (Go.Obj.stringIter s 0)
  obtain⟨e,m⟩:=hM.push (w':=w.alloc (.stringIter s 0)) (g:=⟨some w.heap.size,0,0⟩) (o:=.it s 0) (bz:=mark om [w.heap.size] (objs.length,true)) hb eS
   (.it (cY _ _ hM.len) rfl hM.hB (da (by simp)) (heap_alloc_new _ _))
  refine⟨_,_,_,_,?_,e,m,.ptr (i:=0) (j:=0) (cY _ _ hM.len) rfl⟩;have:=run_range_string (P:=P) w t s (isStr ht);simpa [World.iter]using this
 ·cases h
theorem ym(hM:bm B w S objs gs om){t:TypeId}{x:AV}{vx:Value}{av aj}(hx:a8 w S (Inner B w om) gs x vx)(h:zB objs x=some (av,aj)) :
    ∃v w' gs' bz,(Instr.next vx true t).run P w = .ok v w'∧Ext B w gs om w' gs' bz∧bm B w' S aj gs' bz∧a8 w' S (Inner B w' bz) gs' av v:=by
 unfold zB at h;split at h
 ·rename_i r;split at h
  ·rename_i s pos hr
   cases hx with
   | @ptr _ _ _ g b hg hb=>
    cases hM.obj r _ hr with
    | @it _ _ g' b' hg' hb' hB ho hw=>
     obtain rfl:g=g':=by simpa using hg.symm.trans hg'
     obtain rfl:b=b':=by simpa using hb.symm.trans hb'
     split at h
     ·rename_i hlt;simp only[Option.some.injEq,Prod.mk.injEq]at h;obtain⟨rfl,rfl⟩:=h;have hbs:b<w.heap.size:=(Array.getElem?_eq_some_iff.1 hw).1;obtain⟨w',hw'⟩:∃w':World,w' = {w with heap:=w.heap.setIfInBounds b (.stringIter s (pos+(Utf8.decode s pos).2))}:=⟨_,rfl⟩;have other:∀k,k≠b→w'.heap[k]?=w.heap[k]?:=fun k hk=>by rw[hw'];exact Array.getElem?_setIfInBounds_ne (fun e=>hk e.symm)
      have e:Ext B w gs om w' gs om:=⟨List.prefix_rfl,⟨by rw[hw'],by rw[hw'],by rw[hw'],by rw[hw'];simp,fun k hk=>other k (by omega)⟩,fun k hk=>⟨⟨hk.1,by rw[hw'];simpa using hk.2.1,hk.2.2⟩,other k (fun e=>hk.2.2 r (by rw[e];exact ho))⟩⟩;refine⟨.tuple #[.bool true,.int .i64 pos,.int .i32 (Utf8.decode s pos).1],w',gs,om,?_,e,?_,?_⟩
      ·simp[Instr.next,getObj,setObj,Sem.run,hw,hlt,goInt,hw',Result.andThen]
      ·refine hM.step e (by simp[hM.len]) fun r' o ho'=>?_
       rcases eg ho' with ⟨rfl,rfl⟩|⟨hne,h'⟩
       ·exact .inr (.it hg hb hB ho (by rw[hw'];simp[hbs]))
       ·refine .inl ⟨h',fun k c hk _=>⟨hk,other k (fun e=>?_)⟩⟩;subst e;rw[ho]at hk;simp at hk;exact hne hk.1.symm
      ·have:aQ w' S (Inner B w' om) gs [.bool true,.int .i64 pos,.int .i32 (Utf8.decode s pos).1] [.bool true,.int .i64 pos,.int .i32 (Utf8.decode s pos).1]:=
        .cons (.d (.v rfl)) (.cons (.d (.v rfl)) (.cons (.d (.v rfl)) .nil))
       exact .bK this
     ·rename_i hlt;simp only[Option.some.injEq,Prod.mk.injEq]at h;obtain⟨rfl,rfl⟩:=h;refine⟨.tuple #[.bool false],w,gs,om,?_,.refl ..,hM,?_⟩
      ·simp[Instr.next,getObj,Sem.run,hw,hlt]
      ·have:aQ w S (Inner B w om) gs [.bool false] [.bool false]:=.cons (.d (.v rfl)) .nil;exact .bK this
  ·cases h
 ·cases h
theorem CB(hM:bm B w S objs gs om){ρ:Operand→AV}{ε:Operand→Value}(hr:∀x,a8 w S (Inner B w om) gs (ρ x) (ε x)){o:Oper}{av aj}(h:eM P ρ objs o.op=some (av,aj)) :
    Dj P B w S gs om (fun w=>(execOp ε o).run P w) av aj:=by
 have lift:∀(s:Sem Value),(∃v w' gs' bz,s.run P w = .ok v w'∧Ext B w gs om w' gs' bz∧bm B w' S aj gs' bz∧a8 w' S (Inner B w' bz) gs' av v) →
     (execOp ε o).run P w=(do pure (Next.value (←s)):Sem Next).run P w→Dj P B w S gs om (fun w=>(execOp ε o).run P w) av aj:=by
  rintro s ⟨v,w',gs',bz,h1,h2,h3,h4⟩ e;refine⟨.value v,w',gs',bz,?_,h2,h3,.inl ⟨v,rfl,h4⟩⟩
  show (execOp ε o).run P w=_
  rw[e];simp[h1]
 have pure':∀ {s:Sem Value} {b:AV} {v:Value},b=av→objs=aj→s.run P w = .ok v w→a8 w S (Inner B w om) gs b v→(∃v w' gs' bz,s.run P w = .ok v w'∧Ext B w gs om w' gs' bz∧bm B w' S aj gs' bz∧a8 w' S (Inner B w' bz) gs' av v):=by
  rintro s b v rfl rfl h1 h2;exact⟨v,w,gs,om,h1,.refl ..,hM,h2⟩
 obtain⟨dst,op,type,pos,after,guard⟩:=o;simp only at h
 cases op with
 | move x=>
  simp only[eM,Option.some.injEq,Prod.mk.injEq]at h;obtain⟨rfl,rfl⟩:=h;exact lift (pure (ε x)) (pure' rfl rfl (by simp) (hr x)) rfl
 | assign x=>
  simp only[eM,Option.some.injEq,Prod.mk.injEq]at h;obtain⟨rfl,rfl⟩:=h;exact lift (pure (ε x)) (pure' rfl rfl (by simp) (hr x)) rfl
 | pick c a b=>
  simp only[eM]at h;split at h
  ·rename_i t ht;simp only[Option.some.injEq,Prod.mk.injEq]at h;obtain⟨rfl,rfl⟩:=h;have hc:=hr c;rw[ht]at hc;have hcv:=cj hc;refine lift (pure (bif t then ε a else ε b)) (pure' rfl rfl (v:=bif t then ε a else ε b) (by simp) (by cases t;exact hr b;exact hr a)) ?_;simp only[execOp,hcv,asBool];cases t<;>simp
  ·cases h
 | alloc t=>exact lift _ (vd hM h) rfl
 | box t x=>exact lift _ (Ad hM (hr x) h) rfl
 | build t ps=>
  obtain⟨a,ha,he⟩:=Option.map_eq_some_iff.1 h;simp only[Prod.mk.injEq]at he;obtain⟨rfl,rfl⟩:=he;obtain⟨v,h1,h2⟩:=vh (qE.of (ps:=ps.toList) hr) ha;have e:(ps.map fun(p:Nat×Operand)=>(p.1,ε p.2))=(ps.toList.map fun p=>(p.1,ε p.2)).toArray:=by apply Array.ext';simp
  refine lift (Instr.build t (ps.map fun(p:Nat×Operand)=>(p.1,ε p.2))) (pure' rfl rfl (by rw[e];exact h1) h2) (by simp only[execOp])
 | buildSlice t n ps=>
  obtain⟨v,w',gs',bz,h1,h2⟩:=oK hM (qE.of (ps:=ps.toList) hr) h;have e:(ps.map fun(p:Nat×Operand)=>(p.1,ε p.2))=(ps.toList.map fun p=>(p.1,ε p.2)).toArray:=by apply Array.ext';simp
  exact lift (Instr.buildSlice t n (ps.map fun(p:Nat×Operand)=>(p.1,ε p.2))) ⟨v,w',gs',bz,by rw[e];exact h1,h2⟩ (by simp only[execOp])
 | load t a=>
  obtain⟨v,h1,h2,rfl⟩:=rP hM (hr a) h;exact lift _ (pure' rfl rfl h1 h2) rfl
 | store t a x=>
  obtain⟨a',ha,he⟩:=Option.map_eq_some_iff.1 h;simp only[Prod.mk.injEq]at he;obtain⟨rfl,rfl⟩:=he;obtain⟨w',bz,h1,h2,h3⟩:=wO hM (hr a) (hr x) ha;refine⟨.skip,w',gs,bz,?_,h2,h3,.inr ⟨rfl,rfl⟩⟩;simp[execOp,h1]
 | nilCheck x=>
  have hx:=hr x;simp only[eM]at h;split at h
  ·rename_i r i j hρ;simp only[Option.some.injEq,Prod.mk.injEq]at h;obtain⟨rfl,rfl⟩:=h;rw[hρ]at hx;have hx0:=hx;generalize hv:ε x=v at hx
   cases hx with
   | ptr hg hb=>exact lift (pure (ε x)) (pure' rfl rfl (by simp) hx0) (by simp[execOp,hv])
  ·rename_i cs j hρ;simp only[Option.some.injEq,Prod.mk.injEq]at h;obtain⟨rfl,rfl⟩:=h;rw[hρ]at hx;have hx0:=hx;generalize hv:ε x=v at hx
   cases hx with
   | rp=>exact lift (pure (ε x)) (pure' rfl rfl (by simp) hx0) (by simp[execOp,hv])
  ·rename_i f a b hρ;simp only[Option.some.injEq,Prod.mk.injEq]at h;obtain⟨rfl,rfl⟩:=h;rw[hρ]at hx;have hx0:=hx;generalize hv:ε x=v at hx
   cases hx with
   | fn=>exact lift (pure (ε x)) (pure' rfl rfl (by simp) hx0) (by simp[execOp,hv])
  ·cases h
 | binOp op t x y yt=>
  obtain⟨a,ha,he⟩:=Option.map_eq_some_iff.1 h;simp only[Prod.mk.injEq]at he;obtain⟨rfl,rfl⟩:=he;obtain⟨v,h1,h2⟩:=vf (X:=x) (Y:=y) (hr x) (hr y) ha;exact lift _ (pure' rfl rfl h1 h2) rfl
 | unOp op t x=>
  simp only[eM]at h;split at h
  ·rename_i a hρ;obtain⟨v,ha,he⟩:=Option.map_eq_some_iff.1 h;simp only[Prod.mk.injEq]at he;obtain⟨rfl,rfl⟩:=he;have hx:=hr x;rw[hρ]at hx;have hv:=cj hx;obtain⟨h1,h2⟩:=C5 (P:=P) (w:=w) ha;exact lift (Op.unary op (ε x)) (pure' rfl rfl (by rw[hv];exact h1) (.d (.v h2))) rfl
  ·cases h
 | convert s d x=>exact lift _ (xn hM (hr x) h) rfl
 | makeInterface t x=>
  simp only[eM]at h;split at h
  ·cases h
  ·rename_i hi;simp only[Option.some.injEq,Prod.mk.injEq]at h;obtain⟨rfl,rfl⟩:=h;obtain⟨d,h1,h2⟩:=vW (by simpa using hi);refine lift (Instr.makeInterface t (ε x)) (pure' rfl rfl (v:=.iface t (ε x)) ?_ (.tH (hr x))) rfl;simp only[Instr.makeInterface,Sem.run_bind,bD h1,Result.andThen_ok];cases d<;>first|rfl|exact absurd rfl (h2 _)
 | makeFunc fn first caps=>
  simp only[eM,Option.some.injEq,Prod.mk.injEq]at h;obtain⟨rfl,rfl⟩:=h;refine lift (Instr.makeFunc fn (first.map ε) (caps.map ε)) (pure' rfl rfl (v:=.func fn (first.map ε) (caps.map ε)) (by simp[Instr.makeFunc]) ?_) rfl;have:=a8.fn (f:=fn) (aQ.of (xs:=first.toList) hr) (aQ.of (xs:=caps.toList) hr);have e:∀(a:Array Operand),(a.toList.map ε).toArray=a.map ε:=fun a=>by apply Array.ext';simp
  rw[e,e]at this;exact this
 | makeSlice t l c=>
  simp only[eM]at h;split at h
  ·rename_i li ci hl hc;obtain⟨k1,e1⟩:=jj (hr l) hl;obtain⟨k2,e2⟩:=jj (hr c) hc;refine lift (Instr.makeSlice t (ε l) (ε c)) ?_ rfl;rw[e1,e2];exact qh hM h
  ·cases h
 | slice t x lo hi mx=>
  simp only[eM]at h;split at h
  ·rename_i l' h' m' hl hh hm;obtain⟨a,ha,he⟩:=Option.map_eq_some_iff.1 h;simp only[Prod.mk.injEq]at he;obtain⟨rfl,rfl⟩:=he;obtain⟨v,h1,h2⟩:=wL hM (hr x) (sc hr hl) (sc hr hh) (sc hr hm) ha;exact lift _ (pure' rfl rfl h1 h2) rfl
  ·cases h
 | fieldAddr s x f=>
  obtain⟨a,ha,he⟩:=Option.map_eq_some_iff.1 h;simp only[Prod.mk.injEq]at he;obtain⟨rfl,rfl⟩:=he;obtain⟨v,h1,h2⟩:=qc (hr x) ha;exact lift _ (pure' rfl rfl h1 h2) rfl
 | field s x f=>
  obtain⟨a,ha,he⟩:=Option.map_eq_some_iff.1 h;simp only[Prod.mk.injEq]at he;obtain⟨rfl,rfl⟩:=he;obtain⟨v,h1,h2⟩:=vA (hr x) ha;exact lift _ (pure' rfl rfl h1 h2) rfl
 | indexAddr t x i=>
  simp only[eM]at h;split at h
  ·rename_i n hi;obtain⟨a,ha,he⟩:=Option.map_eq_some_iff.1 h;simp only[Prod.mk.injEq]at he;obtain⟨rfl,rfl⟩:=he;obtain⟨k,hk⟩:=jj (hr i) hi;obtain⟨v,h1,h2⟩:=qf (k:=k) hM (hr x) ha;exact lift (Instr.indexAt t (ε x) (ε i)) (pure' rfl rfl (by rw[hk];exact h1) h2) rfl
  ·cases h
 | index t x i=>
  simp only[eM]at h;split at h
  ·rename_i n hi;obtain⟨a,ha,he⟩:=Option.map_eq_some_iff.1 h;simp only[Prod.mk.injEq]at he;obtain⟨rfl,rfl⟩:=he;obtain⟨k,hk⟩:=jj (hr i) hi;obtain⟨v,h1,h2⟩:=vR (k:=k) (hr x) ha;exact lift (Instr.index t (ε x) (ε i)) (pure' rfl rfl (by rw[hk];exact h1) h2) rfl
  ·cases h
 | extract x i=>
  obtain⟨a,ha,he⟩:=Option.map_eq_some_iff.1 h;simp only[Prod.mk.injEq]at he;obtain⟨rfl,rfl⟩:=he;have hx:=hr x;unfold rd at ha;split at ha
  ·rename_i vs hρ;rw[hρ]at hx;generalize hv:ε x=v at hx
   cases hx with
   | bK hvs=>
    obtain⟨u,h1,h2⟩:=hvs.get ha;exact lift (Instr.extract (ε x) i) (pure' rfl rfl (v:=u) (by rw[hv];simp[Instr.extract,h1]) h2) rfl
  ·cases ha
 | range t x=>
  simp only[eM]at h;split at h
  ·rename_i ht;exact lift _ (wH hM (hr x) ht h) rfl
  ·cases h
 | next it str=>
  simp only[eM]at h;split at h
  ·rename_i hs;subst hs;exact lift _ (ym hM (hr it) h) rfl
  ·cases h
 | call c=>
  obtain⟨callee,args,argTypes⟩:=c
  cases callee with
  | builtin b=>
   simp only[eM]at h;obtain⟨n,w',gs',bz,h1,h2⟩:=tc (ty':=type) (cs:=args.map fun | .const _=>true|_=>false) hM (aQ.of (xs:=args.toList) hr) h;refine⟨n,w',gs',bz,?_,h2⟩;simp only[execOp,resolve,Sem.run_bind,Sem.run_pure,Result.andThen_ok,invoke];rw[←h1];simp only[Array.toArray_toList];congr 2;apply Array.ext';simp
  | value f=>simp[eM]at h
  | invoke r m=>simp[eM]at h
 | _=>simp[eM]at h
end
end Go.aN
/- What is handed to a function and what comes back: contracts. Lemmas alone. -/
namespace Go.aN
open Go.RowKit Go.Lib
structure Gl where
 G:World→Prop
 N:Nat
 st:∀w w',G w→Below N w w'→G w'
def Sound(P:Program)(g:Gl)(f:FuncId)(spec:List D→Option D):Prop:=
 ∀(w:World) (vs:List Value) (S:Nat→Prop) (ds:List D) (r:D),g.G w→g.N≤w.heap.size→(∀b,S b→b<w.heap.size)→aW w S (fun _=>False) ds vs []→spec ds=some r →
  Calls P f vs.toArray w fun e w'=>∃v F,e = .returned v∧cb w' S (fun _=>False) r v F∧F.Nodup∧(∀b∈F,w.heap.size≤b∧b<w'.heap.size)∧Below w.heap.size w w'
def jo:Option Nat→D→D
 | some k,.v (.slice none 0 0)=>.row .ro k []
 | _,d=>d
mutual
def oS(objs:List Obj):List (Option Nat)→AV→Option (D×List (Option Nat))
 | qs,.d x=>some (jo (qs.headD none) x.cF,qs.drop 1)
 | qs,.cut k xs=>some ((D.row .ro k xs).cF,qs.drop 1)
 | qs,.hdr r off len=>match objs[r]? with
  | some (.row k xs)=>if off+len≤xs.length then some (.row .ro k (((xs.drop off).take len).map D.cF),qs.drop 1)else none
  | _=>none
 | qs,.agg cs=>match lI objs qs cs with
  | some (ds,q)=>some (.agg ds,q)
  | none=>none
 | _,_=>none
def lI(objs:List Obj):List (Option Nat)→List AV→Option (List D×List (Option Nat))
 | qs,[]=>some ([],qs)
 | qs,a::as=>match oS objs qs a with
  | some (d,q)=>match lI objs q as with
   | some (ds,q')=>some (d::ds,q')
   | none=>none
  | none=>none
end
def D.yq:D→Bool
 | .v _=>true
 | .row m _ xs=>decide (m = .ro)&&xs.attach.all fun⟨x,_⟩=>x.yq
 | .agg cs=>cs.attach.all fun⟨x,_⟩=>x.yq
 | .bK cs=>cs.attach.all fun⟨x,_⟩=>x.yq
def D.fp:D→Bool
 | .v _=>true
 | .row m _ xs=>decide (m ≠ .ro)&&xs.attach.all fun⟨x,_⟩=>x.fp
 | .agg cs=>cs.attach.all fun⟨x,_⟩=>x.fp
 | .bK cs=>cs.attach.all fun⟨x,_⟩=>x.fp
def D.dS:D→Bool
 | .v _=>true
 | .row m _ xs=>decide (m ≠ .sn)&&xs.attach.all fun⟨x,_⟩=>x.dS
 | .agg cs=>cs.attach.all fun⟨x,_⟩=>x.dS
 | .bK cs=>cs.attach.all fun⟨x,_⟩=>x.dS
theorem Hj(x):(D.v x).fp=true:=by simp[D.fp]
theorem oa(m k xs):(D.row m k xs).fp=(decide (m ≠ .ro)&&xs.all D.fp):=by simp[D.fp]
theorem lV(xs):(D.agg xs).fp=xs.all D.fp:=by simp[D.fp]
theorem rU(xs):(D.bK xs).fp=xs.all D.fp:=by simp[D.fp]
theorem Cq(x):(D.v x).dS=true:=by simp[D.dS]
theorem lX(m k xs):(D.row m k xs).dS=(decide (m ≠ .sn)&&xs.all D.dS):=by simp[D.dS]
theorem lW(xs):(D.agg xs).dS=xs.all D.dS:=by simp[D.dS]
theorem wi(xs):(D.bK xs).dS=xs.all D.dS:=by simp[D.dS]
mutual
def gj(objs:List Obj):D→Option (AV×List Obj)
 | .v x=>some (.d (.v x),objs)
 | .row .own k xs=>some (.hdr objs.length 0 xs.length,objs++[.row k xs])
 | .row .ro k xs=>some (.d (.row .ro k xs),objs)
 | .row .sn _ _=>none
 | .agg cs=>match ji objs cs with
  | some (as,o)=>some (.agg as,o)
  | none=>none
 | .bK cs=>match ji objs cs with
  | some (as,o)=>some (.bK as,o)
  | none=>none
def ji(objs:List Obj):List D→Option (List AV×List Obj)
 | []=>some ([],objs)
 | d::ds=>match gj objs d with
  | some (a,o1)=>match ji o1 ds with
   | some (as,o2)=>some (a::as,o2)
   | none=>none
  | none=>none
end
section
variable {P:Program} {B:Nat} {w:World} {S:Nat→Prop} {objs:List Obj} {gs:List G1} {om:Nat→Option (Nat×Bool)}
mutual
theorem cb.ku{S N N':Nat→Prop}:∀ {d:D} {v F},cb w S N d v F→d.dS=true→cb w S N' d v F
 | _,_,_,.v h,_=>.v h
 | _,_,_,.nil,_=>.nil
 | _,_,_,.empty hm,_=>.empty hm
 | _,_,_,.old (m:=m) hm hb h1 h2 hq hk hvs hl h,hs=>by
  rw[lX]at hs;simp only[Bool.and_eq_true,decide_eq_true_eq]at hs;refine .old hm hb h1 (fun e=>absurd e hs.1) hq hk hvs hl (aW.ku h ?_);simp only[flat,List.all_flatMap,List.all_eq_true]at hs ⊢;intro x hx c hc;have:=hs.2 x hx
  cases x with
  | agg cs=>rw[lW]at this;exact List.all_eq_true.1 this c hc
  | _=>simp[D.cells]at hc;subst hc;exact this
 | _,_,_,.own hb hc hn hm hk hvs h,hs=>by
  rw[lX]at hs;simp only[Bool.and_eq_true,decide_eq_true_eq]at hs;refine .own hb hc hn hm hk hvs (aW.ku h ?_);simp only[flat,List.all_flatMap,List.all_eq_true]at hs ⊢;intro x hx c hc;have:=hs.2 x hx
  cases x with
  | agg cs=>rw[lW]at this;exact List.all_eq_true.1 this c hc
  | _=>simp[D.cells]at hc;subst hc;exact this
 | _,_,_,.agg h,hs=>.agg (aW.ku h (by rw[lW]at hs;exact hs))
 | _,_,_,.bK h,hs=>.bK (aW.ku h (by rw[wi]at hs;exact hs))
theorem aW.ku{S N N':Nat→Prop}:∀ {ds:List D} {vs F},aW w S N ds vs F→ds.all D.dS=true→aW w S N' ds vs F
 | _,_,_,.nil,_=>.nil
 | _,_,_,.cons h t,hs=>by
  simp only[List.all_cons,Bool.and_eq_true]at hs;exact .cons (cb.ku h hs.1) (aW.ku t hs.2)
end
mutual
theorem cb.qa{S S' N:Nat→Prop}:∀ {d:D} {v F},cb w S N d v F→d.fp=true→cb w S' N d v F
 | _,_,_,.v h,_=>.v h
 | _,_,_,.nil,_=>.nil
 | _,_,_,.empty hm,_=>.empty hm
 | _,_,_,.old (m:=m) hm hb h1 h2 hq hk hvs hl h,hs=>by
  rw[oa]at hs;simp only[Bool.and_eq_true,decide_eq_true_eq]at hs;refine .old hm hb (fun e=>absurd e hs.1) h2 hq hk hvs hl (aW.qa h ?_);simp only[flat,List.all_flatMap,List.all_eq_true]at hs ⊢;intro x hx c hc;have:=hs.2 x hx
  cases x with
  | agg cs=>rw[lV]at this;exact List.all_eq_true.1 this c hc
  | _=>simp[D.cells]at hc;subst hc;exact this
 | _,_,_,.own hb hc hn hm hk hvs h,hs=>by
  rw[oa]at hs;simp only[Bool.and_eq_true,decide_eq_true_eq]at hs;refine .own hb hc hn hm hk hvs (aW.qa h ?_);simp only[flat,List.all_flatMap,List.all_eq_true]at hs ⊢;intro x hx c hc;have:=hs.2 x hx
  cases x with
  | agg cs=>rw[lV]at this;exact List.all_eq_true.1 this c hc
  | _=>simp[D.cells]at hc;subst hc;exact this
 | _,_,_,.agg h,hs=>.agg (aW.qa h (by rw[lV]at hs;exact hs))
 | _,_,_,.bK h,hs=>.bK (aW.qa h (by rw[rU]at hs;exact hs))
theorem aW.qa{S S' N:Nat→Prop}:∀ {ds:List D} {vs F},aW w S N ds vs F→ds.all D.fp=true→aW w S' N ds vs F
 | _,_,_,.nil,_=>.nil
 | _,_,_,.cons h t,hs=>by
  simp only[List.all_cons,Bool.and_eq_true]at hs;exact .cons (cb.qa h hs.1) (aW.qa t hs.2)
end
def Seen(S:Nat→Prop)(B:Nat)(w:World)(om:Nat→Option (Nat×Bool))(b:Nat):Prop:=S b∨(B≤b∧b<w.heap.size)
theorem yH{S N:Nat→Prop}{q d v F}(h:cb w S N d v F):cb w S N (jo q d) v F:=by
 unfold jo;split
 ·cases h;exact .nil
 ·exact h
mutual
theorem DI(hM:bm B w S objs gs om):∀ {a:AV} {qs v d q},a8 w S (Inner B w om) gs a v→oS objs qs a=some (d,q)→cb w (Seen S B w om) (fun _=>False) d v []
 | .d x,qs,v,d,q,hv,h=>by
  simp only[oS,Option.some.injEq,Prod.mk.injEq]at h;obtain⟨rfl,rfl⟩:=h;cases hv with|d hv=>exact yH (cb.cF (fun b hb=>.inl hb) (fun b hb=>.inr ⟨hb.1,hb.2.1⟩) hv (by simp))
 | .cut k xs,qs,v,d,q,hv,h=>by
  simp only[oS,Option.some.injEq,Prod.mk.injEq]at h;obtain⟨rfl,rfl⟩:=h;rw[dO]
  cases hv with
  | gK=>exact .nil
  | dU=>exact .empty (by simp)
  | @cut _ _ b off cur T fz vs hb hS hk hvs hl h=>
   have t:=aW.cF (S':=Seen S B w om) (N':=fun _=>False) (fun b hb=>.inl hb) (fun b hb=>.inr ⟨hb.1,hb.2.1⟩) h (by simp);have:=cb.old (m:=.ro) (S:=Seen S B w om) (N:=fun _=>False) (c:=xs.length) (by simp) hb (fun _=>hS.elim .inl (fun h=>.inr ⟨h.1,h.2.1⟩)) (by simp) (by simp) (m9 jb jB hk) (by simpa using hvs) (by simpa using hl) (by rw[md];exact t);rw[List.length_map]at this;exact this
 | .hdr r off len,qs,v,d,q,hv,h=>by
  simp only[oS]at h;split at h
  ·rename_i k xs hr;split at h
   ·rename_i hfit;simp only[Option.some.injEq,Prod.mk.injEq]at h;obtain⟨rfl,rfl⟩:=h
    cases hv with
    | fP hg hb=>simp;exact .nil
    | @hdr _ _ _ g b o c hg hb hcap hoff hlc hm=>
     by_cases hl0:len=0
     ·subst hl0;simp only[List.take_zero,List.map_nil];exact .empty (by simp)
     ·cases hM.obj r _ hr with
      | row0 hg' hk' hb'=>rw[hg]at hg';simp at hg';subst hg';rw[hb]at hb';cases hb'
      | @row _ _ _ g' b' cur vs F hg' dP hb' hB ho hw hcs hn' hk hvs hl hF dT=>
       obtain rfl:g=g':=by simpa using hg.symm.trans hg'
       obtain rfl:b=b':=by simpa using hb.symm.trans hb'
       obtain⟨G,g1,g2⟩:=mr hl hk off len hfit;have t:=aW.cF (S':=Seen S B w om) (N':=fun _=>False) (fun b hb=>.inl hb) (fun b hb=>.inr ⟨hb.1,hb.2.1⟩) g1 (fun b hb=>.inr ⟨(dT b (g2 b hb)).1,(dT b (g2 b hb)).2.1⟩);have hlen:((xs.drop off).take len).length=len:=by simp;omega
       have ho:o=off*g.k:=hoff.resolve_right (by omega);have hsub:∀x∈(xs.drop off).take len,Fits k x:=fun x hx=>hk x (List.mem_of_mem_drop (List.mem_of_mem_take hx))
       have hle:off*k+len*k≤xs.length*k:=by rw[←Nat.add_mul];exact Nat.mul_le_mul_right _ hfit
       have e:(vs.drop (off*k)).take (len*k)=(cur.toList.drop (off*k)).take (len*k):=by
        subst hvs;apply List.ext_getElem?;intro j;simp only[List.getElem?_take,List.getElem?_drop];split
        ·rw[if_pos (by omega)]
        ·rfl
       have:=cb.old (m:=.ro) (S:=Seen S B w om) (N:=fun _=>False) (c:=c) (off:=o) (by simp) hw (fun _=>.inr ⟨hB,(Array.getElem?_eq_some_iff.1 hw).1⟩) (by simp) (by simp;omega) (m9 jb jB hsub) rfl
        (by rw[List.length_map,hlen,ho,dP,←e,←g1.length,bP hsub,hlen]) (by rw[md,List.length_map,hlen,ho,dP,←e];exact t)
       rw[List.length_map,hlen]at this;exact this
   ·cases h
  ·cases h
 | .agg cs,qs,v,d,q,hv,h=>by
  simp only[oS]at h;split at h
  ·rename_i ds q' hds;simp only[Option.some.injEq,Prod.mk.injEq]at h;obtain⟨rfl,rfl⟩:=h;cases hv with|agg hv=>exact .agg (rb hM hv hds)
  ·cases h
 | .ptr ..,_,_,_,_,_,h=>by simp[oS]at h
 | .rp ..,_,_,_,_,_,h=>by simp[oS]at h
 | .bK ..,_,_,_,_,_,h=>by simp[oS]at h
 | .fn ..,_,_,_,_,_,h=>by simp[oS]at h
 | .tH ..,_,_,_,_,_,h=>by simp[oS]at h
 | .dead,_,_,_,_,_,h=>by simp[oS]at h
theorem rb(hM:bm B w S objs gs om):∀ {as:List AV} {qs vs ds q},aQ w S (Inner B w om) gs as vs→lI objs qs as=some (ds,q)→aW w (Seen S B w om) (fun _=>False) ds vs []
 | [],qs,vs,ds,q,hv,h=>by
  simp only[lI,Option.some.injEq,Prod.mk.injEq]at h;obtain⟨rfl,rfl⟩:=h;cases hv;exact .nil
 | a::as,qs,vs,ds,q,hv,h=>by
  simp only[lI]at h;split at h
  ·rename_i d q1 h1;split at h
   ·rename_i ds' q2 h2;simp only[Option.some.injEq,Prod.mk.injEq]at h;obtain⟨rfl,rfl⟩:=h;cases hv with|cons hv t=>exact aW.cons (F:=[]) (G:=[]) (DI hM hv h1) (rb hM t h2)
   ·cases h
  ·cases h
end
mutual
theorem B7:∀(d:D) {objs:List Obj} {a aj},gj objs d=some (a,aj)→objs.length≤aj.length
 | .v x,_,_,_,h=>by simp[gj]at h;simp[h.2]
 | .row .own k xs,_,_,_,h=>by simp[gj]at h;simp[←h.2]
 | .row .ro k xs,_,_,_,h=>by simp[gj]at h;simp[h.2]
 | .row .sn k xs,_,_,_,h=>by simp[gj]at h
 | .agg cs,_,_,_,h=>by
  simp only[gj]at h;split at h
  ·rename_i h1;simp at h;rw[←h.2];exact mf cs h1
  ·cases h
 | .bK cs,_,_,_,h=>by
  simp only[gj]at h;split at h
  ·rename_i h1;simp at h;rw[←h.2];exact mf cs h1
  ·cases h
theorem mf:∀(ds:List D) {objs:List Obj} {as aj},ji objs ds=some (as,aj)→objs.length≤aj.length
 | [],_,_,_,h=>by simp[ji]at h;simp[h.2]
 | d::ds,_,_,_,h=>by
  simp only[ji]at h;split at h
  ·rename_i h1;split at h
   ·rename_i h2;simp at h;rw[←h.2];exact Nat.le_trans (B7 d h1) (mf ds h2)
   ·cases h
  ·cases h
end
theorem bm.yz{R:Nat}(hM:bm B w S objs gs om){k:Nat}{xs:List D}{v F}(hd:cb w S (Inner B w om) (.row .own k xs) v F)(hnd:F.Nodup)(hF:∀b∈F,B≤b∧b<w.heap.size∧om b=some (R,true))(hR:objs.length<R) :
    ∃gs' bz,bm B w S (objs++[.row k xs]) gs' bz∧Ext B w gs om w gs' bz∧a8 w S (Inner B w bz) gs' (.hdr objs.length 0 xs.length) v∧∀b,b∉F→bz b=om b:=by
 cases hd with
 | nil=>
  obtain⟨e,m⟩:=hM.si 0 k;exact⟨_,om,m,e,.fP (g:=⟨none,k,0⟩) (cY _ _ hM.len) rfl,fun _ _=>rfl⟩
 | empty hm=>exact absurd rfl hm
 | old hm=>exact absurd rfl hm
 | @own _ _ b c cur T vs F hb hc hn hm hk hvs hl=>
  have De:b∉F:=(List.nodup_cons.1 hnd).1;obtain⟨bz,pP⟩:∃bz,bz=mark (mark om F (objs.length,false)) [b] (objs.length,true):=⟨_,rfl⟩
  have out:∀x,x∉b::F→bz x=om x:=fun x hx=>by
   rw[pP,bS (fun h=>hx (by simp at h;simp[h])),bS (fun h=>hx (by simp[h]))]
  have e:Ext B w gs om w (gs++[⟨some b,k,c*k⟩]) bz:=⟨List.prefix_append _ _,.refl _ _,fun x ⟨h1,h2,h3⟩=>⟨⟨h1,h2,fun r=>by
    rw [out x (fun hx => h3 R (hF x hx).2.2)]; exact h3 r⟩, rfl⟩⟩
  refine⟨_,bz,hM.step e (by simp[hM.len]) fun r o hr=>?_,e,.hdr (g:=⟨some b,k,c*k⟩) (b:=b) (o:=0) (c:=c) (cY _ _ hM.len) rfl (by simp) (.inl (by simp)) hn hm,out⟩;rcases eC _ _ _ _ hr with h'|⟨rfl,rfl⟩
  ·refine .inl ⟨h',fun x c' hxc _=>⟨?_,rfl⟩⟩;rw[out x (fun hx=>?_)];exact hxc;have:=(hF x hx).2.2;rw[hxc]at this;simp at this;have hlt:r<objs.length:=(List.getElem?_eq_some_iff.1 h').1;omega
  ·right;refine .row (F:=F) (cY _ _ hM.len) rfl rfl (hF b (by simp)).1 (by rw[pP,da (by simp)]) hb hc (Nat.mul_le_mul_right _ hn) hk hvs (hM.AS e hl (fun _ _=>rfl)) (List.nodup_cons.1 hnd).2 (fun x hx=>⟨(hF x (by simp[hx])).1,(hF x (by simp[hx])).2.1,?_⟩);rw[pP,bS (by simp;rintro rfl;exact De hx),da hx]
mutual
theorem zo{R:Nat}{S':Nat→Prop}:∀(d:D) {objs:List Obj} {gs:List G1} {om:Nat→Option (Nat×Bool)} {v F a aj},bm B w S objs gs om→cb w S' (fun _=>False) d v F→d.fp=true→F.Nodup →
    (∀b∈F,B≤b∧b<w.heap.size∧om b=some (R,true))→gj objs d=some (a,aj)→aj.length≤R →
    ∃gs' bz,bm B w S aj gs' bz∧Ext B w gs om w gs' bz∧a8 w S (Inner B w bz) gs' a v∧∀b,b∉F→bz b=om b
 | .v x,objs,gs,om,v,F,a,aj,hM,hd,hr,hnd,hF,h,hR=>by
  simp only[gj,Option.some.injEq,Prod.mk.injEq]at h;obtain⟨rfl,rfl⟩:=h;cases hd with|v hd=>exact⟨gs,om,hM,.refl ..,.d (.v hd),fun _ _=>rfl⟩
 | .row .own k xs,objs,gs,om,v,F,a,aj,hM,hd,hr,hnd,hF,h,hR=>by
  simp only[gj,Option.some.injEq,Prod.mk.injEq]at h;obtain⟨rfl,rfl⟩:=h;have hd':cb w S (Inner B w om) (.row .own k xs) v F:=cb.qa (cb.mono (S':=S') (N':=Inner B w om) (fun b hb=>⟨hb,rfl⟩) (fun b hb=>hb.elim) hd (fun _ _=>rfl)) hr;exact hM.yz (R:=R) hd' hnd hF (by simp at hR;omega)
 | .row .ro k xs,objs,gs,om,v,F,a,aj,hM,hd,hr,hnd,hF,h,hR=>by rw[oa]at hr;simp at hr
 | .row .sn k xs,objs,gs,om,v,F,a,aj,hM,hd,hr,hnd,hF,h,hR=>by simp[gj]at h
 | .agg cs,objs,gs,om,v,F,a,aj,hM,hd,hr,hnd,hF,h,hR=>by
  simp only[gj]at h;split at h
  ·rename_i as o h1;simp only[Option.some.injEq,Prod.mk.injEq]at h;obtain⟨rfl,rfl⟩:=h;rw[lV]at hr
   cases hd with
   | agg hd=>
    obtain⟨gs',bz,a1,a2,a3,a4⟩:=rA cs hM hd hr hnd hF h1 hR;exact⟨gs',bz,a1,a2,.agg a3,a4⟩
  ·cases h
 | .bK cs,objs,gs,om,v,F,a,aj,hM,hd,hr,hnd,hF,h,hR=>by
  simp only[gj]at h;split at h
  ·rename_i as o h1;simp only[Option.some.injEq,Prod.mk.injEq]at h;obtain⟨rfl,rfl⟩:=h;rw[rU]at hr
   cases hd with
   | bK hd=>
    obtain⟨gs',bz,a1,a2,a3,a4⟩:=rA cs hM hd hr hnd hF h1 hR;exact⟨gs',bz,a1,a2,.bK a3,a4⟩
  ·cases h
theorem rA{R:Nat}{S':Nat→Prop}:∀(ds:List D) {objs:List Obj} {gs:List G1} {om:Nat→Option (Nat×Bool)} {vs F as aj},bm B w S objs gs om→aW w S' (fun _=>False) ds vs F→ds.all D.fp=true→F.Nodup →
    (∀b∈F,B≤b∧b<w.heap.size∧om b=some (R,true))→ji objs ds=some (as,aj)→aj.length≤R →
    ∃gs' bz,bm B w S aj gs' bz∧Ext B w gs om w gs' bz∧aQ w S (Inner B w bz) gs' as vs∧∀b,b∉F→bz b=om b
 | [],objs,gs,om,vs,F,as,aj,hM,hd,hr,hnd,hF,h,hR=>by
  simp only[ji,Option.some.injEq,Prod.mk.injEq]at h;obtain⟨rfl,rfl⟩:=h;cases hd;exact⟨gs,om,hM,.refl ..,.nil,fun _ _=>rfl⟩
 | d::ds,objs,gs,om,vs,F,as,aj,hM,hd,hr,hnd,hF,h,hR=>by
  simp only[ji]at h;split at h
  ·rename_i a1 o1 h1;split at h
   ·rename_i P9 o2 h2;simp only[Option.some.injEq,Prod.mk.injEq]at h;obtain⟨rfl,rfl⟩:=h;simp only[List.all_cons,Bool.and_eq_true]at hr
    cases hd with
    | @cons _ v F1 _ vs F2 hd ht=>
     obtain⟨n1,n2,n3⟩:=List.nodup_append.1 hnd;obtain⟨gs1,AF,b1,b2,b3,b4⟩:=zo d hM hd hr.1 n1 (fun b hb=>hF b (by simp[hb])) h1 (Nat.le_trans (mf ds h2) hR)
     obtain⟨gs2,lB,c1,c2,c3,c4⟩:=rA ds b1 ht hr.2 n2 (fun b hb=>by
       rw [b4 b (fun h => n3 b h b hb rfl)]; exact hF b (by simp [hb])) h2 hR
     exact⟨gs2,lB,c1,b2.trans c2,.cons (b1.iD c2 b3) c3,fun b hb=>by
       simp only [List.mem_append, not_or] at hb
       rw [c4 b hb.2, b4 b hb.1]⟩
   ·cases h
  ·cases h
end
theorem Bw(hM:bm B w S objs gs om){S':Nat→Prop}{w':World}{r:D}{v F}(hd:cb w' S' (fun _=>False) r v F)(hnd:F.Nodup)(hF:∀b∈F,w.heap.size≤b∧b<w'.heap.size)(hb:Below w.heap.size w w')
    (hr:r.fp=true) {a aj} (h:gj objs r=some (a,aj)):∃gs' bz,bm B w' S aj gs' bz∧Ext B w gs om w' gs' bz∧a8 w' S (Inner B w' bz) gs' a v:=by
 obtain⟨LL,pP⟩:∃LL:Nat→Option (Nat×Bool),LL=fun b=>if b<w.heap.size then om b else some (aj.length,true):=⟨_,rfl⟩
 have e0:Ext B w gs om w' gs LL:=.grow List.prefix_rfl hb hM.hB (fun b hlt=>by rw[pP];simp[hlt]);have m0:bm B w' S objs gs LL:=hM.step e0 hM.len fun r' o ho=>.inl ⟨ho,fun b c hbc hlt=>⟨by rw[pP];simp[hlt,hbc],hb.block b hlt⟩⟩
 obtain⟨gs',bz,a1,a2,a3,_⟩:=zo (R:=aj.length) r m0 hd hr hnd (fun b hb'=>⟨Nat.le_trans hM.hB (hF b hb').1,(hF b hb').2,by rw[pP];simp;intro h;have:=(hF b hb').1;omega⟩) h (Nat.le_refl _);exact⟨gs',bz,a1,e0.trans a2,a3⟩
end
end Go.aN
/- The walk over abstract states: its rules. Lemmas alone. -/
namespace Go.aN
open Go.RowKit Go.Lib
structure eo (n:Nat) (s:Nat→AV) (a:Act) (w:World) (S N:Nat→Prop) (gs:List G1):Prop where
 size:a.tmps.size=n
 defers:a.defers=[]
 rel:∀i,a8 w S N gs (s i) (a.tmps.getD i undef)
def upd(s:Nat→AV)(d:Nat)(v:AV):Nat→AV:=fun i=>if i=d then v else s i
def fU(n:Nat)(s:Nat→AV):Option Tmp→AV→Option (Nat→AV)
 | none,_=>some s
 | some d,v=>if d<n then some (upd s d v)else none
structure Fl where
 n:Nat
 keep:Bool
structure iO (fl:Fl) (B:Nat) (w:World) (gs:List G1) (om:Nat→Option (Nat×Bool)) (w':World) (gs':List G1) (bz:Nat→Option (Nat×Bool)):Prop where
 gs:gs.take fl.n <+: gs'
 below:Below B w w'
 inner:fl.keep=true→∀b,Inner B w om b→Inner B w' bz b∧w'.heap[b]?=w.heap[b]?
abbrev Qt:=Exit→(Nat→AV)→List Obj→Prop
def Post(B:Nat)(S:Nat→Prop)(n:Nat)(fl:Fl)(w:World)(gs:List G1)(om:Nat→Option (Nat×Bool))(Q:Qt)(e:Exit)(a':Act)(w':World):Prop:=
 ∃s' aj gs' bz,Q e s' aj∧bm B w' S aj gs' bz∧eo n s' a' w' S (Inner B w' bz) gs'∧iO fl B w gs om w' gs' bz
def W(P:Program)(g:Gl)(B:Nat)(S:Nat→Prop)(n:Nat)(fl:Fl)(c:Code)(s:Nat→AV)(objs:List Obj)(Q:Qt):Prop:=
 ∀a w gs om,g.G w→g.N≤B→bm B w S objs gs om→eo n s a w S (Inner B w om) gs→fl.n≤objs.length→c.wp P (Post B S n fl w gs om Q) a w
def WR(P:Program)(g:Gl)(B:Nat)(S:Nat→Prop)(n:Nat)(fl:Fl)(ops:Array Oper)(l:List Nat)(s:Nat→AV)(objs:List Obj)(Q:Qt):Prop:=
 ∀a w gs om,g.G w→g.N≤B→bm B w S objs gs om→eo n s a w S (Inner B w om) gs→fl.n≤objs.length→wpOps P ops (Post B S n fl w gs om Q) l a w
def Then(P:Program)(g:Gl)(B:Nat)(S:Nat→Prop)(n:Nat)(fl:Fl)(c:Code)(Q:Qt):Qt:=fun e s objs=>match e with
 | .normal=>fl.n≤objs.length→W P g B S n fl c s objs Q
 | e=>Q e s objs
def pB(id:Nat)(Q:Qt):Qt:=fun e s objs=>match e with
 | .exit j=>if j=id then Q .normal s objs else Q (.exit j) s objs
 | e=>Q e s objs
section
variable {P:Program} {g:Gl} {B:Nat} {S:Nat→Prop} {n:Nat} {fl:Fl} {w:World} {gs:List G1} {om:Nat→Option (Nat×Bool)} {s:Nat→AV} {objs:List Obj} {Q:Qt}
theorem Ext.take(h:Ext B w gs om w gs om):iO fl B w gs om w gs om:=⟨List.take_prefix _ _,h.below,fun _=>h.inner⟩
theorem iO.dM{w1 gs1 AF w2 gs2 lB}(h:iO fl B w gs om w1 gs1 AF)(k:iO fl B w1 gs1 AF w2 gs2 lB)(hl:fl.n≤gs.length):iO fl B w gs om w2 gs2 lB:=by
 refine⟨?_,h.below.trans k.below,fun hk b hb=>⟨(k.inner hk b (h.inner hk b hb).1).1,(k.inner hk b (h.inner hk b hb).1).2.trans (h.inner hk b hb).2⟩⟩
 have e:gs1.take fl.n=gs.take fl.n:=by
  obtain⟨t,ht⟩:=h.gs;rw[←ht,List.take_append_of_le_length (by simp;omega),List.take_take];simp
 rw[←e];exact k.gs
theorem Ext.dm{w1 gs1 AF}(h:Ext B w gs om w1 gs1 AF):iO fl B w gs om w1 gs1 AF:=⟨(List.take_prefix _ _).trans h.gs,h.below,fun _=>h.inner⟩
theorem Post.trans{w1 gs1 AF e a w2}(h:iO fl B w gs om w1 gs1 AF)(hl:fl.n≤gs.length)(k:Post B S n fl w1 gs1 AF Q e a w2):Post B S n fl w gs om Q e a w2:=by
 obtain⟨s',o',g',m',q,r1,r2,x⟩:=k;exact⟨s',o',g',m',q,r1,r2,h.dM x hl⟩
theorem Post.mono{Q':Qt}{e a w2}(h:Post B S n fl w gs om Q e a w2)(hq:∀s o,Q e s o→Q' e s o):Post B S n fl w gs om Q' e a w2:=by
 obtain⟨s',o',g',m',q,r⟩:=h;exact⟨s',o',g',m',hq _ _ q,r⟩
theorem gU(hG:g.G w)(hN:g.N≤B){w'}(h:Below B w w'):g.G w':=g.st w w' hG (h.mono hN)
theorem iO.len{w1 gs1 AF}(h:iO fl B w gs om w1 gs1 AF)(hl:fl.n≤gs.length):fl.n≤gs1.length:=by
 obtain⟨t,ht⟩:=h.gs;rw[←ht];simp;omega
theorem W.mono{c Q'}(h:W P g B S n fl c s objs Q)(hq:∀e s o,Q e s o→Q' e s o):W P g B S n fl c s objs Q':=fun a w gs om h1 h2 h3 h4 h5=>
 wp_mono (h a w gs om h1 h2 h3 h4 h5) fun e a w h=>h.mono (hq e)
theorem af(h:Q .normal s objs):W P g B S n fl .skip s objs Q:=fun a w gs om h1 h2 h3 h4 h5=>wp_skip ⟨s,objs,gs,om,h,h3,h4,(Ext.refl ..).take⟩
theorem aP{id}(h:Q (.exit id) s objs):W P g B S n fl (.exit id) s objs Q:=fun a w gs om h1 h2 h3 h4 h5=>wp_exit ⟨s,objs,gs,om,h,h3,h4,(Ext.refl ..).take⟩
theorem ar(h:Q .ret s objs):W P g B S n fl .ret s objs Q:=fun a w gs om h1 h2 h3 h4 h5=>wp_ret ⟨s,objs,gs,om,h,h3,h4,(Ext.refl ..).take⟩
theorem Post.then{w1:World}{c:Code}{e a}(hG:g.G w)(hN:g.N≤B)(hl:fl.n≤gs.length)(h:Post B S n fl w gs om (Then P g B S n fl c Q) e a w1) :
    Exit.then (c.wp P (Post B S n fl w gs om Q)) (Post B S n fl w gs om Q) e a w1:=by
 obtain⟨s',o',g',m',q,r1,r2,x⟩:=h
 cases e with
 | normal=>exact wp_mono (q (by rw[←r1.len];exact x.len hl) a w1 g' m' (gU hG hN x.below) hN r1 r2 (by rw[←r1.len];exact x.len hl)) fun e a w2 h=>h.trans x hl
 | _=>exact⟨s',o',g',m',q,r1,r2,x⟩
theorem ab{c d}(h:W P g B S n fl c s objs (Then P g B S n fl d Q)):W P g B S n fl (.seq c d) s objs Q:=fun a w gs om h1 h2 h3 h4 h5=>
 wp_seq (wp_mono (h a w gs om h1 h2 h3 h4 h5) fun e a w h=>h.then h1 h2 (by rw[h3.len];exact h5))
theorem ag{id c}(h:W P g B S n fl c s objs (pB id Q)):W P g B S n fl (.block id c) s objs Q:=fun a w gs om h1 h2 h3 h4 h5=>
 wp_block (wp_mono (h a w gs om h1 h2 h3 h4 h5) fun e a w h=>by
   obtain ⟨s', o', g', m', q, r1, r2, x⟩ := h
   cases e with
   | exit j =>
     simp only [pB] at q
     simp only [Exit.inBlock]
     split
     · rename_i hj; rw [if_pos hj] at q; exact ⟨s', o', g', m', q, r1, r2, x⟩
     · rename_i hj; rw [if_neg hj] at q; exact ⟨s', o', g', m', q, r1, r2, x⟩
   | _ => exact ⟨s', o', g', m', q, r1, r2, x⟩)
theorem w6{c:Code}{Q:Exit→Act→World→Prop}{a:Act}{w:World}(I:Nat→Act→World→Prop)(n0:Nat)(h₀:I n0 a w)
    (round:∀n a w,I n a w→c.wp P (Exit.then (fun a' w'=>∃m,m<n∧I m a' w') Q) a w):(Code.loop c).wp P Q a w:=by
 intro b k cs
 have key:∀n a w,I n a w→∃e a' w',Q e a' w'∧Arrives P (lone (b.at a (.code c :: .inLoop c::k)) cs w) b k cs e a' w':=by
  intro n
  induction n using Nat.strongRecOn with
  | _ n ih=>
   intro a w hI;obtain⟨e,a₁,w₁,hq,harr⟩:=round n a w hI b (.inLoop c::k) cs
   cases e with
   | normal=>
    obtain⟨m,hlt,hI₁⟩:=hq;obtain⟨e₂,a₂,w₂,hq₂,harr₂⟩:=ih m hlt a₁ w₁ hI₁;exact⟨e₂,a₂,w₂,hq₂,.of_steps (Steps.trans harr (.one step_inLoop)) harr₂⟩
   | exit id=>exact⟨_,a₁,w₁,hq,.pass (x:=.inLoop c) rfl (fun _ _=>.inl (by simp)) harr⟩
   | goto l=>exact⟨_,a₁,w₁,hq,.pass (x:=.inLoop c) rfl (fun _ _=>.inl (by simp)) harr⟩
   | ret=>exact⟨_,a₁,w₁,hq,.pass (x:=.inLoop c) rfl (fun _ _=>.inl (by simp)) harr⟩
   | panic ch=>exact⟨_,a₁,w₁,hq,.pass (x:=.inLoop c) rfl (fun _ _=>.inl (by simp)) harr⟩
   | outgrown=>exact⟨_,a₁,w₁,hq,.pass (x:=.inLoop c) rfl (fun _ _=>.inl (by simp)) harr⟩
 obtain⟨e,a',w',hq,harr⟩:=key _ a w h₀;exact⟨e,a',w',hq,.of_steps (.one step_loop) harr⟩
def Weak(B:Nat)(S:Nat→Prop)(n:Nat)(fl:Fl)(s:Nat→AV)(objs:List Obj)(s2:Nat→AV)(aZ:List Obj):Prop:=
 ∀w a gs om,bm B w S objs gs om→eo n s a w S (Inner B w om) gs→fl.n≤objs.length→∃gs2 lB,bm B w S aZ gs2 lB∧eo n s2 a w S (Inner B w lB) gs2∧iO fl B w gs om w gs2 lB
theorem Weak.refl:Weak B S n fl s objs s objs:=fun w a gs om h1 h2 _=>⟨gs,om,h1,h2,(Ext.refl ..).take⟩
theorem fq{c s2 aZ}(hw:Weak B S n fl s objs s2 aZ)(h:W P g B S n fl c s2 aZ Q):W P g B S n fl c s objs Q:=fun a w gs om h1 h2 h3 h4 h5=>by
 obtain⟨gs2,lB,m,f,x⟩:=hw w a gs om h3 h4 h5;have hl:fl.n≤gs.length:=by rw[h3.len];exact h5
 exact wp_mono (h a w gs2 lB h1 h2 m f (by rw[←m.len];exact x.len hl)) fun e a w' h=>h.trans x hl
theorem FC{c}(I:Nat→(Nat→AV)→List Obj→Prop)(m0:Nat){s0 mG}(hw:Weak B S n fl s objs s0 mG)(h0:I m0 s0 mG)
    (round:∀m s objs,I m s objs→fl.n≤objs.length→W P g B S n fl c s objs (fun e s' o'=>match e with
      | .normal => ∃ m', m' < m ∧ ∃ s2 o2, Weak B S n fl s' o' s2 o2 ∧ I m' s2 o2
      | e => Q e s' o')) : W P g B S n fl (.loop c) s objs Q := by
 refine fq hw fun a w gs om h1 h2 h3 h4 h5=>?_
 have hl:fl.n≤gs.length:=by rw[h3.len];exact h5
 refine w6 (fun m a' w'=>∃s' o' gs' bz,I m s' o'∧bm B w' S o' gs' bz∧eo n s' a' w' S (Inner B w' bz) gs'∧iO fl B w gs om w' gs' bz) m0 ⟨s0,mG,gs,om,h0,h3,h4,(Ext.refl ..).take⟩ ?_;rintro m a' w' ⟨s',o',gs',bz,hI,m1,f1,x1⟩;have hl1:fl.n≤o'.length:=by rw[←m1.len];exact x1.len hl
 refine wp_mono (round m s' o' hI hl1 a' w' gs' bz (gU h1 h2 x1.below) h2 m1 f1 hl1) fun e a2 w2 h=>?_
 have h:=h.trans x1 hl;obtain⟨s2,o2,gs2,lB,q,m2,f2,x2⟩:=h
 cases e with
 | normal=>
  obtain⟨m',hlt,s3,o3,hw3,MT⟩:=q;obtain⟨MB,Nw,m3,f3,x3⟩:=hw3 w2 a2 gs2 lB m2 f2 (by rw[←m2.len];exact x2.len hl);exact⟨m',hlt,s3,o3,MB,Nw,MT,m3,f3,x2.dM x3 hl⟩
 | _=>exact⟨s2,o2,gs2,lB,q,m2,f2,x2⟩
theorem bd{c:Operand}{x y:Code}{t:Bool}(hc:bu s c = .d (.v (.bool t)))(h1:t=true→W P g B S n fl x s objs Q)(h2:t=false→W P g B S n fl y s objs Q):W P g B S n fl (.cond c x y) s objs Q:=by
 intro a w gs om g1 g2 g3 g4 g5
 have hr:a8 w S (Inner B w om) gs (bu s c) (a.eval c):=by
  cases c with
  | tmp t=>exact g4.rel t
  | const v=>exact qU v
  | global _=>exact .dead
  | func f=>exact .fn .nil .nil
 rw[hc]at hr;exact wp_cond_split (cj hr) (fun ht=>h1 ht a w gs om g1 g2 g3 g4 g5) (fun ht=>h2 ht a w gs om g1 g2 g3 g4 g5)
theorem eB{a:Act}{N:Nat→Prop}(h:eo n s a w S N gs)(x:Operand):a8 w S N gs (bu s x) (a.eval x):=by
 cases x with
 | tmp t=>exact h.rel t
 | const v=>exact qU v
 | global _=>exact .dead
 | func f=>exact .fn .nil .nil
theorem eo.put{a:Act}{N:Nat→Prop}(h:eo n s a w S N gs){d:Option Tmp}{av v s'}(hv:a8 w S N gs av v)(hp:fU n s d av=some s'):eo n s' (a.put d v) w S N gs:=by
 cases d with
 | none=>simp only[fU,Option.some.injEq]at hp;subst hp;exact h
 | some d=>
  simp only[fU]at hp;split at hp
  ·rename_i hd;simp only[Option.some.injEq]at hp;subst hp;refine⟨by simp[Act.put,h.size],h.defers,fun i=>?_⟩;simp only[upd,Act.put];by_cases hi:i=d
   ·subst hi;rw[if_pos rfl]
    have:(a.tmps.setIfInBounds i v).getD i undef=v:=by
     rw[Array.getD_eq_getD_getElem?];simp[h.size,hd]
    rw[this];exact hv
   ·rw[if_neg hi]
    have:(a.tmps.setIfInBounds d v).getD i undef=a.tmps.getD i undef:=by
     rw[Array.getD_eq_getD_getElem?,Array.getD_eq_getD_getElem?,Array.getElem?_setIfInBounds_ne (fun e=>hi e.symm)]
    rw[this];exact h.rel i
  ·cases hp
def gA(ops:Array Oper)(s:Nat→AV)(o:Oper):Option Bool:=match o.guard with
 | none=>some true
 | some (j,want)=>match (ops[j]?).bind (·.dst)with
  | none=>some false
  | some d=>match s d with
   | .d (.v (.bool b))=>some (b==want)
   | .bK []=>some false
   | _=>none
theorem jf{a:Act}{N:Nat→Prop}(h:eo n s a w S N gs){ops:Array Oper}{o:Oper}{b}(hg:gA ops s o=some b):Region.wanted o (yielded ops a.tmps)=b:=by
 unfold gA at hg;unfold Region.wanted;split at hg
 ·rename_i hgd;simp at hg;subst hg;simp[hgd]
 ·rename_i j want hgd;rw[hgd];simp only;unfold yielded;split at hg
  ·rename_i hd;simp at hg;subst hg;simp[hd]
  ·rename_i d hd;rw[hd];have hr:=h.rel d;simp only[Option.bind_some]
   cases ht:a.tmps[d]? with
   | none=>
    have hu:a.tmps.getD d undef=undef:=by
     rw[Array.getD_eq_getD_getElem?,ht];rfl
    rw[hu]at hr;split at hg
    ·rename_i hs;rw[hs]at hr;have:=cj hr;simp[undef]at this
    ·simp at hg;subst hg;simp
    ·cases hg
   | some v=>
    have hu:a.tmps.getD d undef=v:=by rw[Array.getD_eq_getD_getElem?,ht];rfl
    rw[hu]at hr;split at hg
    ·rename_i b' hs;rw[hs]at hr;have:=cj hr;subst this;simp at hg;subst hg;simp
    ·rename_i hs;rw[hs]at hr;simp at hg;subst hg;cases hr with|bK hr=>cases hr;simp
    ·cases hg
theorem ja{ops}(h:Q .normal s objs):WR P g B S n fl ops [] s objs Q:=fun a w gs om h1 h2 h3 h4 h5=>⟨s,objs,gs,om,h,h3,h4,(Ext.refl ..).take⟩
theorem Bg{o:Oper}{a:Act}{K K':Act→World→Prop}{R R':Exit→Act→World→Prop}(hK:∀a w,K a w→K' a w)(hR:∀e a w,R e a w→R' e a w){r:Result Next}(h:o.upon P a K R r):o.upon P a K' R' r:=by
 cases r with
 | ok n w'=>
  cases n<;>simp only[Oper.upon]at h ⊢ <;> first
   | exact hK _ _ h
   | (exact h.elim)
   | (refine h.mono fun e w'' he => ?_
      cases e with
      | returned v => exact hK _ _ he
      | panicked ch => exact hR _ _ _ he
      | outgrown => obtain ⟨a, w, q⟩ := he; exact ⟨a, w, hR _ _ _ q⟩)
   | exact h.mono fun v w'' he=>hK _ _ he
 | halt x w'=>
  cases x<;>simp only[Oper.upon]at h ⊢ <;> first|exact hR _ _ _ h|exact h.elim
theorem d7{ops:Array Oper}{R R':Exit→Act→World→Prop}:∀ {l:List Nat} {a:Act} {w:World},wpOps P ops R l a w→(∀e a w,R e a w→R' e a w)→wpOps P ops R' l a w
 | [],a,w,h,hR=>hR _ _ _ h
 | i::l,a,w,h,hR=>by
  simp only[wpOps]at h ⊢;split
  ·rename_i ho;simp only[ho]at h;exact d7 h hR
  ·rename_i o ho;simp only[ho]at h;split
   ·rename_i hw;rw[if_pos hw]at h;rcases h with h|⟨h1,a',w',q⟩
    ·exact .inl (Bg (fun _ _ h=>d7 h hR) hR h)
    ·exact .inr ⟨h1,a',w',hR _ _ _ q⟩
   ·rename_i hw;rw[if_neg hw]at h;exact d7 h hR
theorem Iy{ops:Array Oper}{i l}{o:Oper}{av aj s'}(ho:ops[i]?=some o)(hg:gA ops s o=some true)(h:eM P (bu s) objs o.op=some (av,aj))(hp:fU n s o.dst av=some s')
    (hk:WR P g B S n fl ops l s' aj Q):WR P g B S n fl ops (i::l) s objs Q:=fun a w gs om h1 h2 h3 h4 h5=>by
 have hl:fl.n≤gs.length:=by rw[h3.len];exact h5
 simp only[wpOps,ho];rw[if_pos (jf h4 hg)];left;obtain⟨nx,w',gs',bz,r1,r2,r3,r4⟩:=CB (o:=o) h3 (eB h4) h
 have h4':∀d v,a8 w' S (Inner B w' bz) gs' d v→fU n s o.dst d=some s'→eo n s' (a.put o.dst v) w' S (Inner B w' bz) gs':=fun d v hv hp=>
  eo.put ⟨h4.size,h4.defers,fun i=>h3.iD r2 (h4.rel i)⟩ hv hp
 have fin:∀v,a8 w' S (Inner B w' bz) gs' av v→wpOps P ops (Post B S n fl w gs om Q) l (a.put o.dst v) w':=by
  intro v hv;have:=hk _ w' gs' bz (gU h1 h2 r2.below) h2 r3 (h4' av v hv hp) (by rw[←r3.len];exact r2.dm.len hl);exact d7 this fun e a w2 h=>h.trans r2.dm hl
 unfold Oper.wp;rw[show (execOp a.eval o).run P w = .ok nx w' from r1];rcases r4 with ⟨v,rfl,hv⟩|⟨rfl,rfl⟩
 ·exact fin v hv
 ·exact fin undef (.bK .nil)
theorem Dn{ops:Array Oper}{i l}{o:Oper}{s'}(ho:ops[i]?=some o)(hg:gA ops s o=some false)(hp:fU n s o.dst (.bK [])=some s')
    (hk:WR P g B S n fl ops l s' objs Q):WR P g B S n fl ops (i::l) s objs Q:=fun a w gs om h1 h2 h3 h4 h5=>by
 simp only[wpOps,ho];rw[if_neg (by rw[jf h4 hg];simp)];exact hk _ w gs om h1 h2 h3 (h4.put (v:=undef) (.bK .nil) hp) h5
theorem iw{id ops l}(hl:List.range ops.size=l)(h:WR P g B S n fl ops l s objs Q):W P g B S n fl (.region id ops false) s objs Q:=fun a w gs om h1 h2 h3 h4 h5=>
 wp_region (by rw[hl];exact h a w gs om h1 h2 h3 h4 h5)
end
end Go.aN
/- The walk over abstract states: calls; contracts out of walks. Lemmas alone. -/
namespace Go.aN
open Go.RowKit Go.Lib
def Enters(P:Program)(f:FuncId):Prop:=∃fn,P.funcs[f]?=some fn∧(fn.name == "runtime.NumGoroutine")=false∧fn.body.isNone=false
structure Ct (P:Program) (g:Gl) (f:FuncId) (spec:List D→Option D):Prop where
 enters:Enters P f
 sound:Sound P g f spec
def fF(P:Program)(ts:List TypeId):List (Option Nat):=ts.flatMap (kinds P 6)
def c8(ρ:Operand→AV)(c:Call):Option (FuncId×List AV):=match c.callee with
 | .value f=>match ρ f with
  | .fn (.func g) first caps=>some (g,first++c.args.toList.map ρ++caps)
  | _=>none
 | _=>none
def a7(P:Program)(g:Gl)(B:Nat)(S:Nat→Prop)(fl:Fl)(f:FuncId)(as:List AV)(objs:List Obj)(K:AV→List Obj→Prop):Prop:=
 ∀vs w gs om,g.G w→g.N≤B→bm B w S objs gs om→aQ w S (Inner B w om) gs as vs→fl.n≤objs.length →
  Calls P f vs.toArray w fun e w'=>∃v av aj gs' bz,e = .returned v∧K av aj∧bm B w' S aj gs' bz∧a8 w' S (Inner B w' bz) gs' av v∧iO fl B w gs om w' gs' bz
section
variable {P:Program} {g:Gl} {B:Nat} {S:Nat→Prop} {n:Nat} {fl:Fl} {w:World} {gs:List G1} {om:Nat→Option (Nat×Bool)} {s:Nat→AV} {objs:List Obj} {Q:Qt}
theorem mQ{ρ:Operand→AV}{ε:Operand→Value}{N:Nat→Prop}(hr:∀x,a8 w S N gs (ρ x) (ε x)){o:Oper}{c:Call}(ho:o.op = .call c){f as}(h:c8 ρ c=some (f,as))(hE:Enters P f) :
    ∃vs:List Value,aQ w S N gs as vs∧(execOp ε o).run P w = .ok (.enter f vs.toArray) w:=by
 unfold c8 at h;split at h
 ·rename_i fo hc;have hf:=hr fo;split at h
  ·rename_i g' first caps hρ;simp only[Option.some.injEq,Prod.mk.injEq]at h;obtain⟨rfl,rfl⟩:=h;rw[hρ]at hf;generalize hv:ε fo=v at hf
   cases hf with
   | @fn _ _ _ vs us h1 h2=>
    obtain⟨fn,e1,e2,e3⟩:=hE;refine⟨vs++c.args.toList.map ε++us,(h1.append (aQ.of hr)).append h2,?_⟩;obtain⟨callee,args,argTypes⟩:=c;simp only at hc;subst hc;simp only[execOp,ho,resolve,hv,Deferred.ofValue,Sem.run_bind,Sem.run_pure,Result.andThen_ok,invoke,callFunc,run_program,e1,e2,e3,Bool.false_eq_true,if_false];congr 2;apply Array.ext';simp
  ·cases h
 ·cases h
theorem Ab{ops:Array Oper}{i l}{o:Oper}{c:Call}{f as}(ho:ops[i]?=some o)(hg:gA ops s o=some true)(hc:o.op = .call c)(h:c8 (bu s) c=some (f,as))(hE:Enters P f)
    (hk:a7 P g B S ⟨objs.length,true⟩ f as objs fun av aj=>∃s',fU n s o.dst av=some s'∧(fl.n≤aj.length→WR P g B S n fl ops l s' aj Q)):WR P g B S n fl ops (i::l) s objs Q:=fun a w gs om h1 h2 h3 h4 h5=>by
 have hl:fl.n≤gs.length:=by rw[h3.len];exact h5
 simp only[wpOps,ho];rw[if_pos (jf h4 hg)];left;obtain⟨vs,hvs,hrun⟩:=mQ (P:=P) (o:=o) (eB h4) hc h hE;unfold Oper.wp;rw[hrun];simp only[Oper.upon];refine(hk vs w gs om h1 h2 h3 hvs (Nat.le_refl _)).mono ?_;rintro e w' ⟨v,av,aj,gs',bz,rfl,⟨s',hp,hk⟩,m,hv,x⟩;have x:Ext B w gs om w' gs' bz:=⟨by have:=x.gs;rwa [←h3.len,List.take_length]at this,x.below,x.inner rfl⟩;have:=hk (by rw[←m.len];exact x.dm.len hl) _ w' gs' bz (gU h1 h2 x.below) h2 m (eo.put ⟨h4.size,h4.defers,fun i=>h3.iD x (h4.rel i)⟩ hv hp) (by rw[←m.len];exact x.dm.len hl);exact d7 this fun e a w2 h=>h.trans x.dm hl
theorem Dl{ops:Array Oper}{i l}{o:Oper}{c:Call}{f as spec ds q r av aj s'}(ho:ops[i]?=some o)(hg:gA ops s o=some true)(hc:o.op = .call c)(h:c8 (bu s) c=some (f,as))(hct:Ct P g f spec)
    (he:lI objs (fF P c.argTypes.toList) as=some (ds,q)) (hr:spec ds=some r) (hno:r.fp=true) (hi:gj objs r=some (av,aj)) (hp:fU n s o.dst av=some s')
    (hk:WR P g B S n fl ops l s' aj Q):WR P g B S n fl ops (i::l) s objs Q:=fun a w gs om h1 h2 h3 h4 h5=>by
 have hl:fl.n≤gs.length:=by rw[h3.len];exact h5
 simp only[wpOps,ho];rw[if_pos (jf h4 hg)];left;obtain⟨vs,hvs,hrun⟩:=mQ (P:=P) (o:=o) (eB h4) hc h hct.enters;unfold Oper.wp;rw[hrun];simp only[Oper.upon];refine(hct.sound w vs (Seen S B w om) ds r h1 (Nat.le_trans h2 h3.hB) (fun b hb=>hb.elim (fun h=>Nat.lt_of_lt_of_le (h3.hS b h) h3.hB) (·.2)) (rb h3 hvs he) hr).mono ?_;rintro e w' ⟨v,F,rfl,hd,hnd,hF,hb⟩;obtain⟨gs',bz,m,x,hv⟩:=Bw h3 hd hnd hF hb hno hi;have:=hk _ w' gs' bz (gU h1 h2 x.below) h2 m (eo.put ⟨h4.size,h4.defers,fun i=>h3.iD x (h4.rel i)⟩ hv hp) (by rw[←m.len];exact x.dm.len hl);exact d7 this fun e a w2 h=>h.trans x.dm hl
def CJ(P:Program)(s:Nat→AV)(objs:List Obj):ResultVar→Option AV
 | .tmp t=>some (s t)
 | .cell a t=>match s a with
  | .ptr r i j=>(pS P objs t (.ptr r i j)).map (·.1)
  | .rp cs j=>(pS P objs t (.rp cs j)).map (·.1)
  | _=>none
def eU(P:Program)(s:Nat→AV)(objs:List Obj):List ResultVar→Option (List AV)
 | []=>some []
 | r::rs=>match CJ P s objs r,eU P s objs rs with
  | some a,some as=>some (a::as)
  | _,_=>none
def rv(tmps:Array Value):ResultVar→Sem Value
 | .tmp t=>pure (tmps.getD t undef)
 | .cell x t=>do loadVar t (←asAddr (tmps.getD x undef))
theorem yB(fn:Func)(tmps:Array Value):results fn tmps=(do
    let vs ← fn.results.mapM (rv tmps)
    pure (if h : vs.size = 1 then vs[0] else .tuple vs)) := by
 have:rv tmps=fun(r:ResultVar)=>rv tmps r:=rfl
 unfold results;congr 2
def gT:List AV→AV
 | [a]=>a
 | as=>.bK as
theorem AU{a:Act}(hM:bm B w S objs gs om)(hF:eo n s a w S (Inner B w om) gs){r:ResultVar}{av}(h:CJ P s objs r=some av) :
    ∃v,(rv a.tmps r).run P w = .ok v w∧a8 w S (Inner B w om) gs av v:=by
 cases r with
 | tmp t=>simp only[CJ,Option.some.injEq]at h;subst h;exact⟨_,rfl,hF.rel t⟩
 | cell x t=>
  simp only[CJ]at h;have hx:=hF.rel x
  show ∃v,(do loadVar t (←asAddr (a.tmps.getD x undef)):Sem Value).run P w = .ok v w∧a8 w S (Inner B w om) gs av v
  have key:∀ {Da},(pS P objs t (s x)).map (·.1)=some Da→(∃ad,a.tmps.getD x undef = .pointer (some ad))→∃v,(do loadVar t (←asAddr (a.tmps.getD x undef)):Sem Value).run P w = .ok v w∧a8 w S (Inner B w om) gs Da v:=by
   rintro Da h ⟨ad,had⟩;obtain⟨⟨a1,o1⟩,h1,rfl⟩:=Option.map_eq_some_iff.1 h;obtain⟨v,h2,h3,_⟩:=rP hM hx h1;refine⟨v,?_,h3⟩;rw[had]at h2 ⊢;simpa [Instr.loadAt,Instr.sureAddr,asAddr]using h2
  split at h
  ·rename_i r i j hs;rw[←hs]at h;rw[hs]at hx;generalize a.tmps.getD x undef=v at hx key;cases hx with|ptr hg hb=>exact key h ⟨_,rfl⟩
  ·rename_i cs j hs;rw[←hs]at h;rw[hs]at hx;generalize a.tmps.getD x undef=v at hx key;cases hx with|rp=>exact key h ⟨_,rfl⟩
  ·cases h
theorem sv{a:Act}(hM:bm B w S objs gs om)(hF:eo n s a w S (Inner B w om) gs):∀ {rs:List ResultVar} {as},eU P s objs rs=some as →
    ∃vs:List Value,(rs.mapM (rv a.tmps)).run P w = .ok vs w∧aQ w S (Inner B w om) gs as vs
 | [],as,h=>by simp only[eU,Option.some.injEq]at h;subst h;exact⟨[],by simp,.nil⟩
 | r::rs,as,h=>by
  simp only[eU]at h;split at h
  ·rename_i a1 P8 h1 h2;simp only[Option.some.injEq]at h;subst h;obtain⟨v,g1,g2⟩:=AU hM hF h1;obtain⟨vs,g3,g4⟩:=sv hM hF h2;refine⟨v::vs,?_,.cons g2 g4⟩;rw[List.mapM_cons];simp only[Sem.run_bind];rw[g1];simp only[Result.andThen_ok,g3,Sem.run_pure]
  ·cases h
theorem jP{a:Act}(hM:bm B w S objs gs om)(hF:eo n s a w S (Inner B w om) gs){fn:Func}{as}(h:eU P s objs fn.results.toList=some as) :
    ∃v,(results fn a.tmps).run P w = .ok v w∧a8 w S (Inner B w om) gs (gT as) v:=by
 obtain⟨vs,h1,h2⟩:=sv hM hF h
 have hm:(fn.results.mapM (rv a.tmps)).run P w = .ok vs.toArray w:=by
  rw[Array.mapM_eq_mapM_toList];simp only[Sem.run_map];rw[h1];rfl
 rw[yB];simp only[Sem.run_bind];rw[hm];simp only[Result.andThen_ok,Sem.run_pure]
 cases h2 with
 | nil=>exact⟨_,rfl,by simpa [gT]using a8.bK aQ.nil⟩
 | cons k1 k2=>
  cases k2 with
  | nil=>exact⟨_,rfl,by simpa [gT]using k1⟩
  | cons k2 k3=>exact⟨_,rfl,by simpa [gT]using a8.bK (.cons k1 (.cons k2 k3))⟩
def NR(P:Program)(fn:Func)(K:AV→List Obj→Prop):Qt:=fun e s objs=>match e with
 | .normal | .ret=>∃as,eU P s objs fn.results.toList=some as∧K (gT as) objs
 | _=>False
def nD(as:List AV):Nat→AV:=fun i=>as.getD i .dead
theorem eo.init{as:List AV}{vs:List Value}{N:Nat→Prop}(h:aQ w S N gs as vs){n:Nat}(hn:as.length≤n):eo n (nD as) {tmps:=vs.toArray++Array.replicate (n-vs.toArray.size) undef,defers:=[]} w S N gs:=by
 have hl:=h.length;refine⟨by simp;omega,rfl,fun i=>?_⟩;unfold nD;by_cases hi:i<as.length
 ·obtain⟨v,h1,h2⟩:=h.get (i:=i) (a:=as[i]) (by simp[hi]);rw[List.getD_eq_getElem?_getD,List.getElem?_eq_getElem hi]
  have:(vs.toArray++Array.replicate (n-vs.toArray.size) undef).getD i undef=v:=by
   rw[Array.getD_eq_getD_getElem?,Array.getElem?_append_left (by simp;omega)];simp[h1]
  rw[this];exact h2
 ·rw[List.getD_eq_getElem?_getD,List.getElem?_eq_none (by omega)];exact .dead
def qJ:D→AV
 | .agg cs=>.agg (cs.map .d)
 | d=>.d d
theorem Bt{N:Nat→Prop}{d v}(h:cb w S N d v []):a8 w S N gs (qJ d) v:=by
 cases d with
 | agg cs=>cases h with|agg h=>exact .agg (aQ.Hp h)
 | _=>exact .d h
theorem oH{N:Nat→Prop}:∀ {ds:List D} {vs},aW w S N ds vs []→aQ w S N gs (ds.map qJ) vs
 | [],_,h=>by cases h;exact .nil
 | d::ds,vs,h=>by
  generalize hF:([]:List Nat)=F at h
  cases h with
  | @cons _ v F1 _ vs F2 h t=>
   obtain⟨rfl,rfl⟩:=List.append_eq_nil_iff.1 hF.symm;exact .cons (Bt h) (oH t)
mutual
def qi:List (Option Nat)→D→D×List (Option Nat)
 | qs,.agg cs=>let p:=rY qs cs;(.agg p.1,p.2)
 | qs,.bK cs=>let p:=rY qs cs;(.bK p.1,p.2)
 | qs,d=>(wj (qs.headD none) d,qs.drop 1)
def rY:List (Option Nat)→List D→List D×List (Option Nat)
 | qs,[]=>([],qs)
 | qs,d::ds=>let p:=qi qs d;let q:=rY p.2 ds;(p.1::q.1,q.2)
end
mutual
theorem wm{S N:Nat→Prop}:∀ {d:D} {qs v F},cb w S N d v F→cb w S N (qi qs d).1 v F
 | .agg cs,qs,v,F,h=>by cases h with|agg h=>simp only[qi];exact .agg (pd h)
 | .bK cs,qs,v,F,h=>by cases h with|bK h=>simp only[qi];exact .bK (pd h)
 | .v x,qs,v,F,h=>rW h
 | .row m k xs,qs,v,F,h=>rW h
theorem pd{S N:Nat→Prop}:∀ {ds:List D} {qs vs F},aW w S N ds vs F→aW w S N (rY qs ds).1 vs F
 | [],qs,vs,F,h=>by simp only[rY];exact h
 | d::ds,qs,vs,F,h=>by cases h with|cons h t=>simp only[rY];exact .cons (wm h) (pd t)
end
def mN(P:Program)(fn:Func)(r:D):Qt:=fun e s objs=>match e with
 | .normal | .ret=>∃as d aj,eU P s objs fn.results.toList=some as∧cl objs (gT as)=some (d,aj)∧(qi (fF P fn.resultTypes.toList) d).1=r∧r.dS=true
 | _=>False
theorem Dz{f fn c spec}(hf:P.funcs[f]?=some fn)(hb:fn.body=some c)(hnm:(fn.name == "runtime.NumGoroutine")=false)
    (h:∀ds r B S,spec ds=some r→ds.length≤fn.ntmps∧W P g B S fn.ntmps ⟨0,false⟩ c (nD (ds.map qJ)) [] (mN P fn r)):Ct P g f spec:=by
 refine⟨⟨fn,hf,hnm,by simp[hb]⟩,fun w vs S ds r hG hN hS hds hr=>?_⟩;obtain⟨hlen,hW⟩:=h ds r w.heap.size S hr
 let om:Nat→Option (Nat×Bool):=fun _=>none
 have hM:bm w.heap.size w S [] [] om:=⟨rfl,by simp,hS,Nat.le_refl _⟩;have hds':aW w S (Inner w.heap.size w om) ds vs []:=aW.mono (fun b hb=>⟨hb,rfl⟩) (fun b hb=>hb.elim) hds (by simp);refine calls_of_wp hf hb (wp_mono (hW _ w [] om hG hN hM (.init (oH hds') (by simpa using hlen)) (by simp)) ?_)
 have fin:∀(s':Nat→AV) (aj:List Obj) gs' bz a w',(∃as d aZ,eU P s' aj fn.results.toList=some as∧cl aj (gT as)=some (d,aZ)∧(qi (fF P fn.resultTypes.toList) d).1=r∧r.dS=true) →
     bm w.heap.size w' S aj gs' bz→eo fn.ntmps s' a w' S (Inner w.heap.size w' bz) gs'→iO ⟨0,false⟩ w.heap.size w [] om w' gs' bz →
     a.defers=[]∧∃v,(results fn a.tmps).run P w' = .ok v w'∧∃v' F,Ending.returned v = .returned v'∧cb w' S (fun _=>False) r v' F∧F.Nodup∧(∀b∈F,w.heap.size≤b∧b<w'.heap.size)∧Below w.heap.size w w':=by
  rintro s' aj gs' bz a w' ⟨as,d,aZ,h1,h2,h3,h4⟩ m fr x;obtain⟨v,r1,r2⟩:=jP m fr h1;obtain⟨F,c1,c2⟩:=xk _ m r2 h2;have:=wm (qs:=fF P fn.resultTypes.toList) c1;rw[h3]at this;exact⟨fr.defers,v,r1,v,F,rfl,cb.ku this h4,c2.nodup,fun b hb=>⟨(c2.src b hb).1,(c2.src b hb).2.1⟩,x.below⟩
 rintro e a w' ⟨s',aj,gs',bz,q,m,fr,x⟩
 cases e with
 | normal=>exact fin s' aj gs' bz a w' q m fr x
 | ret=>exact fin s' aj gs' bz a w' q m fr x
 | _=>exact q.elim
end
end Go.aN
/- Calls in place that may write into inner rows. Lemmas alone. -/
namespace Go.aN
open Go.RowKit Go.Lib
mutual
def AV.fix:AV→Bool
 | .d x=>x.dS
 | .cut .. => false
 | .rp .. => false
 | .agg cs=>AV.ri cs
 | .bK cs=>AV.ri cs
 | .fn _ a b=>AV.ri a&&AV.ri b
 | .tH _ x=>x.fix
 | _=>true
def AV.ri:List AV→Bool
 | []=>true
 | a::as=>a.fix&&AV.ri as
end
section
variable {P:Program} {g:Gl} {B:Nat} {S:Nat→Prop} {n:Nat} {fl:Fl} {w:World} {gs:List G1} {om:Nat→Option (Nat×Bool)} {s:Nat→AV} {objs:List Obj} {Q:Qt}
section
variable {w':World} {N N':Nat→Prop} {gs':List G1} (hS:∀b,S b→w'.heap[b]?=w.heap[b]?) (hg:gs <+: gs')
include hS hg
mutual
theorem a8.gV:∀ {a v},a8 w S N gs a v→a.fix=true→a8 w' S N' gs' a v
 | _,_,.d h,e=>.d (cb.mono (fun b hb=>⟨hb,hS b hb⟩) (N:=fun _=>False) (fun b hb=>hb.elim) (cb.ku h (by simpa [AV.fix]using e)) (by simp))
 | _,_,.hdr h1 h2 h3 h4 h5 h6,_=>.hdr (dj hg h1) h2 h3 h4 h5 h6
 | _,_,.fP h1 h2,_=>.fP (dj hg h1) h2
 | _,_,.gK,e=>by simp[AV.fix]at e
 | _,_,.dU,e=>by simp[AV.fix]at e
 | _,_,.cut _ _ _ _ _ _,e=>by simp[AV.fix]at e
 | _,_,.ptr h1 h2,_=>.ptr (dj hg h1) h2
 | _,_,.rp _ _ _ _ _,e=>by simp[AV.fix]at e
 | _,_,.agg h,e=>.agg (aQ.gV h (by simpa [AV.fix]using e))
 | _,_,.bK h,e=>.bK (aQ.gV h (by simpa [AV.fix]using e))
 | _,_,.fn h1 h2,e=>.fn (aQ.gV h1 (by simp[AV.fix]at e;exact e.1)) (aQ.gV h2 (by simp[AV.fix]at e;exact e.2))
 | _,_,.tH h,e=>.tH (a8.gV h (by simpa [AV.fix]using e))
 | _,_,.dead,_=>.dead
theorem aQ.gV:∀ {as vs},aQ w S N gs as vs→AV.ri as=true→aQ w' S N' gs' as vs
 | _,_,.nil,_=>.nil
 | _,_,.cons h t,e=>.cons (a8.gV h (by simp[AV.ri]at e;exact e.1)) (aQ.gV t (by simp[AV.ri]at e;exact e.2))
end
end
def zZ(s:Nat→AV):Prop:=∀j,(s j).fix=true
theorem Dm{ops:Array Oper}{i l}{o:Oper}{cl:Call}{f as av aj s'}(hkeep:fl.keep=false)(ho:ops[i]?=some o)(hg:gA ops s o=some true)(hc:o.op = .call cl)
    (h:c8 (bu s) cl=some (f,as)) (hE:Enters P f) (hs:zZ s) (hcl:∀B S,a7 P g B S ⟨objs.length,false⟩ f as objs (fun a o=>a=av∧o=aj)) (hp:fU n s o.dst av=some s')
    (hk:WR P g B S n fl ops l s' aj Q):WR P g B S n fl ops (i::l) s objs Q:=fun a w gs om h1 h2 h3 h4 h5=>by
 have hl:fl.n≤gs.length:=by rw[h3.len];exact h5
 simp only[wpOps,ho];rw[if_pos (jf h4 hg)];left;obtain⟨vs,hvs,hrun⟩:=mQ (P:=P) (o:=o) (eB h4) hc h hE;unfold Oper.wp;rw[hrun];simp only[Oper.upon];refine(hcl B S vs w gs om h1 h2 h3 hvs (Nat.le_refl _)).mono ?_;rintro e w' ⟨v,Da,aZ,gs',bz,rfl,⟨rfl,rfl⟩,m,hv,x⟩;have hpre:gs <+: gs':=by have:=x.gs;rwa [←h3.len,List.take_length]at this
 have x':iO fl B w gs om w' gs' bz:=⟨(List.take_prefix _ _).trans hpre,x.below,fun hk=>by rw[hkeep]at hk;cases hk⟩;have:=hk _ w' gs' bz (gU h1 h2 x.below) h2 m (eo.put ⟨h4.size,h4.defers,fun i=>a8.gV (h3.vX x.below) hpre (h4.rel i) (hs i)⟩ hv hp) (by rw[←m.len];exact x'.len hl);exact d7 this fun e a w2 h=>h.trans x' hl
end
attribute [simp] AV.fix AV.ri
end Go.aN
