/- Lemmas of a walk over abstract states: data, objects, operations, regions, loops, contracts; no condition but those that each lemma names. -/
import Derived.Test.YtokgokbgidgfeaaGreatAwpB
import Derived.Orders
import Derived.Laws.Cover3
import Derived.ChangeShapes
import Derived.OpenShut
import Derived.Carry
import Derived.DataReads
import Derived.SizedLaws
set_option linter.all false
/- The walk over abstract states: single steps, and regions that draw their order. Lemmas alone. -/
namespace Go.aN
open Go.RowKit Go.Lib
theorem ph{P:Program}{ρ ρ':Operand→AV}{objs:List Obj}{o:Op}(h:∀x∈o.operands,ρ x=ρ' x):eM P ρ objs o=eM P ρ' objs o:=by
 have pairs:∀ps:Array (Nat×Operand),(∀x∈ps.map (·.2),ρ x=ρ' x)→ps.toList.map (fun p=>(p.1,ρ p.2))=ps.toList.map (fun p=>(p.1,ρ' p.2)):=fun ps hp=>
  List.map_congr_left fun p hm=>by
   have:ρ p.2=ρ' p.2:=hp _ (by simp;exact⟨p.1,by simpa using hm⟩);simp[this]
 have lists:∀xs:Array Operand,(∀x∈xs,ρ x=ρ' x)→xs.toList.map ρ=xs.toList.map ρ':=fun xs hx=>List.map_congr_left fun x hm=>hx x (by simpa using hm)
 have opts:∀x:Option Operand,(∀y∈x.toList,ρ y=ρ' y)→ew ρ x=ew ρ' x:=fun x hx=>by
  cases x with
  | none=>rfl
  | some y=>simp[ew,hx y (by simp)]
 cases o with
 | build t ps=>simp only[eM,pairs ps (fun x hx=>h x (by simpa [Op.operands]using hx))]
 | buildSlice t n ps=>simp only[eM,pairs ps (fun x hx=>h x (by simpa [Op.operands]using hx))]
 | makeFunc fn first caps=>simp only[eM,lists first (fun x hx=>h x (by simp[Op.operands,hx])),lists caps (fun x hx=>h x (by simp[Op.operands,hx]))]
 | slice t x lo hi mx=>
  have h0:ρ x=ρ' x:=h x (by simp[Op.operands]);have h1:ew ρ lo=ew ρ' lo:=opts lo (fun y hy=>h y (by simp[Op.operands]at hy ⊢;simp[hy]));have h2:ew ρ hi=ew ρ' hi:=opts hi (fun y hy=>h y (by simp[Op.operands]at hy ⊢;simp[hy]));have h3:ew ρ mx=ew ρ' mx:=opts mx (fun y hy=>h y (by simp[Op.operands]at hy ⊢;simp[hy]));simp only[eM,h0,h1,h2,h3]
 | call c=>
  obtain⟨callee,args,ts⟩:=c
  cases callee with
  | builtin b=>simp only[eM,lists args (fun x hx=>h x (by simp[Op.operands,Call.operands,hx]))]
  | _=>rfl
 | _=>first|rfl|(simp[Op.operands]at h;simp[eM,h])
theorem eZ{ρ ρ':Operand→AV}{c:Call}(h:∀x∈c.operands,ρ x=ρ' x):c8 ρ c=c8 ρ' c:=by
 have hargs:c.args.toList.map ρ=c.args.toList.map ρ':=List.map_congr_left fun x hx=>h x (by simp[Call.operands];simp at hx;exact .inr hx)
 unfold c8;rw[hargs]
 cases hc:c.callee with
 | value f=>have hf:ρ f=ρ' f:=h f (by simp[Call.operands,hc]);simp only[hf]
 | _=>rfl
inductive Fx (P:Program) (g:Gl) (ρ:Operand→AV) (objs:List Obj) (o:Oper):AV→List Obj→Prop
 | op {av aj} (h:eM P ρ objs o.op=some (av,aj)):Fx P g ρ objs o av aj
 | call {c f as spec ds q r av aj} (hc : o.op = .call c) (h : c8 ρ c = some (f, as)) (hct : Ct P g f spec)
     (he:lI objs (fF P c.argTypes.toList) as=some (ds,q)) (hr:spec ds=some r) (hno:r.fp=true) (hi:gj objs r=some (av,aj)):Fx P g ρ objs o av aj
inductive St (P:Program) (g:Gl) (n:Nat) (ops:Array Oper) (hard:List Nat) (i:Nat):(Nat→AV)→List Obj→(Nat→AV)→List Obj→Prop
 | run {s objs o av aj s'} (ho:ops[i]?=some o) (hg:gA ops s o=some true) (h:Fx P g (bu s) objs o av aj) (hp:fU n s o.dst av=some s'):St P g n ops hard i s objs s' aj
 | skip {s objs o s'} (ho:ops[i]?=some o) (hg:gA ops s o=some false) (hp:fU n s o.dst (.bK [])=some s'):St P g n ops hard i s objs s' objs
 | inl {s objs o c f as av aj s'} (ho : ops[i]? = some o) (hg : gA ops s o = some true) (hc : o.op = .call c) (h : c8 (bu s) c = some (f, as)) (hE : Enters P f)
     (hk:∀B S,a7 P g B S ⟨objs.length,true⟩ f as objs (fun a o=>a=av∧o=aj)) (hx:i∈hard∨∃l,aj=objs++l) (hp:fU n s o.dst av=some s'):St P g n ops hard i s objs s' aj
 | x7 {s objs o c f as av aj s'} (ho : ops[i]? = some o) (hg : gA ops s o = some true) (hc : o.op = .call c) (h : c8 (bu s) c = some (f, as)) (hE : Enters P f) (hs : zZ s)
     (hk:∀B S,a7 P g B S ⟨objs.length,false⟩ f as objs (fun a o=>a=av∧o=aj)) (hx:i+1000∈hard) (hz:ops.size≤1000) (hp:fU n s o.dst av=some s'):St P g n ops hard i s objs s' aj
def gW(fl:Fl)(ops:Array Oper)(hard:List Nat):Prop:=fl.keep=true→∀i,i+1000∈hard→i+1000<ops.size
inductive Tr (P:Program) (g:Gl) (n:Nat) (ops:Array Oper) (hard:List Nat):List Nat→(Nat→AV)→List Obj→(Nat→AV)→List Obj→Prop
 | nil {s objs}:Tr P g n ops hard [] s objs s objs
 | cons {i l s objs s1 fh s2 aZ} (h:St P g n ops hard i s objs s1 fh) (t:Tr P g n ops hard l s1 fh s2 aZ):Tr P g n ops hard (i::l) s objs s2 aZ
section
variable {P:Program} {g:Gl} {B:Nat} {S:Nat→Prop} {n:Nat} {fl:Fl} {w:World} {gs:List G1} {om:Nat→Option (Nat×Bool)} {s:Nat→AV} {objs:List Obj} {Q:Qt} {ops:Array Oper} {hard:List Nat}
theorem Iz{i l s' aj}(hko:gW fl ops hard)(h:St P g n ops hard i s objs s' aj)(hk:WR P g B S n fl ops l s' aj Q):WR P g B S n fl ops (i::l) s objs Q:=by
 cases h with
 | run ho hg h hp=>
  cases h with
  | op h=>exact Iy ho hg h hp hk
  | call hc h hct he hr hno hi=>exact Dl ho hg hc h hct he hr hno hi hp hk
 | skip ho hg hp=>exact Dn ho hg hp hk
 | inl ho hg hc h hE hk' hx hp=>exact Ab ho hg hc h hE (fun vs w gs om h1 h2 h3 h4 h5=>(hk' B S vs w gs om h1 h2 h3 h4 h5).mono fun e w' ⟨v,Da,o',gs',bz,e1,⟨e2,e3⟩,r⟩=>⟨v,Da,o',gs',bz,e1,⟨s',by rw[e2];exact hp,fun _=>by rw[e3];exact hk⟩,r⟩)
 | x7 ho hg hc h hE hs hk' hx hz hp => exact Dm (by
     cases hkp : fl.keep with
     | false => rfl
     | true => have := hko hkp i hx; omega) ho hg hc h hE hs hk' hp hk
theorem la{l l2 s' aj}(hko:gW fl ops hard)(h:Tr P g n ops hard l s objs s' aj)(hk:WR P g B S n fl ops l2 s' aj Q):WR P g B S n fl ops (l++l2) s objs Q:=by
 induction h with
 | nil=>exact hk
 | cons h t ih=>exact Iz hko h (ih hk)
theorem Tr.split{l1 l2 s' aj}(h:Tr P g n ops hard (l1++l2) s objs s' aj):∃s1 fh,Tr P g n ops hard l1 s objs s1 fh∧Tr P g n ops hard l2 s1 fh s' aj:=by
 induction l1 generalizing s objs with
 | nil=>exact⟨s,objs,.nil,h⟩
 | cons i l1 ih=>cases h with|cons h t=>obtain⟨s1,o1,t1,t2⟩:=ih t;exact⟨s1,o1,.cons h t1,t2⟩
theorem Tr.append{l1 l2 s1 fh s' aj}(h:Tr P g n ops hard l1 s objs s1 fh)(h2:Tr P g n ops hard l2 s1 fh s' aj):Tr P g n ops hard (l1++l2) s objs s' aj:=by
 induction h with
 | nil=>exact h2
 | cons h t ih=>exact .cons h (ih h2)
def zu:Op→Bool
 | .move _ | .assign _ | .pick .. | .nilCheck _ | .binOp .. | .unOp .. | .makeFunc .. | .fieldAddr .. | .field .. | .index .. | .extract .. | .build .. => true
 | .call {callee:=.builtin .min,..}=>true
 | .call {callee:=.builtin .max,..}=>true
 | _=>false
def DX:Op→Bool
 | .load .. | .slice .. | .indexAddr .. | .convert .. => true
 | .call {callee:=.builtin .len,..}=>true
 | .call {callee:=.builtin .cap,..}=>true
 | o=>zu o
def HZ:Op→Bool
 | .alloc _ | .box .. | .range .. | .makeSlice .. | .call {callee:=.value _,..}=>true
 | .buildSlice _ _ ps=>ps.toList.isEmpty
 | o=>DX o
theorem tW{ρ:Operand→AV}{o:Op}{av aj}(hp:zu o=true)(h:eM P ρ objs o=some (av,aj)):aj=objs∧∀o2,eM P ρ o2 o=some (av,o2):=by
 by_cases hcall:∃c,o = .call c
 ·obtain⟨⟨callee,args,ts⟩,rfl⟩:=hcall
  cases callee with
  | builtin b=>
   cases b<;>simp only[zu,Bool.false_eq_true]at hp<;>simp only[eM,ft]at h ⊢ <;> (split at h)<;>simp_all<;>(obtain⟨a,h1,h2,h3⟩:=h;subst h2;exact⟨h3.symm,h1⟩)
  | _=>simp[zu]at hp
 have hcall:∀c,o ≠ .call c:=fun c e=>hcall ⟨c,e⟩
 cases o<;>(try exact absurd rfl (hcall _))<;>simp only[zu,Bool.false_eq_true]at hp<;>simp only[eM]at h ⊢
 case move=>simp at h;simp[h]
 case assign=>simp at h;simp[h]
 case pick=>split at h<;>simp_all
 case nilCheck=>split at h<;>simp_all
 case binOp=>simp only[Option.map_eq_some_iff]at h ⊢;obtain⟨a,h1,h2⟩:=h;simp only[Prod.mk.injEq]at h2;obtain⟨rfl,rfl⟩:=h2;exact⟨rfl,fun o2=>⟨a,h1,rfl⟩⟩
 case unOp=>
  split at h
  ·simp only[Option.map_eq_some_iff]at h ⊢;obtain⟨a,h1,h2⟩:=h;simp only[Prod.mk.injEq]at h2;obtain⟨rfl,rfl⟩:=h2;exact⟨rfl,fun o2=>⟨a,h1,rfl⟩⟩
  ·cases h
 case makeFunc=>simp at h;simp[h]
 case fieldAddr=>simp only[Option.map_eq_some_iff]at h ⊢;obtain⟨a,h1,h2⟩:=h;simp only[Prod.mk.injEq]at h2;obtain⟨rfl,rfl⟩:=h2;exact⟨rfl,fun o2=>⟨a,h1,rfl⟩⟩
 case field=>simp only[Option.map_eq_some_iff]at h ⊢;obtain⟨a,h1,h2⟩:=h;simp only[Prod.mk.injEq]at h2;obtain⟨rfl,rfl⟩:=h2;exact⟨rfl,fun o2=>⟨a,h1,rfl⟩⟩
 case index=>
  split at h
  ·simp only[Option.map_eq_some_iff]at h ⊢;obtain⟨a,h1,h2⟩:=h;simp only[Prod.mk.injEq]at h2;obtain⟨rfl,rfl⟩:=h2;exact⟨rfl,fun o2=>⟨a,h1,rfl⟩⟩
  ·cases h
 case build=>simp only[Option.map_eq_some_iff]at h ⊢;obtain⟨a,h1,h2⟩:=h;simp only[Prod.mk.injEq]at h2;obtain⟨rfl,rfl⟩:=h2;exact⟨rfl,fun o2=>⟨a,h1,rfl⟩⟩
 case extract=>simp only[Option.map_eq_some_iff]at h ⊢;obtain⟨a,h1,h2⟩:=h;simp only[Prod.mk.injEq]at h2;obtain⟨rfl,rfl⟩:=h2;exact⟨rfl,fun o2=>⟨a,h1,rfl⟩⟩
theorem eD{α:Type}{l l':List α}{r:Nat}{x:α}(h:l[r]?=some x):(l++l')[r]?=some x:=by
 rw[List.getElem?_append_left (List.getElem?_eq_some_iff.1 h).1];exact h
theorem ur{a:AV}{cs l}(h:iS objs a=some cs):iS (objs++l) a=some cs:=by
 unfold iS at h ⊢;split at h
 ·split at h
  ·rename_i hr;simp only[eD hr];exact h
  ·rename_i hr;simp only[eD hr];exact h
  ·rename_i hr;simp only[eD hr];exact h
  ·rename_i hr;simp only[eD hr];exact h
  ·rename_i hr;simp only[eD hr];exact h
  ·cases h
 ·exact h
 ·cases h
theorem CA{ρ:Operand→AV}{o:Op}{av aj}(hp:DX o=true)(h:eM P ρ objs o=some (av,aj)):aj=objs∧∀l,eM P ρ (objs++l) o=some (av,objs++l):=by
 have EV:zu o=true→aj=objs∧∀l,eM P ρ (objs++l) o=some (av,objs++l):=fun hp=>⟨(tW hp h).1,fun l=>(tW hp h).2 _⟩
 cases o with
 | load t a=>
  simp only[eM,pS]at h ⊢;split at h
  ·rename_i T cs hT hcs;simp only[hT,fun l=>ur (l:=l) hcs];split at h
   ·split at h
    ·simp at h;simp_all
    ·cases h
   ·split at h
    ·simp at h;simp_all
    ·cases h
  ·cases h
 | slice t x lo hi mx=>
  simp only[eM]at h ⊢;split at h
  ·simp only[Option.map_eq_some_iff,Prod.mk.injEq]at h;obtain⟨a,h1,rfl,rfl⟩:=h;refine⟨rfl,fun l=>?_⟩;simp only[Option.map_eq_some_iff,Prod.mk.injEq];refine⟨a,?_,rfl,trivial⟩;unfold ie at h1 ⊢;split at h1
   ·exact h1
   ·split at h1
    ·split at h1
     ·exact h1
     ·split at h1
      ·rename_i hr;simp only[eD hr];exact h1
      ·rename_i hr;simp only[eD hr];exact h1
      ·cases h1
     ·cases h1
     ·exact h1
     ·cases h1
    ·cases h1
   ·cases h1
  ·cases h
 | indexAddr t x i=>
  simp only[eM]at h ⊢;split at h
  ·simp only[Option.map_eq_some_iff,Prod.mk.injEq]at h;obtain⟨a,h1,rfl,rfl⟩:=h;refine⟨rfl,fun l=>?_⟩;simp only[Option.map_eq_some_iff,Prod.mk.injEq];refine⟨a,?_,rfl,trivial⟩;unfold cL at h1 ⊢;split at h1
   ·split at h1
    ·split at h1
     ·split at h1
      ·rename_i hr;simp only[eD hr];exact h1
      ·rename_i hr;simp only[eD hr];exact h1
      ·rename_i hr;simp only[eD hr];exact h1
      ·rename_i hr;simp only[eD hr];exact h1
      ·cases h1
     ·cases h1
     ·exact h1
     ·exact h1
     ·cases h1
    ·cases h1
   ·exact h1
   ·cases h1
  ·cases h
 | convert s d x=>
  simp only[eM,fO]at h ⊢
  have he:∀ {y k xs},gL objs y=some (k,xs)→∀l,gL (objs++l) y=some (k,xs):=by
   intro y k xs hy l;unfold gL at hy ⊢;split at hy
   ·exact hy
   ·cases hy
   ·exact hy
   ·exact hy
   ·split at hy
    ·rename_i hr;simp only[eD hr];exact hy
    ·cases hy
   ·cases hy
  split at h
  ·split at h
   ·split at h
    ·rename_i hc;simp at h;simp_all
    ·cases h
   ·cases h
  ·split at h
   ·rename_i hc;simp at h;simp_all
   ·split at h
    ·rename_i hc;simp at h;simp_all
    ·cases h
  ·split at h
   ·rename_i hc;simp at h;simp_all
   ·cases h
  ·split at h
   ·rename_i hc;split at h
    ·rename_i k xs hel;split at h
     ·rename_i ns hns;split at h
      ·rename_i hf;simp only[Option.some.injEq,Prod.mk.injEq]at h;obtain⟨rfl,rfl⟩:=h;refine⟨rfl,fun l=>?_⟩;rw[if_pos hc];simp only[he hel l,hns];rw[if_pos hf]
      ·cases h
     ·cases h
    ·cases h
   ·cases h
 | call c=>
  obtain⟨callee,args,ts⟩:=c
  cases callee with
  | builtin b=>
   by_cases hmm:b = .min∨b = .max
   ·rcases hmm with rfl|rfl<;>exact EV rfl
   by_cases hcap:b = .cap
   ·subst hcap;simp only[eM]at h ⊢;generalize ts.toList=tl at h ⊢;generalize args.toList.map ρ=xl at h ⊢;rcases tl with _|⟨t,_|⟨t2,tt⟩⟩<;>rcases xl with _|⟨x,_|⟨x2,xt⟩⟩<;>simp only[ft]at h ⊢ <;> (try cases h)
    split at h
    ·rename_i T r Nn hT;split at h
     ·rename_i e c zs hk hr;simp only[Option.some.injEq,Prod.mk.injEq]at h;obtain⟨rfl,rfl⟩:=h;refine⟨rfl,fun l=>?_⟩;simp only[hT,hk,eD hr]
     ·cases h
    ·cases h
   cases b<;>(try simp at hmm)<;>(try simp at hcap)<;>simp only[DX,zu,Bool.false_eq_true]at hp
   simp only[eM,ft]at h ⊢;have hl:∀x l,uI (objs++l) x=uI objs x:=fun x l=>by unfold uI;rfl
   split at h<;>simp_all
   split at h
   ·split at h
    ·split at h<;>simp_all
    ·split at h<;>simp_all
    ·cases h
    ·cases h
   ·cases h
  | _=>simp[DX,zu]at hp
 | _=>exact EV (by simpa [DX]using hp)
mutual
theorem tI:∀(d:D) {objs:List Obj} {a aj},gj objs d=some (a,aj)→∃l,aj=objs++l
 | .v x,_,_,_,h=>by simp[gj]at h;exact⟨[],by simp[h.2]⟩
 | .row .own k xs,_,_,_,h=>by simp[gj]at h;exact⟨_,h.2.symm⟩
 | .row .ro k xs,_,_,_,h=>by simp[gj]at h;exact⟨[],by simp[h.2]⟩
 | .row .sn k xs,_,_,_,h=>by simp[gj]at h
 | .agg cs,_,_,_,h=>by
  simp only[gj]at h;split at h
  ·rename_i h1;simp at h;rw[←h.2];exact na cs h1
  ·cases h
 | .bK cs,_,_,_,h=>by
  simp only[gj]at h;split at h
  ·rename_i h1;simp at h;rw[←h.2];exact na cs h1
  ·cases h
theorem na:∀(ds:List D) {objs:List Obj} {as aj},ji objs ds=some (as,aj)→∃l,aj=objs++l
 | [],_,_,_,h=>by simp[ji]at h;exact⟨[],by simp[h.2]⟩
 | d::ds,_,_,_,h=>by
  simp only[ji]at h;split at h
  ·rename_i h1;split at h
   ·rename_i h2;simp at h;rw[←h.2];obtain⟨l1,rfl⟩:=tI d h1;obtain⟨l2,rfl⟩:=na ds h2;exact⟨l1++l2,by simp⟩
   ·cases h
  ·cases h
end
theorem MA{ρ:Operand→AV}{o:Oper}{av aj}(hp:HZ o.op=true)(h:Fx P g ρ objs o av aj):∃l,aj=objs++l:=by
 cases h with
 | call hc h hct he hr hno hi=>exact tI _ hi
 | op h=>
  have EW:DX o.op=true→∃l,aj=objs++l:=fun hp=>⟨[],by simp[(CA hp h).1]⟩
  cases ho:o.op with
  | alloc t=>
   rw[ho]at h;simp only[eM,qH]at h;split at h
   ·split at h
    ·cases h;exact⟨_,rfl⟩
    ·cases h
   ·cases h
  | makeSlice t x y=>
   rw[ho]at h;simp only[eM]at h;split at h
   ·unfold jk at h;split at h
    ·split at h
     ·split at h
      ·split at h
       ·simp at h;exact⟨_,h.2.symm⟩
       ·cases h
      ·cases h
     ·cases h
    ·cases h
   ·cases h
  | box t x=>
   rw[ho]at h;simp only[eM,gX]at h;split at h
   ·simp at h;exact⟨_,h.2.symm⟩
   ·cases h
  | buildSlice t n ps=>
   rw[ho]at h hp;have hps:ps.toList=[]:=by simpa [HZ]using hp
   simp only[eM,iy,hps,List.map_nil,iq,cls]at h;split at h
   ·split at h
    ·split at h
     ·split at h
      ·simp at h;exact⟨_,h.2.symm⟩
      ·cases h
     ·cases h
    ·cases h
   ·cases h
  | range t x=>
   rw[ho]at h;simp only[eM,sk]at h;split at h
   ·split at h
    ·simp at h;exact⟨_,h.2.symm⟩
    ·cases h
   ·cases h
  | call c=>
   obtain⟨callee,args,ts⟩:=c
   cases callee with
   | value f=>rw[ho]at h;simp[eM]at h
   | builtin b=>exact EW (by rw[ho]at hp ⊢;simpa [HZ]using hp)
   | invoke r m=>rw[ho]at h;simp[eM]at h
  | _=>exact EW (by rw[ho]at hp ⊢;simpa [HZ]using hp)
theorem ia{ρ:Operand→AV}{c:Call}{p}(h:c8 ρ c=some p):zu (.call c)=false∧DX (.call c)=false:=by
 obtain⟨callee,args,ts⟩:=c
 cases callee with
 | value f=>exact⟨rfl,rfl⟩
 | _=>simp[c8]at h
def soft(ops:Array Oper)(hard:List Nat)(x i:Nat):Bool:=match ops[x]?,ops[i]? with
 | some ox,some oi=>Oper.apart ops ox oi&&(zu ox.op||(DX ox.op&&HZ oi.op && !hard.contains i)||(zu oi.op && !hard.contains (x+1000))) && !hard.contains (i+1000)
 | _,_=>false
theorem wD{d:Option Tmp}{av s'}{i:Nat}(h:fU n s d av=some s')(hi:∀e,d=some e→e≠i):s' i=s i:=by
 cases d with
 | none=>simp[fU]at h;rw[←h]
 | some e=>
  simp only[fU]at h;split at h
  ·simp at h;rw[←h];simp only[upd];rw[if_neg (fun x=>hi e rfl x.symm)]
  ·cases h
theorem fa{d:Option Tmp}{av s'}{o:Oper}(h:fU n s d av=some s')(hd:∀e,d=some e→e∉o.looksAt ops):∀x∈o.op.operands,bu s' x=bu s x:=by
 intro x hx
 cases x with
 | tmp t=>
  simp only[bu];refine wD h fun e he=>?_
  rintro rfl;refine hd e he ?_;simp only[Oper.looksAt,List.mem_append,List.mem_filterMap];exact .inl ⟨_,by simpa using hx,rfl⟩
 | _=>rfl
theorem fK{d:Option Tmp}{av s'}{o:Oper}(h:fU n s d av=some s')(hd:∀e,d=some e→e∉o.looksAt ops):gA ops s' o=gA ops s o:=by
 unfold gA
 cases hg:o.guard with
 | none=>rfl
 | some p=>
  obtain⟨j,want⟩:=p;simp only
  cases hj:(ops[j]?).bind (·.dst)with
  | none=>rfl
  | some e=>
   simp only;rw[wD h fun e' he'=>?_];rintro rfl;refine hd e' he' ?_;simp only[Oper.looksAt,List.mem_append];right;rw[hg];simp[hj]
theorem je{ρ ρ':Operand→AV}{o:Oper}{av aj}(hx:∀x∈o.op.operands,ρ x=ρ' x)(h:Fx P g ρ objs o av aj):Fx P g ρ' objs o av aj:=by
 cases h with
 | op h=>exact .op (by rw[←ph hx];exact h)
 | call hc h hct he hr hno hi=>exact .call hc (by rw[←eZ (by rw[hc]at hx;exact hx)];exact h) hct he hr hno hi
theorem gB{d e:Option Tmp}{av bv s1 s2}(h1:fU n s d av=some s1)(h2:fU n s1 e bv=some s2)(hde:∀x,d=some x→e≠some x) :
    ∃s1',fU n s e bv=some s1'∧fU n s1' d av=some s2:=by
 cases d with
 | none=>simp[fU]at h1;subst h1;exact⟨s2,h2,by simp[fU]⟩
 | some d=>
  cases e with
  | none=>simp[fU]at h2;subst h2;exact⟨s,by simp[fU],h1⟩
  | some e=>
   have hne:d≠e:=fun x=>hde d rfl (by rw[x])
   simp only[fU]at *;split at h1
   ·rename_i hd;split at h2
    ·rename_i he;simp at h1 h2;subst h1;subst h2;refine⟨_,by rw[if_pos he],?_⟩;rw[if_pos hd];simp only[Option.some.injEq]
     funext i
     simp only[upd];by_cases h1:i=d
     ·subst h1;simp[hne]
     ·by_cases h2:i=e
      ·subst h2;simp[h1]
      ·simp[h1,h2]
    ·cases h2
   ·cases h1
theorem St.Ln{x i s1 fh s2 aZ}{ox oi:Oper}(hox:ops[x]?=some ox)(hoi:ops[i]?=some oi)(ha:Oper.apart ops ox oi=true)(hpi:zu oi.op=true)(Px:x+1000∉hard)
    (h1:St P g n ops hard x s objs s1 fh) (h2:St P g n ops hard i s1 fh s2 aZ) :
    ∃s1' rZ,St P g n ops hard i s objs s1' rZ∧St P g n ops hard x s1' rZ s2 aZ:=by
 obtain⟨a1,a2,a3⟩:=Oper.apart_spec ha
 -- what the second makes,wherever it stands
 have hi:∀ {d:Option Tmp} {av:AV},ox.dst=d→fU n s d av=some s1→∃s1',fU n s1' d av=some s2∧aZ=fh∧St P g n ops hard i s objs s1' objs∧(∀o:Oper,o=ox→gA ops s1' o=gA ops s o∧∀y∈o.op.operands,bu s1' y=bu s y):=by
  intro d av hd hp;subst hd
  cases h2 with
  | @run o FJ _ _ ho2 hg2 h2 hp2=>
   rw[hoi]at ho2;simp only[Option.some.injEq]at ho2;subst ho2;obtain⟨s1',p1,p2⟩:=gB hp hp2 a2
   cases h2 with
   | op h2=>
    obtain⟨rfl,hany⟩:=tW hpi h2;have hx2:Fx P g (bu s) objs oi FJ objs:=je (fa hp a1) (.op (hany objs));exact⟨s1',p2,rfl,.run hoi (by rw[←fK hp a1];exact hg2) hx2 p1,fun o ho=>by subst ho;exact⟨fK p1 a3,fun y hy=>fa p1 a3 y hy⟩⟩
   | call hc h=>rw[hc]at hpi;simp[(ia h).1]at hpi
  | @skip o _ ho2 hg2 hp2=>
   rw[hoi]at ho2;simp only[Option.some.injEq]at ho2;subst ho2;obtain⟨s1',p1,p2⟩:=gB hp hp2 a2;exact⟨s1',p2,rfl,.skip hoi (by rw[←fK hp a1];exact hg2) p1,fun o ho=>by subst ho;exact⟨fK p1 a3,fun y hy=>fa p1 a3 y hy⟩⟩
  | inl ho2 hg2 hc2 hcl=>rw[hoi]at ho2;simp only[Option.some.injEq]at ho2;subst ho2;rw[hc2]at hpi;simp[(ia hcl).1]at hpi
  | x7 ho2 hg2 hc2 hcl=>rw[hoi]at ho2;simp only[Option.some.injEq]at ho2;subst ho2;rw[hc2]at hpi;simp[(ia hcl).1]at hpi
 cases h1 with
 | @run o av _ _ ho hg h hp=>
  rw[hox]at ho;simp only[Option.some.injEq]at ho;subst ho;obtain⟨s1',p2,rfl,hst,hx⟩:=hi rfl hp;obtain⟨e1,e2⟩:=hx _ rfl;exact⟨s1',objs,hst,.run hox (by rw[e1];exact hg) (je (fun y hy=>(e2 y hy).symm) h) p2⟩
 | @skip o _ ho hg hp=>
  rw[hox]at ho;simp only[Option.some.injEq]at ho;subst ho;obtain⟨s1',p2,rfl,hst,hx⟩:=hi rfl hp;obtain⟨e1,e2⟩:=hx _ rfl;exact⟨s1',_,hst,.skip hox (by rw[e1];exact hg) p2⟩
 | @inl o cl f as av _ _ ho hg hc hcl hE hk hx0 hp=>
  rw[hox]at ho;simp only[Option.some.injEq]at ho;subst ho;obtain⟨s1',p2,rfl,hst,hx⟩:=hi rfl hp;obtain⟨e1,e2⟩:=hx _ rfl;have hcl':c8 (bu s1') cl=some (f,as):=by rw[eZ (by rw[hc]at e2;exact e2)];exact hcl
  exact⟨s1',objs,hst,.inl hox (by rw[e1];exact hg) hc hcl' hE hk hx0 p2⟩
 | x7 _ _ _ _ _ _ _ hx0=>exact absurd hx0 Px
theorem St.swap{x i s1 fh s2 aZ}(h1:St P g n ops hard x s objs s1 fh)(h2:St P g n ops hard i s1 fh s2 aZ)(hs:soft ops hard x i=true) :
    ∃s1' rZ,St P g n ops hard i s objs s1' rZ∧St P g n ops hard x s1' rZ s2 aZ:=by
 unfold soft at hs;split at hs
 ·rename_i ox oi hox hoi;simp only[Bool.and_eq_true,Bool.or_eq_true]at hs;obtain⟨hs,Ob⟩:=hs;obtain⟨hsA,hsB⟩:=hs;rcases hsB with hsB|hsB
  rotate_left
  ·exact St.Ln hox hoi hsA hsB.1 (by simpa using hsB.2) h1 h2
  have hs:Oper.apart ops ox oi=true∧(zu ox.op=true∨(DX ox.op=true∧HZ oi.op=true)∧(!hard.contains i)=true):=⟨hsA,hsB⟩;obtain⟨a1,a2,a3⟩:=Oper.apart_spec hs.1
  cases h1 with
  | @run o av _ _ ho hg h hp=>
   rw[hox]at ho;simp only[Option.some.injEq]at ho;subst ho;have hR:∃l:List Obj→Prop,True:=⟨fun _=>True,trivial⟩
   have Gy:fh=objs:=by
    cases h with
    | op h=>
     rcases hs.2 with q|q
     ·exact(tW q h).1
     ·exact(CA q.1.1 h).1
    | call hc h=>rw[hc]at hs;simp[ia h]at hs
   subst Gy
   have BZ:∀l,(zu ox.op=true∨∃k,l=fh++k)→Fx P g (bu s) l ox av l:=by
    intro l hl
    cases h with
    | op h=>
     refine .op ?_;rcases hs.2 with q|q
     ·exact(tW q h).2 l
     ·rcases hl with hl|⟨k,rfl⟩
      ·exact(tW hl h).2 l
      ·exact(CA q.1.1 h).2 k
    | call hc h=>rw[hc]at hs;simp[ia h]at hs
   cases h2 with
   | @run o FJ _ _ ho2 hg2 h2 hp2=>
    rw[hoi]at ho2;simp only[Option.some.injEq]at ho2;subst ho2;obtain⟨s1',p1,p2⟩:=gB hp hp2 a2;refine⟨s1',aZ,.run hoi (by rw[←fK hp a1];exact hg2) (je (fa hp a1) h2) p1,.run hox (by rw[fK p1 a3];exact hg) ?_ p2⟩;refine je (fun x hx=>(fa p1 a3 x hx).symm) (BZ aZ ?_);rcases hs.2 with q|q
    ·exact .inl q
    ·exact .inr (MA q.1.2 h2)
   | @skip o _ ho2 hg2 hp2=>
    rw[hoi]at ho2;simp only[Option.some.injEq]at ho2;subst ho2;obtain⟨s1',p1,p2⟩:=gB hp hp2 a2;exact⟨s1',fh,.skip hoi (by rw[←fK hp a1];exact hg2) p1,.run hox (by rw[fK p1 a3];exact hg) (je (fun x hx=>(fa p1 a3 x hx).symm) (BZ fh (.inr ⟨[],by simp⟩))) p2⟩
   | @inl o cl f as FJ aZ _ ho2 hg2 hc2 hcl hE hk hx hp2=>
    rw[hoi]at ho2;simp only[Option.some.injEq]at ho2;subst ho2;obtain⟨s1',p1,p2⟩:=gB hp hp2 a2;have hcl':c8 (bu s) cl=some (f,as):=by rw[←eZ (by have:=fa hp a1;rw[hc2]at this;exact this)];exact hcl
    refine⟨s1',aZ,.inl hoi (by rw[←fK hp a1];exact hg2) hc2 hcl' hE hk hx p1,.run hox (by rw[fK p1 a3];exact hg) ?_ p2⟩;refine je (fun x hx=>(fa p1 a3 x hx).symm) (BZ aZ ?_);rcases hs.2 with q|q
    ·exact .inl q
    ·rcases hx with hx|hx
     ·have:=q.2;simp[hx]at this
     ·exact .inr hx
   | x7 _ _ _ _ _ _ _ hx=>simp[hx]at Ob
  | @skip o _ ho hg hp=>
   rw[hox]at ho;simp only[Option.some.injEq]at ho;subst ho
   cases h2 with
   | @run o FJ _ _ ho2 hg2 h2 hp2=>
    rw[hoi]at ho2;simp only[Option.some.injEq]at ho2;subst ho2;obtain⟨s1',p1,p2⟩:=gB hp hp2 a2;exact⟨s1',aZ,.run hoi (by rw[←fK hp a1];exact hg2) (je (fa hp a1) h2) p1,.skip hox (by rw[fK p1 a3];exact hg) p2⟩
   | @skip o _ ho2 hg2 hp2=>
    rw[hoi]at ho2;simp only[Option.some.injEq]at ho2;subst ho2;obtain⟨s1',p1,p2⟩:=gB hp hp2 a2;exact⟨s1',objs,.skip hoi (by rw[←fK hp a1];exact hg2) p1,.skip hox (by rw[fK p1 a3];exact hg) p2⟩
   | @inl o cl f as FJ aZ _ ho2 hg2 hc2 hcl hE hk hx hp2=>
    rw[hoi]at ho2;simp only[Option.some.injEq]at ho2;subst ho2;obtain⟨s1',p1,p2⟩:=gB hp hp2 a2;have hcl':c8 (bu s) cl=some (f,as):=by rw[←eZ (by have:=fa hp a1;rw[hc2]at this;exact this)];exact hcl
    exact⟨s1',aZ,.inl hoi (by rw[←fK hp a1];exact hg2) hc2 hcl' hE hk hx p1,.skip hox (by rw[fK p1 a3];exact hg) p2⟩
   | x7 _ _ _ _ _ _ _ hx=>simp[hx]at Ob
  | @inl o cl f as FJ _ _ ho hg hc hcl=>
   rw[hox]at ho;simp only[Option.some.injEq]at ho;subst ho;rw[hc]at hs;simp[ia hcl]at hs
  | @x7 o cl f as FJ _ _ ho hg hc hcl=>
   rw[hox]at ho;simp only[Option.some.injEq]at ho;subst ho;rw[hc]at hs;simp[ia hcl]at hs
 ·cases hs
theorem Tr.front{pre i post s' aj}(h:Tr P g n ops hard (pre++i::post) s objs s' aj)(hs:∀x∈pre,soft ops hard x i=true):Tr P g n ops hard (i::(pre++post)) s objs s' aj:=by
 induction pre generalizing s objs with
 | nil=>exact h
 | cons x pre ih=>
  cases h with
  | cons h t=>
   cases ih t (fun y hy=>hs y (by simp[hy]))with
   | cons h2 t2=>
    obtain⟨s1',Qh,k1,k2⟩:=h.swap h2 (hs x (by simp));exact .cons k1 (.cons k2 t2)
def d9(ops:Array Oper)(i:Nat):List Nat:=match ops[i]? with
 | some o=>(o.after.toList.filter (Region.binds .any)).map (·.on)
 | none=>[]
def xc(ops:Array Oper):Nat→Nat→List Nat
 | 0,i=>d9 ops i
 | n+1,i=>d9 ops i++(d9 ops i).flatMap (xc ops n)
def ir(ops:Array Oper)(hard:List Nat)(d:Nat):List Nat→Bool
 | []=>true
 | i::l=>(d9 ops i).all (fun j=>decide (j<ops.size) && !(i::l).contains j)&&l.all (fun j=>soft ops hard i j||(xc ops d j).contains i)&&ir ops hard d l
def qx(ops:Array Oper)(hard:List Nat)(d:Nat)(o:List Nat):Bool:=
 decide (o.length=ops.size)&&decide o.Nodup&&(List.range ops.size).all (fun i=>o.contains i)&&o.all (fun i=>decide (i<ops.size))&&ir ops hard d o
theorem wy{d:Nat}{pre:List Nat}{i:Nat}{post:List Nat}(h:ir ops hard d (pre++i::post)=true):∀x∈pre,soft ops hard x i=true∨x∈xc ops d i:=by
 induction pre with
 | nil=>simp
 | cons y pre ih=>
  simp only[List.cons_append,ir,Bool.and_eq_true,List.all_eq_true]at h;intro x hx;rcases List.mem_cons.1 hx with rfl|hx
  ·have:=h.1.2 i (by simp);simpa using this
  ·exact ih h.2 x hx
theorem wx{d:Nat}{pre:List Nat}{i:Nat}{post:List Nat}(h:ir ops hard d (pre++i::post)=true):ir ops hard d (pre++post)=true:=by
 induction pre with
 | nil=>simp only[List.nil_append,ir,Bool.and_eq_true]at h;exact h.2
 | cons y pre ih=>
  simp only[List.cons_append,ir,Bool.and_eq_true,List.all_eq_true]at h ⊢;refine⟨⟨fun j hj=>?_,fun j hj=>h.1.2 j (by simp at hj ⊢;rcases hj with hj|hj<;>simp[hj])⟩,ih h.2⟩;have:=h.1.1 j hj;simp only[decide_eq_true_eq]at this ⊢;refine⟨this.1,?_⟩;have h2:=this.2;simp at h2 ⊢;exact⟨h2.1,h2.2.1,h2.2.2.2⟩
theorem lD{listed:Nat→Prop}(hd:∀i,listed i→∀j∈d9 ops i,listed j):∀(d i:Nat),(∀j∈d9 ops i,listed j)→∀x∈xc ops d i,listed x
 | 0,i,h,x,hx=>h x hx
 | d+1,i,h,x,hx=>by
  simp only[xc,List.mem_append,List.mem_flatMap]at hx;rcases hx with hx|⟨y,hy,hx⟩
  ·exact h x hx
  ·exact lD hd d y (hd y (h y hy)) x hx
theorem nQ{a:Array Bool}{i j:Nat}(hi:i<a.size)(d:Bool):(a.setIfInBounds i true).getD j d=if j=i then true else a.getD j d:=by
 rw[Array.getD_eq_getD_getElem?,Array.getD_eq_getD_getElem?,Array.getElem?_setIfInBounds];by_cases h:j=i
 ·subst h;simp[hi]
 ·rw[if_neg (fun x=>h x.symm),if_neg h]
theorem Bd{d:Nat}:∀(fuel t:Nat) (listed:Array Bool) (rest:List Nat) (s:Nat→AV) (objs:List Obj) (s':Nat→AV) (aj:List Obj),rest.length=fuel→listed.size=ops.size→rest.Nodup→(∀i∈rest,i<ops.size) →
    (∀i,i<ops.size→(listed.getD i true=false↔i∈rest))→(∀i,i<ops.size→listed.getD i true=true→∀j∈d9 ops i,j<ops.size∧listed.getD j true=true)→ir ops hard d rest=true →
    Tr P g n ops hard rest s objs s' aj→Tr P g n ops hard (Region.linearise.go .any ops fuel t listed []) s objs s' aj:=by
 intro fuel
 induction fuel with
 | zero=>
  intro t listed rest s objs s' aj hl _ _ _ _ _ _ h;obtain rfl:=List.length_eq_zero_iff.1 hl;simpa [Region.linearise.go]using h
 | succ fuel ih=>
  intro t listed rest s objs s' aj hl hsz hnd hin hmem vP hp h;have same:∀j,j<ops.size→listed.getD j false=listed.getD j true:=fun j hj=>by simp[Array.getD_eq_getD_getElem?,hsz,hj]
  have x5:∀i∈Region.ready .any ops listed,i∈rest∧∀j∈d9 ops i,j<ops.size∧listed.getD j true=true:=by
   intro i hi;obtain⟨h1,o,ho,h2⟩:=mem_ready.1 hi;have hlt:i<ops.size:=(Array.getElem?_eq_some_iff.1 ho).1;refine⟨(hmem i hlt).1 h1,fun j hj=>?_⟩;simp only[d9,ho,List.mem_map,List.mem_filter]at hj;obtain⟨e,⟨he,hb⟩,rfl⟩:=hj;have:=h2 e (by simpa using he) hb
   have hj:e.on<ops.size:=by
    rcases Nat.lt_or_ge e.on ops.size with q|q
    ·exact q
    ·rw[Array.getD_eq_getD_getElem?,Array.getElem?_eq_none (by omega)]at this;simp at this
   exact⟨hj,by rw[←same _ hj];exact this⟩
  have hne:Region.ready .any ops listed≠[]:=by
   cases rest with
   | nil=>simp at hl
   | cons x rest=>
    have hx:=hin x (by simp)
    have:x∈Region.ready .any ops listed:=by
     refine mem_ready.2 ⟨(hmem x hx).2 (by simp),ops[x],by simp[hx],fun e he hb=>?_⟩;simp only[ir,Bool.and_eq_true,List.all_eq_true]at hp;have:=hp.1.1 e.on (by simp only[d9,List.mem_map,List.mem_filter];rw[show ops[x]?=some ops[x] by simp[hx]];simp only[List.mem_map,List.mem_filter];exact⟨e,⟨by simpa using he,hb⟩,rfl⟩);simp only[decide_eq_true_eq]at this;rw[same _ this.1]
     cases hq:listed.getD e.on true with
     | true=>rfl
     | false=>
      have h1:=(hmem _ this.1).1 hq;have h2:=this.2;simp at h1 h2;rcases h1 with h1|h1
      ·exact absurd h1 h2.1
      ·exact absurd h1 h2.2
    exact fun e=>by rw[e]at this;simp at this
  simp only[Region.linearise.go]
  change Tr P g n ops hard (match (Region.ready .any ops listed)[t%(Region.ready .any ops listed).length]? with
    | some i => Region.linearise.go .any ops fuel (t / (Region.ready .any ops listed).length) (listed.setIfInBounds i true) [i]
    | none => [].reverse) s objs s' aj
  have hpos:0<(Region.ready .any ops listed).length:=List.length_pos_iff.2 hne;obtain⟨i,hi⟩:∃i,(Region.ready .any ops listed)[t%(Region.ready .any ops listed).length]?=some i:=⟨_,List.getElem?_eq_getElem (Nat.mod_lt _ hpos)⟩;rw[hi];simp only;have hir:i∈Region.ready .any ops listed:=List.mem_of_getElem? hi;obtain⟨h1,h2⟩:=x5 i hir;rw[linearise_go_acc,List.reverse_singleton,List.singleton_append];obtain⟨pre,post,rfl⟩:=List.append_of_mem h1;have hilt:=hin i (by simp)
  have B6:∀x∈pre,soft ops hard x i=true:=by
   intro x hx;rcases wy hp x hx with q|q
   ·exact q
   ·have:=lD (listed:=fun j=>j<ops.size∧listed.getD j true=true) (fun j hj=>vP j hj.1 hj.2) d i h2 x q;have h3:=(hmem x (hin x (by simp[hx]))).2 (by simp[hx]);rw[this.2]at h3;cases h3
  cases h.front B6 with
  | cons k1 k2=>
   have hnd':(pre++post).Nodup∧i∉pre++post:=by
    rw[List.nodup_append]at hnd;simp only[List.nodup_cons,List.mem_cons]at hnd;refine⟨List.nodup_append.2 ⟨hnd.1,hnd.2.1.2,fun a ha b hb=>hnd.2.2 a ha b (.inr hb)⟩,?_⟩;simp only[List.mem_append,not_or];exact⟨fun q=>hnd.2.2 i q i (.inl rfl) rfl,hnd.2.1.1⟩
   refine .cons k1 (ih _ _ (pre++post) _ _ _ _ (by simp at hl ⊢;omega) (by simpa using hsz) hnd'.1 (fun j hj=>hin j (by simp at hj ⊢;rcases hj with q|q<;>simp[q])) ?_ ?_ (wx hp) k2)
   ·intro j hj;rw[nQ (by omega)];by_cases hji:j=i
    ·subst hji;simp;simpa using hnd'.2
    ·rw[if_neg hji,hmem j hj];simp[hji]
   ·intro j hj hlj k hk;rw[nQ (by omega)]at hlj ⊢;by_cases hji:j=i
    ·subst hji;have:=h2 k hk;refine⟨this.1,?_⟩;split
     ·rfl
     ·exact this.2
    ·rw[if_neg hji]at hlj;have:=vP j hj hlj k hk;refine⟨this.1,?_⟩;split
     ·rfl
     ·exact this.2
theorem bm.drawn{v}(h:bm B w S objs gs om):bm B {w with drawn:=v} S objs gs om:=
 ⟨h.len,fun r o ho=>h.Ff (w' := {w with drawn:=v}) (gs':=gs) (bz:=om) ⟨List.prefix_rfl,⟨rfl,rfl,rfl,Nat.le_refl _,fun _ _=>rfl⟩,fun b hb=>⟨hb,rfl⟩⟩ (h.obj r o ho) (fun b c hb _=>⟨hb,rfl⟩),h.hS,h.hB⟩
theorem Bp{id}(hko:gW fl ops hard)(hm:P.follows .mixedOrders=true)(d:Nat){o s' aj}(ho:qx ops hard d o=true)(h:Tr P g n ops hard o s objs s' aj)(hq:Q .normal s' aj):W P g B S n fl (.region id ops true) s objs Q:=fun a w gs om h1 h2 h3 h4 h5=>by
 simp only[qx,Bool.and_eq_true,decide_eq_true_eq,List.all_eq_true,List.mem_range,List.contains_iff_mem]at ho;obtain⟨⟨⟨⟨hlen,q1⟩,q2⟩,q3⟩,q4⟩:=ho;have x:Ext B w gs om {w with drawn:=w.drawn+1} gs om:=⟨List.prefix_rfl,⟨rfl,rfl,rfl,Nat.le_refl _,fun _ _=>rfl⟩,fun b hb=>⟨hb,rfl⟩⟩;have hl:fl.n≤gs.length:=by rw[h3.len];exact h5
 refine wp_region_draw fun t=>?_
 simp only[Region.schedule,hm,Bool.true_or,if_true]
 have tr:=Bd (P:=P) (g:=g) (n:=n) (ops:=ops) (hard:=hard) (d:=d) ops.size t (Array.replicate ops.size false) o s objs s' aj hlen (by simp) q1 (fun i hi=>q3 i hi)
  (fun i hi=>by simp[hi,q2 i hi]) (fun i hi h=>by simp[hi]at h) q4 h
 have:=la (B:=B) (S:=S) (fl:=fl) (l2:=[]) (Q:=Q) hko tr (ja hq);rw[List.append_nil]at this;exact d7 (this a {w with drawn:=w.drawn+1} gs om (gU h1 h2 x.below) h2 h3.drawn ⟨h4.size,h4.defers,fun i=>h3.iD x (h4.rel i)⟩ h5) fun e a w2 h=>h.trans x.dm hl
end
end Go.aN
/- The walk over abstract states: one line an operation. Lemmas alone. -/
namespace Go.aN
open Go.RowKit Go.Lib
noncomputable def sP(ds:List D)(r:D):List D→Option D:=fun x=>@ite _ (x=ds) (Classical.propDecidable _) (some r) none
def a9(P:Program)(g:Gl)(f:FuncId)(ds:List D)(r:D):Prop:=Ct P g f (sP ds r)
theorem jG{ds r}:sP ds r ds=some r:=by simp[sP]
theorem Ai{P:Program}{g:Gl}{f fn c ds r}(hf:P.funcs[f]?=some fn)(hb:fn.body=some c)(hnm:(fn.name == "runtime.NumGoroutine")=false)(hl:ds.length≤fn.ntmps)
    (h:∀B S,W P g B S fn.ntmps ⟨0,false⟩ c (nD (ds.map qJ)) [] (mN P fn r)):a9 P g f ds r:=
 Dz hf hb hnm fun ds' r' B S h'=>by
  unfold sP at h';split at h'
  ·rename_i e;cases h';subst e;exact⟨hl,h B S⟩
  ·cases h'
def slots:List (Nat×AV)→Nat→AV
 | [],_=>.dead
 | (i,v)::l,j=>if j=i then v else slots l j
def told(s:Nat→AV)(c:Nat→Bool):Nat→AV:=fun i=>bif c i then s i else .bK []
def allT:Nat→Bool:=fun _=>true
def put(s:Nat→AV):Option Tmp→AV→Nat→AV
 | none,_=>s
 | some d,v=>upd s d v
def ju(c:Nat→Bool):Option Tmp→Bool→Nat→Bool
 | none,_=>c
 | some d,b=>fun i=>if i=d then b else c i
def cP(n:Nat):Option Tmp→Bool
 | none=>true
 | some d=>decide (d<n)
def fb(b:Bool)(c:Nat→Bool):List Operand→Prop
 | []=>True
 | .tmp t::xs=>(b=true→c t=true)∧fb b c xs
 | _::xs=>fb b c xs
def Got{α:Type}(x y:α):Prop:=x=y
theorem Got.mk{α:Type}{x:α}:Got x x:=rfl
def jg(ops:Array Oper)(s:Nat→AV)(c:Nat→Bool):Option (Nat×Bool)→Option Bool
 | none=>some true
 | some (j,want)=>match (ops[j]?).bind (·.dst)with
  | some d=>match s d with
   | .d (.v (.bool x))=>some (c d&&(x==want))
   | _=>none
  | none=>none
def mR(c:Nat→Bool):Operand→Bool
 | .tmp t=>c t
 | _=>true
def eu(s:Nat→AV):List Nat→List (Nat×AV)
 | []=>[]
 | t::ts=>(t,s t)::eu s ts
def ld(c:Nat→Bool):List Nat→Prop
 | []=>True
 | t::ts=>c t=true∧ld c ts
def Run(P:Program)(g:Gl)(n:Nat)(ops:Array Oper)(hard:List Nat)(l:List Nat)(s:Nat→AV)(c:Nat→Bool)(objs:List Obj)(K:(Nat→AV)→(Nat→Bool)→List Obj→Prop):Prop:=
 ∃s' c' aj,Tr P g n ops hard l (told s c) objs (told s' c') aj∧K s' c' aj
section
variable {P:Program} {g:Gl} {B:Nat} {S:Nat→Prop} {n:Nat} {fl:Fl} {w:World} {gs:List G1} {om:Nat→Option (Nat×Bool)} {s:Nat→AV} {c:Nat→Bool} {objs:List Obj} {Q:Qt} {ops:Array Oper} {hard:List Nat}
variable {K:(Nat→AV)→(Nat→Bool)→List Obj→Prop}
theorem cA:told s allT=s:=by funext i;simp[told,allT]
theorem ez{d:Option Tmp}{av}(h:cP n d=true):fU n s d av=some (put s d av):=by
 cases d with
 | none=>rfl
 | some d=>simp[cP]at h;simp[fU,put,h]
theorem iJ{d:Option Tmp}{av}{b:Bool}:told (put s d av) (ju c d b)=put (told s c) d (bif b then av else .bK []):=by
 cases d with
 | none=>rfl
 | some d=>funext i;simp only[told,put,ju,upd];split<;>rfl
theorem g8{o:Op}{b:Bool}(hb:b=true)(h:fb b c o.operands.toList):∀x∈o.operands,bu s x=bu (told s c) x:=by
 have key:∀l:List Operand,fb b c l→∀x∈l,bu s x=bu (told s c) x:=by
  intro l
  induction l with
  | nil=>simp
  | cons y l ih=>
   intro h x hx
   cases y with
   | tmp t=>
    simp only[fb]at h;rcases List.mem_cons.1 hx with rfl|hx
    ·simp[bu,told,h.1 hb]
    ·exact ih h.2 x hx
   | _=>
    simp only[fb]at h;rcases List.mem_cons.1 hx with rfl|hx
    ·rfl
    ·exact ih h x hx
 exact fun x hx=>key _ h x (by simpa using hx)
theorem jF(h:K s c objs):Run P g n ops hard [] s c objs K:=⟨s,c,objs,.nil,h⟩
theorem Run.cons{i l s1 c1 fh}(h:St P g n ops hard i (told s c) objs (told s1 c1) fh)(k:Run P g n ops hard l s1 c1 fh K):Run P g n ops hard (i::l) s c objs K:=by
 obtain⟨s',c',o',t,q⟩:=k;exact⟨s',c',o',.cons h t,q⟩
theorem kV{i l}{o:Oper}{av aj}(ho:ops[i]?=some o)(hg:o.guard=none)(hd:cP n o.dst=true)(h:Got (eM P (bu s) objs o.op) (some (av,aj)))
    (k:Run P g n ops hard l (put s o.dst av) allT aj K):Run P g n ops hard (i::l) s allT objs K:=by
 refine Run.cons (s1:=put s o.dst av) (c1:=allT) ?_ k;rw[cA,cA];exact .run ho (by simp[gA,hg]) (.op h) (ez hd)
theorem iU{o:Oper}{b}(h:jg ops s c o.guard=some b):gA ops (told s c) o=some b:=by
 unfold jg at h;unfold gA;split at h
 ·rename_i hg;rw[hg];exact h
 ·rename_i j want hg;rw[hg];simp only;split at h
  ·rename_i d hd;rw[hd];simp only;split at h
   ·rename_i x hs;simp only[told,hs]
    cases hc:c d with
    | true=>rw[hc]at h;simpa using h
    | false=>rw[hc]at h;simpa using h
   ·cases h
  ·cases h
theorem bg{i l}{o:Oper}{b av}(ho:ops[i]?=some o)(hg:Got (jg ops s c o.guard) (some b))(hd:cP n o.dst=true)(hx:fb b c o.op.operands.toList)
    (h:b=true→Got (eM P (bu s) objs o.op) (some (av,objs))) (k:Run P g n ops hard l (put s o.dst av) (ju c o.dst b) objs K):Run P g n ops hard (i::l) s c objs K:=by
 refine Run.cons (s1:=put s o.dst av) (c1:=ju c o.dst b) ?_ k;rw[iJ]
 cases b with
 | true=>exact .run ho (iU hg) (.op (by rw[←ph (g8 rfl hx)];exact h rfl)) (ez hd)
 | false=>exact .skip ho (iU hg) (ez hd)
theorem bM{i l}{o:Oper}{av aj}(ho:ops[i]?=some o)(hg:o.guard=none)(hd:cP n o.dst=true)(hx:fb true c o.op.operands.toList)
    (h:Got (eM P (bu s) objs o.op) (some (av,aj))) (k:Run P g n ops hard l (put s o.dst av) (ju c o.dst true) aj K):Run P g n ops hard (i::l) s c objs K:=by
 refine Run.cons (s1:=put s o.dst av) (c1:=ju c o.dst true) ?_ k;rw[iJ];exact .run ho (by simp[gA,hg]) (.op (by rw[←ph (g8 rfl hx)];exact h)) (ez hd)
theorem fB{i l}{o:Oper}{x y z b t av b'}(ho:ops[i]?=some o)(hg:Got (jg ops s c o.guard) (some b))(hd:cP n o.dst=true)(hp:o.op = .pick x y z)(hx:fb b c [x])
    (ht:Got (bu s x) (.d (.v (.bool t)))) (BZ:Got (bif t then bu s y else bu s z) av) (hb:Got (b&&(bif t then mR c y else mR c z)) b')
    (k:Run P g n ops hard l (put s o.dst av) (ju c o.dst b') objs K):Run P g n ops hard (i::l) s c objs K:=by
 refine Run.cons (s1:=put s o.dst av) (c1:=ju c o.dst b') ?_ k;rw[iJ,←hb]
 have zS:∀q:Operand,bu (told s c) q=bif mR c q then bu s q else .bK []:=by
  intro q;cases q<;>rfl
 cases b with
 | true=>
  refine .run ho (iU hg) (.op (aj:=objs) ?_) (ez hd);rw[hp]
  have hx':mR c x=true:=by
   cases x with
   | tmp q=>simp only[fb]at hx;exact hx.1 trivial
   | _=>rfl
  simp only[eM,zS x,hx',cond_true];rw[show bu s x = .d (.v (.bool t)) from ht];simp only[zS,Option.some.injEq,Prod.mk.injEq,and_true,Bool.true_and];rw[←(show _=av from BZ)];cases t<;>simp
 | false=>simpa using St.skip (hard:=hard) ho (iU hg) (ez (s:=told s c) (av:=.bK []) hd)
theorem bI{i l}{o:Oper}{cl:Call}{b f as ds q r av aj}(ho:ops[i]?=some o)(hg:Got (jg ops s c o.guard) (some b))(hd:cP n o.dst=true)(hc:o.op = .call cl)(hx:fb b c o.op.operands.toList)
    (h:Got (c8 (bu s) cl) (some (f,as))) (he:Got (lI objs (fF P cl.argTypes.toList) as) (some (ds,q))) (hct:b=true→a9 P g f ds r) (hno:r.fp=true) (hi:Got (gj objs r) (some (av,aj))) (hb:b=true∨aj=objs)
    (k:Run P g n ops hard l (put s o.dst av) (ju c o.dst b) aj K):Run P g n ops hard (i::l) s c objs K:=by
 refine Run.cons (s1:=put s o.dst av) (c1:=ju c o.dst b) ?_ k;rw[iJ]
 cases b with
 | true=>exact .run ho (iU hg) (.call hc (by rw[←eZ (by have:=g8 (s:=s) rfl hx;rw[hc]at this;exact this)];exact h) (hct rfl) he jG hno hi) (ez hd)
 | false=>
  rcases hb with hb|hb
  ·cases hb
  ·subst hb;exact .skip ho (iU hg) (ez hd)
theorem bA{i l}{o:Oper}{cl:Call}{f as ds q r av aj}(ho:ops[i]?=some o)(hg:o.guard=none)(hd:cP n o.dst=true)(hc:o.op = .call cl)
    (h:Got (c8 (bu s) cl) (some (f,as))) (he:Got (lI objs (fF P cl.argTypes.toList) as) (some (ds,q))) (hct:a9 P g f ds r) (hno:r.fp=true) (hi:Got (gj objs r) (some (av,aj)))
    (k:Run P g n ops hard l (put s o.dst av) allT aj K):Run P g n ops hard (i::l) s allT objs K:=by
 refine Run.cons (s1:=put s o.dst av) (c1:=allT) ?_ k;rw[cA,cA];exact .run ho (by simp[gA,hg]) (.call hc h hct he jG hno hi) (ez hd)
theorem az{i l}{o:Oper}{cl:Call}{f as av aj}(ho:ops[i]?=some o)(hg:o.guard=none)(hd:cP n o.dst=true)(hc:o.op = .call cl)
    (h:Got (c8 (bu s) cl) (some (f,as))) (hE:Enters P f) (hk:∀B S,a7 P g B S ⟨objs.length,true⟩ f as objs (fun a o=>a=av∧o=aj)) (hx:i∈hard∨∃l,aj=objs++l)
    (k:Run P g n ops hard l (put s o.dst av) allT aj K):Run P g n ops hard (i::l) s allT objs K:=by
 refine Run.cons (s1:=put s o.dst av) (c1:=allT) ?_ k;rw[cA,cA];exact .inl ho (by simp[gA,hg]) hc h hE hk hx (ez hd)
theorem dX{i l}{o:Oper}{cl:Call}{f as av aj}(ho:ops[i]?=some o)(hg:o.guard=none)(hd:cP n o.dst=true)(hc:o.op = .call cl)
    (h:Got (c8 (bu s) cl) (some (f,as))) (hE:Enters P f) (hs:zZ s) (hk:∀B S,a7 P g B S ⟨objs.length,false⟩ f as objs (fun a o=>a=av∧o=aj)) (hx:i+1000∈hard) (hz:ops.size≤1000)
    (k:Run P g n ops hard l (put s o.dst av) allT aj K):Run P g n ops hard (i::l) s allT objs K:=by
 refine Run.cons (s1:=put s o.dst av) (c1:=allT) ?_ k;rw[cA,cA];exact .x7 ho (by simp[gA,hg]) hc h hE hs hk hx hz (ez hd)
theorem cg{d:Option Tmp}{av:AV}(ha:av.fix=true)(hs:zZ s):zZ (put s d av):=fun j=>by
 cases d with
 | none=>exact hs j
 | some d=>simp only[put,upd];split;exact ha;exact hs j
def Ends(Q:Qt):(Nat→AV)→(Nat→Bool)→List Obj→Prop:=fun s c objs=>∃L,(∀j,slots L j = .dead∨slots L j=told s c j)∧Q .normal (slots L) objs
theorem Az{live:List Nat}(h:ld c live)(j:Nat):slots (eu s live) j = .dead∨slots (eu s live) j=told s c j:=by
 induction live with
 | nil=>exact .inl rfl
 | cons t ts ih=>
  simp only[ld]at h;simp only[eu,slots];split
  ·rename_i e;subst e;right;simp[told,h.1]
  ·exact ih h.2
theorem run_end(live:List Nat){L}(hc:ld c live)(hL:Got (eu s live) L)(h:Q .normal (slots L) objs):Run P g n ops hard [] s c objs (Ends Q):=
 jF ⟨L,fun j=>by rw[←(show _=L from hL)];exact Az hc j,h⟩
theorem eo.less{a:Act}{N:Nat→Prop}{s2}(h:eo n s a w S N gs)(hl:∀j,s2 j = .dead∨s2 j=s j):eo n s2 a w S N gs:=⟨h.size,h.defers,fun i=>by
  rcases hl i with e | e
  · rw [e]; exact .dead
  · rw [e]; exact h.rel i⟩
theorem Weak.kill{s2}(hl:∀j,s2 j = .dead∨s2 j=s j):Weak B S n fl s objs s2 objs:=fun w a gs om h1 h2 _=>⟨gs,om,h1,h2.less hl,(Ext.refl ..).take⟩
theorem kC{l s2}(hl:∀j,s2 j = .dead∨s2 j=s j)(h:WR P g B S n fl ops l s2 objs Q):WR P g B S n fl ops l s objs Q:=fun a w gs om h1 h2 h3 h4 h5=>h a w gs om h1 h2 h3 (h4.less hl) h5
theorem W.less{code Q1}(h:W P g B S n fl code s objs Q1)(hq:∀e s o,Q1 e s o→∃s2,(∀j,s2 j = .dead∨s2 j=s j)∧Q e s2 o):W P g B S n fl code s objs Q:=fun a w gs om h1 h2 h3 h4 h5=>
 wp_mono (h a w gs om h1 h2 h3 h4 h5) fun e a w2 ⟨s',o',gs',bz,q,m,f,x⟩=>by
  obtain⟨s2,hl,q2⟩:=hq _ _ _ q;exact⟨s2,o',gs',bz,q2,m,f.less hl,x⟩
theorem nW{l}(hl:Got (List.range ops.size) l):gW fl ops l:=fun _ i hi=>by
 rw[←(show _=l from hl)]at hi;simpa using hi
theorem gG{id l}(hkeep:fl.keep=false)(hard:List Nat)(hl:Got (List.range ops.size) l)(h:Run P g n ops hard l s allT objs (Ends Q)):W P g B S n fl (.region id ops false) s objs Q:=by
 obtain⟨s',c',o',t,L,h1,h2⟩:=h;rw[cA]at t;refine iw hl ?_;have:=la (B:=B) (S:=S) (fl:=fl) (l2:=[]) (Q:=Q) (fun q=>by rw[hkeep]at q;cases q) t (kC h1 (ja h2))
 rwa [List.append_nil]at this
theorem Bq{id l}(hl:Got (List.range ops.size) l)(h:Run P g n ops l l s allT objs (Ends Q)):W P g B S n fl (.region id ops false) s objs Q:=by
 obtain⟨s',c',o',t,L,h1,h2⟩:=h;rw[cA]at t;refine iw hl ?_;have:=la (B:=B) (S:=S) (fl:=fl) (l2:=[]) (Q:=Q) (nW hl) t (kC h1 (ja h2))
 rwa [List.append_nil]at this
theorem Dp{id}(hkeep:fl.keep=false)(hm:P.follows .mixedOrders=true)(hard:List Nat)(d:Nat)(l:List Nat)(ho:qx ops hard d l=true)(h:Run P g n ops hard l s allT objs (Ends Q)):W P g B S n fl (.region id ops true) s objs Q:=by
 obtain⟨s',c',o',t,L,h1,h2⟩:=h;rw[cA]at t;exact(Bp (Q:=fun e s o=>e = .normal∧s=told s' c'∧o=o') (fun q=>by rw[hkeep]at q;cases q) hm d ho t ⟨rfl,rfl,rfl⟩).less (fun e s o ⟨q1,q2,q3⟩=>by subst q1;subst q2;subst q3;exact⟨_,h1,h2⟩)
theorem aS{id}(hm:P.follows .mixedOrders=true)(hard:List Nat)(d:Nat)(l:List Nat)(ho:qx ops hard d l=true)(h:Run P g n ops hard l s allT objs (Ends Q))(hlt:∀i∈hard,i<1000:=by decide):W P g B S n fl (.region id ops true) s objs Q:=by
 obtain⟨s',c',o',t,L,h1,h2⟩:=h;rw[cA]at t;exact(Bp (Q:=fun e s o=>e = .normal∧s=told s' c'∧o=o') (fun _ i hi=>by have:=hlt _ hi;omega) hm d ho t ⟨rfl,rfl,rfl⟩).less (fun e s o ⟨q1,q2,q3⟩=>by subst q1;subst q2;subst q3;exact⟨_,h1,h2⟩)
end
end Go.aN
/- The walk over abstract states: ends of bodies, loops' rounds. Lemmas alone. -/
namespace Go.aN
open Go.RowKit Go.Lib
section
variable {P:Program} {g:Gl} {B:Nat} {S:Nat→Prop} {n:Nat} {fl:Fl} {w:World} {gs:List G1} {om:Nat→Option (Nat×Bool)} {s:Nat→AV} {c:Nat→Bool} {objs:List Obj} {Q:Qt} {ops:Array Oper}
theorem wU{code}:Then P g B S n fl code Q .normal s objs=(fl.n≤objs.length→W P g B S n fl code s objs Q):=rfl
theorem C0{code}:Then P g B S n fl code Q .ret s objs=Q .ret s objs:=rfl
theorem Bc{code i}:Then P g B S n fl code Q (.exit i) s objs=Q (.exit i) s objs:=rfl
theorem uE{i}:pB i Q .normal s objs=Q .normal s objs:=rfl
theorem At{i}:pB i Q .ret s objs=Q .ret s objs:=rfl
theorem x6{i}:pB i Q (.exit i) s objs=Q .normal s objs:=by simp[pB]
theorem aG{fn:Func}{r as d aj}(h1:Got (eU P s objs fn.results.toList) (some as))(h2:Got (cl objs (gT as)) (some (d,aj)))(h3:(qi (fF P fn.resultTypes.toList) d).1=r)(h4:r.dS=true):mN P fn r .ret s objs:=
 ⟨as,d,aj,h1,h2,h3,h4⟩
theorem xw{fn:Func}{r as d aj}(h1:Got (eU P s objs fn.results.toList) (some as))(h2:Got (cl objs (gT as)) (some (d,aj)))(h3:(qi (fF P fn.resultTypes.toList) d).1=r)(h4:r.dS=true):mN P fn r .normal s objs:=
 ⟨as,d,aj,h1,h2,h3,h4⟩
def Rounds(B:Nat)(S:Nat→Prop)(n:Nat)(fl:Fl)(I:Nat→(Nat→AV)→List Obj→Prop)(m:Nat)(Q:Qt):Qt:=fun e s' o'=>match e with
 | .normal=>∃m',m'<m∧∃s2 o2,Weak B S n fl s' o' s2 o2∧I m' s2 o2
 | e=>Q e s' o'
theorem aB{code}(I:Nat→(Nat→AV)→List Obj→Prop)(m0:Nat){s0 mG}(hw:Weak B S n fl s objs s0 mG)(h0:I m0 s0 mG)
    (round:∀m s objs,I m s objs→fl.n≤objs.length→W P g B S n fl code s objs (Rounds B S n fl I m Q)):W P g B S n fl (.loop code) s objs Q:=
 FC I m0 hw h0 fun m s o h1 h2=>(round m s o h1 h2).mono fun e s o h=>by cases e<;>exact h
theorem ae{I:Nat→(Nat→AV)→List Obj→Prop}{m m'}(hm:m'<m)(h:I m' s objs):Rounds B S n fl I m (fun _ _ _=>False) .normal s objs:=⟨m',hm,s,objs,Weak.refl,h⟩
theorem nt{live:List Nat}(j:Nat):slots (eu s live) j = .dead∨slots (eu s live) j=s j:=by
 induction live with
 | nil=>exact .inl rfl
 | cons t ts ih=>
  simp only[eu,slots];split
  ·rename_i e;subst e;exact .inr rfl
  ·exact ih
theorem ah(live:List Nat){I:Nat→(Nat→AV)→List Obj→Prop}{m}(h:Rounds B S n fl I m (fun _ _ _=>False) .normal (slots (eu s live)) objs):Rounds B S n fl I m (fun _ _ _=>False) .normal s objs:=by
 obtain⟨m',hm,s2,o2,hw,hI⟩:=h;exact⟨m',hm,s2,o2,fun w a gs om h1 h2 h3=>hw w a gs om h1 (h2.less nt) h3,hI⟩
theorem yF{I:Nat→(Nat→AV)→List Obj→Prop}{m}:Rounds B S n fl I m Q .ret s objs=Q .ret s objs:=rfl
theorem wJ{I:Nat→(Nat→AV)→List Obj→Prop}{m i}:Rounds B S n fl I m Q (.exit i) s objs=Q (.exit i) s objs:=rfl
@[simp] theorem cC{x}:qJ (.v x) = .d (.v x):=rfl
@[simp] theorem IE{m k xs}:qJ (.row m k xs) = .d (.row m k xs):=rfl
@[simp] theorem aO{cs}:qJ (.agg cs) = .agg (cs.map .d):=rfl
@[simp] theorem FQ{t x y:Bool}:(bif t then AV.d (.v (.bool x))else AV.d (.v (.bool y)))=AV.d (.v (.bool (bif t then x else y))):=by cases t<;>rfl
@[simp] theorem HP{t:Bool}{k x y}:(bif t then AV.d (.v (.int k x))else AV.d (.v (.int k y)))=AV.d (.v (.int k (bif t then x else y))):=by cases t<;>rfl
@[simp] theorem El{t:Bool}:(bif t then t else true)=true:=by cases t<;>rfl
@[simp] theorem FR{t:Bool}:(bif t then true else !t)=true:=by cases t<;>rfl
theorem wrap64{x:Int}(h1 : -9223372036854775808≤x)(h2:x<9223372036854775808):IntKind.i64.wrap x=x:=by
 simp only[IntKind.wrap,IntKind.bits,IntKind.signed];simp only[Bool.true_and];split<;>simp_all<;>omega
def nth{α:Type}[Inhabited α](l:List α)(i:Nat):α:=l.getD i default
theorem bC{α:Type}[Inhabited α]{l:List α}{i:Nat}(h:i<l.length):nth l i=l[i]:=by simp[nth,List.getD_eq_getElem?_getD,h]
theorem get_some{α:Type}{l:List α}{i:Nat}[Inhabited α](h:i<l.length):l[i]?=some (nth l i):=by
 rw[bC h];simp[h]
theorem ao{α β:Type}{f:α→β}{l:List α}{i:Nat}[Inhabited α](h:i<l.length):(l.map f)[i]?=some (f (nth l i)):=by
 rw[List.getElem?_map,get_some h];rfl
end
attribute [simp] slots put upd jg mR eu ld fb eM bu xm lR pS iS Ty.agg kK uk Bu qv Ca ft uI allT ju D.cells nD wU C0 Bc uE At x6 yF wJ CJ eU gT sk zB fE rd Op.operands Call.operands AV.int AV.bool AV.str
end Go.aN
/- The walk over abstract states: objects that nobody names any more are dropped. Lemmas alone. -/
namespace Go.aN
open Go.RowKit Go.Lib
mutual
def AV.lt(m:Nat):AV→Bool
 | .hdr r _ _=>decide (r<m)
 | .ptr r _ _=>decide (r<m)
 | .agg cs=>AV.wa m cs
 | .bK cs=>AV.wa m cs
 | .fn _ a b=>AV.wa m a&&AV.wa m b
 | .tH _ x=>x.lt m
 | _=>true
def AV.wa(m:Nat):List AV→Bool
 | []=>true
 | a::as=>a.lt m&&AV.wa m as
end
def Obj.lt(m:Nat):Obj→Bool
 | .var _ cs=>AV.wa m cs
 | .hole _ r' _ _=>decide (r'<m)
 | .dG _ r' _ _=>decide (r'<m)
 | .lp _ _ L _ _=>L.all fun p=>p.2.lt m
 | _=>true
def bE(m:Nat):List Obj→Bool
 | []=>true
 | o::os=>o.lt m&&bE m os
def mq(m:Nat):List (Nat×AV)→Bool
 | []=>true
 | (_,a)::l=>a.lt m&&mq m l
section
variable {P:Program} {g:Gl} {B:Nat} {S:Nat→Prop} {n:Nat} {fl:Fl} {w:World} {gs:List G1} {om:Nat→Option (Nat×Bool)} {s:Nat→AV} {objs:List Obj} {Q:Qt}
theorem eF{α:Type}{l:List α}{m r:Nat}{x:α}(h:l[r]?=some x)(hr:r<m):(l.take m)[r]?=some x:=by
 rw[List.getElem?_take,if_pos hr];exact h
mutual
theorem a8.take{N:Nat→Prop}{m:Nat}:∀ {a v},a8 w S N gs a v→a.lt m=true→a8 w S N (gs.take m) a v
 | _,_,.d h,_=>.d h
 | _,_,.hdr h1 h2 h3 h4 h5 h6,h=>.hdr (eF h1 (by simpa [AV.lt]using h)) h2 h3 h4 h5 h6
 | _,_,.fP h1 h2,h=>.fP (eF h1 (by simpa [AV.lt]using h)) h2
 | _,_,.gK,_=>.gK
 | _,_,.dU,_=>.dU
 | _,_,.cut h1 h2 h3 h4 h5 h6,_=>.cut h1 h2 h3 h4 h5 h6
 | _,_,.ptr h1 h2,h=>.ptr (eF h1 (by simpa [AV.lt]using h)) h2
 | _,_,.rp h1 h2 h3 h4 h5,_=>.rp h1 h2 h3 h4 h5
 | _,_,.agg h1,h=>.agg (aQ.takes h1 (by simpa [AV.lt]using h))
 | _,_,.bK h1,h=>.bK (aQ.takes h1 (by simpa [AV.lt]using h))
 | _,_,.fn h1 h2,h=>.fn (aQ.takes h1 (by simp[AV.lt]at h;exact h.1)) (aQ.takes h2 (by simp[AV.lt]at h;exact h.2))
 | _,_,.tH h1,h=>.tH (a8.take h1 (by simpa [AV.lt]using h))
 | _,_,.dead,_=>.dead
theorem aQ.takes{N:Nat→Prop}{m:Nat}:∀ {as vs},aQ w S N gs as vs→AV.wa m as=true→aQ w S N (gs.take m) as vs
 | _,_,.nil,_=>.nil
 | _,_,.cons h t,hh=>.cons (a8.take h (by simp[AV.wa]at hh;exact hh.1)) (aQ.takes t (by simp[AV.wa]at hh;exact hh.2))
end
theorem yp{m:Nat}{l:List Obj}{r:Nat}{o:Obj}(h:bE m l=true)(ho:l[r]?=some o):o.lt m=true:=by
 induction l generalizing r with
 | nil=>simp at ho
 | cons x l ih=>
  simp only[bE,Bool.and_eq_true]at h
  cases r with
  | zero=>simp at ho;subst ho;exact h.1
  | succ r=>exact ih h.2 (by simpa using ho)
theorem bm.take{m:Nat}(h:bm B w S objs gs om)(ho:bE m (objs.take m)=true):bm B w S (objs.take m) (gs.take m) om:=by
 refine⟨by simp[h.len],fun r o hr=>?_,h.hS,h.hB⟩
 have hrm:r<m:=by
  rcases Nat.lt_or_ge r m with h|h
  ·exact h
  ·rw[List.getElem?_take,if_neg (by omega)]at hr;cases hr
 have hlt:=yp ho hr;rw[List.getElem?_take,if_pos hrm]at hr
 have key:∀o,eA B w S gs om r o→o.lt m=true→eA B w S (gs.take m) om r o:=by
  intro o ho
  induction ho with
  | var hg hb hB ho hw hv=>exact fun hlt=>.var (eF hg hrm) hb hB ho hw (aQ.takes hv (by simpa [Obj.lt]using hlt))
  | row0 hg hk hb=>exact fun _=>.row0 (eF hg hrm) hk hb
  | row hg dP hb hB ho hw hc hn hk' hvs hv hF dT=>exact fun _=>.row (eF hg hrm) dP hb hB ho hw hc hn hk' hvs hv hF dT
  | hole ho hi hne hv ih=>exact fun hlt=>.hole (ih rfl) hi hne (a8.take hv (by simpa [Obj.lt,AV.lt]using hlt))
  | it hg hb hB ho hw=>exact fun _=>.it (eF hg hrm) hb hB ho hw
  | lp hg hb hB ho hw hs hv=>exact fun hlt=>.lp (eF hg hrm) hb hB ho hw hs (fun p hp=>a8.take (hv p hp) (List.all_eq_true.1 (by simpa only[Obj.lt]using hlt) p hp))
  | blk hg hb hB ho hw=>exact fun _=>.blk (eF hg hrm) hb hB ho hw
  | kf hg hk hb=>exact fun _=>.kf (eF hg hrm) hk hb
  | nest hg dP hb hB ho hw hc hn hvs hv hF dT=>exact fun _=>.nest (eF hg hrm) dP hb hB ho hw hc hn hvs hv hF dT
  | dG ho hi hne hv ih=>exact fun hlt=>.dG (ih rfl) hi hne (a8.take hv (by simpa [Obj.lt,AV.lt]using hlt))
  | jW hg hk hb hz=>exact fun _=>.jW (eF hg hrm) hk hb hz
  | grow hg dP hb hB ho hw hc hgc hn hvs=>exact fun _=>.grow (eF hg hrm) dP hb hB ho hw hc hgc hn hvs
  | dead=>exact fun _=>.dead
 exact key o (h.obj r o hr) hlt
theorem wN{m:Nat}{L:List (Nat×AV)}(h:mq m L=true)(j:Nat):(slots L j).lt m=true:=by
 induction L with
 | nil=>rfl
 | cons p L ih=>
  obtain⟨i,a⟩:=p;simp only[mq,Bool.and_eq_true]at h;simp only[slots];split
  ·exact h.1
  ·exact ih h.2
theorem iO.yV{m:Nat}(hm:fl.n≤m):iO fl B w gs om w (gs.take m) om:=
 ⟨by rw[show gs.take fl.n=(gs.take m).take fl.n by rw[List.take_take];congr 1;omega];exact List.take_prefix _ _,.refl _ _,fun _ _ h=>⟨h,rfl⟩⟩
theorem Weak.drop{m:Nat}(live:List Nat)(hm:fl.n≤m)(hs:mq m (eu s live)=true)(ho:bE m (objs.take m)=true):Weak B S n fl s objs (slots (eu s live)) (objs.take m):=fun w a gs om h1 h2 _=>
 ⟨gs.take m,om,h1.take ho,⟨h2.size,h2.defers,fun i=>by
   rcases nt (s := s) (live := live) i with e | e
   · rw [e]; exact .dead
   · have := wN hs i
     rw [e] at this ⊢
     exact a8.take (h2.rel i) this⟩, .yV hm⟩
theorem Weak.trans{s1 o1 s2 o2}(h:Weak B S n fl s objs s1 o1)(k:Weak B S n fl s1 o1 s2 o2)(hl:∀(w:World) gs om,bm B w S o1 gs om→fl.n≤gs.length→fl.n≤o1.length):Weak B S n fl s objs s2 o2:=fun w a gs om h1 h2 h3=>by
 obtain⟨gs1,AF,m1,f1,x1⟩:=h w a gs om h1 h2 h3;have hg:fl.n≤gs.length:=by rw[h1.len];exact h3
 obtain⟨gs2,lB,m2,f2,x2⟩:=k w a gs1 AF m1 f1 (by rw[←m1.len];exact x1.len hg);exact⟨gs2,lB,m2,f2,x1.dM x2 hg⟩
theorem aq(m1:Nat)(live:List Nat){I:Nat→(Nat→AV)→List Obj→Prop}{m}(hm:fl.n≤m1)(hs:mq m1 (eu s live)=true)(ho:bE m1 (objs.take m1)=true)
    (h:Rounds B S n fl I m (fun _ _ _=>False) .normal (slots (eu s live)) (objs.take m1)):Rounds B S n fl I m (fun _ _ _=>False) .normal s objs:=by
 obtain⟨m',hm',s2,o2,hw,hI⟩:=h;exact⟨m',hm',s2,o2,(Weak.drop live hm hs ho).trans hw (fun w gs om h1 h2=>by rw[←h1.len];exact h2),hI⟩
def qC(P:Program)(fn:Func)(fl:Nat)(av:AV)(aj:List Obj):Qt:=fun e s objs=>match e with
 | .normal | .ret=>∃as,eU P s objs fn.results.toList=some as∧gT as=av∧(aj=objs∨∃m,aj=objs.take m∧fl≤m∧av.lt m=true∧bE m (objs.take m)=true)
 | _=>False
theorem aL{kp:Bool}{fn code f as av aj}(hf:P.funcs[f]?=some fn)(hb:fn.body=some code)(hn:as.length≤fn.ntmps)(h:∀B S,W P g B S fn.ntmps ⟨objs.length,kp⟩ code (nD as) objs (qC P fn objs.length av aj)) :
    ∀B S,a7 P g B S ⟨objs.length,kp⟩ f as objs (fun a o=>a=av∧o=aj):=by
 intro B S vs w gs om h1 h2 h3 h4 h5
 have fin:∀(s':Nat→AV) (aZ:List Obj) gs' bz a w',(∃as,eU P s' aZ fn.results.toList=some as∧gT as=av∧(aj=aZ∨∃m,aj=aZ.take m∧objs.length≤m∧av.lt m=true∧bE m (aZ.take m)=true)) →
     bm B w' S aZ gs' bz→eo fn.ntmps s' a w' S (Inner B w' bz) gs'→iO ⟨objs.length,kp⟩ B w gs om w' gs' bz →
     a.defers=[]∧∃v,(results fn a.tmps).run P w' = .ok v w'∧∃v' Da o' gs2 lB,Ending.returned v = .returned v'∧(Da=av∧o'=aj)∧bm B w' S o' gs2 lB∧a8 w' S (Inner B w' lB) gs2 Da v'∧iO ⟨objs.length,kp⟩ B w gs om w' gs2 lB:=by
  rintro s' aZ gs' bz a w' ⟨as',hr,hK,hm⟩ m fr x;obtain⟨v,r1,r2⟩:=jP m fr hr;rw[hK]at r2;rcases hm with rfl|⟨q,rfl,e1,e2,e3⟩
  ·exact⟨fr.defers,v,r1,v,av,_,gs',bz,rfl,⟨rfl,rfl⟩,m,r2,x⟩
  ·refine⟨fr.defers,v,r1,v,av,_,gs'.take q,bz,rfl,⟨rfl,rfl⟩,m.take e3,a8.take r2 e2,x.dM (gs1:=gs') (.yV e1) (by rw[h3.len];exact Nat.le_refl _)⟩
 refine calls_of_wp hf hb (wp_mono (h B S _ w gs om h1 h2 h3 (.init h4 hn) (Nat.le_refl _)) ?_);rintro e a w' ⟨s',aZ,gs',bz,q,m,fr,x⟩
 cases e with
 | normal=>exact fin s' aZ gs' bz a w' q m fr x
 | ret=>exact fin s' aZ gs' bz a w' q m fr x
 | _=>exact q.elim
theorem al{fl:Nat}{fn:Func}{as av aj}(h1:Got (eU P s objs fn.results.toList) (some as))(h2:gT as=av)(h3:aj=objs):qC P fn fl av aj .ret s objs:=⟨as,h1,h2,.inl h3⟩
theorem aK{fl:Nat}{fn:Func}{as av aj}(m:Nat)(h1:Got (eU P s objs fn.results.toList) (some as))(h2:gT as=av)(h3:aj=objs.take m)(h4:fl≤m)(h5:av.lt m=true)(h6:bE m (objs.take m)=true):qC P fn fl av aj .ret s objs:=
 ⟨as,h1,h2,.inr ⟨m,h3,h4,h5,h6⟩⟩
end
attribute [simp] AV.lt AV.wa bE mq
section
variable {m:Nat}
@[simp] theorem Nt{T cs}:Obj.lt m (.var T cs)=AV.wa m cs:=rfl
@[simp] theorem Ns{k xs}:Obj.lt m (.row k xs)=true:=rfl
@[simp] theorem Oj{s p}:Obj.lt m (.it s p)=true:=rfl
@[simp] theorem LF{i r' l xs}:Obj.lt m (.hole i r' l xs)=decide (r'<m):=rfl
@[simp] theorem Ol{l c L st p}:Obj.lt m (.lp l c L st p)=L.all fun p=>p.2.lt m:=rfl
@[simp] theorem LG{L}:Obj.lt m (.nest L)=true:=rfl
@[simp] theorem KX{i r' l L}:Obj.lt m (.dG i r' l L)=decide (r'<m):=rfl
@[simp] theorem LD{c zs}:Obj.lt m (.grow c zs)=true:=rfl
@[simp] theorem Nr{b}:Obj.lt m (.blk b)=true:=rfl
@[simp] theorem LC:Obj.lt m .dead=true:=rfl
end
end Go.aN
/- Rows of data by an encoding of their elements. Lemmas alone. -/
namespace Go.aN
open Go.RowKit Go.Lib
section
variable {α:Type}
def rows(k:Nat)(f:α→D)(l:List α):D:=.row .ro k (l.map f)
def ai(k:Nat)(f:α→D)(l:List α):D:=.row .own k (l.map f)
theorem au{k:Nat}{f:α→D}{l:List α}:D.row .ro k (l.map f)=rows k f l:=rfl
@[simp] theorem Io{k:Nat}{f:α→D}{l:List α}(h:∀x,(f x).cF=f x):(rows k f l).cF=rows k f l:=by
 unfold rows;rw[dO,List.map_map];congr 1;exact List.map_congr_left fun x _=>h x
@[simp] theorem Ft{q}{k:Nat}{f:α→D}{l:List α}:jo q (rows k f l)=rows k f l:=by unfold jo rows;cases q<;>rfl
@[simp] theorem Fs{d:D}:jo none d=d:=rfl
@[simp] theorem Hx{k}:jo (some k) (.v (.slice none 0 0)) = .row .ro k []:=rfl
@[simp] theorem Hy{q m k xs}:jo q (.row m k xs) = .row m k xs:=by unfold jo;cases q<;>rfl
@[simp] theorem H7{k:Nat}{f:α→D}{l:List α}(h:∀x,(f x).fp=true):(ai k f l).fp=true:=by
 unfold ai;rw[oa];simp[h]
@[simp] theorem Ie{k:Nat}{f:α→D}{l:List α}(h:∀x,(f x).dS=true):(ai k f l).dS=true:=by
 unfold ai;rw[lX];simp[h]
@[simp] theorem HN{k:Nat}{f:α→D}{l:List α}:qJ (rows k f l) = .d (rows k f l):=rfl
@[simp] theorem HW{k:Nat}{f:α→D}{l:List α}{objs:List Obj}:gj objs (ai k f l)=some (.hdr objs.length 0 l.length,objs++[.row k (l.map f)]):=by unfold ai gj;simp
@[simp high] theorem FP{k:Nat}{f:α→D}{l:List α}:(rows k f l).cells=[rows k f l]:=rfl
@[simp high] theorem KW{P:Program}{objs:List Obj}{t:TypeId}{k:Nat}{f:α→D}{l:List α}:ft P objs .len [t] [.d (rows k f l)]=(match ty P t with
    | some T => match T.k with
      | .slice _ => some (.int .i64 l.length, objs)
      | _ => none
    | none => none) := by
 unfold rows ft;simp only[uI]
 cases ty P t with
 | none=>rfl
 | some T=>
  simp only;cases T.k<;>simp
@[simp high] theorem GZ[Inhabited α]{P:Program}{objs:List Obj}{t:TypeId}{k:Nat}{f:α→D}{l:List α}{i:Int}:cL P objs t (.d (rows k f l)) i=(match ty P t with
    | some { k := .slice e, .. } => match ty P e with
      | some T => if k = T.size ∧ 0 ≤ i ∧ i < l.length then some (.rp (f (nth l i.toNat)).cells 0) else none
      | none => none
    | _ => none) := by
 unfold rows cL
 cases ty P t with
 | none=>rfl
 | some T=>
  obtain⟨sz,by',K,z⟩:=T
  cases K with
  | slice e=>
   simp only
   cases ty P e with
   | none=>rfl
   | some T=>
    simp only[List.length_map];split
    ·rename_i hc;rw[ao (by omega)];rfl
    ·rfl
  | array m e=>simp only;cases ty P e<;>rfl
  | _=>rfl
@[simp] theorem HX{P:Program}{objs:List Obj}{t:TypeId}{r off len:Nat}{i:Int}:cL P objs t (.hdr r off len) i=(match ty P t with
    | some { k := .slice e, .. } => match ty P e with
      | some T => match objs[r]? with
        | some (.row k _) => if k = T.size ∧ 0 ≤ i ∧ i < len then some (.ptr r (off + i.toNat) 0) else none
        | some (.hole ..) => if 1 = T.size ∧ 0 ≤ i ∧ i < len then some (.ptr r (off + i.toNat) 0) else none
        | some (.dG ..) => if 1 = T.size ∧ 0 ≤ i ∧ i < len then some (.ptr r (off + i.toNat) 0) else none
        | some (.grow ..) => if 1 = T.size ∧ 0 ≤ i ∧ i < len then some (.ptr r (off + i.toNat) 0) else none
        | _ => none
      | none => none
    | _ => none) := by
 unfold cL
 cases ty P t with
 | none=>rfl
 | some T=>
  obtain⟨sz,by',K,z⟩:=T
  cases K with
  | array m e=>simp only;cases ty P e<;>rfl
  | _=>rfl
@[simp high] theorem HA{P:Program}{objs:List Obj}{t:TypeId}{k:Nat}{f:α→D}{l:List α}{lo hi:Option Int}:ie P objs t (.d (rows k f l)) lo hi none=(match ty P t with
    | some { k := .slice e, .. } => match ty P e with
      | some T => if k = T.size ∧ 0 ≤ lo.getD 0 ∧ lo.getD 0 ≤ hi.getD l.length ∧ hi.getD l.length ≤ l.length then some (.d (rows k f ((l.drop (lo.getD 0).toNat).take ((hi.getD l.length).toNat - (lo.getD 0).toNat)))) else none
      | none => none
    | _ => none) := by
 unfold rows ie
 cases ty P t with
 | none=>rfl
 | some T=>
  obtain⟨sz,by',K,z⟩:=T
  cases K with
  | slice e=>
   simp only
   cases ty P e with
   | none=>rfl
   | some T=>simp only[List.length_map,List.map_take,List.map_drop]
  | _=>rfl
@[simp] theorem Fd{k:Nat}{f:α→D}{l:List α}:AV.aX (.d (rows k f l))=true:=rfl
end
section
variable {P:Program} {g:Gl} {B:Nat} {S:Nat→Prop} {n:Nat} {fl:Fl} {w:World} {gs:List G1} {om:Nat→Option (Nat×Bool)} {s:Nat→AV} {objs:List Obj} {Q:Qt} {ops:Array Oper}
def rowLen:AV→Option Nat
 | .d (.v (.slice none 0 0))=>some 0
 | .d (.row _ _ xs)=>some xs.length
 | .cut _ xs=>some xs.length
 | .hdr _ _ len=>some len
 | _=>none
theorem yG{N:Nat→Prop}{x v len}(hx:a8 w S N gs x v)(h:rowLen x=some len):∃a c,v = .slice a len c∧(a=none→len=0):=by
 unfold rowLen at h;split at h
 ·cases h;cases hx with|d hx=>cases hx;exact⟨none,0,rfl,fun _=>rfl⟩
 ·cases h
  cases hx with
  | d hx=>
   cases hx with
   | nil=>exact⟨none,0,rfl,fun _=>rfl⟩
   | empty=>exact⟨_,_,rfl,fun _=>rfl⟩
   | old=>exact⟨_,_,rfl,by simp⟩
 ·cases h
  cases hx with
  | gK=>exact⟨none,0,rfl,fun _=>rfl⟩
  | dU=>exact⟨_,_,rfl,fun _=>rfl⟩
  | cut=>exact⟨_,_,rfl,by simp⟩
 ·cases h
  cases hx with
  | hdr=>exact⟨_,_,rfl,by simp⟩
  | fP=>exact⟨none,0,rfl,fun _=>rfl⟩
 ·cases h
theorem iZ{i l}{o:Oper}{op t x yt len}(ho:ops[i]?=some o)(hg:o.guard=none)(hop:o.op = .binOp op t x (.const (.slice none 0 0)) yt)(h2:op = .eql∨op = .neq)(hd:cP n o.dst=true)
    (ht:∃e,P.underlying t=some (.slice e)) (hx:rowLen (bu s x)=some len)
    (hk:∀b:Bool,(b=true→len=0)→WR P g B S n fl ops l (put s o.dst (.d (.v (.bool (if op = .eql then b else !b))))) objs Q):WR P g B S n fl ops (i::l) s objs Q:=fun a w gs om h1 h2' h3 h4 h5=>by
 obtain⟨e,he⟩:=ht;obtain⟨ad,c,hv,hn⟩:=yG (eB h4 x) hx;have hk:=hk ad.isNone (fun q=>hn (by simpa using q)) _ w gs om h1 h2' h3 (eo.put h4 (.d (.v rfl)) (ez hd)) h5;simp only[wpOps,ho];rw[if_pos (by unfold Region.wanted;rw[hg])];left;unfold Oper.wp
 have e1:(execOp a.eval o).run P w = .ok (.value (.bool (if op = .eql then ad.isNone else !ad.isNone))) w:=by
  have:execOp a.eval o=(do pure (Next.value (←(do eqGuard op t x (.const (.slice none 0 0)) (a.eval x) (.slice none 0 0);binOp op t (a.eval x) (.slice none 0 0):Sem Value))):Sem Next):=by
   obtain⟨dst,op',ty',pos,after,guard⟩:=o;simp only at hop;subst hop;rfl
  rw[this,hv];rcases h2 with rfl|rfl
  ·simp[eqGuard,binOp,run_equal_slice_nil w t e ad len c he]
  ·simp[eqGuard,run_neq_slice_nil w t e ad len c he]
 rw[e1];exact hk
theorem oG{l}{hard}(h:Run P g n ops hard l s allT objs (Ends Q))(hlt:∀i∈hard,i<1000:=by decide):WR P g B S n fl ops l s objs Q:=by
 obtain⟨s',c',o',t,L,h1,h2⟩:=h;rw[cA]at t;have:=la (B:=B) (S:=S) (fl:=fl) (l2:=[]) (Q:=Q) (fun _ i hi=>by have:=hlt _ hi;omega) t (kC h1 (ja h2))
 rwa [List.append_nil]at this
theorem oF(l1 l2:List Nat){hard}(h:Run P g n ops hard l1 s allT objs (Ends fun e s o=>WR P g B S n fl ops l2 s o Q))(hlt:∀i∈hard,i<1000:=by decide):WR P g B S n fl ops (l1++l2) s objs Q:=by
 obtain⟨s',c',o',t,L,h1,h2⟩:=h;rw[cA]at t;exact la (B:=B) (S:=S) (fl:=fl) (l2:=l2) (Q:=Q) (fun _ i hi=>by have:=hlt _ hi;omega) t (kC h1 h2)
@[simp] theorem Fr{α:Type}{k:Nat}{f:α→D}{l:List α}:rowLen (.d (rows k f l))=some l.length:=by simp[rowLen,rows]
end
attribute [simp] gp ot Hj lV rU Cq lW wi
end Go.aN
/- The walk over abstract states: an inner row taken out and put back; calls in place that may write into inner rows. Lemmas alone. -/
namespace Go.aN
open Go.RowKit Go.Lib
def Obj.fix:Obj→Bool
 | .var _ cs=>AV.ri cs
 | .row _ xs=>xs.all D.dS
 | .hole _ _ _ xs=>xs.all D.dS
 | .lp _ _ L _ _=>L.all fun p=>p.2.fix
 | _=>true
def dA:List Obj→Bool
 | []=>true
 | o::os=>o.fix&&dA os
def jq:List (Nat×AV)→Bool
 | []=>true
 | (_,a)::l=>a.fix&&jq l
theorem lY{l:List Obj}{r:Nat}{o:Obj}(h:dA l=true)(ho:l[r]?=some o):o.fix=true:=by
 induction l generalizing r with
 | nil=>simp at ho
 | cons x l ih=>
  simp only[dA,Bool.and_eq_true]at h
  cases r with
  | zero=>simp at ho;subst ho;exact h.1
  | succ r=>exact ih h.2 (by simpa using ho)
theorem kY{L:List (Nat×AV)}(h:jq L=true)(j:Nat):(slots L j).fix=true:=by
 induction L with
 | nil=>rfl
 | cons p L ih=>
  obtain⟨i,a⟩:=p;simp only[jq,Bool.and_eq_true]at h;simp only[slots];split
  ·exact h.1
  ·exact ih h.2
theorem cT{L:List (Nat×AV)}(h:jq L=true):zZ (slots L):=fun j=>kY h j
section
variable {P:Program} {g:Gl} {B:Nat} {S:Nat→Prop} {n:Nat} {fl:Fl} {w:World} {gs:List G1} {om:Nat→Option (Nat×Bool)} {s:Nat→AV} {objs:List Obj} {Q:Qt} {ops:Array Oper}
theorem pc{xs:List D}(h:xs.all D.dS=true):(flat xs).all D.dS=true:=by
 rw[List.all_eq_true]at h ⊢;intro c hc;obtain⟨x,hx,hc⟩:=List.mem_flatMap.1 hc;have:=h x hx
 cases x with
 | agg cs=>rw[lW]at this;exact List.all_eq_true.1 this c hc
 | _=>simp[D.cells]at hc;subst hc;exact this
theorem wh{xs:List D}(h:xs.all D.dS=true){i:Nat}{v:Value}:(xs.set i (.v v)).all D.dS=true:=by
 rw[List.all_eq_true]at h ⊢;intro x hx;rcases List.mem_or_eq_of_mem_set hx with hx|rfl
 ·exact h x hx
 ·exact Cq _
theorem eA.gV{r o}{bz:Nat→Option (Nat×Bool)}{gs':List G1}(hg:gs <+: gs')(ho:eA B w S gs om r o)(hf:o.fix=true)(hk:∀b c,om b=some (r,c)→bz b=some (r,c)):eA B w S gs' bz r o:=by
 induction ho with
 | var h1 hb hB ho hw hv=>exact .var (dj hg h1) hb hB (hk _ _ ho) hw (aQ.gV (fun _ _=>rfl) hg hv (by simpa [Obj.fix]using hf))
 | row0 h1 hk hb=>exact .row0 (dj hg h1) hk hb
 | row h1 dP hb hB ho hw hc hn hk' hvs hv hF dT=>
  exact .row (dj hg h1) dP hb hB (hk _ _ ho) hw hc hn hk' hvs (aW.ku hv (pc (by simpa [Obj.fix]using hf))) hF (fun b hb=>⟨(dT b hb).1,(dT b hb).2.1,hk _ _ (dT b hb).2.2⟩)
 | hole _ hi hne hv ih=>exact .hole (ih (by simp only[Obj.fix]at hf ⊢;exact wh hf)) hi hne (a8.gV (fun _ _=>rfl) hg hv rfl)
 | it h1 hb hB ho hw=>exact .it (dj hg h1) hb hB (hk _ _ ho) hw
 | lp h1 hb hB ho hw hs hv=>exact .lp (dj hg h1) hb hB (hk _ _ ho) hw hs (fun p hp=>a8.gV (fun _ _=>rfl) hg (hv p hp) (List.all_eq_true.1 (by simpa only[Obj.fix]using hf) p hp))
 | blk h1 hb hB ho hw=>exact .blk (dj hg h1) hb hB (hk _ _ ho) hw
 | kf h1 hk' hb=>exact .kf (dj hg h1) hk' hb
 | nest h1 dP hb hB ho hw hc hn hvs hv hF dT=>
  exact .nest (dj hg h1) dP hb hB (hk _ _ ho) hw hc hn hvs hv hF (fun b hb=>⟨(dT b hb).1,(dT b hb).2.1,hk _ _ (dT b hb).2.2⟩)
 | dG _ hi hne hv ih=>exact .dG (ih rfl) hi hne (a8.gV (fun _ _=>rfl) hg hv rfl)
 | jW h1 hk' hb hz=>exact .jW (dj hg h1) hk' hb hz
 | grow h1 dP hb hB ho hw hc hgc hn hvs=>exact .grow (dj hg h1) dP hb hB (hk _ _ ho) hw hc hgc hn hvs
 | dead=>exact .dead
theorem t6{N:Nat→Prop}{xs:List D}{vs F}{i:Nat}{x:D}(hk:∀x∈xs,Fits 1 x)(hx:xs[i]?=some x)(h:aW w S N (flat xs) vs F) :
    ∃vs1 v vs2 F1 Fx F2,vs=vs1++v::vs2∧F=F1++(Fx++F2)∧aW w S N (flat (xs.take i)) vs1 F1∧aW w S N x.cells [v] Fx∧aW w S N (flat (xs.drop (i+1))) vs2 F2:=by
 have hi:i<xs.length:=(List.getElem?_eq_some_iff.1 hx).1;have hxe:xs[i]=x:=(List.getElem?_eq_some_iff.1 hx).2;have e:xs=xs.take i++x::xs.drop (i+1):=by rw[←hxe];simp
 have e2:flat xs=flat (xs.take i)++(x.cells++flat (xs.drop (i+1))):=by
  conv=>lhs;rw[e]
  simp[flat]
 rw[e2]at h;obtain⟨F1,F2,rfl,h1,h2⟩:=h.split;obtain⟨F3,F4,rfl,h3,h4⟩:=h2.split;have hc1:x.cells.length=1:=(hk x (List.mem_of_getElem? hx)).1;have hl3:=h3.length;rw[hc1]at hl3 h3 h4;obtain⟨v,hv⟩:=List.length_eq_one_iff.1 hl3.symm;rw[hv]at h3;refine⟨_,v,_,F1,F3,F4,?_,rfl,h1,h3,h4⟩;have a1:=List.take_append_drop (flat (xs.take i)).length vs;have a2:=List.take_append_drop 1 (vs.drop (flat (xs.take i)).length);rw[hv]at a2
 conv=>lhs;rw[←a1,←a2]
 simp
theorem oT{xs:List D}{i:Nat}{x:D}(hi:i<xs.length):flat (xs.set i x)=flat (xs.take i)++(x.cells++flat (xs.drop (i+1))):=by
 rw[List.set_eq_take_append_cons_drop,if_pos hi];simp[flat]
theorem yM{N:Nat→Prop}{m k ys v F}(h:cb w S N (.row m k ys) v F):v.oneCell'=true:=by cases h<;>rfl
theorem vF{xs:List D}(hk:∀x∈xs,Fits 1 x){i:Nat}{x:D}(hc:x.aX=true):∀y∈xs.set i x,Fits 1 y:=by
 intro y hy;rcases List.mem_or_eq_of_mem_set hy with hy|rfl
 ·exact hk y hy
 ·cases y<;>simp[D.aX]at hc<;>exact⟨rfl,by simp[D.cells,D.aX]⟩
theorem Weak.open{L:List (Nat×AV)}(r i:Nat){k:Nat}{xs ys:List D}(hkeep:fl.keep=false)(hr:objs[r]?=some (.row 1 xs))(hx:xs[i]?=some (.row .own k ys))(hs:jq L=true)(hf:dA objs=true){len:Nat}(hlen:len=ys.length) :
    Weak B S n fl (slots L) objs (slots L) (objs.set r (.hole i objs.length len xs)++[.row k ys]):=fun w a gs om hM hF B1=>by
 subst hlen;have hi:i<xs.length:=(List.getElem?_eq_some_iff.1 hx).1;have hrl:r<objs.length:=(List.getElem?_eq_some_iff.1 hr).1;have hfr:=lY hf hr;simp only[Obj.fix]at hfr;have hxn:(D.row .own k ys).dS=true:=List.all_eq_true.1 hfr _ (List.mem_of_getElem? hx);have hyn:ys.all D.dS=true:=by rw[lX]at hxn;simp at hxn;simpa using hxn
 cases hM.obj r _ hr with
 | row0=>simp at hx
 | @row T _ _ g' b cur vs F hg dP hb hB ho hw hc hn hk hvs hl hFn dT=>
  obtain⟨vs1,v,vs2,F1,Fx,F2,e1,e2,h1,h2,h3⟩:=t6 hk hx hl;subst e2
  have h2:cb w S (Inner B w om) (.row .own k ys) v Fx:=by
   simp only[D.cells]at h2;generalize hq:Fx=Fy at h2;cases h2 with|@cons _ _ F0 _ _ G0 a t=>cases t;simpa [hq]using a
  have hone:=yM h2
  -- the marks
  obtain⟨bz,gn,hgn,hmk,hrow,Gw⟩:∃(bz:Nat→Option (Nat×Bool)) (gn:G1),True∧(∀x,bz x=om x∨(x∈Fx∧om x=some (r,false))) ∧
      (∀lB,lB=bz→eA B w S (gs++[gn]) lB objs.length (.row k ys))∧(∀N,a8 w S N (gs++[gn]) (.hdr objs.length 0 ys.length) v):=by
   cases h2 with
   | nil=>exact⟨om,⟨none,k,0⟩,trivial,fun x=>.inl rfl,fun lB _=>.row0 (cY _ _ hM.len) rfl rfl,fun N=>.fP (cY _ _ hM.len) rfl⟩
   | empty hm=>exact absurd rfl hm
   | old hm=>exact absurd rfl hm
   | @own _ _ b' c cur' T' vs' F' hb' hc' hn' hm' hk' DQ h'=>
    have hin:∀x∈b'::F',B≤x∧x<w.heap.size∧om x=some (r,false):=fun x hx=>dT x (by simp at hx ⊢;rcases hx with hx|hx<;>simp[hx])
    have hnd:(b'::F').Nodup:=by
     have:=hFn;simp only[List.nodup_append]at this;exact this.2.1.1
    refine⟨mark (mark om F' (objs.length,false)) [b'] (objs.length,true),⟨some b',k,c*k⟩,trivial,fun x=>?_,?_,fun N=>?_⟩
    ·by_cases hx1:x∈b'::F'
     ·exact .inr ⟨hx1,(hin x hx1).2.2⟩
     ·left;rw[bS (by simp at hx1 ⊢;exact hx1.1),bS (by simp at hx1;exact hx1.2)]
    ·rintro lB rfl;refine .row (F:=F') (cY _ _ hM.len) rfl rfl (hin b' (by simp)).1 (da (by simp)) hb' hc' (Nat.mul_le_mul_right _ hn') hk' DQ (aW.ku h' (pc hyn)) (List.nodup_cons.1 hnd).2 fun x hx=>⟨(hin x (by simp[hx])).1,(hin x (by simp[hx])).2.1,?_⟩
     rw[bS (by simp;rintro rfl;exact(List.nodup_cons.1 hnd).1 hx),da hx]
    ·exact .hdr (cY _ _ hM.len) rfl (by simp) (.inl (by simp)) hn' hm'
  have hpre:gs <+: gs++[gn]:=List.prefix_append _ _
  have hoth:∀(r1:Nat),r1≠r→∀b c,om b=some (r1,c)→bz b=some (r1,c):=fun r1 hne b c hb=>by
   rcases hmk b with e|⟨_,e⟩
   ·rw[e];exact hb
   ·rw[hb]at e;simp at e;exact absurd e.1 hne
  have B3:∀x,x∉Fx→bz x=om x:=fun x hx=>(hmk x).resolve_right (fun h=>hx h.1)
  have Gv:∀x∈F1++([]++F2),x∉Fx:=by
   intro x hx hx2;simp only[List.nodup_append,List.mem_append]at hFn;simp at hx;rcases hx with hx|hx
   ·exact hFn.2.2 x hx x (.inl hx2) rfl
   ·exact hFn.2.1.2.2 x hx2 x hx rfl
  have hbx:b∉Fx:=fun hx=>by have:=(dT b (by simp[hx])).2.2;rw[ho]at this;simp at this
  refine⟨gs++[gn],bz,⟨by simp[hM.len],fun r1 o1 h1'=>?_,hM.hS,hM.hB⟩,⟨hF.size,hF.defers,fun j=>a8.gV (fun _ _=>rfl) hpre (hF.rel j) (kY hs j)⟩,⟨(List.take_prefix _ _).trans hpre,.refl _ _,fun hk=>by rw[hkeep]at hk;cases hk⟩⟩;rcases eC _ _ _ _ h1' with h1'|⟨rfl,rfl⟩
  ·rcases eg h1' with ⟨rfl,rfl⟩|⟨hne,h1'⟩
   ·refine .hole (v:=v) ?_ hi (by omega) (Gw _);refine .row (F:=F1++([]++F2)) (dj hpre hg) dP hb hB (by rw[B3 _ hbx];exact ho) hw hc (by simpa using hn) (vF hk rfl) rfl ?_ ?_ ?_
    ·rw[List.length_set,←hvs,e1,oT hi];have:=(aW.append h1 (aW.append (aW.cons (.v hone) .nil) h3))
     have hall:(flat (xs.take i)++((D.v v).cells++flat (xs.drop (i+1)))).all D.dS=true:=by
      have:=pc (wh hfr (i:=i) (v:=v))
      rwa [oT hi]at this
     exact aW.ku (by simpa [D.cells]using this) hall
    ·have:=hFn;simp only[List.nodup_append,List.nil_append,List.mem_append]at this ⊢;exact⟨this.1,this.2.1.2.1,fun x hx y hy=>this.2.2 x hx y (.inr hy)⟩
    ·intro x hx;have hm:x∈F1++(Fx++F2):=by simp at hx ⊢;rcases hx with hx|hx<;>simp[hx]
     exact⟨(dT x hm).1,(dT x hm).2.1,by rw[B3 _ (Gv x hx)];exact(dT x hm).2.2⟩
   ·exact eA.gV hpre (hM.obj r1 o1 h1') (lY hf h1') (hoth r1 hne)
  ·have hlen':(objs.set r (.hole i objs.length ys.length xs)).length=objs.length:=by simp
   rw[hlen'];exact hrow _ rfl
theorem Weak.close(r:Nat){i r' len k:Nat}{xs ys:List D}(hr:objs[r]?=some (.hole i r' len xs))(hr':objs[r']?=some (.row k ys))(hl:len=ys.length) :
    Weak B S n fl s objs s ((objs.set r (.row 1 (xs.set i (.row .own k ys)))).set r' .dead):=fun w a gs om hM hF hlen=>by
 subst hl
 cases hM.obj r _ hr with
 | @hole _ _ _ _ v ho hi hne hv=>
  obtain⟨G,hd,ht⟩:=hM.Lk hr' hv
  have MR:∀b∈G,om b≠some (r,false)∧om b≠some (r,true)∧∃c,om b=some (r',c):=fun b hb=>by
   obtain⟨_,_,r1,c,h1,⟨k1,xs1,h2⟩,h3⟩:=ht.src b hb
   have e:r1=r':=by
    rcases Nat.decEq r1 r' with h|h
    ·rw[List.getElem?_set_ne (fun e=>h e.symm)]at h3;rw[h2]at h3;simp at h3
    ·exact h
   subst e;exact⟨by rw[h1];simp;intro h;exact absurd h hne,by rw[h1];simp;intro h;exact absurd h hne,c,h1⟩
  have e:Ext B w gs om w gs (mark om G (r,false)):=⟨List.prefix_rfl,.refl _ _,fun x ⟨h1,h2,h3⟩=>⟨⟨h1,h2,fun r1=>by
    by_cases hx : x ∈ G
    · rw [da hx]; simp
    · rw [bS hx]; exact h3 r1⟩, rfl⟩⟩
  have hrl:r<objs.length:=(List.getElem?_eq_some_iff.1 hr).1;generalize hq:xs.set i (.v v)=xs1 at ho
  cases ho with
  | row0=>exfalso;have:=congrArg List.length hq;simp at this;subst this;simp at hi
  | @row T _ _ g' b cur vs F hg dP hb hB ho hw hc hn hk hvs hl hFn dT=>
   have hi1:i<xs1.length:=by rw[←hq];simpa using hi
   have hx1:xs1[i]?=some (.v v):=by rw[←hq];simp[hi]
   obtain⟨vs1,u,vs2,F1,Fx,F2,e1,e2,h1,h2,h3⟩:=t6 hk hx1 hl
   obtain⟨rfl,rfl⟩:u=v∧Fx=[]:=by
    simp only[D.cells]at h2;generalize hz:Fx=Fy at h2;cases h2 with|cons a t=>cases t;cases a;exact⟨rfl,rfl⟩
   subst e2;have hlx:xs1.length=xs.length:=by rw[←hq];simp
   refine⟨gs,mark om G (r,false),hM.step e (by simp[hM.len]) fun r1 o1 h1'=>?_,⟨hF.size,hF.defers,fun j=>hM.iD e (hF.rel j)⟩,e.dm⟩;rcases eg h1' with ⟨rfl,rfl⟩|⟨hne1,h1'⟩
   ·exact .inr .dead
   rcases eg h1' with ⟨rfl,rfl⟩|⟨hne2,h1'⟩
   ·right;have hgd:∀x∈G,x∉F1++([]++F2):=fun x hx hx2=>(MR x hx).1 ((dT x hx2).2.2)
    have MW:b∉G:=fun hb=>(MR b hb).2.1 ho
    refine .row (F:=F1++(G++F2)) hg dP hb hB (by rw[bS MW];exact ho) hw hc (by simpa [hlx]using hn) ?_ rfl ?_ ?_ ?_
    ·have:xs.set i (.row .own k ys)=xs1.set i (.row .own k ys):=by rw[←hq];simp
     rw[this];exact vF hk rfl
    ·have:xs.set i (.row .own k ys)=xs1.set i (.row .own k ys):=by rw[←hq];simp
     rw[this,List.length_set,←hvs,e1,oT hi1];have:=aW.append h1 (aW.append (aW.cons hd .nil) h3);exact hM.AS e (by simpa [D.cells]using this) (fun _ _=>rfl)
    ·have:=hFn;have hGn:=ht.nodup;simp only[List.nodup_append,List.nil_append,List.mem_append]at this ⊢;refine⟨this.1,⟨hGn,this.2.1,fun x hx y hy e=>hgd x hx (by subst e;simp[hy])⟩,fun x hx y hy e=>?_⟩;subst e;rcases hy with hy|hy
     ·exact hgd x hy (by simp[hx])
     ·exact this.2.2 x hx x hy rfl
    ·intro x hx;by_cases E6:x∈G
     ·obtain⟨q1,q2,_⟩:=ht.src x E6;exact⟨q1,q2,da E6⟩
     ·have hm:x∈F1++([]++F2):=by simp at hx ⊢;rcases hx with hx|hx|hx<;>simp_all
      exact⟨(dT x hm).1,(dT x hm).2.1,by rw[bS E6];exact(dT x hm).2.2⟩
   ·left;refine⟨h1',fun b c hbc _=>⟨?_,rfl⟩⟩;by_cases hx:b∈G
    ·obtain⟨_,_,c',h⟩:=MR b hx;rw[hbc]at h;simp at h;exact absurd h.1 hne1
    ·rw[bS hx];exact hbc
end
attribute [simp] dA jq
@[simp] theorem Lv{T cs}:Obj.fix (.var T cs)=AV.ri cs:=rfl
@[simp] theorem Lu{k xs}:Obj.fix (.row k xs)=xs.all D.dS:=rfl
@[simp] theorem My{s p}:Obj.fix (.it s p)=true:=rfl
@[simp] theorem Mz{l c L st p}:Obj.fix (.lp l c L st p)=L.all fun p=>p.2.fix:=rfl
@[simp] theorem J5{L}:Obj.fix (.nest L)=true:=rfl
@[simp] theorem HQ{i r' l L}:Obj.fix (.dG i r' l L)=true:=rfl
@[simp] theorem J3{c zs}:Obj.fix (.grow c zs)=true:=rfl
@[simp] theorem Lt{b}:Obj.fix (.blk b)=true:=rfl
@[simp] theorem J4{i r' l xs}:Obj.fix (.hole i r' l xs)=xs.all D.dS:=rfl
@[simp] theorem J2:Obj.fix .dead=true:=rfl
end Go.aN
/- Rows that lie inside what the call owns; nil slices as objects. Lemmas alone. -/
namespace Go.aN
open Go.RowKit Go.Lib
section
variable {α:Type}
def mK(k:Nat)(f:α→D)(l:List α):D:=.row .sn k (l.map f)
@[simp] theorem Iu{k:Nat}{f:α→D}{l:List α}:(ai k f l).snap=mK k (fun x=>(f x).snap) l:=by
 unfold ai mK;rw[gO,List.map_map];rfl
@[simp] theorem Iv{k:Nat}{f:α→D}{l:List α}:(rows k f l).snap=rows k (fun x=>(f x).snap) l:=by
 unfold rows;rw[gO,List.map_map];rfl
@[simp] theorem Lf{k:Nat}{f:α→D}{l:List α}:(mK k f l).cF=rows k (fun x=>(f x).cF) l:=by
 unfold mK rows;rw[dO,List.map_map];rfl
@[simp] theorem Im{k:Nat}{f:α→D}{l:List α}:(ai k f l).cF=rows k (fun x=>(f x).cF) l:=by
 unfold ai rows;rw[dO,List.map_map];rfl
@[simp high] theorem HO{k:Nat}{f:α→D}{l:List α}:(mK k f l).cells=[mK k f l]:=rfl
@[simp high] theorem xi{k:Nat}{f:α→D}{l:List α}:(ai k f l).cells=[ai k f l]:=rfl
@[simp] theorem G5{k:Nat}{f:α→D}{l:List α}:AV.aX (.d (mK k f l))=true:=rfl
@[simp] theorem Hz{q}{k:Nat}{f:α→D}{l:List α}:jo q (mK k f l)=mK k f l:=by unfold jo mK;cases q<;>rfl
@[simp high] theorem LB{P:Program}{objs:List Obj}{t:TypeId}{k:Nat}{f:α→D}{l:List α}:ft P objs .len [t] [.d (mK k f l)]=(match ty P t with
    | some T => match T.k with
      | .slice _ => some (.int .i64 l.length, objs)
      | _ => none
    | none => none) := by
 unfold mK ft;simp only[uI]
 cases ty P t with
 | none=>rfl
 | some T=>
  simp only;cases T.k<;>simp
@[simp high] theorem HY[Inhabited α]{P:Program}{objs:List Obj}{t:TypeId}{k:Nat}{f:α→D}{l:List α}{i:Int}:cL P objs t (.d (mK k f l)) i=(match ty P t with
    | some { k := .slice e, .. } => match ty P e with
      | some T => if k = T.size ∧ 0 ≤ i ∧ i < l.length then some (.rp (f (nth l i.toNat)).cells 0) else none
      | none => none
    | _ => none) := by
 unfold mK cL
 cases ty P t with
 | none=>rfl
 | some T=>
  obtain⟨sz,by',K,z⟩:=T
  cases K with
  | slice e=>
   simp only
   cases ty P e with
   | none=>rfl
   | some T=>
    simp only[List.length_map];split
    ·rename_i hc;rw[ao (by omega)];rfl
    ·rfl
  | array m e=>simp only;cases ty P e<;>rfl
  | _=>rfl
@[simp high] theorem Iq{P:Program}{objs:List Obj}{t:TypeId}{k:Nat}{f:α→D}{l:List α}{lo hi:Option Int}:ie P objs t (.d (mK k f l)) lo hi none=(match ty P t with
    | some { k := .slice e, .. } => match ty P e with
      | some T => if k = T.size ∧ 0 ≤ lo.getD 0 ∧ lo.getD 0 ≤ hi.getD l.length ∧ hi.getD l.length ≤ l.length then some (.d (mK k f ((l.drop (lo.getD 0).toNat).take ((hi.getD l.length).toNat - (lo.getD 0).toNat)))) else none
      | none => none
    | _ => none) := by
 unfold mK ie
 cases ty P t with
 | none=>rfl
 | some T=>
  obtain⟨sz,by',K,z⟩:=T
  cases K with
  | slice e=>
   simp only
   cases ty P e with
   | none=>rfl
   | some T=>simp only[List.length_map,List.map_take,List.map_drop]
  | _=>rfl
@[simp] theorem H0{k:Nat}{f:α→D}{l:List α}(h:∀x,(f x).cE=true):(mK k f l).cE=true:=by
 unfold mK;rw[kg];simp[h]
@[simp] theorem Hf{k:Nat}{f:α→D}{l:List α}(h:∀x,(f x).cE=true):(rows k f l).cE=true:=by
 unfold rows;rw[kg];simp[h]
@[simp] theorem Ig{k:Nat}{f:α→D}{l:List α}(h:∀x,(f x).dS=true):(rows k f l).dS=true:=by
 unfold rows;rw[lX];simp[h]
@[simp] theorem CT{objs:List Obj}{k:Nat}{f:α→D}{l:List α}:tk objs (.d (mK k f l))=some (k,l.map f,objs):=by unfold mK tk;rfl
@[simp] theorem A9{objs:List Obj}{k:Nat}{f:α→D}{l:List α}:tk objs (.d (rows k f l))=some (k,l.map f,objs):=by unfold rows tk;rfl
@[simp] theorem ET{objs:List Obj}{k:Nat}{f:α→D}{l:List α}:gL objs (.d (mK k f l))=some (k,l.map f):=by unfold mK gL;rfl
@[simp] theorem DE{objs:List Obj}{k:Nat}{f:α→D}{l:List α}:gL objs (.d (rows k f l))=some (k,l.map f):=by unfold rows gL;rfl
@[simp] theorem Ed{β:Type}{f:α→β}{l:List α}:(l.map f).take l.length=l.map f:=by rw[←List.map_take];simp
@[simp] theorem Ip{P:Program}{objs:List Obj}{t:TypeId}{r off len:Nat}{lo hi:Option Int}:ie P objs t (.hdr r off len) lo hi none=(match ty P t with
    | some { k := .slice e, .. } => match ty P e with
      | some T => match objs[r]? with
        | some (.row k xs) => if k = T.size ∧ 0 ≤ lo.getD 0 ∧ lo.getD 0 ≤ hi.getD len ∧ (hi.getD len ≤ len ∨ 0 < k ∧ off + hi.getD len ≤ xs.length) then some (.hdr r (off + (lo.getD 0).toNat) ((hi.getD len).toNat - (lo.getD 0).toNat)) else none
        | some (.grow c _) => if 1 = T.size ∧ off = 0 ∧ lo.getD 0 = 0 ∧ 0 ≤ hi.getD len ∧ hi.getD len ≤ c then some (.hdr r 0 (hi.getD len).toNat) else none
        | _ => none
      | none => none
    | _ => none) := by
 unfold ie
 cases ty P t with
 | none=>rfl
 | some T=>
  obtain⟨sz,by',K,z⟩:=T
  cases K with
  | slice e=>
   simp only
   cases ty P e with
   | none=>rfl
   | some T=>
    simp only
    cases objs[r]? with
    | none=>rfl
    | some o=>cases o<;>simp
  | _=>rfl
theorem qW{objs:List Obj}{y:AV}{k ys o1}(hs:∀s,y ≠ .d (.v (.string s)))(h:tk objs y=some (k,ys,o1))(hn:ys.all D.cE=true):kI objs y=some (k,ys):=by
 unfold kI;split
 ·exact absurd rfl (hs _)
 ·simp[h];simpa using hn
@[simp] theorem Em{objs:List Obj}{k:Nat}{f:α→D}{l:List α}(h:∀x,(f x).cE=true):kI objs (.d (mK k f l))=some (k,l.map f):=
 qW (o1:=objs) (by unfold mK;simp) CT (by simp[h])
@[simp] theorem Dv{objs:List Obj}{k:Nat}{f:α→D}{l:List α}(h:∀x,(f x).cE=true):kI objs (.d (rows k f l))=some (k,l.map f):=
 qW (o1:=objs) (by unfold rows;simp) A9 (by simp[h])
@[simp] theorem Ih{d:D}:wj none d=d:=rfl
@[simp] theorem LH{o:D}{m k xs}:dn o (.row m k xs) = .row m k xs:=by cases o<;>rfl
@[simp] theorem K4{k:Nat}{f:α→D}{l:List α}{o:D}:dn o (ai k f l)=ai k f l:=by cases o<;>rfl
@[simp] theorem K3{k:Nat}{f:α→D}{l:List α}:dn (ai k f l) (.v (.slice none 0 0)) = .row .own k []:=rfl
@[simp] theorem Ho{m k xs}:dn (.row m k xs) (.v (.slice none 0 0)) = .row .own k []:=rfl
end
section
variable {P:Program} {g:Gl} {B:Nat} {S:Nat→Prop} {n:Nat} {fl:Fl} {w:World} {gs:List G1} {om:Nat→Option (Nat×Bool)} {s:Nat→AV} {objs:List Obj} {Q:Qt} {ops:Array Oper}
theorem Weak.pad:Weak B S n fl s objs s (objs++[.dead]):=fun w a gs om hM hF hlen=>
 have h:=hM.push (g:=⟨none,0,0⟩) (bz:=om) (Below.refl _ _) (fun _ _=>rfl) .dead
 ⟨_,om,h.2,⟨hF.size,hF.defers,fun j=>hM.iD h.1 (hF.rel j)⟩,h.1.dm⟩
theorem gF{c:Code}{s2 aZ}(hw:Weak B S n fl s objs s2 aZ)(h:Then P g B S n fl c Q .normal s2 aZ):Then P g B S n fl c Q .normal s objs:=fun _ a w gs om h1 h2 h3 h4 h5=>by
 obtain⟨gs2,lB,m,f,x⟩:=hw w a gs om h3 h4 h5;have hl:fl.n≤gs.length:=by rw[h3.len];exact h5
 have hl2:fl.n≤aZ.length:=by rw[←m.len];exact x.len hl
 exact wp_mono (h hl2 a w gs2 lB h1 h2 m f hl2) fun e a w' h=>h.trans x hl
theorem Weak.dJ(t k:Nat){L:List (Nat×AV)}(ht:slots L t = .d (.v (.slice none 0 0))):Weak B S n fl (slots L) objs (slots ((t,.hdr objs.length 0 0)::L)) (objs++[.row k []]):=fun w a gs om hM hF hlen=>by
 have h:=hM.si 0 k;refine⟨_,om,h.2,⟨hF.size,hF.defers,fun j=>?_⟩,h.1.dm⟩;simp only[slots];split
 ·rename_i e;subst e;have hr:=hF.rel j;rw[ht]at hr
  cases hr with
  | d hr=>
   generalize a.tmps.getD j undef=v at hr;cases hr;exact .fP (cY _ _ hM.len) rfl
 ·exact hM.iD h.1 (hF.rel j)
end
attribute [simp] nu ko ow zD mi tU
end Go.aN
/- A region that draws its order, two of whose operations do not commute in the abstract: both orders are walked. Lemmas alone. -/
namespace Go.aN
open Go.RowKit Go.Lib
section
variable {P:Program} {g:Gl} {B:Nat} {S:Nat→Prop} {n:Nat} {fl:Fl} {w:World} {gs:List G1} {om:Nat→Option (Nat×Bool)} {s:Nat→AV} {objs:List Obj} {Q:Qt} {ops:Array Oper} {hard:List Nat}
def fS(ops:Array Oper)(hard:List Nat)(conf:List (Nat×Nat))(d:Nat):List Nat→Bool
 | []=>true
 | i::l=>(d9 ops i).all (fun j=>decide (j<ops.size) && !(i::l).contains j)&&l.all (fun j=>soft ops hard i j||(xc ops d j).contains i||conf.contains (i,j))&&fS ops hard conf d l
def fw(ops:Array Oper)(hard:List Nat)(conf:List (Nat×Nat))(d:Nat)(o:List Nat):Bool:=
 decide (o.length=ops.size)&&decide o.Nodup&&(List.range ops.size).all (fun i=>o.contains i)&&o.all (fun i=>decide (i<ops.size))&&fS ops hard conf d o
theorem uT{conf:List (Nat×Nat)}{d:Nat}{pre:List Nat}{i:Nat}{post:List Nat}(h:fS ops hard conf d (pre++i::post)=true):∀x∈pre,soft ops hard x i=true∨x∈xc ops d i∨(x,i)∈conf:=by
 induction pre with
 | nil=>simp
 | cons y pre ih=>
  simp only[List.cons_append,fS,Bool.and_eq_true,List.all_eq_true]at h;intro x hx;rcases List.mem_cons.1 hx with rfl|hx
  ·have:=h.1.2 i (by simp);simp only[Bool.or_eq_true,List.contains_iff_mem]at this;rcases this with (h|h)|h
   ·exact .inl h
   ·exact .inr (.inl h)
   ·exact .inr (.inr h)
  ·exact ih h.2 x hx
theorem uS{conf:List (Nat×Nat)}{d:Nat}{pre:List Nat}{i:Nat}{post:List Nat}(h:fS ops hard conf d (pre++i::post)=true):fS ops hard conf d (pre++post)=true:=by
 induction pre with
 | nil=>simp only[List.nil_append,fS,Bool.and_eq_true]at h;exact h.2
 | cons y pre ih=>
  simp only[List.cons_append,fS,Bool.and_eq_true,List.all_eq_true]at h ⊢;refine⟨⟨fun j hj=>?_,fun j hj=>h.1.2 j (by simp at hj ⊢;rcases hj with hj|hj<;>simp[hj])⟩,ih h.2⟩;have:=h.1.1 j hj;simp only[decide_eq_true_eq]at this ⊢;refine⟨this.1,?_⟩;have h2:=this.2;simp at h2 ⊢;exact⟨h2.1,h2.2.1,h2.2.2.2⟩
def FT(conf:List (Nat×Nat))(rest L:List Nat):Prop:=∀x y,(x,y)∈conf→x∈rest→y∈rest→¬L.idxOf y<L.idxOf x
theorem nz{conf:List (Nat×Nat)}{d:Nat}:∀(fuel t:Nat) (listed:Array Bool) (rest:List Nat) (s:Nat→AV) (objs:List Obj) (s':Nat→AV) (aj:List Obj),rest.length=fuel→listed.size=ops.size→rest.Nodup→(∀i∈rest,i<ops.size) →
    (∀i,i<ops.size→(listed.getD i true=false↔i∈rest))→(∀i,i<ops.size→listed.getD i true=true→∀j∈d9 ops i,j<ops.size∧listed.getD j true=true)→fS ops hard conf d rest=true →
    FT conf rest (Region.linearise.go .any ops fuel t listed []) →
    Tr P g n ops hard rest s objs s' aj→Tr P g n ops hard (Region.linearise.go .any ops fuel t listed []) s objs s' aj:=by
 intro fuel
 induction fuel with
 | zero=>
  intro t listed rest s objs s' aj hl _ _ _ _ _ _ _ h;obtain rfl:=List.length_eq_zero_iff.1 hl;simpa [Region.linearise.go]using h
 | succ fuel ih=>
  intro t listed rest s objs s' aj hl hsz hnd hin hmem vP hp B0 h;have same:∀j,j<ops.size→listed.getD j false=listed.getD j true:=fun j hj=>by simp[Array.getD_eq_getD_getElem?,hsz,hj]
  have x5:∀i∈Region.ready .any ops listed,i∈rest∧∀j∈d9 ops i,j<ops.size∧listed.getD j true=true:=by
   intro i hi;obtain⟨h1,o,ho,h2⟩:=mem_ready.1 hi;have hlt:i<ops.size:=(Array.getElem?_eq_some_iff.1 ho).1;refine⟨(hmem i hlt).1 h1,fun j hj=>?_⟩;simp only[d9,ho,List.mem_map,List.mem_filter]at hj;obtain⟨e,⟨he,hb⟩,rfl⟩:=hj;have:=h2 e (by simpa using he) hb
   have hj:e.on<ops.size:=by
    rcases Nat.lt_or_ge e.on ops.size with q|q
    ·exact q
    ·rw[Array.getD_eq_getD_getElem?,Array.getElem?_eq_none (by omega)]at this;simp at this
   exact⟨hj,by rw[←same _ hj];exact this⟩
  have hne:Region.ready .any ops listed≠[]:=by
   cases rest with
   | nil=>simp at hl
   | cons x rest=>
    have hx:=hin x (by simp)
    have:x∈Region.ready .any ops listed:=by
     refine mem_ready.2 ⟨(hmem x hx).2 (by simp),ops[x],by simp[hx],fun e he hb=>?_⟩;simp only[fS,Bool.and_eq_true,List.all_eq_true]at hp;have:=hp.1.1 e.on (by simp only[d9,List.mem_map,List.mem_filter];rw[show ops[x]?=some ops[x] by simp[hx]];simp only[List.mem_map,List.mem_filter];exact⟨e,⟨by simpa using he,hb⟩,rfl⟩);simp only[decide_eq_true_eq]at this;rw[same _ this.1]
     cases hq:listed.getD e.on true with
     | true=>rfl
     | false=>
      have h1:=(hmem _ this.1).1 hq;have h2:=this.2;simp at h1 h2;rcases h1 with h1|h1
      ·exact absurd h1 h2.1
      ·exact absurd h1 h2.2
    exact fun e=>by rw[e]at this;simp at this
  have hpos:0<(Region.ready .any ops listed).length:=List.length_pos_iff.2 hne;obtain⟨i,hi⟩:∃i,(Region.ready .any ops listed)[t%(Region.ready .any ops listed).length]?=some i:=⟨_,List.getElem?_eq_getElem (Nat.mod_lt _ hpos)⟩
  have hL:Region.linearise.go .any ops (fuel+1) t listed []=i::Region.linearise.go .any ops fuel (t/(Region.ready .any ops listed).length) (listed.setIfInBounds i true) []:=by
   simp only[Region.linearise.go]
   change (match (Region.ready .any ops listed)[t%(Region.ready .any ops listed).length]? with
     | some i => Region.linearise.go .any ops fuel (t / (Region.ready .any ops listed).length) (listed.setIfInBounds i true) [i]
     | none => [].reverse) = _
   rw[hi];simp only;rw[linearise_go_acc,List.reverse_singleton,List.singleton_append]
  rw[hL]at B0 ⊢;have hir:i∈Region.ready .any ops listed:=List.mem_of_getElem? hi;obtain⟨h1,h2⟩:=x5 i hir;obtain⟨pre,post,rfl⟩:=List.append_of_mem h1;have hilt:=hin i (by simp)
  have hnd':(pre++post).Nodup∧i∉pre++post:=by
   rw[List.nodup_append]at hnd;simp only[List.nodup_cons,List.mem_cons]at hnd;refine⟨List.nodup_append.2 ⟨hnd.1,hnd.2.1.2,fun a ha b hb=>hnd.2.2 a ha b (.inr hb)⟩,?_⟩;simp only[List.mem_append,not_or];exact⟨fun q=>hnd.2.2 i q i (.inl rfl) rfl,hnd.2.1.1⟩
  have B6:∀x∈pre,soft ops hard x i=true:=by
   intro x hx;rcases uT hp x hx with q|q|q
   ·exact q
   ·have:=lD (listed:=fun j=>j<ops.size∧listed.getD j true=true) (fun j hj=>vP j hj.1 hj.2) d i h2 x q;have h3:=(hmem x (hin x (by simp[hx]))).2 (by simp[hx]);rw[this.2]at h3;cases h3
   ·have:=B0 x i q (by simp[hx]) (by simp);have hne:i≠x:=fun e=>hnd'.2 (by subst e;simp[hx])
    rw[List.idxOf_cons,List.idxOf_cons,show (i==i)=true by simp,show (i==x)=false by simpa using hne]at this;simp at this
  cases h.front B6 with
  | cons k1 k2=>
   refine .cons k1 (ih _ _ (pre++post) _ _ _ _ (by simp at hl ⊢;omega) (by simpa using hsz) hnd'.1 (fun j hj=>hin j (by simp at hj ⊢;rcases hj with q|q<;>simp[q])) ?_ ?_ (uS hp) ?_ k2)
   ·intro j hj;rw[nQ (by omega)];by_cases hji:j=i
    ·subst hji;simp;simpa using hnd'.2
    ·rw[if_neg hji,hmem j hj];simp[hji]
   ·intro j hj hlj k hk;rw[nQ (by omega)]at hlj ⊢;by_cases hji:j=i
    ·subst hji;have:=h2 k hk;refine⟨this.1,?_⟩;split
     ·rfl
     ·exact this.2
    ·rw[if_neg hji]at hlj;have:=vP j hj hlj k hk;refine⟨this.1,?_⟩;split
     ·rfl
     ·exact this.2
   ·intro x y hxy hx hy;have:=B0 x y hxy (by simp at hx ⊢;rcases hx with q|q<;>simp[q]) (by simp at hy ⊢;rcases hy with q|q<;>simp[q]);have hxi:i≠x:=fun e=>hnd'.2 (by rw[e];exact hx)
    have hyi:i≠y:=fun e=>hnd'.2 (by rw[e];exact hy)
    rw[List.idxOf_cons,List.idxOf_cons,show (i==x)=false by simpa using hxi,show (i==y)=false by simpa using hyi]at this;simp at this;omega
theorem cN{id}(x y:Nat)(hko:gW fl ops hard)(hm:P.follows .mixedOrders=true)(d:Nat)(o1 o2:List Nat)(ho1:fw ops hard [(x,y)] d o1=true)(ho2:fw ops hard [(y,x)] d o2=true)
    (h1:Run P g n ops hard o1 s allT objs (Ends Q)) (h2:Run P g n ops hard o2 s allT objs (Ends Q)):W P g B S n fl (.region id ops true) s objs Q:=fun a w gs om g1 g2 g3 g4 g5=>by
 have x':Ext B w gs om {w with drawn:=w.drawn+1} gs om:=⟨List.prefix_rfl,⟨rfl,rfl,rfl,Nat.le_refl _,fun _ _=>rfl⟩,fun b hb=>⟨hb,rfl⟩⟩;have hl:fl.n≤gs.length:=by rw[g3.len];exact g5
 refine wp_region_draw fun t=>?_
 simp only[Region.schedule,hm,Bool.true_or,if_true]
 have key:∀(x y:Nat) (o:List Nat),fw ops hard [(x,y)] d o=true→Run P g n ops hard o s allT objs (Ends Q)→¬(Region.linearise.go .any ops ops.size t (Array.replicate ops.size false) []).idxOf y<(Region.linearise.go .any ops ops.size t (Array.replicate ops.size false) []).idxOf x →
     WR P g B S n fl ops (Region.linearise.go .any ops ops.size t (Array.replicate ops.size false) []) s objs Q:=by
  intro x y o ho h hxy;simp only[fw,Bool.and_eq_true,decide_eq_true_eq,List.all_eq_true,List.mem_range,List.contains_iff_mem]at ho;obtain⟨⟨⟨⟨hlen,q1⟩,q2⟩,q3⟩,q4⟩:=ho;obtain⟨s',c',o',tt,L,e1,e2⟩:=h;rw[cA]at tt
  have tr:=nz (P:=P) (g:=g) (n:=n) (ops:=ops) (hard:=hard) (d:=d) ops.size t (Array.replicate ops.size false) o s objs _ o' hlen (by simp) q1 (fun i hi=>q3 i hi)
   (fun i hi=>by simp[hi,q2 i hi]) (fun i hi h=>by simp[hi]at h) q4 (fun a b hab _ _=>by
     simp only [List.mem_singleton, Prod.mk.injEq] at hab; obtain ⟨rfl, rfl⟩ := hab; exact hxy) tt
  have:=la (B:=B) (S:=S) (fl:=fl) (l2:=[]) (Q:=Q) hko tr (kC e1 (ja e2))
  rwa [List.append_nil]at this
 have:WR P g B S n fl ops (Region.linearise.go .any ops ops.size t (Array.replicate ops.size false) []) s objs Q:=by
  by_cases hq:(Region.linearise.go .any ops ops.size t (Array.replicate ops.size false) []).idxOf y<(Region.linearise.go .any ops ops.size t (Array.replicate ops.size false) []).idxOf x
  ·exact key y x o2 ho2 h2 (by omega)
  ·exact key x y o1 ho1 h1 hq
 exact d7 (this a {w with drawn:=w.drawn+1} gs om (gU g1 g2 x'.below) g2 g3.drawn ⟨g4.size,g4.defers,fun i=>g3.iD x' (g4.rel i)⟩ g5) fun e a w2 h=>h.trans x'.dm hl
def rC(a:Nat):List Nat→List (List Nat)
 | []=>[[a]]
 | b::l=>(a::b::l)::(rC a l).map (b :: ·)
def jE:List Nat→List (List Nat)
 | []=>[[]]
 | a::l=>(jE l).flatMap (rC a)
def fR:List Nat→List (Nat×Nat)
 | []=>[]
 | a::l=>l.map (fun b=>(a,b))++fR l
def lP(f:Nat→Nat)(a:Nat):List Nat→List Nat
 | []=>[a]
 | b::l=>if f a≤f b then a::b::l else b::lP f a l
def nv(f:Nat→Nat):List Nat→List Nat
 | []=>[]
 | a::l=>lP f a (nv f l)
theorem tL(f:Nat→Nat)(a:Nat):∀l,lP f a l∈rC a l
 | []=>by simp[lP,rC]
 | b::l=>by
  simp only[lP,rC];split
  ·exact List.mem_cons_self
  ·exact List.mem_cons_of_mem _ (List.mem_map.2 ⟨_,tL f a l,rfl⟩)
theorem nw(f:Nat→Nat):∀l,nv f l∈jE l
 | []=>by simp[nv,jE]
 | a::l=>List.mem_flatMap.2 ⟨_,nw f l,tL f a _⟩
theorem tP{f:Nat→Nat}{a x:Nat}:∀ {l},x∈lP f a l→x=a∨x∈l
 | [],h=>by simp[lP]at h;exact .inl h
 | b::l,h=>by
  simp only[lP]at h;split at h
  ·rcases List.mem_cons.1 h with h|h
   ·exact .inl h
   ·exact .inr h
  ·rcases List.mem_cons.1 h with h|h
   ·exact .inr (by simp[h])
   ·rcases tP h with h|h
    ·exact .inl h
    ·exact .inr (by simp[h])
theorem nT{f:Nat→Nat}{a:Nat}:∀ {l},l.Pairwise (fun x y=>f x≤f y)→(lP f a l).Pairwise (fun x y=>f x≤f y)
 | [],_=>by simp[lP]
 | b::l,h=>by
  have h':=List.pairwise_cons.1 h;simp only[lP];split
  ·rename_i hab;refine List.pairwise_cons.2 ⟨fun y hy=>?_,h⟩;rcases List.mem_cons.1 hy with rfl|hy
   ·exact hab
   ·exact Nat.le_trans hab (h'.1 y hy)
  ·rename_i hab;refine List.pairwise_cons.2 ⟨fun y hy=>?_,nT h'.2⟩;rcases tP hy with rfl|hy
   ·omega
   ·exact h'.1 y hy
theorem jQ(f:Nat→Nat):∀l,(nv f l).Pairwise (fun x y=>f x≤f y)
 | []=>by simp[nv]
 | a::l=>nT (jQ f l)
theorem kT{r:Nat→Nat→Prop}:∀ {l:List Nat},l.Pairwise r→∀p∈fR l,r p.1 p.2
 | [],_,p,hp=>by simp[fR]at hp
 | a::l,h,p,hp=>by
  have h':=List.pairwise_cons.1 h;simp only[fR,List.mem_append,List.mem_map]at hp;rcases hp with ⟨b,hb,rfl⟩|hp
  ·exact h'.1 b hb
  ·exact kT h'.2 p hp
def qb(p:List Nat→Prop):List (List Nat)→Prop
 | []=>True
 | o::os=>p o∧qb p os
theorem qb.get{p:List Nat→Prop}:∀ {os},qb p os→∀o∈os,p o
 | _::_,h,o,ho=>by
  rcases List.mem_cons.1 ho with rfl|ho
  ·exact h.1
  ·exact h.2.get o ho
theorem il{id}(A:List Nat)(hko:gW fl ops hard)(hm:P.follows .mixedOrders=true)(d:Nat)(os:List (List Nat))(hos:(jE A).all (fun π=>os.any fun o=>fw ops hard (fR π) d o)=true)
    (h:qb (fun o=>Run P g n ops hard o s allT objs (Ends Q)) os):W P g B S n fl (.region id ops true) s objs Q:=fun a w gs om g1 g2 g3 g4 g5=>by
 have x':Ext B w gs om {w with drawn:=w.drawn+1} gs om:=⟨List.prefix_rfl,⟨rfl,rfl,rfl,Nat.le_refl _,fun _ _=>rfl⟩,fun b hb=>⟨hb,rfl⟩⟩;have hl:fl.n≤gs.length:=by rw[g3.len];exact g5
 refine wp_region_draw fun t=>?_
 simp only[Region.schedule,hm,Bool.true_or,if_true];generalize hL:Region.linearise.go .any ops ops.size t (Array.replicate ops.size false) []=L;have hp:=nw (fun x=>L.idxOf x) A;have hs:=kT (jQ (fun x=>L.idxOf x) A);have hany:=List.all_eq_true.1 hos _ hp;obtain⟨o,ho1,ho⟩:=List.any_eq_true.1 hany;have hrun:=h.get o ho1
 have:WR P g B S n fl ops L s objs Q:=by
  simp only[fw,Bool.and_eq_true,decide_eq_true_eq,List.all_eq_true,List.mem_range,List.contains_iff_mem]at ho;obtain⟨⟨⟨⟨hlen,q1⟩,q2⟩,q3⟩,q4⟩:=ho;obtain⟨s',c',o',tt,L',e1,e2⟩:=hrun;rw[cA]at tt
  have tr:=nz (P:=P) (g:=g) (n:=n) (ops:=ops) (hard:=hard) (d:=d) ops.size t (Array.replicate ops.size false) o s objs _ o' hlen (by simp) q1 (fun i hi=>q3 i hi)
   (fun i hi=>by simp[hi,q2 i hi]) (fun i hi h=>by simp[hi]at h) q4 (fun a b hab _ _=>by
     have := hs (a, b) hab
     rw [hL]; simp only at this; omega) tt
  rw[hL]at tr;have:=la (B:=B) (S:=S) (fl:=fl) (l2:=[]) (Q:=Q) hko tr (kC e1 (ja e2))
  rwa [List.append_nil]at this
 rw[show Region.linearise .any ops t=L from hL];exact d7 (this a {w with drawn:=w.drawn+1} gs om (gU g1 g2 x'.below) g2 g3.drawn ⟨g4.size,g4.defers,fun i=>g3.iD x' (g4.rel i)⟩ g5) fun e a w2 h=>h.trans x'.dm hl
theorem aR(h:∀i∈hard,i<1000):gW fl ops hard:=fun _ i hi=>by have:=h _ hi;omega
end
end Go.aN
/- The walk over abstract states: objects change their places. Lemmas alone. -/
namespace Go.aN
open Go.RowKit Go.Lib
mutual
def AV.ren(σ:Nat→Nat):AV→AV
 | .hdr r a b=>.hdr (σ r) a b
 | .ptr r a b=>.ptr (σ r) a b
 | .agg cs=>.agg (AV.ss σ cs)
 | .bK cs=>.bK (AV.ss σ cs)
 | .fn f a b=>.fn f (AV.ss σ a) (AV.ss σ b)
 | .tH t x=>.tH t (x.ren σ)
 | .d x=>.d x
 | .cut k xs=>.cut k xs
 | .rp cs j=>.rp cs j
 | .dead=>.dead
def AV.ss(σ:Nat→Nat):List AV→List AV
 | []=>[]
 | a::as=>a.ren σ::AV.ss σ as
end
def Obj.ren(σ:Nat→Nat):Obj→Obj
 | .var T cs=>.var T (AV.ss σ cs)
 | .hole i r' len xs=>.hole i (σ r') len xs
 | .dG i r' len L=>.dG i (σ r') len L
 | .lp l c L st p=>.lp l c (L.map fun p=>(p.1,p.2.ren σ)) st p
 | o=>o
def iG(σ:Nat→Nat):List (Nat×AV)→List (Nat×AV)
 | []=>[]
 | (i,a)::l=>(i,a.ren σ)::iG σ l
def od(σ:Nat→Nat)(om:Nat→Option (Nat×Bool))(b:Nat):Option (Nat×Bool):=(om b).map fun p=>(σ p.1,p.2)
section
variable {P:Program} {g:Gl} {B:Nat} {S:Nat→Prop} {n:Nat} {fl:Fl} {w:World} {gs gs':List G1} {om:Nat→Option (Nat×Bool)} {s:Nat→AV} {objs:List Obj} {Q:Qt} {σ τ:Nat→Nat}
section
variable {N N':Nat→Prop} (hN:∀b,N b→N' b) (hg:∀r g,gs[r]?=some g→gs'[σ r]?=some g)
include hN hg
mutual
theorem a8.ren:∀ {a v},a8 w S N gs a v→a8 w S N' gs' (a.ren σ) v
 | _,_,.d h=>by simp only[AV.ren];exact .d (cb.mono (fun b hb=>⟨hb,rfl⟩) (fun b hb=>⟨hN b hb,rfl⟩) h (by simp))
 | _,_,.hdr h1 h2 h3 h4 h5 h6=>by simp only[AV.ren];exact .hdr (hg _ _ h1) h2 h3 h4 h5 h6
 | _,_,.fP h1 h2=>by simp only[AV.ren];exact .fP (hg _ _ h1) h2
 | _,_,.gK=>by simp only[AV.ren];exact .gK
 | _,_,.dU=>by simp only[AV.ren];exact .dU
 | _,_,.cut h1 h2 h3 h4 h5 h6=>by simp only[AV.ren];exact .cut h1 (h2.imp id (hN _)) h3 h4 h5 (aW.mono (fun b hb=>⟨hb,rfl⟩) (fun b hb=>⟨hN b hb,rfl⟩) h6 (by simp))
 | _,_,.ptr h1 h2=>by simp only[AV.ren];exact .ptr (hg _ _ h1) h2
 | _,_,.rp h1 h2 h3 h4 h5=>by simp only[AV.ren];exact .rp h1 (h2.imp id (hN _)) h3 h4 (aW.mono (fun b hb=>⟨hb,rfl⟩) (fun b hb=>⟨hN b hb,rfl⟩) h5 (by simp))
 | _,_,.agg h=>by simp only[AV.ren];exact .agg (aQ.ren h)
 | _,_,.bK h=>by simp only[AV.ren];exact .bK (aQ.ren h)
 | _,_,.fn h1 h2=>by simp only[AV.ren];exact .fn (aQ.ren h1) (aQ.ren h2)
 | _,_,.tH h=>by simp only[AV.ren];exact .tH (a8.ren h)
 | _,_,.dead=>by simp only[AV.ren];exact .dead
theorem aQ.ren:∀ {as vs},aQ w S N gs as vs→aQ w S N' gs' (AV.ss σ as) vs
 | _,_,.nil=>by simp only[AV.ss];exact .nil
 | _,_,.cons h t=>by simp only[AV.ss];exact .cons (a8.ren h) (aQ.ren t)
end
end
variable (hσ:∀x,σ (τ x)=x) (Dh:∀x,τ (σ x)=x)
include hσ Dh
theorem tK{b:Nat}(h:Inner B w om b):Inner B w (od σ om) b:=⟨h.1,h.2.1,fun r e=>by
  simp only [od, Option.map_eq_some_iff, Prod.mk.injEq] at e
  obtain ⟨⟨r1, c1⟩, h1, rfl, rfl⟩ := e
  exact h.2.2 _ h1⟩
theorem eA.ren(hg:∀r g,gs[r]?=some g→gs'[σ r]?=some g){r:Nat}{o:Obj}(h:eA B w S gs om r o):eA B w S gs' (od σ om) (σ r) (o.ren σ):=by
 have hin:∀b,Inner B w om b→Inner B w (od σ om) b:=fun b=>tK hσ Dh
 have pP:∀b c,om b=some (r,c)→od σ om b=some (σ r,c):=fun b c e=>by simp[od,e]
 induction h with
 | var h1 hb hB ho hw hv=>exact .var (hg _ _ h1) hb hB (pP _ _ ho) hw (aQ.ren hin hg hv)
 | row0 h1 hk hb=>exact .row0 (hg _ _ h1) hk hb
 | row h1 dP hb hB ho hw hc hn hk' hvs hv hF dT=>
  exact .row (hg _ _ h1) dP hb hB (pP _ _ ho) hw hc hn hk' hvs (aW.mono (fun b hb=>⟨hb,rfl⟩) (fun b hb=>⟨hin b hb,rfl⟩) hv (fun _ _=>rfl)) hF (fun b hb=>⟨(dT b hb).1,(dT b hb).2.1,pP _ _ (dT b hb).2.2⟩)
 | @hole i r' len xs v _ hi hne hv ih=>exact .hole ih hi (fun e=>hne (by have:=congrArg τ e;rwa [Dh,Dh]at this)) (by have:=a8.ren hin hg hv;simpa only[AV.ren]using this)
 | it h1 hb hB ho hw=>exact .it (hg _ _ h1) hb hB (pP _ _ ho) hw
 | lp h1 hb hB ho hw hs hv=>
  exact .lp (hg _ _ h1) hb hB (pP _ _ ho) hw hs (fun p hp=>by
    obtain ⟨q, hq, rfl⟩ := List.mem_map.1 hp
    exact a8.ren hin hg (hv q hq))
 | blk h1 hb hB ho hw=>exact .blk (hg _ _ h1) hb hB (pP _ _ ho) hw
 | kf h1 hk hb=>exact .kf (hg _ _ h1) hk hb
 | nest h1 dP hb hB ho hw hc hn hvs hv hF dT=>
  exact .nest (hg _ _ h1) dP hb hB (pP _ _ ho) hw hc hn hvs hv hF (fun b hb=>⟨(dT b hb).1,(dT b hb).2.1,pP _ _ (dT b hb).2.2⟩)
 | @dG i r' len L v _ hi hne hv ih=>exact .dG ih hi (fun e=>hne (by have:=congrArg τ e;rwa [Dh,Dh]at this)) (by have:=a8.ren hin hg hv;simpa only[AV.ren]using this)
 | jW h1 hk hb hz=>exact .jW (hg _ _ h1) hk hb hz
 | grow h1 dP hb hB ho hw hc hgc hn hvs=>exact .grow (hg _ _ h1) dP hb hB (pP _ _ ho) hw hc hgc hn hvs
 | dead=>exact .dead
theorem A6(L:List (Nat×AV))(j:Nat):slots (iG σ L) j=(slots L j).ren σ:=by
 induction L with
 | nil=>simp[iG,slots,AV.ren]
 | cons p L ih=>
  obtain⟨i,a⟩:=p;simp only[iG,slots];split
  ·rfl
  ·exact ih
theorem Weak.ren{L:List (Nat×AV)}{aZ:List Obj}(hfl:∀x,x<fl.n→τ x=x)(hlt:∀x,x<objs.length↔σ x<objs.length)(h2:aZ=(List.range objs.length).map fun r=>(objs.getD (τ r) .dead).ren σ) :
    Weak B S n fl (slots L) objs (slots (iG σ L)) aZ:=fun w a gs om hM hF hlen=>by
 subst h2;have hgl:=hM.len
 let gs':List G1:=(List.range gs.length).map fun r=>gs.getD (τ r) ⟨none,0,0⟩
 have hg:∀r g,gs[r]?=some g→gs'[σ r]?=some g:=fun r g h=>by
  have hr:r<gs.length:=(List.getElem?_eq_some_iff.1 h).1;have hr2:σ r<gs.length:=by rw[hgl]at hr ⊢;exact(hlt r).1 hr
  simp only[gs',List.getElem?_map,List.getElem?_range hr2,Option.map_some,Dh,List.getD_eq_getElem?_getD,h,Option.getD_some]
 have hin:∀b,Inner B w om b→Inner B w (od σ om) b:=fun b=>tK hσ Dh
 have hM':bm B w S ((List.range objs.length).map fun r=>(objs.getD (τ r) .dead).ren σ) gs' (od σ om):=by
  refine⟨by simp[gs',hgl],fun r o ho=>?_,hM.hS,hM.hB⟩
  have hr:r<objs.length:=by
   have:=(List.getElem?_eq_some_iff.1 ho).1;simpa using this
  simp only[List.getElem?_map,List.getElem?_range hr,Option.map_some,Option.some.injEq]at ho;subst ho;have hr2:τ r<objs.length:=(hlt (τ r)).2 (by rw[hσ];exact hr);have hget:objs[τ r]?=some (objs.getD (τ r) .dead):=by rw[List.getD_eq_getElem?_getD,List.getElem?_eq_getElem hr2];rfl
  have:=eA.ren hσ Dh hg (hM.obj (τ r) _ hget)
  rwa [hσ]at this
 refine⟨gs',od σ om,hM',⟨hF.size,hF.defers,fun j=>?_⟩,⟨?_,.refl _ _,fun _ b hb=>⟨hin b hb,rfl⟩⟩⟩
 ·rw[A6 hσ Dh];exact a8.ren hin hg (hF.rel j)
 ·have:gs.take fl.n=gs'.take fl.n:=by
   apply List.ext_getElem?;intro x;simp only[List.getElem?_take];by_cases hx:x<fl.n
   ·rw[if_pos hx,if_pos hx];have hxl:x<gs.length:=by rw[hgl];omega
    simp only[gs',List.getElem?_map,List.getElem?_range hxl,Option.map_some,hfl x hx,List.getD_eq_getElem?_getD,List.getElem?_eq_getElem hxl,Option.getD_some]
   ·rw[if_neg hx,if_neg hx]
  rw[this];exact List.take_prefix _ _
end
def iI(i j k x:Nat):Nat:=if i≤x∧x<i+k then x-i+j else if j≤x∧x<j+k then x-j+i else x
theorem px{i j k:Nat}(h:i+k≤j)(x:Nat):iI i j k (iI i j k x)=x:=by
 unfold iI
 (repeat' split)<;>omega
theorem wQ{i j k m:Nat}(h:i+k≤j)(hj:j+k≤m)(x:Nat)(hx:x<m):iI i j k x<m:=by
 unfold iI
 (repeat' split)<;>omega
theorem Ba{i j k m:Nat}(h:i+k≤j)(hm:m≤i)(x:Nat)(hx:x<m):iI i j k x=x:=by
 unfold iI
 (repeat' split)<;>omega
section
variable {P:Program} {g:Gl} {B:Nat} {S:Nat→Prop} {n:Nat} {fl:Fl} {w:World} {gs:List G1} {om:Nat→Option (Nat×Bool)} {s:Nat→AV} {objs:List Obj} {Q:Qt}
theorem aC(i j k:Nat){L:List (Nat×AV)}{aZ:List Obj}{L2:List (Nat×AV)}{I:Nat→(Nat→AV)→List Obj→Prop}{m}(h1:i+k≤j)(h2:j+k≤objs.length)(h3:fl.n≤i)
    (ho:aZ=(List.range objs.length).map fun r=>(objs.getD (iI i j k r) .dead).ren (iI i j k)) (hL:L2=iG (iI i j k) L)
    (h:Rounds B S n fl I m (fun _ _ _=>False) .normal (slots L2) aZ):Rounds B S n fl I m (fun _ _ _=>False) .normal (slots L) objs:=by
 subst hL;obtain⟨m',hm',s2,o2,hw,hI⟩:=h;refine⟨m',hm',s2,o2,(Weak.ren (σ:=iI i j k) (τ:=iI i j k) (px h1) (px h1) (fun x hx=>Ba h1 h3 x hx) (fun x=>⟨wQ h1 h2 x,fun hx=>by have:=wQ h1 h2 _ hx;rwa [px h1]at this⟩) ho).trans hw (fun w gs om q1 q2=>by rw[←q1.len];exact q2),hI⟩
theorem Weak.kills(live:List Nat){L:List (Nat×AV)}(hL:eu s live=L):Weak B S n fl s objs (slots L) objs:=by
 subst hL;exact Weak.kill (fun j=>nt j)
theorem aD(live:List Nat){L:List (Nat×AV)}{I:Nat→(Nat→AV)→List Obj→Prop}{m}(hL:eu s live=L)(h:Rounds B S n fl I m (fun _ _ _=>False) .normal (slots L) objs):Rounds B S n fl I m (fun _ _ _=>False) .normal s objs:=by
 subst hL;exact ah live h
end
def fT(N:Nat)(l:List Nat)(x:Nat):Nat:=if x<N then l.getD x x else x
def yx(N m:Nat)(l l2:List Nat):Bool:=(List.range N).all fun x=>decide (fT N l x<N)&&decide (fT N l2 x<N)&&(fT N l2 (fT N l x)==x)&&(fT N l (fT N l2 x)==x)&&(decide (m≤x)||fT N l2 x==x)
theorem wz{N m:Nat}{l l2:List Nat}(h:yx N m l l2=true):(∀x,fT N l (fT N l2 x)=x)∧(∀x,fT N l2 (fT N l x)=x)∧(∀x,x<m→fT N l2 x=x)∧∀x,x<N↔fT N l x<N:=by
 simp only[yx,List.all_eq_true,List.mem_range,Bool.and_eq_true,decide_eq_true_eq,beq_iff_eq,Bool.or_eq_true]at h;have out:∀(l:List Nat) x,¬x<N→fT N l x=x:=fun l x hx=>by unfold fT;rw[if_neg hx]
 refine⟨fun x=>?_,fun x=>?_,fun x hx=>?_,fun x=>?_⟩
 ·by_cases hx:x<N
  ·exact(h x hx).1.2
  ·rw[out l2 x hx,out l x hx]
 ·by_cases hx:x<N
  ·exact(h x hx).1.1.2
  ·rw[out l x hx,out l2 x hx]
 ·by_cases Oh:x<N
  ·rcases(h x Oh).2 with q|q
   ·omega
   ·exact q
  ·exact out l2 x Oh
 ·by_cases hx:x<N
  ·exact⟨fun _=>(h x hx).1.1.1.1,fun _=>hx⟩
  ·rw[out l x hx]
section
variable {P:Program} {g:Gl} {B:Nat} {S:Nat→Prop} {n:Nat} {fl:Fl} {w:World} {gs:List G1} {om:Nat→Option (Nat×Bool)} {s:Nat→AV} {objs:List Obj} {Q:Qt} {ops:Array Oper} {hard:List Nat}
theorem Weak.perm{L L2:List (Nat×AV)}{aZ:List Obj}(l l2:List Nat)(hp:yx objs.length fl.n l l2=true)(hL:iG (fT objs.length l) L=L2)(h2:(List.range objs.length).map (fun r=>(objs.getD (fT objs.length l2 r) .dead).ren (fT objs.length l))=aZ) :
    Weak B S n fl (slots L) objs (slots L2) aZ:=by
 subst hL;obtain⟨h1,h3,h4,h5⟩:=wz hp;exact Weak.ren (σ:=fT objs.length l) (τ:=fT objs.length l2) h1 h3 h4 h5 h2.symm
theorem Br{id c}{L:List (Nat×AV)}{aZ:List Obj}(A:List Nat)(hko:gW fl ops hard)(hm:P.follows .mixedOrders=true)(d:Nat)(os:List (List Nat))(hos:(jE A).all (fun π=>os.any fun o=>fw ops hard (fR π) d o)=true)
    (h:qb (fun o=>Run P g n ops hard o s allT objs (Ends fun _ s' o'=>Weak B S n fl s' o' (slots L) aZ)) os) (hc:Then P g B S n fl c Q .normal (slots L) aZ):W P g B S n fl (.region id ops true) s objs (Then P g B S n fl c Q):=by
 refine(il A hko hm d os hos (Q:=fun e s' o'=>e = .normal∧Weak B S n fl s' o' (slots L) aZ) ?_).mono fun e s' o' ⟨h1,h2⟩=>?_
 ·have:∀ {os:List (List Nat)},qb (fun o=>Run P g n ops hard o s allT objs (Ends fun _ s' o'=>Weak B S n fl s' o' (slots L) aZ)) os→qb (fun o=>Run P g n ops hard o s allT objs (Ends fun e s' o'=>e = .normal∧Weak B S n fl s' o' (slots L) aZ)) os:=by
   intro os
   induction os with
   | nil=>intro _;trivial
   | cons o os ih=>
    rintro⟨⟨s1,c1,o1,t1,L1,e1,e2⟩,h⟩;exact⟨⟨s1,c1,o1,t1,L1,e1,rfl,e2⟩,ih h⟩
  exact this h
 ·subst h1;exact gF h2 hc
theorem jS{id c}(A:List Nat)(hko:gW fl ops hard)(hm:P.follows .mixedOrders=true)(d:Nat)(o1:List Nat)(os:List (List Nat))(hos:(jE A).all (fun π=>(o1::os).any fun o=>fw ops hard (fR π) d o)=true)
    (h:Run P g n ops hard o1 s allT objs (Ends fun _ s' o'=>∃L,s'=slots L∧qb (fun o=>Run P g n ops hard o s allT objs (Ends fun _ s2 o2=>Weak B S n fl s2 o2 (slots L) o')) os∧Then P g B S n fl c Q .normal (slots L) o')) :
    W P g B S n fl (.region id ops true) s objs (Then P g B S n fl c Q):=by
 obtain⟨s1,c1,o',t1,L1,e1,L,e2,h2,hc⟩:=h;exact Br (L:=L) (aZ:=o') A hko hm d (o1::os) hos ⟨⟨s1,c1,o',t1,L1,e1,by rw[e2];exact Weak.refl⟩,h2⟩ hc
end
attribute [simp] AV.ren AV.ss iG iI fT
@[simp] theorem LN{σ T cs}:Obj.ren σ (.var T cs) = .var T (AV.ss σ cs):=rfl
@[simp] theorem LM{σ k xs}:Obj.ren σ (.row k xs) = .row k xs:=rfl
@[simp] theorem Lc{σ}:Obj.ren σ .dead = .dead:=rfl
end Go.aN
/- A region that draws: some operations in any order that their ties let. Lemmas alone. -/
namespace Go.aN
open Go.RowKit Go.Lib
section
variable {P:Program} {g:Gl} {B:Nat} {S:Nat→Prop} {n:Nat} {fl:Fl} {w:World} {gs:List G1} {om:Nat→Option (Nat×Bool)} {s:Nat→AV} {objs:List Obj} {Q:Qt} {ops:Array Oper} {hard:List Nat}
theorem vO:∀(fuel t:Nat) (listed:Array Bool),listed.size=ops.size→∀i∈Region.linearise.go .any ops fuel t listed [],∀j∈d9 ops i,
    listed.getD j false=true∨(Region.linearise.go .any ops fuel t listed []).idxOf j<(Region.linearise.go .any ops fuel t listed []).idxOf i
 | 0,t,listed,hsz,i,hi,j,hj=>by simp[Region.linearise.go]at hi
 | fuel+1,t,listed,hsz,i,hi,j,hj=>by
  cases hr:(Region.ready .any ops listed)[t%(Region.ready .any ops listed).length]? with
  | none=>
   exfalso;simp only[Region.linearise.go]at hi
   change i∈(match (Region.ready .any ops listed)[t%(Region.ready .any ops listed).length]? with
     | some i => Region.linearise.go .any ops fuel (t / (Region.ready .any ops listed).length) (listed.setIfInBounds i true) [i]
     | none => [].reverse) at hi
   rw[hr]at hi;simp at hi
  | some i0=>
   have hL:Region.linearise.go .any ops (fuel+1) t listed []=i0::Region.linearise.go .any ops fuel (t/(Region.ready .any ops listed).length) (listed.setIfInBounds i0 true) []:=by
    simp only[Region.linearise.go]
    change (match (Region.ready .any ops listed)[t%(Region.ready .any ops listed).length]? with
      | some i => Region.linearise.go .any ops fuel (t / (Region.ready .any ops listed).length) (listed.setIfInBounds i true) [i]
      | none => [].reverse) = _
    rw[hr];simp only;rw[linearise_go_acc,List.reverse_singleton,List.singleton_append]
   rw[hL]at hi ⊢;obtain⟨h1,o,ho,h2⟩:=mem_ready.1 (List.mem_of_getElem? hr);by_cases e:i=i0
   ·subst e;left;simp only[d9,ho,List.mem_map,List.mem_filter]at hj;obtain⟨q,⟨hq,hb⟩,rfl⟩:=hj;exact h2 q (by simpa using hq) hb
   ·have hi':i∈Region.linearise.go .any ops fuel (t/(Region.ready .any ops listed).length) (listed.setIfInBounds i0 true) []:=by
     rcases List.mem_cons.1 hi with h|h
     ·exact absurd h e
     ·exact h
    have ih:=vO fuel (t/(Region.ready .any ops listed).length) (listed.setIfInBounds i0 true) (by simpa using hsz) i hi' j hj;by_cases ej:j=i0
    ·subst ej;right;rw[List.idxOf_cons,List.idxOf_cons,show (j==j)=true by simp,show (j==i)=false by simpa using fun h=>e h.symm];simp
    ·rcases ih with ih|ih
     ·left;rw[Array.getD_eq_getD_getElem?,Array.getElem?_setIfInBounds_ne (fun h=>ej h.symm),←Array.getD_eq_getD_getElem?]at ih;exact ih
     ·right;rw[List.idxOf_cons,List.idxOf_cons,show (i0==j)=false by simpa using fun h=>ej h.symm,show (i0==i)=false by simpa using fun h=>e h.symm];simp;exact ih
def nE(ops:Array Oper)(A:List Nat)(π:List Nat):Bool:=(fR π).any fun p=>(d9 ops p.1).contains p.2&&decide (A.idxOf p.2<A.idxOf p.1)
theorem iP{id}(A:List Nat)(hko:gW fl ops hard)(hm:P.follows .mixedOrders=true)(d:Nat)(os:List (List Nat))(hos:(jE A).all (fun π=>nE ops A π||os.any fun o=>fw ops hard (fR π) d o)=true)
    (h:qb (fun o=>Run P g n ops hard o s allT objs (Ends Q)) os):W P g B S n fl (.region id ops true) s objs Q:=fun a w gs om g1 g2 g3 g4 g5=>by
 have x':Ext B w gs om {w with drawn:=w.drawn+1} gs om:=⟨List.prefix_rfl,⟨rfl,rfl,rfl,Nat.le_refl _,fun _ _=>rfl⟩,fun b hb=>⟨hb,rfl⟩⟩;have hl:fl.n≤gs.length:=by rw[g3.len];exact g5
 refine wp_region_draw fun t=>?_
 simp only[Region.schedule,hm,Bool.true_or,if_true];have hpr:=vO (ops:=ops) ops.size t (Array.replicate ops.size false) (by simp);generalize hL:Region.linearise.go .any ops ops.size t (Array.replicate ops.size false) []=L at hpr;have Kr:∀x,A.idxOf x<A.length+1:=fun x=>Nat.lt_succ_of_le List.idxOf_le_length
 have hp:=nw (fun x=>L.idxOf x*(A.length+1)+A.idxOf x) A;have hs:=kT (jQ (fun x=>L.idxOf x*(A.length+1)+A.idxOf x) A)
 have hlt:∀x y,L.idxOf y<L.idxOf x→L.idxOf y*(A.length+1)+A.idxOf y<L.idxOf x*(A.length+1)+A.idxOf x:=fun x y h=>by
  have h1:(L.idxOf y+1)*(A.length+1)≤L.idxOf x*(A.length+1):=Nat.mul_le_mul_right _ h;have:=Kr y;rw[Nat.add_mul]at h1;omega
 have hany:=List.all_eq_true.1 hos _ hp
 have hnb:nE ops A (nv (fun x=>L.idxOf x*(A.length+1)+A.idxOf x) A)=false:=by
  cases hb:nE ops A (nv (fun x=>L.idxOf x*(A.length+1)+A.idxOf x) A)with
  | false=>rfl
  | true=>
   exfalso;unfold nE at hb;obtain⟨p,hp1,hp2⟩:=List.any_eq_true.1 hb;simp only[Bool.and_eq_true,List.contains_iff_mem,decide_eq_true_eq]at hp2;have hle:=hs p hp1;by_cases hx:p.1∈L
   ·rcases hpr p.1 hx p.2 hp2.1 with h|h
    ·rw[Array.getD_eq_getD_getElem?]at h;by_cases hq:p.2<ops.size
     ·simp[hq]at h
     ·simp[hq]at h
    ·have:=hlt p.1 p.2 h;omega
   ·have e1:L.idxOf p.1=L.length:=List.idxOf_eq_length hx;by_cases hy:p.2∈L
    ·have:=List.idxOf_lt_length_of_mem hy;have:=hlt p.1 p.2 (by omega);omega
    ·have e2:L.idxOf p.2=L.length:=List.idxOf_eq_length hy;rw[e1,e2]at hle;omega
 simp only[hnb,Bool.false_or]at hany;obtain⟨o,ho1,ho⟩:=List.any_eq_true.1 hany;have hrun:=h.get o ho1
 have:WR P g B S n fl ops L s objs Q:=by
  simp only[fw,Bool.and_eq_true,decide_eq_true_eq,List.all_eq_true,List.mem_range,List.contains_iff_mem]at ho;obtain⟨⟨⟨⟨hlen,q1⟩,q2⟩,q3⟩,q4⟩:=ho;obtain⟨s',c',o',tt,L',e1,e2⟩:=hrun;rw[cA]at tt
  have tr:=nz (P:=P) (g:=g) (n:=n) (ops:=ops) (hard:=hard) (d:=d) ops.size t (Array.replicate ops.size false) o s objs _ o' hlen (by simp) q1 (fun i hi=>q3 i hi)
   (fun i hi=>by simp[hi,q2 i hi]) (fun i hi h=>by simp[hi]at h) q4 (fun a b hab _ _=>by
     have := hs (a, b) hab
     rw [hL]; simp only at this
     intro hc
     have := hlt a b hc
     omega) tt
  rw[hL]at tr;have:=la (B:=B) (S:=S) (fl:=fl) (l2:=[]) (Q:=Q) hko tr (kC e1 (ja e2))
  rwa [List.append_nil]at this
 rw[show Region.linearise .any ops t=L from hL];exact d7 (this a {w with drawn:=w.drawn+1} gs om (gU g1 g2 x'.below) g2 g3.drawn ⟨g4.size,g4.defers,fun i=>g3.iD x' (g4.rel i)⟩ g5) fun e a w2 h=>h.trans x'.dm hl
end
end Go.aN
/- A nil slice that stands in a variable, as a row of its own. Lemmas alone. -/
namespace Go.aN
open Go.RowKit Go.Lib
section
variable {P:Program} {g:Gl} {B:Nat} {S:Nat→Prop} {n:Nat} {fl:Fl} {s:Nat→AV} {objs:List Obj}
theorem aQ.CQ{w:World}{N:Nat→Prop}{gs:List G1}:∀ {as:List AV} {vs:List Value} {i:Nat} {b:AV} {v:Value},aQ w S N gs as vs→vs[i]?=some v→a8 w S N gs b v→aQ w S N gs (as.set i b) vs
 | _,_,_,_,_,.nil,hv,_=>by simp at hv
 | _,_,0,_,_,.cons h t,hv,hb=>by simp at hv;subst hv;exact .cons hb t
 | _,_,i+1,_,_,.cons h t,hv,hb=>.cons h (aQ.CQ t (by simpa using hv) hb)
theorem Weak.kR(r i k:Nat){T:TypeId}{cs:List AV}(hr:objs[r]?=some (.var T cs))(hc:cs[i]?=some (.d (.v (.slice none 0 0)))) :
    Weak B S n fl s objs s ((objs++[Obj.row k []]).set r (Obj.var T (cs.set i (AV.hdr objs.length 0 0)))):=fun w a gs om hM hF hlen=>by
 have h:=hM.si 0 k;have hrl:r<objs.length:=(List.getElem?_eq_some_iff.1 hr).1;refine⟨_,om,⟨by simp[hM.len],fun r1 o1 h1=>?_,hM.hS,hM.hB⟩,⟨hF.size,hF.defers,fun j=>hM.iD h.1 (hF.rel j)⟩,h.1.dm⟩;rcases eg h1 with ⟨rfl,rfl⟩|⟨hne,h1⟩
 ·have ho:=h.2.obj r1 (.var T cs) (by rw[List.getElem?_append_left hrl];exact hr)
  cases ho with
  | var hg hb hB ho hw hv=>
   obtain⟨v,hv1,hv2⟩:=hv.get hc;refine .var hg hb hB ho hw (aQ.CQ hv hv1 ?_)
   cases hv2 with
   | d hr=>
    cases hr;exact .fP (cY _ _ hM.len) rfl
 ·exact h.2.obj r1 o1 h1
theorem iT{fl:Nat}{fn:Func}{as av aj}(h1:Got (eU P s objs fn.results.toList) (some as))(h2:gT as=av)(h3:aj=objs):qC P fn fl av aj .normal s objs:=⟨as,h1,h2,.inl h3⟩
theorem vv{fl:Nat}{fn:Func}{as av aj}(m:Nat)(h1:Got (eU P s objs fn.results.toList) (some as))(h2:gT as=av)(h3:aj=objs.take m)(h4:fl≤m)(h5:av.lt m=true)(h6:bE m (objs.take m)=true):qC P fn fl av aj .normal s objs:=
 ⟨as,h1,h2,.inr ⟨m,h3,h4,h5,h6⟩⟩
end
end Go.aN
/- Arguments as a row's statement tells them, as data. Lemmas alone. -/
namespace Go.aN
open Go.RowKit
structure Opens (P:Program) (t:TypeId) {α:Type} (enc:α→List D):Prop where
 get:∀ {H:Type} (e:TypeId×Value→H) (W:World) (spare:Nat→Bool) (held:Bool) (fuel:Nat) (cs:List Value) (x:DataW H×List MemPlace),
  DataW.trod e P W 0 spare held fuel t cs=some x→∃a:α,aW W (fun b=>b<W.heap.size) (fun _=>False) (enc a) cs []
structure qn (P:Program) (n:Nat) (fs:List Field) (off:Nat) {α:Type} (enc:α→List D):Prop where
 get:∀ {H:Type} (e:TypeId×Value→H) (W:World) (spare:Nat→Bool) (held:Bool) (fuel:Nat) (cs:List Value),cs.length=n →
  (∀f∈fs,∃x,DataW.trod e P W 0 spare held fuel f.type ((cs.drop f.offset).take (P.cellsOf f.type))=some x)→∃a:α,aW W (fun b=>b<W.heap.size) (fun _=>False) (enc a) (cs.drop off) []
section
variable {P:Program} {t e:TypeId} {α β:Type} {enc:α→List D}
theorem Opens.map(h:Opens P t enc)(g:α→β){enc':β→List D}(hg:∀a,enc a=enc' (g a)):Opens P t enc':=.mk fun e W sp hd fuel cs x hx=>by
 obtain⟨a,ha⟩:=h.get e W sp hd fuel cs x hx;exact⟨g a,by rw[←hg];exact ha⟩
theorem AL{k:IntKind}(ht:P.underlying t=some (.int k)):Opens P t fun n:Int=>[.v (.int k n)]:=.mk fun e W sp hd fuel cs x hx=>by
 obtain⟨n,rfl,_,_⟩:=DataW.trod_int ht hx;exact⟨n,.cons (F:=[]) (G:=[]) (.v rfl) .nil⟩
theorem yv(ht:P.underlying t=some (.int .u8)):Opens P t fun b:UInt8=>[.v (.int .u8 b.toNat)]:=.mk fun e W sp hd fuel cs x hx=>by
 obtain⟨n,rfl,_,hw⟩:=DataW.trod_int ht hx
 have hb:0≤n∧n<256:=by
  obtain⟨h1,h2⟩:IntKind.u8.min≤n∧n≤IntKind.u8.max:=by simpa [Lit.wf]using hw
  have e1:IntKind.u8.min=0:=rfl;have e2:IntKind.u8.max=255:=rfl;omega
 refine⟨UInt8.ofNat n.toNat,.cons (F:=[]) (G:=[]) ?_ .nil⟩
 have:((UInt8.ofNat n.toNat).toNat:Int)=n:=by
  have:(UInt8.ofNat n.toNat).toNat=n.toNat%2^8:=UInt8.toNat_ofNat';omega
 rw[this];exact .v rfl
theorem yu(ht:P.underlying t=some .bool):Opens P t fun b:Bool=>[.v (.bool b)]:=.mk fun e W sp hd fuel cs x hx=>by
 obtain⟨b,rfl,_⟩:=DataW.trod_bool ht hx;exact⟨b,.cons (F:=[]) (G:=[]) (.v rfl) .nil⟩
theorem AM(ht:P.underlying t=some .string):Opens P t fun s:ByteArray=>[.v (.string s)]:=.mk fun e W sp hd fuel cs x hx=>by
 obtain⟨s,rfl,_,_⟩:=DataW.trod_string ht hx;exact⟨s,.cons (F:=[]) (G:=[]) (.v rfl) .nil⟩
theorem yw{len:Nat}{p:Nat→α→Prop}(h:∀i,i<len→∃a,p i a):∃l:List α,l.length=len∧∀i (hi:i<l.length),p i l[i]:=by
 refine⟨List.ofFn fun i:Fin len=>Classical.choose (h i.1 i.2),by simp,fun i hi=>?_⟩;simp only[List.getElem_ofFn];exact Classical.choose_spec (h i (by simpa using hi))
theorem sb{w:World}{S N:Nat→Prop}{k:Nat}{f:α→D}(hf:∀a,(f a).cells=enc a){cur:Array Value}:∀(l:List α) (off:Nat),
    (∀i (hi:i<l.length),∃cs:List Value,cs.length=k∧(∀j,j<k→cur[off+i*k+j]?=cs[j]?)∧aW w S N (enc l[i]) cs []) →
    aW w S N (flat (l.map f)) ((cur.toList.drop off).take (l.length*k)) []∧((cur.toList.drop off).take (l.length*k)).length=l.length*k
 | [],off,_=>by simp[flat];exact .nil
 | a::l,off,h=>by
  obtain⟨cs,h1,h2,h3⟩:=h 0 (by simp)
  obtain⟨r1,r2⟩:=sb hf l (off+k) fun i hi=>by
   obtain⟨cs,a1,a2,a3⟩:=h (i+1) (by simp;omega);refine⟨cs,a1,fun j hj=>?_,by simpa using a3⟩;rw[←a2 j hj];congr 1;rw[Nat.add_mul];omega
  have e1:(cur.toList.drop off).take k=cs:=by
   apply List.ext_getElem?;intro j;simp only[List.getElem?_take,List.getElem?_drop,Array.getElem?_toList];by_cases hj:j<k
   ·rw[if_pos hj,←h2 j hj];congr 1;omega
   ·rw[if_neg hj,List.getElem?_eq_none (by omega)]
  have e2:(cur.toList.drop off).take ((a::l).length*k)=cs++(cur.toList.drop (off+k)).take (l.length*k):=by
   rw[←e1,List.length_cons,Nat.add_mul,Nat.one_mul,Nat.add_comm (l.length*k) k,List.take_add,List.drop_drop]
  rw[e2];refine⟨?_,by simp only[List.length_append,h1,r2,List.length_cons,Nat.add_mul];omega⟩;have:flat ((a::l).map f)=enc a++flat (l.map f):=by rw[List.map_cons,flat,List.flatMap_cons,hf];rfl
  rw[this];simpa using aW.append (by simpa using h3) r1
theorem iC{k:Nat}{f:α→D}(ht:P.underlying t=some (.slice e))(hk:P.cellsOf e=k)(hk0:0<k)(he:Opens P e enc)(hf:∀a,(f a).cells=enc a)(hfit:∀a,Fits k (f a)) :
    Opens P t fun l:List α=>[rows k f l]:=.mk fun en W sp hd fuel cs x hx=>by
 rcases DataW.trod_slice ht hx with ⟨rfl,_⟩|⟨a,len,cap,elems,rest,n,_,rfl,_,_,hlc,hcm,hel,hat,_,_⟩
 ·exact⟨[],.cons (F:=[]) (G:=[]) (by exact .nil) .nil⟩
 ·by_cases h0:len=0
  ·subst h0;exact⟨[],.cons (F:=[]) (G:=[]) (.empty (by simp)) .nil⟩
  ·have hi:∀i,i<len→∃cs,W.cells? 0 (a.add (i*k)) k=some cs∧∃y:α,aW W (fun b=>b<W.heap.size) (fun _=>False) (enc y) cs []:=fun i hlt=>by
    have:=hat i hlt;rw[hk,List.getElem?_eq_getElem (by omega)]at this;obtain⟨cs,h1,h2⟩:=Option.bind_eq_some_iff.1 this;exact⟨cs,h1,he.get en W sp hd n cs _ h2⟩
   have hsp:a.spot=none:=by
    obtain⟨cs,h1,_⟩:=hi 0 (by omega);obtain⟨_,h2,h3⟩:=World.cells?_some h1;have h3:=h3 0 hk0;rw[List.getElem?_eq_getElem (by omega)]at h3;have:=World.cell?_spot h3;simpa [Addr.add]using this
   obtain⟨b,off,spot⟩:=a;simp only at hsp;subst hsp
   have hcell:∀i,i<len→∃cs:List Value,cs.length=k∧(∀j,j<k→W.cell? ⟨b,off+i*k+j,none⟩=cs[j]?)∧∃y:α,aW W (fun b=>b<W.heap.size) (fun _=>False) (enc y) cs []:=fun i hlt=>by
    obtain⟨cs,h1,y,h2⟩:=hi i hlt;obtain⟨_,h3,h4⟩:=World.cells?_some h1;refine⟨cs,h3,fun j hj=>?_,y,h2⟩;rw[←h4 j hj,iQ,iQ]
   have hheap:∃cur T fz,W.heap[b]?=some (.cells cur T fz):=by
    obtain⟨cs,h1,h2,_⟩:=hcell 0 (by omega);have h2:=h2 0 hk0;rw[List.getElem?_eq_getElem (by omega)]at h2
    cases hW:W.heap[b]? with
    | none=>simp[World.cell?,hW]at h2
    | some o=>cases o with
     | cells c T fz=>exact⟨c,T,fz,rfl⟩
     | _=>simp[World.cell?,hW]at h2
   obtain⟨cur,T,fz,hb⟩:=hheap
   obtain⟨l,hl,hp⟩:=yw (p:=fun i y=>∃cs:List Value,cs.length=k∧(∀j,j<k→cur[off+i*k+j]?=cs[j]?)∧aW W (fun b=>b<W.heap.size) (fun _=>False) (enc y) cs []) fun i hlt=>by
    obtain⟨cs,h1,h2,y,h3⟩:=hcell i hlt;refine⟨y,cs,h1,fun j hj=>?_,h3⟩;rw[←h2 j hj,cell_of_row W b _ cur T fz hb]
   obtain⟨r1,r2⟩:=sb (f:=f) hf l off hp;refine⟨l,.cons (F:=[]) (G:=[]) ?_ .nil⟩;have hlen:(l.map f).length=len:=by simpa using hl
   have:=cb.old (m:=.ro) (k:=k) (xs:=l.map f) (c:=cap) (w:=W) (S:=fun b=>b<W.heap.size) (N:=fun _=>False) (by simp) hb (fun _=>(Array.getElem?_eq_some_iff.1 hb).1) (by simp) (by rw[hlen];exact hlc)
    (by intro x hx;obtain⟨y,_,rfl⟩:=List.mem_map.1 hx;exact hfit y) rfl (by simpa using r2) (by simpa using r1)
   rw[hlen]at this;exact this
theorem oV{n off:Nat}(h:n≤off):qn P n [] off fun _:Unit=>[]:=.mk fun e W sp hd fuel cs hl _=>⟨(),by rw[List.drop_eq_nil_of_le (by omega)];exact .nil⟩
theorem cQ{n off:Nat}{f:Field}{fs:List Field}{enc2:β→List D}{size:Nat}(ho:f.offset=off)(hs:P.cellsOf f.type=size)(h1:Opens P f.type enc)(h2:qn P n fs (off+size) enc2) :
    qn P n (f::fs) off fun p:α×β=>enc p.1++enc2 p.2:=.mk fun e W sp hd fuel cs hl h=>by
 obtain⟨x,hx⟩:=h f (by simp);obtain⟨a,ha⟩:=h1.get e W sp hd fuel _ x hx;obtain⟨b,hb⟩:=h2.get e W sp hd fuel cs hl fun g hg=>h g (by simp[hg])
 refine⟨(a,b),?_⟩;have:=aW.append ha hb;rw[ho,hs,show cs.drop (off+size)=(cs.drop off).drop size by rw[List.drop_drop],List.take_append_drop]at this;exact this
theorem fH{fs:Array Field}{n:Nat}(ht:P.underlying t=some (.struct fs))(hn:P.cellsOf t=n)(h:qn P n fs.toList 0 enc):Opens P t enc:=.mk fun e W sp hd fuel cs x hx=>by
 obtain⟨xs,m,_,_,hl,hxl,hf⟩:=DataW.trod_struct ht hx
 have:=h.get e W sp hd m cs (by omega) fun f hfm=>by
  obtain⟨i,hi,rfl⟩:=List.getElem_of_mem hfm;have:=hf i fs.toList[i] (by rw[←Array.getElem?_toList];simp[hi]);rw[List.getElem?_eq_getElem (by simp at hi;omega)]at this;exact⟨_,this⟩
 simpa using this
theorem Opens.agg{b0:Nat}{H:Type}{en:TypeId×Value→H}{W:World}{sp:Nat→Bool}{hd:Bool}{r:Reach}{v:Value}{d:DataW H}{ps:List MemPlace}{fs:Array Field}(h:Opens P t enc)(ht:P.underlying t=some (.struct fs))
    (hv:Value.okWide P W r b0 t v) (hx:DataW.Trod en P W 0 sp hd t v d ps):∃a,cb W (fun b=>b<W.heap.size) (fun _=>False) (.agg (enc a)) v []:=by
 obtain⟨fuel,hx⟩:=hx;obtain⟨a,ha⟩:=h.get en W sp hd fuel _ _ hx;unfold Value.okWide at hv;rw[ht]at hv;obtain⟨cs,rfl,_,_⟩:=hv;have:=cb.agg ha;simp only[Value.cells,Array.toArray_toList]at this;exact⟨a,this⟩
theorem Opens.cell{H:Type}{en:TypeId×Value→H}{W:World}{sp:Nat→Bool}{hd:Bool}{v:Value}{d:DataW H}{ps:List MemPlace}{f:α→D}(h:Opens P t fun a=>[f a])(hv:v.cells.toList=[v])
    (hx:DataW.Trod en P W 0 sp hd t v d ps):∃a,cb W (fun b=>b<W.heap.size) (fun _=>False) (f a) v []:=by
 obtain⟨fuel,hx⟩:=hx;obtain⟨a,ha⟩:=h.get en W sp hd fuel _ _ hx;rw[hv]at ha;refine⟨a,?_⟩;generalize hF:([]:List Nat)=F at ha
 cases ha with
 | @cons _ _ F1 _ _ F2 h1 t1=>
  obtain⟨rfl,rfl⟩:=List.append_eq_nil_iff.1 hF.symm;exact h1
end
end Go.aN
namespace Go.aN
end Go.aN
