/- Lemmas of a walk over abstract states: data, objects, operations, regions, loops, contracts; no condition but those that each lemma names. -/
import Derived.Below
import Derived.Laws.CopyOwn
import GoSem.Dispatch
import Derived.Laws.Append
import Derived.Lib.ConvBytes
import Derived.Maps.AppendAt
import Derived.ArgAppend
import Derived.Lib.AppendStr
set_option linter.all false
/- The abstract states of the walk: data, abstract values, objects; how they stand to the machine's memory. Lemmas alone. -/
namespace Go.aN
open Go.RowKit
inductive M where
 | ro|sn|own
 deriving DecidableEq,Inhabited
inductive D where
 | v (x:Value)
 | row (m:M) (k:Nat) (xs:List D)
 | agg (cs:List D)
 | bK (ds:List D)
 deriving Inhabited
def D.cells:D→List D
 | .agg cs=>cs
 | d=>[d]
def D.aX:D→Bool
 | .v _ | .row .. => true
 | _=>false
def Fits(k:Nat)(x:D):Prop:=x.cells.length=k∧∀c∈x.cells,c.aX=true
def flat(xs:List D):List D:=xs.flatMap D.cells
mutual
inductive cb (w:World) (S N:Nat→Prop):D→Value→List Nat→Prop
 | v {x:Value} (h:x.oneCell'=true):cb w S N (.v x) x []
 | nil {m k}:cb w S N (.row m k []) (.slice none 0 0) []
 | empty {m k a c} (hm:m ≠ .own):cb w S N (.row m k []) (.slice a 0 c) []
 | old {m k xs b off c cur T fz vs} (hm : m ≠ .own) (hb : w.heap[b]? = some (.cells cur T fz)) (hS : m = .ro → S b) (hN : m = .sn → N b) (hcap : xs.length ≤ c)
     (hk:∀x∈xs,Fits k x) (hvs:vs=(cur.toList.drop off).take (xs.length*k)) (hl:vs.length=xs.length*k)
     (h:aW w S N (flat xs) vs []):cb w S N (.row m k xs) (.slice (some ⟨b,off,none⟩) xs.length c) []
 | own {k xs b c cur T vs F} (hb : w.heap[b]? = some (.cells cur T (0, 0))) (hc : cur.size = c * k) (hn : xs.length ≤ c) (hm : c ≤ maxLen)
     (hk:∀x∈xs,Fits k x) (hvs:vs=cur.toList.take (xs.length*k))
     (h:aW w S N (flat xs) vs F):cb w S N (.row .own k xs) (.slice (some ⟨b,0,none⟩) xs.length c) (b::F)
 | agg {cs:List D} {vs:List Value} {F} (h:aW w S N cs vs F):cb w S N (.agg cs) (.agg vs.toArray) F
 | bK {cs:List D} {vs:List Value} {F} (h:aW w S N cs vs F):cb w S N (.bK cs) (.tuple vs.toArray) F
inductive aW (w:World) (S N:Nat→Prop):List D→List Value→List Nat→Prop
 | nil:aW w S N [] [] []
 | cons {d v F ds vs G} (h:cb w S N d v F) (t:aW w S N ds vs G):aW w S N (d::ds) (v::vs) (F++G)
end
section
variable {w w':World} {S S' N N':Nat→Prop} (hS:∀b,S b→S' b∧w'.heap[b]?=w.heap[b]?) (hN:∀b,N b→N' b∧w'.heap[b]?=w.heap[b]?)
include hS hN
mutual
theorem cb.mono:∀ {d v F},cb w S N d v F→(∀b∈F,w'.heap[b]?=w.heap[b]?)→cb w' S' N' d v F
 | _,_,_,.v h,_=>.v h
 | _,_,_,.nil,_=>.nil
 | _,_,_,.empty hm,_=>.empty hm
 | _,_,_,.old (m:=m) hm hb h1 h2 hq hk hvs hl h,_=>
  .old hm ((by cases m with
    | ro => exact (hS _ (h1 rfl)).2
    | sn => exact (hN _ (h2 rfl)).2
    | own => exact absurd rfl hm : w'.heap[_]? = w.heap[_]?).trans hb) (fun e => (hS _ (h1 e)).1) (fun e => (hN _ (h2 e)).1) hq hk hvs hl (aW.mono h (by simp))
 | _,_,_,.own hb hc hn hm hk hvs h,hF=>.own ((hF _ (by simp)).trans hb) hc hn hm hk hvs (aW.mono h (fun b hb=>hF b (by simp[hb])))
 | _,_,_,.agg h,hF=>.agg (aW.mono h hF)
 | _,_,_,.bK h,hF=>.bK (aW.mono h hF)
theorem aW.mono:∀ {ds vs F},aW w S N ds vs F→(∀b∈F,w'.heap[b]?=w.heap[b]?)→aW w' S' N' ds vs F
 | _,_,_,.nil,_=>.nil
 | _,_,_,.cons h t,hF=>.cons (cb.mono h (fun b hb=>hF b (by simp[hb]))) (aW.mono t (fun b hb=>hF b (by simp[hb])))
end
end
theorem aW.length{w S N ds vs F}(h:aW w S N ds vs F):ds.length=vs.length:=by
 induction ds generalizing vs F with
 | nil=>cases h;rfl
 | cons d ds ih=>cases h with|cons h t=>simp[ih t]
theorem aW.append{w S N ds vs F ds' vs' F'}(h:aW w S N ds vs F)(h':aW w S N ds' vs' F'):aW w S N (ds++ds') (vs++vs') (F++F'):=by
 induction ds generalizing vs F with
 | nil=>cases h;simpa using h'
 | cons d ds ih=>cases h with|cons h t=>simpa using aW.cons h (ih t)
theorem aW.split{w S N ds ds' us F}(h:aW w S N (ds++ds') us F) :
    ∃F1 F2,F=F1++F2∧aW w S N ds (us.take ds.length) F1∧aW w S N ds' (us.drop ds.length) F2:=by
 induction ds generalizing us F with
 | nil=>exact⟨[],F,rfl,by simpa using aW.nil,by simpa using h⟩
 | cons d ds ih=>
  cases h with
  | @cons _ v F1 _ vs G h t=>
   obtain⟨G1,G2,rfl,h1,h2⟩:=ih t;exact⟨F1++G1,G2,by simp,by simpa using aW.cons h h1,by simpa using h2⟩
def D.snap:D→D
 | .v x=>.v x
 | .row m k xs=>.row (if m = .own then .sn else m) k (xs.attach.map fun⟨x,_⟩=>x.snap)
 | .agg cs=>.agg (cs.attach.map fun⟨x,_⟩=>x.snap)
 | .bK cs=>.bK (cs.attach.map fun⟨x,_⟩=>x.snap)
def D.cF:D→D
 | .v x=>.v x
 | .row _ k xs=>.row .ro k (xs.attach.map fun⟨x,_⟩=>x.cF)
 | .agg cs=>.agg (cs.attach.map fun⟨x,_⟩=>x.cF)
 | .bK cs=>.bK (cs.attach.map fun⟨x,_⟩=>x.cF)
theorem nu(x):(D.v x).snap = .v x:=by simp[D.snap]
theorem gO(m k xs):(D.row m k xs).snap = .row (if m = .own then .sn else m) k (xs.map D.snap):=by simp[D.snap]
theorem ko(xs):(D.agg xs).snap = .agg (xs.map D.snap):=by simp[D.snap]
theorem ow(xs):(D.bK xs).snap = .bK (xs.map D.snap):=by simp[D.snap]
theorem gp(x):(D.v x).cF = .v x:=by simp[D.cF]
theorem dO(m k xs):(D.row m k xs).cF = .row .ro k (xs.map D.cF):=by simp[D.cF]
theorem ot(xs):(D.agg xs).cF = .agg (xs.map D.cF):=by simp[D.cF]
theorem sE(xs):(D.bK xs).cF = .bK (xs.map D.cF):=by simp[D.cF]
theorem kG(x:D):x.snap.cells=x.cells.map D.snap:=by cases x<;>simp[nu,gO,ko,ow,D.cells]
theorem jb(x:D):x.cF.cells=x.cells.map D.cF:=by cases x<;>simp[gp,dO,ot,sE,D.cells]
theorem oU(xs:List D):flat (xs.map D.snap)=(flat xs).map D.snap:=by
 simp only[flat,List.flatMap_map,List.map_flatMap];congr;funext x;exact kG x
theorem md(xs:List D):flat (xs.map D.cF)=(flat xs).map D.cF:=by
 simp only[flat,List.flatMap_map,List.map_flatMap];congr;funext x;exact jb x
theorem zH{vs:List Value}{cur:Array Value}{c k n:Nat}(hc:cur.size=c*k)(hn:n≤c)(hvs:vs=cur.toList.take (n*k)):vs.length=n*k:=by
 have:n*k≤c*k:=Nat.mul_le_mul_right _ hn;simp[hvs,hc,this]
theorem m9{f:D→D}(hf:∀x,(f x).cells=x.cells.map f)(hf2:∀x,(f x).aX=x.aX){xs:List D}{k:Nat}(hk:∀x∈xs,Fits k x):∀x∈xs.map f,Fits k x:=by
 intro x hx;obtain⟨y,hy,rfl⟩:=List.mem_map.1 hx;refine⟨by rw[hf];simpa using(hk y hy).1,fun c hc=>?_⟩;rw[hf]at hc;obtain⟨z,hz,rfl⟩:=List.mem_map.1 hc;rw[hf2];exact(hk y hy).2 z hz
theorem lS(x:D):x.snap.aX=x.aX:=by cases x<;>simp[nu,gO,ko,ow,D.aX]
theorem jB(x:D):x.cF.aX=x.aX:=by cases x<;>simp[gp,dO,ot,sE,D.aX]
section
variable {w:World} {S N:Nat→Prop}
mutual
theorem cb.snap:∀ {d v F},cb w S N d v F→(∀b∈F,N b)→cb w S N d.snap v []
 | _,_,_,.v h,_=>by rw[nu];exact .v h
 | _,_,_,.nil,_=>by rw[gO];exact .nil
 | _,_,_,.empty (m:=m) hm,_=>by rw[gO];exact .empty (by cases m<;>simp_all)
 | _,_,_,.old (xs:=xs) (c:=c) hm hb h1 h2 hq hk hvs hl h,_=>by
  have t:=aW.snap h (by simp);rw[gO,if_neg hm];have:=cb.old (c:=c) hm hb h1 h2 (by simpa using hq) (m9 kG lS hk) (by simpa using hvs) (by simpa using hl) (by rw[oU];exact t);rw[List.length_map]at this;exact this
 | _,_,_,.own (c:=c) hb hc hn hm hk hvs h,hF=>by
  have t:=aW.snap h (fun b hb=>hF b (by simp[hb]));rw[gO,if_pos rfl];have:=cb.old (m:=.sn) (S:=S) (c:=c) (off:=0) (by simp) hb (by simp) (fun _=>hF _ (by simp)) (by simpa using hn) (m9 kG lS hk) (by simpa using hvs) (by simpa using zH hc hn hvs) (by rw[oU];exact t);rw[List.length_map]at this;exact this
 | _,_,_,.agg h,hF=>by rw[ko];exact .agg (aW.snap h hF)
 | _,_,_,.bK h,hF=>by rw[ow];exact .bK (aW.snap h hF)
theorem aW.snap:∀ {ds vs F},aW w S N ds vs F→(∀b∈F,N b)→aW w S N (ds.map D.snap) vs []
 | _,_,_,.nil,_=>.nil
 | _,_,_,.cons h t,hF=>aW.cons (F:=[]) (G:=[]) (cb.snap h (fun b hb=>hF b (by simp[hb]))) (aW.snap t (fun b hb=>hF b (by simp[hb])))
end
end
section
variable {w:World} {S N S' N':Nat→Prop} (hS:∀b,S b→S' b) (hN:∀b,N b→S' b)
include hS hN
mutual
theorem cb.cF:∀ {d v F},cb w S N d v F→(∀b∈F,S' b)→cb w S' N' d.cF v []
 | _,_,_,.v h,_=>by rw[gp];exact .v h
 | _,_,_,.nil,_=>by rw[dO];exact .nil
 | _,_,_,.empty hm,_=>by rw[dO];exact .empty (by simp)
 | _,_,_,.old (m:=m) (c:=c) hm hb h1 h2 hq hk hvs hl h,_=>by
  have t:=aW.cF h (by simp);rw[dO]
  have := cb.old (m := .ro) (S := S') (N := N') (c := c) (by simp) hb (fun _ => by cases m with
    | ro => exact hS _ (h1 rfl)
    | sn => exact hN _ (h2 rfl)
    | own => exact absurd rfl hm) (by simp) (by simpa using hq) (m9 jb jB hk) (by simpa using hvs) (by simpa using hl) (by rw [md]; exact t)
  rw[List.length_map]at this;exact this
 | _,_,_,.own (c:=c) hb hc hn hm hk hvs h,hF=>by
  have t:=aW.cF h (fun b hb=>hF b (by simp[hb]));rw[dO];have:=cb.old (m:=.ro) (S:=S') (N:=N') (c:=c) (off:=0) (by simp) hb (fun _=>hF _ (by simp)) (by simp) (by simpa using hn) (m9 jb jB hk) (by simpa using hvs) (by simpa using zH hc hn hvs) (by rw[md];exact t);rw[List.length_map]at this;exact this
 | _,_,_,.agg h,hF=>by rw[ot];exact .agg (aW.cF h hF)
 | _,_,_,.bK h,hF=>by rw[sE];exact .bK (aW.cF h hF)
theorem aW.cF:∀ {ds vs F},aW w S N ds vs F→(∀b∈F,S' b)→aW w S' N' (ds.map D.cF) vs []
 | _,_,_,.nil,_=>.nil
 | _,_,_,.cons h t,hF=>aW.cons (F:=[]) (G:=[]) (cb.cF h (fun b hb=>hF b (by simp[hb]))) (aW.cF t (fun b hb=>hF b (by simp[hb])))
end
end
end Go.aN
/- Abstract values and objects, and how they stand to the machine's memory. Lemmas alone. -/
namespace Go.aN
open Go.RowKit
inductive AV where
 | d (x:D)
 | hdr (r off len:Nat)
 | cut (k:Nat) (xs:List D)
 | ptr (r i j:Nat)
 | rp (cs:List D) (j:Nat)
 | agg (cs:List AV)
 | bK (vs:List AV)
 | fn (f:Fn) (first caps:List AV)
 | tH (t:TypeId) (x:AV)
 | dead
 deriving Inhabited
structure vc where
 fn:FuncId
 n:Nat
 params:Array Tmp
 assign:Code
 body:Code
 deriving Inhabited
inductive NE where
 | row (len cap:Nat) (full:Bool)
 | raw (v:Value)
 deriving Inhabited
inductive Obj where
 | var (T:TypeId) (cs:List AV)
 | row (k:Nat) (xs:List D)
 | it (s:ByteArray) (pos:Nat)
 | hole (i r' len:Nat) (xs:List D)
 | lp (l:Nat) (c:vc) (L:List (Nat×AV)) (st:LoopState) (pend:Option Code)
 | blk (b:Nat)
 | nest (L:List NE)
 | dG (i r' len:Nat) (L:List NE)
 | grow (c:Nat) (zs:List Int)
 | dead
 deriving Inhabited
structure G1 where
 b:Option Nat
 k:Nat
 cap:Nat
mutual
inductive a8 (w:World) (S N:Nat→Prop) (gs:List G1):AV→Value→Prop
 | d {x v} (h:cb w S N x v []):a8 w S N gs (.d x) v
 | hdr {r off len g b o c} (hg : gs[r]? = some g) (hb : g.b = some b) (hcap : (off + c) * g.k = g.cap) (ho : o = off * g.k ∨ (c = 0 ∧ off ≠ 0)) (hlc : len ≤ c) (hm : c ≤ maxLen) :
     a8 w S N gs (.hdr r off len) (.slice (some ⟨b,o,none⟩) len c)
 | fP {r g} (hg:gs[r]?=some g) (hb:g.b=none):a8 w S N gs (.hdr r 0 0) (.slice none 0 0)
 | gK {k}:a8 w S N gs (.cut k []) (.slice none 0 0)
 | dU {k a}:a8 w S N gs (.cut k []) (.slice a 0 0)
 | cut {k xs b off cur T fz vs} (hb : w.heap[b]? = some (.cells cur T fz)) (hS : S b ∨ N b)
     (hk:∀x∈xs,Fits k x) (hvs:vs=(cur.toList.drop off).take (xs.length*k)) (hl:vs.length=xs.length*k)
     (h:aW w S N (flat xs) vs []):a8 w S N gs (.cut k xs) (.slice (some ⟨b,off,none⟩) xs.length xs.length)
 | ptr {r i j g b} (hg:gs[r]?=some g) (hb:g.b=some b):a8 w S N gs (.ptr r i j) (.pointer (some ⟨b,i*g.k+j,none⟩))
 | rp {cs j b o cur T fz vs} (hb : w.heap[b]? = some (.cells cur T fz)) (hS : S b ∨ N b) (hvs : vs = (cur.toList.drop o).take cs.length) (hl : vs.length = cs.length)
     (h:aW w S N cs vs []):a8 w S N gs (.rp cs j) (.pointer (some ⟨b,o+j,none⟩))
 | agg {cs vs} (h:aQ w S N gs cs vs):a8 w S N gs (.agg cs) (.agg vs.toArray)
 | bK {cs vs} (h:aQ w S N gs cs vs):a8 w S N gs (.bK cs) (.tuple vs.toArray)
 | fn {f first caps vs us} (h1:aQ w S N gs first vs) (h2:aQ w S N gs caps us):a8 w S N gs (.fn f first caps) (.func f vs.toArray us.toArray)
 | tH {t x v} (h:a8 w S N gs x v):a8 w S N gs (.tH t x) (.iface t v)
 | dead {v}:a8 w S N gs .dead v
inductive aQ (w:World) (S N:Nat→Prop) (gs:List G1):List AV→List Value→Prop
 | nil:aQ w S N gs [] []
 | cons {a v as vs} (h:a8 w S N gs a v) (t:aQ w S N gs as vs):aQ w S N gs (a::as) (v::vs)
end
theorem dj{gs gs':List G1}(hg:gs <+: gs'){r:Nat}{g:G1}(h:gs[r]?=some g):gs'[r]?=some g:=by
 obtain⟨t,rfl⟩:=hg
 have hr:r<gs.length:=by
  rcases Nat.lt_or_ge r gs.length with h'|h'
  ·exact h'
  ·simp[List.getElem?_eq_none h']at h
 rw[List.getElem?_append_left hr];exact h
section
variable {w w':World} {S N N':Nat→Prop} {gs gs':List G1} (hS:∀b,S b→w'.heap[b]?=w.heap[b]?) (hN:∀b,N b→N' b∧w'.heap[b]?=w.heap[b]?) (hg:gs <+: gs')
include hS hN hg
theorem zv{b:Nat}(h:S b∨N b):(S b∨N' b)∧w'.heap[b]?=w.heap[b]?:=by
 rcases h with h|h
 ·exact⟨.inl h,hS b h⟩
 ·exact⟨.inr (hN b h).1,(hN b h).2⟩
mutual
theorem a8.ext:∀ {a v},a8 w S N gs a v→a8 w' S N' gs' a v
 | _,_,.d h=>.d (cb.mono (fun b hb=>⟨hb,hS b hb⟩) hN h (by simp))
 | _,_,.hdr h1 h2 h3 h4 h5 h6=>.hdr (dj hg h1) h2 h3 h4 h5 h6
 | _,_,.fP h1 h2=>.fP (dj hg h1) h2
 | _,_,.gK=>.gK
 | _,_,.dU=>.dU
 | _,_,.cut h1 h2 h3 h4 h5 h6=>.cut ((zv hS hN hg h2).2.trans h1) (zv hS hN hg h2).1 h3 h4 h5 (aW.mono (fun b hb=>⟨hb,hS b hb⟩) hN h6 (by simp))
 | _,_,.ptr h1 h2=>.ptr (dj hg h1) h2
 | _,_,.rp h1 h2 h3 h4 h5=>.rp ((zv hS hN hg h2).2.trans h1) (zv hS hN hg h2).1 h3 h4 (aW.mono (fun b hb=>⟨hb,hS b hb⟩) hN h5 (by simp))
 | _,_,.agg h=>.agg (aQ.ext h)
 | _,_,.bK h=>.bK (aQ.ext h)
 | _,_,.fn h1 h2=>.fn (aQ.ext h1) (aQ.ext h2)
 | _,_,.tH h=>.tH (a8.ext h)
 | _,_,.dead=>.dead
theorem aQ.ext:∀ {as vs},aQ w S N gs as vs→aQ w' S N' gs' as vs
 | _,_,.nil=>.nil
 | _,_,.cons h t=>.cons (a8.ext h) (aQ.ext t)
end
end
theorem aQ.length{w S N gs as vs}(h:aQ w S N gs as vs):as.length=vs.length:=by
 induction as generalizing vs with
 | nil=>cases h;rfl
 | cons d ds ih=>cases h with|cons h t=>simp[ih t]
theorem aQ.get{w S N gs as vs}(h:aQ w S N gs as vs){i:Nat}{a:AV}(ha:as[i]?=some a):∃v,vs[i]?=some v∧a8 w S N gs a v:=by
 induction as generalizing vs i with
 | nil=>simp at ha
 | cons d ds ih=>
  cases h with
  | cons h t=>
   cases i with
   | zero=>simp at ha;subst ha;exact⟨_,rfl,h⟩
   | succ i=>exact ih t (by simpa using ha)
theorem aQ.append{w S N gs as vs bs us}(h:aQ w S N gs as vs)(h':aQ w S N gs bs us):aQ w S N gs (as++bs) (vs++us):=by
 induction as generalizing vs with
 | nil=>cases h;simpa using h'
 | cons d ds ih=>cases h with|cons h t=>exact .cons h (ih t)
theorem aQ.take{w S N gs as vs}(h:aQ w S N gs as vs)(n):aQ w S N gs (as.take n) (vs.take n):=by
 induction as generalizing vs n with
 | nil=>cases h;simpa using aQ.nil
 | cons d ds ih=>
  cases h with
  | cons h t=>cases n with
   | zero=>simpa using aQ.nil
   | succ n=>simpa using aQ.cons h (ih t n)
theorem aQ.drop{w S N gs as vs}(h:aQ w S N gs as vs)(n):aQ w S N gs (as.drop n) (vs.drop n):=by
 induction as generalizing vs n with
 | nil=>cases h;simpa using aQ.nil
 | cons d ds ih=>
  cases h with
  | cons h t=>cases n with
   | zero=>simpa using aQ.cons h t
   | succ n=>simpa using ih t n
theorem aQ.Hp{w S N gs ds vs}(h:aW w S N ds vs []):aQ w S N gs (ds.map .d) vs:=by
 induction ds generalizing vs with
 | nil=>cases h;exact .nil
 | cons d ds ih=>
  generalize hF:([]:List Nat)=F at h
  cases h with
  | @cons _ v F1 _ vs F2 h t=>
   obtain⟨rfl,rfl⟩:=List.append_eq_nil_iff.1 hF.symm;exact .cons (.d h) (ih t)
def Inner(B:Nat)(w:World)(om:Nat→Option (Nat×Bool))(b:Nat):Prop:=B≤b∧b<w.heap.size∧∀r,om b≠some (r,true)
inductive gu (w:World):List NE→List Value→List Nat→Prop
 | nil:gu w [] [] []
 | raw {v L vs F} (t:gu w L vs F):gu w (.raw v::L) (v::vs) F
 | zero {full L vs F} (t:gu w L vs F):gu w (.row 0 0 full::L) (.slice none 0 0::vs) F
 | row {len c full b cur T L vs F} (hb : w.heap[b]? = some (.cells cur T (0, 0))) (hc : cur.size = c) (hl : len ≤ c) (hm : c ≤ maxLen)
     (hf:full=true→∃zs:List Int,cur.toList=zs.map (Value.int .u8)) (t:gu w L vs F):gu w (.row len c full::L) (.slice (some ⟨b,0,none⟩) len c::vs) (b::F)
theorem gu.mono{w w':World}:∀ {L vs F},gu w L vs F→(∀b∈F,w'.heap[b]?=w.heap[b]?)→gu w' L vs F
 | _,_,_,.nil,_=>.nil
 | _,_,_,.raw t,h=>.raw (t.mono h)
 | _,_,_,.zero t,h=>.zero (t.mono h)
 | _,_,_,.row hb hc hl hm hf t,h=>.row ((h _ (by simp)).trans hb) hc hl hm hf (t.mono fun b hb=>h b (by simp[hb]))
inductive eA (B:Nat) (w:World) (S:Nat→Prop) (gs:List G1) (om:Nat→Option (Nat×Bool)) (r:Nat):Obj→Prop
 | var {T cs g b vals} (hg : gs[r]? = some g) (hb : g.b = some b) (hB : B ≤ b) (ho : om b = some (r, true)) (hw : w.heap[b]? = some (.cells vals T (0, 0)))
     (h:aQ w S (Inner B w om) gs cs vals.toList):eA B w S gs om r (.var T cs)
 | row0 {k g} (hg:gs[r]?=some g) (hk:g.k=k) (hb:g.b=none):eA B w S gs om r (.row k [])
 | row {T k xs g b cur vs F} (hg : gs[r]? = some g) (dP : g.k = k) (hb : g.b = some b) (hB : B ≤ b) (ho : om b = some (r, true)) (hw : w.heap[b]? = some (.cells cur T (0, 0)))
     (hc:cur.size=g.cap) (hn:xs.length*k≤g.cap) (hk:∀x∈xs,Fits k x) (hvs:vs=cur.toList.take (xs.length*k)) (h:aW w S (Inner B w om) (flat xs) vs F)
     (hF:F.Nodup) (dT:∀b∈F,B≤b∧b<w.heap.size∧om b=some (r,false)):eA B w S gs om r (.row k xs)
 | hole {i r' len xs v} (h:eA B w S gs om r (.row 1 (xs.set i (.v v)))) (hi:i<xs.length) (hne:r'≠r) (hv:a8 w S (Inner B w om) gs (.hdr r' 0 len) v):eA B w S gs om r (.hole i r' len xs)
 | it {s pos g b} (hg:gs[r]?=some g) (hb:g.b=some b) (hB:B≤b) (ho:om b=some (r,true)) (hw:w.heap[b]?=some (.stringIter s pos)):eA B w S gs om r (.it s pos)
 | lp {l c L st pend g tmps dk} (hg : gs[r]? = some g) (hb : g.b = some l) (hB : B ≤ l) (ho : om l = some (r, true))
     (hw:w.heap[l]?=some (.loop {state:=st,pending:=pend,fn:=c.fn,tmps:=tmps,params:=c.params,assign:=c.assign,body:=c.body,defers:=dk})) (hs:tmps.size=c.n)
     (h:∀p∈L,a8 w S (Inner B w om) gs p.2 (tmps.getD p.1 undef)):eA B w S gs om r (.lp l c L st pend)
 | blk {b g} (hg:gs[r]?=some g) (hb:g.b=some b) (hB:B≤b) (ho:om b=some (r,true)) (hw:w.heap[b]?=some (.deferred (some []))):eA B w S gs om r (.blk b)
 | kf {g} (hg:gs[r]?=some g) (hk:g.k=1) (hb:g.b=none):eA B w S gs om r (.nest [])
 | nest {T L g b cur vs F} (hg : gs[r]? = some g) (dP : g.k = 1) (hb : g.b = some b) (hB : B ≤ b) (ho : om b = some (r, true)) (hw : w.heap[b]? = some (.cells cur T (0, 0)))
     (hc:cur.size=g.cap) (hn:L.length≤g.cap) (hvs:vs=cur.toList.take L.length) (h:gu w L vs F)
     (hF:F.Nodup) (dT:∀b∈F,B≤b∧b<w.heap.size∧om b=some (r,false)):eA B w S gs om r (.nest L)
 | dG {i r' len L v} (h:eA B w S gs om r (.nest (L.set i (.raw v)))) (hi:i<L.length) (hne:r'≠r) (hv:a8 w S (Inner B w om) gs (.hdr r' 0 len) v):eA B w S gs om r (.dG i r' len L)
 | jW {c g} (hg:gs[r]?=some g) (hk:g.k=1) (hb:g.b=none) (hz:c=0):eA B w S gs om r (.grow c [])
 | grow {T c zs g b cur} (hg : gs[r]? = some g) (dP : g.k = 1) (hb : g.b = some b) (hB : B ≤ b) (ho : om b = some (r, true)) (hw : w.heap[b]? = some (.cells cur T (0, 0)))
     (hc:cur.size=g.cap) (hgc:g.cap=c) (hn:zs.length≤c) (hvs:cur.toList.take zs.length=zs.map (Value.int .u8)):eA B w S gs om r (.grow c zs)
 | dead:eA B w S gs om r .dead
structure bm (B:Nat) (w:World) (S:Nat→Prop) (objs:List Obj) (gs:List G1) (om:Nat→Option (Nat×Bool)):Prop where
 len:gs.length=objs.length
 obj:∀r o,objs[r]?=some o→eA B w S gs om r o
 hS:∀b,S b→b<B
 hB:B≤w.heap.size
structure Ext (B:Nat) (w:World) (gs:List G1) (om:Nat→Option (Nat×Bool)) (w':World) (gs':List G1) (bz:Nat→Option (Nat×Bool)):Prop where
 gs:gs <+: gs'
 below:Below B w w'
 inner:∀b,Inner B w om b→Inner B w' bz b∧w'.heap[b]?=w.heap[b]?
theorem Ext.refl(B w gs om):Ext B w gs om w gs om:=⟨List.prefix_rfl,.refl _ _,fun _ h=>⟨h,rfl⟩⟩
theorem Ext.trans{B w gs om w' gs' bz w'' gs'' K6}(h:Ext B w gs om w' gs' bz)(k:Ext B w' gs' bz w'' gs'' K6):Ext B w gs om w'' gs'' K6:=
 ⟨h.gs.trans k.gs,h.below.trans k.below,fun b hb=>⟨(k.inner b (h.inner b hb).1).1,(k.inner b (h.inner b hb).1).2.trans (h.inner b hb).2⟩⟩
theorem bm.vX{B w S objs gs om}(h:bm B w S objs gs om){w'}(hb:Below B w w'):∀b,S b→w'.heap[b]?=w.heap[b]?:=fun b hs=>hb.block b (h.hS b hs)
theorem bm.iD{B w S objs gs om}(h:bm B w S objs gs om){w' gs' bz}(e:Ext B w gs om w' gs' bz){a v}(hv:a8 w S (Inner B w om) gs a v) :
    a8 w' S (Inner B w' bz) gs' a v:=a8.ext (h.vX e.below) e.inner e.gs hv
theorem bm.wI{B w S objs gs om}(h:bm B w S objs gs om){w' gs' bz}(e:Ext B w gs om w' gs' bz){a v}(hv:aQ w S (Inner B w om) gs a v) :
    aQ w' S (Inner B w' bz) gs' a v:=aQ.ext (h.vX e.below) e.inner e.gs hv
theorem bm.AS{B w S objs gs om}(h:bm B w S objs gs om){w' gs' bz}(e:Ext B w gs om w' gs' bz){a v F}(hv:aW w S (Inner B w om) a v F)(hF:∀b∈F,w'.heap[b]?=w.heap[b]?) :
    aW w' S (Inner B w' bz) a v F:=aW.mono (fun b hb=>⟨hb,h.vX e.below b hb⟩) e.inner hv hF
theorem bm.Ff{B w S objs gs om}(h:bm B w S objs gs om){w' gs' bz}(e:Ext B w gs om w' gs' bz){r o}(ho:eA B w S gs om r o)
    (hk:∀b c,om b=some (r,c)→b<w.heap.size→bz b=some (r,c)∧w'.heap[b]?=w.heap[b]?):eA B w' S gs' bz r o:=by
 have lt:∀ {b:Nat} {x},w.heap[b]?=some x→b<w.heap.size:=fun {b x} hx=>(Array.getElem?_eq_some_iff.1 hx).1
 induction ho with
 | var hg hb hB ho hw hv=>exact .var (dj e.gs hg) hb hB (hk _ _ ho (lt hw)).1 ((hk _ _ ho (lt hw)).2.trans hw) (h.wI e hv)
 | row0 hg hk hb=>exact .row0 (dj e.gs hg) hk hb
 | row hg dP hb hB ho hw hc hn hk' hvs hv hF dT=>
  exact .row (dj e.gs hg) dP hb hB (hk _ _ ho (lt hw)).1 ((hk _ _ ho (lt hw)).2.trans hw) hc hn hk' hvs
   (h.AS e hv (fun b hb=>(hk _ _ (dT b hb).2.2 (dT b hb).2.1).2)) hF (fun b hb=>⟨(dT b hb).1,Nat.lt_of_lt_of_le (dT b hb).2.1 e.below.size,(hk _ _ (dT b hb).2.2 (dT b hb).2.1).1⟩)
 | hole _ hi hne hv ih=>exact .hole ih hi hne (h.iD e hv)
 | it hg hb hB ho hw=>exact .it (dj e.gs hg) hb hB (hk _ _ ho (lt hw)).1 ((hk _ _ ho (lt hw)).2.trans hw)
 | lp hg hb hB ho hw hs hv=>exact .lp (dj e.gs hg) hb hB (hk _ _ ho (lt hw)).1 ((hk _ _ ho (lt hw)).2.trans hw) hs (fun p hp=>h.iD e (hv p hp))
 | blk hg hb hB ho hw=>exact .blk (dj e.gs hg) hb hB (hk _ _ ho (lt hw)).1 ((hk _ _ ho (lt hw)).2.trans hw)
 | kf hg hk hb=>exact .kf (dj e.gs hg) hk hb
 | nest hg dP hb hB ho hw hc hn hvs hv hF dT=>
  exact .nest (dj e.gs hg) dP hb hB (hk _ _ ho (lt hw)).1 ((hk _ _ ho (lt hw)).2.trans hw) hc hn hvs
   (hv.mono (fun b hb=>(hk _ _ (dT b hb).2.2 (dT b hb).2.1).2)) hF (fun b hb=>⟨(dT b hb).1,Nat.lt_of_lt_of_le (dT b hb).2.1 e.below.size,(hk _ _ (dT b hb).2.2 (dT b hb).2.1).1⟩)
 | dG _ hi hne hv ih=>exact .dG ih hi hne (h.iD e hv)
 | jW hg hk hb hz=>exact .jW (dj e.gs hg) hk hb hz
 | grow hg dP hb hB ho hw hc hgc hn hvs=>exact .grow (dj e.gs hg) dP hb hB (hk _ _ ho (lt hw)).1 ((hk _ _ ho (lt hw)).2.trans hw) hc hgc hn hvs
 | dead=>exact .dead
theorem eA.NI{B w S gs om r k xs g}(h:eA B w S gs om r (.row k xs))(hg:gs[r]?=some g):g.k=k:=by
 cases h with
 | row0 hg' hk' _=>rw[hg]at hg';simp at hg';subst hg';exact hk'
 | row hg' dP=>rw[hg]at hg';simp at hg';subst hg';exact dP
theorem eA.K0{B w S gs om r L g}(h:eA B w S gs om r (.nest L))(hg:gs[r]?=some g):g.k=1:=by
 cases h with
 | kf hg' hk' _=>rw[hg]at hg';simp at hg';subst hg';exact hk'
 | nest hg' dP=>rw[hg]at hg';simp at hg';subst hg';exact dP
theorem eA.tG{B w S gs om r c zs g}(h:eA B w S gs om r (.grow c zs))(hg:gs[r]?=some g):g.k=1∧(g.b≠none→g.cap=c)∧(g.b=none→c=0):=by
 cases h with
 | jW hg' hk' hb hz=>rw[hg]at hg';simp at hg';subst hg';exact⟨hk',fun h=>absurd hb h,fun _=>hz⟩
 | grow hg' dP hb _ _ _ _ hgc=>rw[hg]at hg';simp at hg';subst hg';exact⟨dP,fun _=>hgc,fun h=>by rw[hb]at h;cases h⟩
def mark(om:Nat→Option (Nat×Bool))(L:List Nat)(x:Nat×Bool):Nat→Option (Nat×Bool):=fun b=>if b∈L then some x else om b
theorem da{om L x b}(h:b∈L):mark om L x b=some x:=by simp[mark,h]
theorem bS{om L x b}(h:b∉L):mark om L x b=om b:=by simp[mark,h]
end Go.aN
/- Steps in memory: a new object, a store, what is taken into another object. Lemmas alone. -/
namespace Go.aN
open Go.RowKit
theorem Ext.grow{B:Nat}{w w':World}{gs gs':List G1}{om bz}(hgs:gs <+: gs')(hb:Below w.heap.size w w')(hB:B≤w.heap.size)
    (pP:∀b,b<w.heap.size→bz b=om b):Ext B w gs om w' gs' bz:=
 ⟨hgs,hb.mono hB,fun b ⟨h1,h2,h3⟩=>⟨⟨h1,Nat.lt_of_lt_of_le h2 hb.size,fun r=>by rw[pP b h2];exact h3 r⟩,hb.block b h2⟩⟩
theorem bm.step{B w S objs gs om}(h:bm B w S objs gs om){w' aj gs' bz}(e:Ext B w gs om w' gs' bz)(hlen:gs'.length=aj.length)
    (Gy:∀(r:Nat) (o':Obj),aj[r]?=some o'→(objs[r]?=some o'∧(∀b c,om b=some (r,c)→b<w.heap.size→bz b=some (r,c)∧w'.heap[b]?=w.heap[b]?))∨eA B w' S gs' bz r o') :
    bm B w' S aj gs' bz:=
 ⟨hlen,fun r o ho=>(Gy r o ho).elim (fun⟨h1,h2⟩=>h.Ff e (h.obj r o h1) h2) id,h.hS,Nat.le_trans h.hB e.below.size⟩
theorem eC{α:Type}(l:List α)(x:α)(r:Nat)(y:α)(h:(l++[x])[r]?=some y):l[r]?=some y∨(r=l.length∧y=x):=by
 rcases Nat.lt_trichotomy r l.length with h'|h'|h'
 ·left;rwa [List.getElem?_append_left h']at h
 ·right;subst h';simp at h;exact⟨rfl,h.symm⟩
 ·rw[List.getElem?_append_right (by omega),List.getElem?_singleton,if_neg (by omega)]at h;cases h
theorem bm.push{B w S objs gs om}(h:bm B w S objs gs om){w':World}{g:G1}{o:Obj}{bz}(hb:Below w.heap.size w w')
    (pP:∀b,b<w.heap.size→bz b=om b) (ho:eA B w' S (gs++[g]) bz objs.length o) :
    Ext B w gs om w' (gs++[g]) bz∧bm B w' S (objs++[o]) (gs++[g]) bz:=by
 have e:Ext B w gs om w' (gs++[g]) bz:=.grow (List.prefix_append _ _) hb h.hB pP;refine⟨e,h.step e (by simp[h.len]) fun r o' hr=>?_⟩;rcases eC _ _ _ _ hr with h'|⟨rfl,rfl⟩
 ·exact .inl ⟨h',fun b c hbc hlt=>⟨by rw[pP b hlt];exact hbc,hb.block b hlt⟩⟩
 ·exact .inr ho
theorem eH(w:World)(o:Go.Obj):Below w.heap.size w (w.alloc o):=(Below.refl _ _).alloc (Nat.le_refl _) o
theorem eS{om:Nat→Option (Nat×Bool)}{w:World}{x:Nat×Bool}:∀b,b<w.heap.size→mark om [w.heap.size] x b=om b:=
 fun b hb=>bS (by simp;omega)
theorem cY(gs:List G1)(g:G1){n:Nat}(hn:gs.length=n):(gs++[g])[n]?=some g:=by subst hn;simp
theorem bm.wC{B w S objs gs om}(h:bm B w S objs gs om)(T:TypeId){cs:List AV}{vs:Array Value}(hv:aQ w S (Inner B w om) gs cs vs.toList) :
    Ext B w gs om (w.alloc (.cells vs T)) (gs++[⟨some w.heap.size,0,0⟩]) (mark om [w.heap.size] (objs.length,true)) ∧
    bm B (w.alloc (.cells vs T)) S (objs++[.var T cs]) (gs++[⟨some w.heap.size,0,0⟩]) (mark om [w.heap.size] (objs.length,true)):=by
 have e:Ext B w gs om (w.alloc (.cells vs T)) (gs++[⟨some w.heap.size,0,0⟩]) (mark om [w.heap.size] (objs.length,true)):=
  .grow (List.prefix_append _ _) (eH _ _) h.hB eS
 exact h.push (eH _ _) eS (.var (cY _ _ h.len) rfl h.hB (da (by simp)) (heap_alloc_new _ _) (h.wI e hv))
theorem bm.CH{B w S objs gs om}(h:bm B w S objs gs om)(T:TypeId){k c:Nat}{xs:List D}{cur:Array Value}(hc:cur.size=c*k)(hn:xs.length≤c)
    (hk:∀x∈xs,Fits k x) (hv:aW w S (Inner B w om) (flat xs) (cur.toList.take (xs.length*k)) []) :
    Ext B w gs om (w.alloc (.cells cur T)) (gs++[⟨some w.heap.size,k,c*k⟩]) (mark om [w.heap.size] (objs.length,true)) ∧
    bm B (w.alloc (.cells cur T)) S (objs++[.row k xs]) (gs++[⟨some w.heap.size,k,c*k⟩]) (mark om [w.heap.size] (objs.length,true)):=by
 have e:Ext B w gs om (w.alloc (.cells cur T)) (gs++[⟨some w.heap.size,k,c*k⟩]) (mark om [w.heap.size] (objs.length,true)):=
  .grow (List.prefix_append _ _) (eH _ _) h.hB eS
 exact h.push (eH _ _) eS (.row (F:=[]) (cY _ _ h.len) rfl rfl h.hB (da (by simp)) (heap_alloc_new _ _) hc (Nat.mul_le_mul_right _ hn) hk rfl
   (h.AS e hv (by simp)) List.nodup_nil (by simp))
theorem bm.si{B w S objs gs om}(h:bm B w S objs gs om)(T:TypeId)(k:Nat) :
    Ext B w gs om w (gs++[⟨none,k,0⟩]) om∧bm B w S (objs++[.row k []]) (gs++[⟨none,k,0⟩]) om:=
 h.push (Below.refl _ _) (fun _ _=>rfl) (.row0 (cY _ _ h.len) rfl rfl)
theorem eg{α:Type}{l:List α}{r i:Nat}{x y:α}(h:(l.set i x)[r]?=some y):(r=i∧y=x)∨(r≠i∧l[r]?=some y):=by
 by_cases hr:r=i
 ·subst hr;left;rw[List.getElem?_set_self']at h
  cases hl:l[r]? with
  | none=>simp[hl]at h
  | some z=>simp[hl]at h;exact⟨rfl,h.symm⟩
 ·right;rw[List.getElem?_set_ne (fun e=>hr e.symm)]at h;exact⟨hr,h⟩
theorem bm.kill{B w S objs gs om}(h:bm B w S objs gs om)(r:Nat):bm B w S (objs.set r .dead) gs om:=
 h.step (.refl ..) (by simp[h.len]) fun r' o ho=>by
  rcases eg ho with ⟨rfl,rfl⟩|⟨_,h'⟩
  ·exact .inr .dead
  ·exact .inl ⟨h',fun b c hbc _=>⟨hbc,rfl⟩⟩
theorem Ext.setRow{B:Nat}{w:World}{gs:List G1}{om}{b r:Nat}(hB:B≤b)(ho:om b=some (r,true))(cs:Array Value):Ext B w gs om (w.setRow b cs) gs om:=
 ⟨List.prefix_rfl,below_setRow (Below.refl _ _) hB cs,fun x ⟨h1,h2,h3⟩=>⟨⟨h1,by simpa using h2,h3⟩,setRow_other w b x cs (fun e=>by subst e;exact h3 r ho)⟩⟩
theorem Ext.yK{B:Nat}{w:World}{gs:List G1}{om}{b r:Nat}{F:List Nat}(hB:B≤b)(ho:om b=some (r,true))(hF:∀x∈F,x≠b)(cs:Array Value) :
    Ext B w gs om (w.setRow b cs) gs (mark om F (r,false)):=
 ⟨List.prefix_rfl,below_setRow (Below.refl _ _) hB cs,fun x ⟨h1,h2,h3⟩=>
   ⟨⟨h1, by simpa using h2, fun r' => by
     by_cases hx : x ∈ F
     · rw [da hx]; simp
     · rw [bS hx]; exact h3 r'⟩, setRow_other w b x cs (fun e => by subst e; exact h3 r ho)⟩⟩
theorem bm.Bi{B w S objs gs om}(h:bm B w S objs gs om){r T cs g b}{vals vals':Array Value}(hr:objs[r]?=some (.var T cs))(hg:gs[r]?=some g)(hb:g.b=some b)
    (hw:w.heap[b]?=some (.cells vals T (0,0))) {cs'} (hv:aQ w S (Inner B w om) gs cs' vals'.toList) :
    Ext B w gs om (w.setRow b vals') gs om∧bm B (w.setRow b vals') S (objs.set r (.var T cs')) gs om:=by
 cases h.obj r _ hr with
 | @var _ _ g' b' O5 hg' hb' hB ho hw' hv'=>
  obtain rfl:g=g':=by simpa using hg.symm.trans hg'
  obtain rfl:b=b':=by simpa using hb.symm.trans hb'
  have e:Ext B w gs om (w.setRow b vals') gs om:=.setRow hB ho _;refine⟨e,h.step e (by simp[h.len]) fun r' o ho'=>?_⟩;rcases eg ho' with ⟨rfl,rfl⟩|⟨hne,h'⟩
  ·exact .inr (.var hg hb hB ho (setRow_heap w b _ _ _ _ hw) (h.wI e hv))
  ·refine .inl ⟨h',fun x c hx _=>⟨hx,setRow_other w b x vals' (fun e=>?_)⟩⟩;subst e;rw[ho]at hx;simp at hx;exact hne hx.1.symm
end Go.aN
/- What is taken into another object; a store into a row. Lemmas alone. -/
namespace Go.aN
open Go.RowKit
mutual
def cl(objs:List Obj):AV→Option (D×List Obj)
 | .d (.v x)=>some (.v x,objs)
 | .d (.row .ro k xs)=>some (.row .ro k xs,objs)
 | .d (.row .own k [])=>some (.row .own k [],objs)
 | .hdr r off len=>match objs[r]? with
  | some (.row k xs)=>if off=0∧len=xs.length then some (.row .own k xs,objs.set r .dead)else none
  | _=>none
 | .agg cs=>match cls objs cs with
  | some (ds,o)=>some (.agg ds,o)
  | none=>none
 | .bK cs=>match cls objs cs with
  | some (ds,o)=>some (.bK ds,o)
  | none=>none
 | _=>none
def cls(objs:List Obj):List AV→Option (List D×List Obj)
 | []=>some ([],objs)
 | a::as=>match cl objs a with
  | some (d,o1)=>match cls o1 as with
   | some (ds,o2)=>some (d::ds,o2)
   | none=>none
  | none=>none
end
structure lC (B:Nat) (w:World) (S:Nat→Prop) (objs:List Obj) (gs:List G1) (om:Nat→Option (Nat×Bool)) (aj:List Obj) (F:List Nat):Prop where
 pj:bm B w S aj gs om
 nodup:F.Nodup
 src:∀b∈F,B≤b∧b<w.heap.size∧∃r c,om b=some (r,c)∧(∃k xs,objs[r]?=some (.row k xs))∧aj[r]?=some .dead
 kills:∀(r:Nat) (o:Obj),aj[r]?=some o→o = .dead∨objs[r]?=some o
 dead:∀r:Nat,objs[r]?=some .dead→aj[r]?=some .dead
 len:aj.length=objs.length
theorem lC.refl{B w S objs gs om}(h:bm B w S objs gs om):lC B w S objs gs om objs []:=
 ⟨h,List.nodup_nil,by simp,fun _ _ h=>.inr h,fun _ h=>h,rfl⟩
theorem lC.trans{B w S objs gs om aj F Cu G}(h:lC B w S objs gs om aj F)(k:lC B w S aj gs om Cu G):lC B w S objs gs om Cu (F++G):=by
 refine⟨k.pj,?_,?_,fun r o ho=>(k.kills r o ho).elim .inl (h.kills r o),fun r hr=>k.dead r (h.dead r hr),k.len.trans h.len⟩
 ·refine List.nodup_append.2 ⟨h.nodup,k.nodup,fun b hb b' hb' e=>?_⟩;subst e;obtain⟨_,_,r,c,h1,_,h2⟩:=h.src b hb;obtain⟨_,_,r',c',h3,⟨k',xs,h4⟩,_⟩:=k.src b hb';rw[h1]at h3;simp at h3;obtain⟨rfl,rfl⟩:=h3;rw[h2]at h4;simp at h4
 ·intro b hb;rcases List.mem_append.1 hb with hb|hb
  ·obtain⟨h0,h00,r,c,h1,h2,h3⟩:=h.src b hb;exact⟨h0,h00,r,c,h1,h2,k.dead r h3⟩
  ·obtain⟨h0,h00,r,c,h1,⟨k',xs,h4⟩,h3⟩:=k.src b hb;exact⟨h0,h00,r,c,h1,⟨k',xs,(h.kills r _ h4).resolve_left (by simp)⟩,h3⟩
theorem lC.one{B w S objs gs om}(h:bm B w S objs gs om){r k xs}(hr:objs[r]?=some (.row k xs)){F:List Nat}
    (hF:F.Nodup) (hs:∀b∈F,B≤b∧b<w.heap.size∧∃c,om b=some (r,c)):lC B w S objs gs om (objs.set r .dead) F:=by
 have hlt:r<objs.length:=by
  rcases Nat.lt_or_ge r objs.length with h'|h'
  ·exact h'
  ·simp[List.getElem?_eq_none h']at hr
 refine⟨h.kill r,hF,fun b hb=>?_,fun r' o ho=>?_,fun r' hd=>?_,by simp⟩
 ·obtain⟨h1,h2,c,h3⟩:=hs b hb;exact⟨h1,h2,r,c,h3,⟨k,xs,hr⟩,by simp[hlt]⟩
 ·rcases eg ho with ⟨_,rfl⟩|⟨_,h'⟩
  ·exact .inl rfl
  ·exact .inr h'
 ·by_cases e:r=r'
  ·subst e;simp[hlt]
  ·rw[List.getElem?_set_ne e];exact hd
theorem bm.Lk{B w S objs gs om}(h:bm B w S objs gs om){r k xs v}(hr:objs[r]?=some (.row k xs))(hv:a8 w S (Inner B w om) gs (.hdr r 0 xs.length) v) :
    ∃F,cb w S (Inner B w om) (.row .own k xs) v F∧lC B w S objs gs om (objs.set r .dead) F:=by
 have ho:=h.obj r _ hr;generalize hx:xs.length=n at hv
 cases hv with
 | @hdr _ _ _ g b o c hg hb hcap hoff hlc hm=>
  cases ho with
  | row0 hg' _ hb'=>rw[hg]at hg';simp at hg';subst hg';rw[hb]at hb';cases hb'
  | @row _ _ _ g' b' cur vs F hg' dP hb' hB ho hw hc hn hk hvs hl hF dT=>
   obtain rfl:g=g':=by simpa using hg.symm.trans hg'
   obtain rfl:b=b':=by simpa using hb.symm.trans hb'
   subst dP;have:o=0:=by simpa using hoff
   subst this;refine⟨b::F,?_,.one h hr (List.nodup_cons.2 ⟨fun hb=>?_,hF⟩) fun x hx=>?_⟩
   ·subst hx;exact .own hw (by rw[hc,←hcap];simp) hlc hm hk hvs hl
   ·have:=(dT b hb).2.2;rw[ho]at this;simp at this
   ·rcases List.mem_cons.1 hx with rfl|hx
    ·exact⟨hB,(Array.getElem?_eq_some_iff.1 hw).1,_,ho⟩
    ·exact⟨(dT x hx).1,(dT x hx).2.1,_,(dT x hx).2.2⟩
 | @fP _ g hg hb=>
  have:xs=[]:=List.length_eq_zero_iff.1 hx;subst this;exact⟨[],.nil,.one h hr List.nodup_nil (by simp)⟩
section
variable {B:Nat} {w:World} {S:Nat→Prop} {gs:List G1} {om:Nat→Option (Nat×Bool)}
mutual
theorem xk:∀(a:AV) {objs:List Obj} {v d aj},bm B w S objs gs om→a8 w S (Inner B w om) gs a v→cl objs a=some (d,aj) →
    ∃F,cb w S (Inner B w om) d v F∧lC B w S objs gs om aj F
 | .d (.v x),objs,v,d,aj,hM,hv,hc=>by
  simp only[cl,Option.some.injEq,Prod.mk.injEq]at hc;obtain⟨rfl,rfl⟩:=hc;cases hv with|d h=>exact⟨[],h,.refl hM⟩
 | .d (.row .ro k xs),objs,v,d,aj,hM,hv,hc=>by
  simp only[cl,Option.some.injEq,Prod.mk.injEq]at hc;obtain⟨rfl,rfl⟩:=hc;cases hv with|d h=>exact⟨[],h,.refl hM⟩
 | .d (.row .own k []),objs,v,d,aj,hM,hv,hc=>by
  simp only[cl,Option.some.injEq,Prod.mk.injEq]at hc;obtain⟨rfl,rfl⟩:=hc;cases hv with|d h=>exact⟨[],h,.refl hM⟩
 | .d (.row .own k (x::xs)),objs,v,d,aj,hM,hv,hc=>by simp[cl]at hc
 | .d (.row .sn k xs),objs,v,d,aj,hM,hv,hc=>by simp[cl]at hc
 | .d (.agg xs),objs,v,d,aj,hM,hv,hc=>by simp[cl]at hc
 | .d (.bK xs),objs,v,d,aj,hM,hv,hc=>by simp[cl]at hc
 | .hdr r off len,objs,v,d,aj,hM,hv,hc=>by
  simp only[cl]at hc;split at hc
  ·rename_i k xs hr;split at hc
   ·rename_i hol;obtain⟨rfl,rfl⟩:=hol;simp only[Option.some.injEq,Prod.mk.injEq]at hc;obtain⟨rfl,rfl⟩:=hc;exact hM.Lk hr hv
   ·cases hc
  ·cases hc
 | .agg cs,objs,v,d,aj,hM,hv,hc=>by
  simp only[cl]at hc;split at hc
  ·rename_i ds o hcs;simp only[Option.some.injEq,Prod.mk.injEq]at hc;obtain⟨rfl,rfl⟩:=hc
   cases hv with
   | agg hvs=>
    obtain⟨F,h1,h2⟩:=nK cs hM hvs hcs;exact⟨F,.agg h1,h2⟩
  ·cases hc
 | .bK cs,objs,v,d,aj,hM,hv,hc=>by
  simp only[cl]at hc;split at hc
  ·rename_i ds o hcs;simp only[Option.some.injEq,Prod.mk.injEq]at hc;obtain⟨rfl,rfl⟩:=hc
   cases hv with
   | bK hvs=>
    obtain⟨F,h1,h2⟩:=nK cs hM hvs hcs;exact⟨F,.bK h1,h2⟩
  ·cases hc
 | .cut k xs,objs,v,d,aj,hM,hv,hc=>by simp[cl]at hc
 | .ptr r i j,objs,v,d,aj,hM,hv,hc=>by simp[cl]at hc
 | .rp cs j,objs,v,d,aj,hM,hv,hc=>by simp[cl]at hc
 | .fn f a b,objs,v,d,aj,hM,hv,hc=>by simp[cl]at hc
 | .tH t x,objs,v,d,aj,hM,hv,hc=>by simp[cl]at hc
 | .dead,objs,v,d,aj,hM,hv,hc=>by simp[cl]at hc
theorem nK:∀(as:List AV) {objs:List Obj} {vs ds aj},bm B w S objs gs om→aQ w S (Inner B w om) gs as vs→cls objs as=some (ds,aj) →
    ∃F,aW w S (Inner B w om) ds vs F∧lC B w S objs gs om aj F
 | [],objs,vs,ds,aj,hM,hv,hc=>by
  simp only[cls,Option.some.injEq,Prod.mk.injEq]at hc;obtain⟨rfl,rfl⟩:=hc;cases hv;exact⟨[],.nil,.refl hM⟩
 | a::as,objs,vs,ds,aj,hM,hv,hc=>by
  simp only[cls]at hc;split at hc
  ·rename_i d o1 hc1;split at hc
   ·rename_i ds' o2 hc2;simp only[Option.some.injEq,Prod.mk.injEq]at hc;obtain⟨rfl,rfl⟩:=hc
    cases hv with
    | cons h t=>
     obtain⟨F,h1,h2⟩:=xk a hM h hc1;obtain⟨G,h3,h4⟩:=nK as h2.pj t hc2;exact⟨F++G,.cons h1 h3,h2.trans h4⟩
   ·cases hc
  ·cases hc
end
end
theorem aW.splice{w S N L vs F ys us G}(h:aW w S N L vs F)(hy:aW w S N ys us G)(p:Nat)(hp:p+ys.length≤L.length) :
    ∃F',aW w S N (splice L p ys) (splice vs p us) F'∧(∀b∈F',b∈F∨b∈G)∧(F.Nodup→G.Nodup→(∀b∈F,b∉G)→F'.Nodup):=by
 have hlen:=h.length;have hy':=hy.length;rw[←List.take_append_drop p L]at h;obtain⟨F1,F2,rfl,h1,h2⟩:=h.split;rw[←List.take_append_drop ys.length (L.drop p)]at h2;obtain⟨F3,F4,rfl,h3,h4⟩:=h2.split;have e1:(L.take p).length=p:=by simp;omega
 have e2:((L.drop p).take ys.length).length=ys.length:=by simp;omega
 rw[e1]at h1 h3 h4;rw[e2]at h3 h4;rw[List.drop_drop,List.drop_drop]at h4;refine⟨F1++(G++F4),?_,?_,?_⟩
 ·unfold Go.splice;rw[←hy'];exact h1.append (hy.append h4)
 ·intro b hb;simp at hb ⊢;rcases hb with hb|hb|hb<;>simp[hb]
 ·intro hF hG hd;simp only[List.nodup_append,List.mem_append]at hF ⊢;obtain⟨a1,⟨a2,a3,a4⟩,a5⟩:=hF;refine⟨a1,⟨hG,a3,fun x hx y hy e=>?_⟩,fun x hx y hy e=>?_⟩
  ·subst e;exact hd x (by simp[hy]) hx
  ·subst e;rcases hy with hy|hy
   ·exact hd x (by simp[hx]) hy
   ·exact a5 x hx x (.inr hy) rfl
theorem bm.uf{B w S objs gs om}{aj:List Obj}{G:List Nat}(ht:lC B w S objs gs om aj G){T:TypeId}{r k xs g b cur}(hr:aj[r]?=some (.row k xs))(hg:gs[r]?=some g)(hb:g.b=some b)
    (hw:w.heap[b]?=some (.cells cur T (0,0))) {ys us} (hy:aW w S (Inner B w om) ys us G) {p:Nat} {xs':List D} (hp:p+ys.length≤(flat xs).length)
    (hx:flat xs'=splice (flat xs) p ys) (hxl:xs'.length=xs.length) (hk':∀x∈xs',Fits k x) :
    Ext B w gs om (w.setRow b (splice cur.toList p us).toArray) gs (mark om G (r,false)) ∧
    bm B (w.setRow b (splice cur.toList p us).toArray) S (aj.set r (.row k xs')) gs (mark om G (r,false)):=by
 have hM:=ht.pj
 have vQ:∀ {l:List D},(∀x∈l,Fits k x)→(flat l).length=l.length*k:=by
  intro l hl
  induction l with
  | nil=>simp[flat]
  | cons a l ih=>
   have:=ih (fun x hx=>hl x (by simp[hx]));simp only[flat,List.flatMap_cons,List.length_append,List.length_cons]at this ⊢;rw[(hl a (by simp)).1,this,Nat.add_mul];omega
 cases hM.obj r _ hr with
 | row0 hg' _ hb'=>rw[hg]at hg';simp at hg';subst hg';rw[hb]at hb';cases hb'
 | @row _ _ _ g' b' cur' vs F hg' dP hb' hB ho hw' hc hn hk hvs hl hF dT=>
  obtain rfl:g=g':=by simpa using hg.symm.trans hg'
  obtain rfl:b=b':=by simpa using hb.symm.trans hb'
  obtain⟨rfl,rfl⟩:cur=cur'∧T=_:=by rw[hw]at hw';simpa using hw'
  have MS:∀x∈G,∀c,om x≠some (r,c):=by
   intro x hx c hxc;obtain⟨_,_,r',c',h1,_,h2⟩:=ht.src x hx;rw[hxc]at h1;simp at h1;obtain⟨rfl,rfl⟩:=h1;rw[hr]at h2;simp at h2
  have MQ:∀x∈G,x≠b:=fun x hx e=>by subst e;exact MS x hx _ ho
  have e:Ext B w gs om (w.setRow b (splice cur.toList p us).toArray) gs (mark om G (r,false)):=.yK hB ho MQ _;refine⟨e,hM.step e (by simp[hM.len]) fun r' o ho'=>?_⟩;have hfl:=vQ hk;have hyl:=hy.length;rcases eg ho' with ⟨rfl,rfl⟩|⟨hne,h'⟩
  ·right;obtain⟨F',h1,h2,h3⟩:=hl.splice hy p hp;have hvl:vs.length=xs.length*k:=by rw[←hl.length,hfl]
   have hsz:(splice cur.toList p us).length=cur.toList.length:=length_splice _ _ _ (by
     have : xs.length * k ≤ cur.toList.length := by simp only [Array.length_toList, hc]; exact hn
     omega)
   refine .row (cur:=(splice cur.toList p us).toArray) hg dP hb hB (by rw[bS (fun hb=>MQ _ hb rfl)];exact ho) (setRow_heap w b _ _ _ _ hw) (by simpa using hsz.trans (by simpa using hc)) (by rw[hxl];exact hn) hk' rfl (F:=F') ?_ (h3 hF ht.nodup ?_) ?_
   ·rw[hx,hxl]
    have:((splice cur.toList p us).toArray.toList.take (xs.length*k))=splice vs p us:=by
     subst hvs;rw[List.toList_toArray];have hpl:p+us.length≤xs.length*k:=by omega
     have hcl:xs.length*k≤cur.toList.length:=by simp only[Array.length_toList,hc];exact hn
     apply List.ext_getElem?;intro i;simp only[Go.splice,List.getElem?_take,List.getElem?_append,List.length_take,List.getElem?_drop];by_cases hi:i<xs.length*k
     ·simp only[if_pos hi];have e1:min p cur.toList.length=p:=by omega
      have e2:min p (min (xs.length*k) cur.toList.length)=p:=by omega
      rw[e1,e2];by_cases hi1:i<p
      ·simp[hi1]
      ·simp only[if_neg hi1];by_cases hi2:i-p<us.length
       ·simp[hi2]
       ·simp only[if_neg hi2];rw[if_pos (by omega)]
     ·simp only[if_neg hi];have e2:min p (min (xs.length*k) cur.toList.length)=p:=by omega
      rw[e2,if_neg (by omega),if_neg (by omega),if_neg (by omega)]
    rw[this];refine aW.mono (fun b' hb'=>⟨hb',hM.vX e.below b' hb'⟩) e.inner h1 fun b' De=>setRow_other w b b' _ (fun e=>?_)
    subst e;rcases h2 _ De with De|De
    ·have:=(dT _ De).2.2;rw[ho]at this;simp at this
    ·exact MQ _ De rfl
   ·intro b' hb' hG;exact MS b' hG _ (dT b' hb').2.2
   ·intro b' hb';rcases h2 _ hb' with hb1|hb1
    ·refine⟨(dT b' hb1).1,by simpa using(dT b' hb1).2.1,?_⟩;rw[bS (fun hG=>MS b' hG _ (dT b' hb1).2.2)];exact(dT b' hb1).2.2
    ·exact⟨(ht.src b' hb1).1,by simpa using(ht.src b' hb1).2.1,da hb1⟩
  ·by_cases hd:o = .dead
   ·subst hd;exact .inr .dead
   ·refine .inl ⟨h',fun x c hx _=>⟨?_,setRow_other w b x _ (fun e=>?_)⟩⟩
    ·rw[bS (fun hG=>?_)];exact hx;obtain⟨_,_,r'',c',h1,_,h2⟩:=ht.src x hG;rw[hx]at h1;simp at h1;obtain⟨rfl,rfl⟩:=h1;rw[h']at h2;simp at h2;exact hd h2
    ·subst e;rw[ho]at hx;simp at hx;exact hne hx.1.symm
end Go.aN
/- What each operation does to an abstract state. Definitions alone. -/
namespace Go.aN
open Go.RowKit
inductive TK where
 | int (k:IntKind)|bool|str
 | slice (e:TypeId)|array (n:Nat) (e:TypeId)|ptr (e:TypeId)
 | struct (fs:List (TypeId×Nat))
 | fn|iface|map (k e:TypeId)|other
 deriving Inhabited
structure Ty where
 size:Nat
 bytes:Nat
 k:TK
 zero:List Value
 deriving Inhabited
def kZ:TypeDesc→TK
 | .int k=>.int k
 | .bool=>.bool
 | .string=>.str
 | .slice e=>.slice e
 | .array n e=>.array n e
 | .pointer e=>.ptr e
 | .struct fs=>.struct (fs.toList.map fun f=>(f.type,f.offset))
 | .func .. => .fn
 | .interface _=>.iface
 | .map k e=>.map k e
 | _=>.other
def ty(P:Program)(t:TypeId):Option Ty:=
 match P.info? t,P.underlying t with
 | some i,some d=>match i.zero with
  | some z=>some ⟨i.size,i.bytes,kZ d,z.cells.toList⟩
  | none=>none
 | _,_=>none
def Ty.agg(T:Ty):Bool:=match T.k with
 | .struct _ | .array _ _=>true
 | _=>false
abbrev Bj:=Option (AV×List Obj)
def AV.int(k:IntKind)(n:Int):AV:=.d (.v (.int k n))
def AV.bool(b:Bool):AV:=.d (.v (.bool b))
def AV.str(s:ByteArray):AV:=.d (.v (.string s))
def AV.aX:AV→Bool
 | .d (.v _) | .d (.row ..) | .hdr .. | .cut .. | .ptr .. | .rp .. | .fn .. | .tH .. => true
 | _=>false
def AV.cells:AV→Option (List AV)
 | .agg cs=>if cs.all AV.aX then some cs else none
 | a=>if a.aX then some [a]else none
def iS(objs:List Obj):AV→Option (List AV)
 | .ptr r i j=>match objs[r]? with
  | some (.var _ cs)=>if i=0 then some (cs.drop j)else none
  | some (.row _ xs)=>match xs[i]? with
   | some x=>some ((x.cells.map fun d=>.d d.snap).drop j)
   | none=>none
  | some (.hole i' r' len xs)=>if i=i' then some ([AV.hdr r' 0 len].drop j)else match xs[i]? with
   | some x=>some ((x.cells.map fun d=>.d d.snap).drop j)
   | none=>none
  | some (.dG i' r' len _)=>if i=i' then some ([AV.hdr r' 0 len].drop j)else none
  | some (.grow _ zs)=>match zs[i]? with
   | some z=>some ([AV.int .u8 z].drop j)
   | none=>none
  | _=>none
 | .rp cs j=>some ((cs.map .d).drop j)
 | _=>none
def pS(P:Program)(objs:List Obj)(t:TypeId)(a:AV):Bj:=
 match ty P t,iS objs a with
 | some T, some cs => if T.agg then (if T.size ≤ cs.length then some (.agg (cs.take T.size), objs) else none)
  else match cs with
   | c::_=>some (c,objs)
   | []=>none
 | _,_=>none
def dn:D→D→D
 | .row _ k _,.v (.slice none 0 0)=>.row .own k []
 | _,d=>d
def br:List D→List D→List D
 | o::os,d::ds=>dn o d::br os ds
 | _,ds=>ds
def bJ(x:D)(j:Nat)(ds:List D):D:=
 match x with
 | .agg cs=>.agg (splice cs j ds)
 | x=>match ds with
  | d::_=>d
  | []=>x
def u3(P:Program)(objs:List Obj)(t:TypeId)(a v:AV):Option (List Obj):=
 match ty P t,v.cells,a with
 | some T,some vs,.ptr r i j=>
  if vs.length=T.size then
   match objs[r]? with
   | some (.var U cs)=>if i=0∧j+vs.length≤cs.length then some (objs.set r (.var U (splice cs j vs)))else none
   | some (.row ..)=>match cls objs vs with
    | some (ds,aj)=>match aj[r]? with
     | some (.row k xs)=>match xs[i]? with
      | some x=>if j+ds.length≤x.cells.length∧0<ds.length then some (aj.set r (.row k (xs.set i (bJ x j (br (x.cells.drop j) ds)))))else none
      | none=>none
     | _=>none
    | none=>none
   | some (.grow c zs)=>match vs with
    | [.d (.v (.int .u8 z))]=>if j=0∧i<c∧i≤zs.length then some (objs.set r (.grow c (zs.take i++z::zs.drop (i+1))))else none
    | _=>none
   | _=>none
  else none
 | _,_,_=>none
def kK(P:Program)(s:TypeId)(a:AV)(f:Nat):Option AV:=
 match ty P s with
 | some {k:=.struct fs,..}=>match fs[f]? with
  | some (t,off)=>match ty P t with
   | some T=>if T.size=0 then none else match a with
    | .ptr r i j=>some (.ptr r i (j+off))
    | .rp cs j=>some (.rp cs (j+off))
    | _=>none
   | none=>none
  | none=>none
 | _=>none
def gL(objs:List Obj):AV→Option (Nat×List D)
 | .d (.row .own k [])=>some (k,[])
 | .d (.row .own ..)=>none
 | .d (.row _ k xs)=>some (k,xs)
 | .cut k xs=>some (k,xs)
 | .hdr r off len=>match objs[r]? with
  | some (.row k xs)=>some (k,(xs.drop off).take len)
  | _=>none
 | _=>none
def cL(P:Program)(objs:List Obj)(t:TypeId)(x:AV)(i:Int):Option AV:=
 match ty P t with
 | some {k:=.slice e,..}=>match ty P e with
  | some T=>match x with
   | .hdr r off len=>match objs[r]? with
    | some (.row k _)=>if k=T.size∧0≤i∧i<len then some (.ptr r (off+i.toNat) 0)else none
    | some (.hole ..)=>if 1=T.size∧0≤i∧i<len then some (.ptr r (off+i.toNat) 0)else none
    | some (.dG ..)=>if 1=T.size∧0≤i∧i<len then some (.ptr r (off+i.toNat) 0)else none
    | some (.grow ..)=>if 1=T.size∧0≤i∧i<len then some (.ptr r (off+i.toNat) 0)else none
    | _=>none
   | .d (.row .own ..)=>none
   | .d (.row _ k xs)=>if k=T.size∧0≤i∧i<xs.length then (xs[i.toNat]?).map fun x=>.rp x.cells 0 else none
   | .cut k xs=>if k=T.size∧0≤i∧i<xs.length then (xs[i.toNat]?).map fun x=>.rp x.cells 0 else none
   | _=>none
  | none=>none
 | some {k:=.array n e,..}=>match ty P e with
  | some T=>match x with
   | .ptr r p j=>if 0≤i∧i<n then some (.ptr r p (j+i.toNat*T.size))else none
   | .rp cs j=>if 0≤i∧i<n then some (.rp cs (j+i.toNat*T.size))else none
   | _=>none
  | none=>none
 | _=>none
def pW(P:Program)(t:TypeId)(cs:List AV)(off:Nat):Option AV:=
 match ty P t with
 | some T=>if T.agg then (if off+T.size≤cs.length then some (.agg ((cs.drop off).take T.size))else none)else cs[off]?
 | none=>none
def xD(P:Program)(s:TypeId)(x:AV)(f:Nat):Option AV:=
 match ty P s,x with
 | some {k:=.struct fs,..},.agg cs=>match fs[f]? with
  | some (t,off)=>pW P t cs off
  | none=>none
 | _,_=>none
def kO(P:Program)(t:TypeId)(x:AV)(i:Int):Option AV:=
 match ty P t,x with
 | some {k:=.str,..},.d (.v (.string s))=>if 0≤i∧i<s.size then some (.int .u8 (s.data.toList.getD i.toNat 0).toNat)else none
 | some {k:=.array n e,..},.agg cs=>match ty P e with
  | some T=>if 0≤i∧i<n then pW P e cs (i.toNat*T.size)else none
  | none=>none
 | _,_=>none
def Ca(op:BinOp)(k:IntKind)(a b:Int):Option Value:=
 match op with
 | .add=>some (.int k (k.wrap (a+b)))
 | .sub=>some (.int k (k.wrap (a-b)))
 | .mul=>some (.int k (k.wrap (a*b)))
 | .quo=>if b=0 then none else some (.int k (k.wrap (a.tdiv b)))
 | .rem=>if b=0 then none else some (.int k (a.tmod b))
 | .and=>some (.int k (k.wrap (BitVec.ofInt k.bits a &&& BitVec.ofInt k.bits b).toNat))
 | .or=>some (.int k (k.wrap (BitVec.ofInt k.bits a ||| BitVec.ofInt k.bits b).toNat))
 | .xor=>some (.int k (k.wrap (BitVec.ofInt k.bits a ^^^ BitVec.ofInt k.bits b).toNat))
 | .andNot=>some (.int k (k.wrap (BitVec.ofInt k.bits a &&& ~~~ BitVec.ofInt k.bits b).toNat))
 | .eql=>some (.bool (a==b))
 | .neq=>some (.bool (a != b))
 | .lss=>some (.bool (a<b))
 | .leq=>some (.bool (a≤b))
 | .gtr=>some (.bool (a>b))
 | .geq=>some (.bool (a≥b))
 | _=>none
def CV(op:BinOp)(x y:ByteArray):Option Value:=
 match op with
 | .add=>if ((x.size+y.size:Nat):Int)>IntKind.i64.max then none else some (.string (x++y))
 | .eql=>some (.bool (x.toList==y.toList))
 | .neq=>some (.bool !(x.toList==y.toList))
 | .lss=>some (.bool (Op.bytesLess x.toList y.toList))
 | .leq=>some (.bool (Op.bytesLess x.toList y.toList||x.toList==y.toList))
 | .gtr=>some (.bool !(Op.bytesLess x.toList y.toList||x.toList==y.toList))
 | .geq=>some (.bool !(Op.bytesLess x.toList y.toList))
 | _=>none
def AZ(op:BinOp)(k:IntKind)(a b:Int):Option Value:=
 if b<0 then none else match op with
 | .shl=>some (.int k (k.wrap (a*2^(min b.toNat k.bits))))
 | .shr=>some (.int k (a.fdiv (2^(min b.toNat k.bits))))
 | _=>none
def qv:BinOp→Bool
 | .shl | .shr=>true
 | _=>false
def Bu(op:BinOp)(x y:Value):Option Value:=
 match x,y with
 | .int k a,.int k' b=>if qv op then AZ op k a b else if k=k' then Ca op k a b else none
 | .string a,.string b=>CV op a b
 | .bool a,.bool b=>match op with
  | .eql=>some (.bool (a==b))
  | .neq=>some (.bool !(a==b))
  | _=>none
 | _,_=>none
def LV(op:UnOp)(x:Value):Option Value:=
 match op,x with
 | .not,.bool b=>some (.bool !b)
 | .neg,.int k n=>some (.int k (k.wrap (0-n)))
 | .xor,.int k n=>some (.int k (k.wrap (BitVec.ofInt k.bits (if k.signed then -1 else k.max) ^^^ BitVec.ofInt k.bits n).toNat))
 | _,_=>none
def uI(objs:List Obj):AV→Option Nat
 | .d (.v (.string s))=>some s.size
 | .d (.v (.slice none 0 0))=>some 0
 | .d (.row .own _ [])=>some 0
 | .d (.row .own ..)=>none
 | .d (.row _ _ xs)=>some xs.length
 | .cut _ xs=>some xs.length
 | .hdr _ _ len=>some len
 | _=>none
end Go.aN
/- The operations on abstract states are sound: reading. Lemmas alone. -/
namespace Go.aN
open Go.RowKit
theorem gQ{P:Program}{t:TypeId}{T:Ty}(h:ty P t=some T):∃i d z,P.info? t=some i∧P.underlying t=some d∧i.zero=some z∧i.size=T.size∧i.bytes=T.bytes∧kZ d=T.k∧z.cells.toList=T.zero:=by
 unfold ty at h;split at h
 ·rename_i i d h1 h2;split at h
  ·rename_i z hz;simp only[Option.some.injEq]at h;subst h;exact⟨i,d,z,h1,h2,hz,rfl,rfl,rfl,rfl⟩
  ·cases h
 ·cases h
theorem oz{d:TypeDesc}{e}(h:kZ d = .slice e):d = .slice e:=by cases d<;>simp_all[kZ]
theorem sV{d:TypeDesc}{n e}(h:kZ d = .array n e):d = .array n e:=by cases d<;>simp_all[kZ]
theorem C1{d:TypeDesc}{n}(h:kZ d = .int n):d = .int n:=by cases d<;>simp_all[kZ]
theorem zR{d:TypeDesc}(h:kZ d = .bool):d = .bool:=by cases d<;>simp_all[kZ]
theorem sW{d:TypeDesc}(h:kZ d = .str):d = .string:=by cases d<;>simp_all[kZ]
theorem HF{d:TypeDesc}{e}(h:kZ d = .ptr e):d = .pointer e:=by cases d<;>simp_all[kZ]
theorem pz{d:TypeDesc}{fs}(h:kZ d = .struct fs):∃a,d = .struct a∧fs=a.toList.map fun f=>(f.type,f.offset):=by cases d<;>simp_all[kZ]
theorem kt{P:Program}{t:TypeId}{T:Ty}{e}(h:ty P t=some T)(hk:T.k = .slice e):P.underlying t=some (.slice e):=by
 obtain⟨i,d,z,h1,h2,h3,h4,h5,h6,h7⟩:=gQ h;rw[hk]at h6;rw[h2,oz h6]
theorem yY{P:Program}{t:TypeId}{T:Ty}(h:ty P t=some T){w:World}:(isAgg t).run P w = .ok T.agg w:=by
 obtain⟨i,d,z,h1,h2,h3,h4,h5,h6,h7⟩:=gQ h;unfold Ty.agg;rw[←h6];simp only[isAgg,underlying,Sem.run_bind,run_program,Result.andThen_ok,h2,Sem.run_pure];cases d<;>simp[kZ]
theorem dB{P:Program}{t:TypeId}{T:Ty}(h:ty P t=some T){w:World}:(sizeOf t).run P w = .ok T.size w:=by
 obtain⟨i,d,z,h1,h2,h3,h4,h5,h6,h7⟩:=gQ h;simp[sizeOf,typeInfo,h1,h4]
theorem d6{P:Program}{t:TypeId}{T:Ty}(h:ty P t=some T):∃d,P.underlying t=some d∧kZ d=T.k:=by
 obtain⟨i,d,z,h1,h2,h3,h4,h5,h6,h7⟩:=gQ h;exact⟨d,h2,h6⟩
theorem bD{P:Program}{t:TypeId}{d:TypeDesc}(h:P.underlying t=some d){w:World}:(underlying t).run P w = .ok d w:=by
 simp[underlying,h]
theorem iQ(b o n:Nat):(⟨b,o,none⟩:Addr).add n=⟨b,o+n,none⟩:=by unfold Addr.add;split<;>simp_all
theorem bP{k:Nat}{l:List D}(hl:∀x∈l,Fits k x):(flat l).length=l.length*k:=by
 induction l with
 | nil=>simp[flat]
 | cons a l ih=>
  have:=ih (fun x hx=>hl x (by simp[hx]));simp only[flat,List.flatMap_cons,List.length_append,List.length_cons]at this ⊢;rw[(hl a (by simp)).1,this,Nat.add_mul];omega
theorem aW.elem{w S N k}{xs:List D}{vs F}(h:aW w S N (flat xs) vs F)(hk:∀x∈xs,Fits k x){i:Nat}{x:D}(hx:xs[i]?=some x) :
    ∃G,aW w S N x.cells ((vs.drop (i*k)).take k) G∧∀b∈G,b∈F:=by
 induction xs generalizing vs F i with
 | nil=>simp at hx
 | cons y ys ih=>
  simp only[flat,List.flatMap_cons]at h;obtain⟨F1,F2,rfl,h1,h2⟩:=h.split;have hy:=(hk y (by simp)).1
  cases i with
  | zero=>
   simp at hx;subst hx;refine⟨F1,?_,fun b hb=>by simp[hb]⟩;rw[hy]at h1;simpa using h1
  | succ i=>
   obtain⟨G,g1,g2⟩:=ih h2 (fun z hz=>hk z (by simp[hz])) (by simpa using hx);refine⟨G,?_,fun b hb=>by simp[g2 b hb]⟩;rw[hy,List.drop_drop]at g1;rw[Nat.add_mul,Nat.one_mul,Nat.add_comm (i*k) k];exact g1
section
variable {P:Program} {B:Nat} {w:World} {S:Nat→Prop} {objs:List Obj} {gs:List G1} {om:Nat→Option (Nat×Bool)}
theorem ip{b:Nat}{cur:Array Value}{T fz}(hw:w.heap[b]?=some (.cells cur T fz))(o n:Nat):w.cell? ((⟨b,o,none⟩:Addr).add n)=cur[o+n]?:=by
 rw[iQ,cell_of_row w b (o+n) cur T fz hw]
theorem po{r k:Nat}{xs:List D}{g:G1}{b:Nat}(hg:gs[r]?=some g)(hb:g.b=some b)(hr:eA B w S gs om r (.row k xs)){i j:Nat}{x:D}(hx:xs[i]?=some x) :
    ∃us,aQ w S (Inner B w om) gs ((x.cells.map fun d=>.d d.snap).drop j) us∧∀(n:Nat) u,us[n]?=some u→w.cell? ((⟨b,i*g.k+j,none⟩:Addr).add n)=some u:=by
 cases hr with
 | row0=>simp at hx
 | @row _ _ _ g' b' cur vs F hg' dP hb' hB ho hw hcs hn hk hvs hl hF dT=>
  obtain rfl:g=g':=by simpa using hg.symm.trans hg'
  obtain rfl:b=b':=by simpa using hb.symm.trans hb'
  obtain⟨G,h1,h2⟩:=hl.elem hk hx;have hs:=h1.snap (fun b hb=>⟨(dT b (h2 b hb)).1,(dT b (h2 b hb)).2.1,fun r' e=>by have:=(dT b (h2 b hb)).2.2;rw[e]at this;simp at this⟩);have hv:=(aQ.Hp (gs:=gs) hs).drop j;refine⟨_,by simpa [List.map_map,Function.comp_def]using hv,fun n u hu=>?_⟩;rw[ip hw,dP];subst hvs;simp only[List.getElem?_drop,List.getElem?_take]at hu;split at hu
  ·split at hu
   ·rw[←Array.getElem?_toList,←hu];congr 1;omega
   ·cases hu
  ·cases hu
theorem gu.length{w:World}{L vs F}(h:gu w L vs F):L.length=vs.length:=by
 induction h<;>simp_all
theorem gu.zK{w:World}:∀ {L:List NE} {vs:List Value} {F:List Nat},gu w L vs F→∀ {i:Nat} {v:Value},L[i]?=some (NE.raw v)→vs[i]?=some v
 | _,_,_,.nil,_,_,hi=>by simp at hi
 | _,_,_,.raw t,0,_,hi=>by simp at hi;subst hi;rfl
 | _,_,_,.raw t,i+1,_,hi=>by simpa using t.zK (by simpa using hi)
 | _,_,_,.zero t,0,_,hi=>by simp at hi
 | _,_,_,.zero t,i+1,_,hi=>by simpa using t.zK (by simpa using hi)
 | _,_,_,.row _ _ _ _ _ t,0,_,hi=>by simp at hi
 | _,_,_,.row _ _ _ _ _ t,i+1,_,hi=>by simpa using t.zK (by simpa using hi)
theorem wT{f:Int→Value}{cur:List Value}{zs:List Int}{i:Nat}{z:Int}(h:cur.take zs.length=zs.map f)(hi:i≤zs.length)(hc:i<cur.length) :
    (cur.take i++[f z]++cur.drop (i+1)).take (zs.take i++z::zs.drop (i+1)).length=(zs.take i++z::zs.drop (i+1)).map f:=by
 have e:cur=zs.map f++cur.drop zs.length:=by rw[←h,List.take_append_drop]
 generalize cur.drop zs.length=rest at e;subst e;rcases Nat.lt_or_ge i zs.length with hlt|hge
 ·have e1:(zs.map f++rest).take i=(zs.take i).map f:=by rw[List.take_append_of_le_length (by simp;omega),List.map_take]
  have e2:(zs.map f++rest).drop (i+1)=(zs.drop (i+1)).map f++rest:=by rw[List.drop_append_of_le_length (by simp;omega),List.map_drop]
  rw[e1,e2,show List.map f (zs.take i)++[f z]++(List.map f (zs.drop (i+1))++rest)=List.map f (zs.take i++z::zs.drop (i+1))++rest by simp];exact List.take_left' (by simp)
 ·obtain rfl:i=zs.length:=by omega
  rw[List.take_length,List.drop_eq_nil_of_le (show zs.length≤zs.length+1 by omega),show (List.map f zs++rest).take zs.length=List.map f zs from List.take_left' (by simp),
    show List.map f (zs ++ [z]) = List.map f zs ++ [f z] by simp]
  exact List.take_left' (by simp)
theorem vk(hM:bm B w S objs gs om){a va}(ha:a8 w S (Inner B w om) gs a va){cs}(hc:iS objs a=some cs) :
    ∃ad vs,va = .pointer (some ad)∧aQ w S (Inner B w om) gs cs vs∧∀(n:Nat) u,vs[n]?=some u→w.cell? (ad.add n)=some u:=by
 cases a with
 | ptr r i j=>
  simp only[iS]at hc
  cases ha with
  | @ptr _ _ _ g b hg hb=>
   split at hc
   ·rename_i T cs' hr;split at hc
    ·rename_i hi;subst hi;simp only[Option.some.injEq]at hc;subst hc
     cases hM.obj r _ hr with
     | @var _ _ g' b' vals hg' hb' hB ho hw hv=>
      obtain rfl:g=g':=by simpa using hg.symm.trans hg'
      obtain rfl:b=b':=by simpa using hb.symm.trans hb'
      refine⟨_,vals.toList.drop j,rfl,hv.drop j,fun n u hu=>?_⟩;rw[ip hw];simpa [List.getElem?_drop]using hu
    ·cases hc
   ·rename_i k xs hr;split at hc
    ·rename_i x hx;simp only[Option.some.injEq]at hc;subst hc;obtain⟨us,h1,h2⟩:=po (j:=j) hg hb (hM.obj r _ hr) hx;exact⟨_,us,rfl,h1,h2⟩
    ·cases hc
   ·rename_i i' r' len xs hr
    cases hM.obj r _ hr with
    | @hole _ _ _ _ v ho hi hne hv=>
     split at hc
     ·rename_i hii;subst hii;simp only[Option.some.injEq]at hc;subst hc;obtain⟨us,h1,h2⟩:=po (j:=j) hg hb ho (x:=.v v) (i:=i) (by simp[hi]);refine⟨_,us,rfl,?_,h2⟩
      cases j with
      | zero=>
       simp only[D.cells,List.map_cons,List.map_nil,List.drop_zero,nu]at h1 ⊢
       cases h1 with
       | cons a1 t1=>cases t1 with
        | nil=>cases a1 with
         | d a1=>cases a1 with
          | v=>exact .cons hv .nil
      | succ j=>
       simp only[D.cells,List.map_cons,List.map_nil,List.drop_succ_cons,List.drop_nil]at h1 ⊢;exact h1
     ·rename_i hii;split at hc
      ·rename_i x hx;simp only[Option.some.injEq]at hc;subst hc;obtain⟨us,h1,h2⟩:=po (j:=j) hg hb ho (x:=x) (i:=i) (by rw[List.getElem?_set_ne (fun e=>hii e.symm)];exact hx);exact⟨_,us,rfl,h1,h2⟩
      ·cases hc
   ·rename_i i' r' len L hr;split at hc
    ·rename_i hii;subst hii;simp only[Option.some.injEq]at hc;subst hc
     cases hM.obj r _ hr with
     | @dG _ _ _ _ v ho hi hne hv=>
      generalize hq:L.set i (.raw v)=L1 at ho
      cases ho with
      | kf=>exfalso;have:=congrArg List.length hq;simp at this;subst this;simp at hi
      | @nest _ _ g' b' cur vs F hg' dP hb' hB ho hw hcs hn hvs hl hF dT=>
       obtain rfl:g=g':=by simpa using hg.symm.trans hg'
       obtain rfl:b=b':=by simpa using hb.symm.trans hb'
       have hx:L1[i]?=some (.raw v):=by rw[←hq];simp[hi]
       have hv1:=hl.zK hx;refine⟨_,[v].drop j,rfl,(aQ.cons hv .nil).drop j,fun n u hu=>?_⟩;rw[ip hw,dP,Nat.mul_one];rw[List.getElem?_drop]at hu
       have hjn:j+n=0:=by
        rcases Nat.eq_zero_or_pos (j+n)with h|h
        ·exact h
        ·rw[List.getElem?_eq_none (by simp;omega)]at hu;cases hu
       rw[hjn]at hu;simp at hu;subst hu;rw[hvs,List.getElem?_take]at hv1;split at hv1
       ·rw[←hv1,←Array.getElem?_toList];congr 1;omega
       ·cases hv1
    ·cases hc
   ·rename_i c zs hr;split at hc
    ·rename_i z hz;simp only[Option.some.injEq]at hc;subst hc
     cases hM.obj r _ hr with
     | jW=>simp at hz
     | @grow _ _ _ g' b' cur hg' dP hb' hB ho hw hcs hgc hn hvs=>
      obtain rfl:g=g':=by simpa using hg.symm.trans hg'
      obtain rfl:b=b':=by simpa using hb.symm.trans hb'
      refine⟨_,[Value.int .u8 z].drop j,rfl,(aQ.cons (.d (.v rfl)) .nil).drop j,fun n u hu=>?_⟩;rw[ip hw,dP,Nat.mul_one];rw[List.getElem?_drop]at hu
      have hjn:j+n=0:=by
       rcases Nat.eq_zero_or_pos (j+n)with h|h
       ·exact h
       ·rw[List.getElem?_eq_none (by simp;omega)]at hu;cases hu
      rw[hjn]at hu;simp at hu;subst hu;have hzi:i<zs.length:=(List.getElem?_eq_some_iff.1 hz).1;have:=congrArg (·[i]?) hvs;simp only[List.getElem?_take,if_pos hzi,List.getElem?_map,hz,Option.map_some]at this;rw[←this,←Array.getElem?_toList];congr 1;omega
    ·cases hc
   ·cases hc
 | rp cs' j=>
  simp only[iS,Option.some.injEq]at hc;subst hc
  cases ha with
  | @rp _ _ b o cur T fz vs hb hS hvs hl h=>
   refine⟨_,vs.drop j,rfl,by simpa using(aQ.Hp h).drop j,fun n u hu=>?_⟩;rw[ip hb];subst hvs;simp only[List.getElem?_drop,List.getElem?_take]at hu;split at hu
   ·rw[←Array.getElem?_toList,←hu];congr 1;omega
   ·cases hu
 | _=>simp[iS]at hc
theorem rP(hM:bm B w S objs gs om){a va}(ha:a8 w S (Inner B w om) gs a va){t av aj}(h:pS P objs t a=some (av,aj)) :
    ∃v,(Instr.loadAt t va).run P w = .ok v w∧a8 w S (Inner B w om) gs av v∧aj=objs:=by
 unfold pS at h;split at h
 ·rename_i T cs hT hc;obtain⟨ad,vs,rfl,hv,hcell⟩:=vk hM ha hc;simp only[Instr.loadAt,Instr.sureAddr,Sem.run_bind,Sem.run_pure,Result.andThen_ok,loadVar,yY hT];split at h
  ·rename_i hagg;split at h
   ·rename_i hlen;simp only[Option.some.injEq,Prod.mk.injEq]at h;obtain⟨rfl,rfl⟩:=h;have ht:=hv.take T.size;have hvl:(vs.take T.size).length=T.size:=by rw[←ht.length];simp;omega
    have hrun:=run_loadCells_list (P:=P) w ad (vs.take T.size) (fun j u hu=>hcell j u (by
      rw [List.getElem?_take] at hu; split at hu; exact hu; cases hu))
    rw[hvl]at hrun;simp only[hagg,if_true,Sem.run_bind,dB hT,Result.andThen_ok,hrun,Sem.run_pure];exact⟨_,rfl,.agg ht,by trivial⟩
   ·cases h
  ·rename_i hagg;split at h
   ·rename_i c cs';simp only[Option.some.injEq,Prod.mk.injEq]at h;obtain⟨rfl,rfl⟩:=h
    cases hv with
    | @cons _ v _ vs' hc1 ht=>
     have:=hcell 0 v rfl;have had:ad.add 0=ad:=by simp[Addr.add]
     rw[had]at this;simp only[hagg,Bool.false_eq_true,if_false,run_load,this];exact⟨_,rfl,hc1,by trivial⟩
   ·cases h
 ·cases h
theorem rD{a va}(ha:a8 w S (Inner B w om) gs a va)(h:a.aX=true):va.oneCell'=true:=by
 cases ha<;>try (simp_all[AV.aX,Value.oneCell'];done)
 rename_i x h1;cases h1<;>simp_all[AV.aX,Value.oneCell']
theorem vV{cs vs}(h:aQ w S (Inner B w om) gs cs vs)(hc:cs.all AV.aX=true):∀v∈vs,v.oneCell'=true:=by
 induction cs generalizing vs with
 | nil=>cases h;simp
 | cons c cs ih=>
  cases h with
  | cons h t=>
   simp only[List.all_cons,Bool.and_eq_true]at hc;intro v hv;rcases List.mem_cons.1 hv with rfl|hv
   ·exact rD h hc.1
   ·exact ih t hc.2 v hv
theorem AG{v:Value}(h:v.oneCell'=true):v.cells = #[v]:=by cases v<;>simp_all[Value.cells,Value.oneCell']
theorem mb{a va}(ha:a8 w S (Inner B w om) gs a va){cs}(h:a.cells=some cs):aQ w S (Inner B w om) gs cs va.cells.toList∧(∀v∈va.cells.toList,v.oneCell'=true)∧cs.all AV.aX=true:=by
 unfold AV.cells at h;split at h
 ·split at h
  ·rename_i hall;simp only[Option.some.injEq]at h;subst h
   cases ha with
   | agg hv=>exact⟨by simpa [Value.cells]using hv,by simpa [Value.cells]using vV hv hall,hall⟩
  ·cases h
 ·split at h
  ·rename_i hc;simp only[Option.some.injEq]at h;subst h;have h1:=rD ha hc;rw[AG h1];exact⟨.cons ha .nil,by simpa using h1,by simpa using hc⟩
  ·cases h
theorem ny{α:Type}(L:List α)(off:Nat)(cs:List α):L.take off++cs++L.drop (off+cs.length)=splice L off cs:=by simp[splice]
theorem aQ.splice{as:List AV}{vs:List Value}{N}(h:aQ w S N gs as vs){bs us}(h':aQ w S N gs bs us)(j:Nat):aQ w S N gs (splice as j bs) (splice vs j us):=by
 unfold Go.splice;rw[←h'.length];exact(h.take j).append (h'.append (h.drop _))
theorem Cb:∀(cs:List AV) {ds:List D} {objs aj:List Obj},cs.all AV.aX=true→cls objs cs=some (ds,aj)→∀d∈ds,d.cells=[d]:=by
 intro cs
 induction cs with
 | nil=>intro ds objs aj _ h;simp[cls]at h;simp[h.1]
 | cons c cs ih=>
  intro ds objs aj hc h;simp only[List.all_cons,Bool.and_eq_true]at hc;simp only[cls]at h;split at h
  ·rename_i d o1 h1;split at h
   ·rename_i ds' o2 h2;simp only[Option.some.injEq,Prod.mk.injEq]at h;obtain⟨rfl,rfl⟩:=h;intro x hx;rcases List.mem_cons.1 hx with rfl|hx
    ·have hcc:=hc.1
     cases c with
     | d y=>cases y with
      | v=>simp[cl]at h1;rw[←h1.1];rfl
      | row m k xs=>cases m with
       | ro=>simp[cl]at h1;rw[←h1.1];rfl
       | sn=>simp[cl]at h1
       | own=>cases xs<;>simp[cl]at h1;rw[←h1.1];rfl
      | agg=>simp[AV.aX]at hcc
      | bK=>simp[AV.aX]at hcc
     | hdr r off len=>
      simp only[cl]at h1;split at h1
      ·split at h1
       ·simp at h1;rw[←h1.1];rfl
       ·cases h1
      ·cases h1
     | agg=>simp[AV.aX]at hcc
     | bK=>simp[AV.aX]at hcc
     | dead=>simp[AV.aX]at hcc
     | _=>simp[cl]at h1
    ·exact ih hc.2 h2 x hx
   ·cases h
  ·cases h
theorem zt:∀(cs:List AV) {ds:List D} {objs aj:List Obj},cs.all AV.aX=true→cls objs cs=some (ds,aj)→∀d∈ds,d.aX=true:=by
 intro cs
 induction cs with
 | nil=>intro ds objs aj _ h;simp[cls]at h;simp[h.1]
 | cons c cs ih=>
  intro ds objs aj hc h;simp only[List.all_cons,Bool.and_eq_true]at hc;simp only[cls]at h;split at h
  ·rename_i d o1 h1;split at h
   ·rename_i ds' o2 h2;simp only[Option.some.injEq,Prod.mk.injEq]at h;obtain⟨rfl,rfl⟩:=h;intro x hx;rcases List.mem_cons.1 hx with rfl|hx
    ·have hcc:=hc.1
     cases c with
     | d y=>cases y with
      | v=>simp[cl]at h1;rw[←h1.1];rfl
      | row m k xs=>cases m with
       | ro=>simp[cl]at h1;rw[←h1.1];rfl
       | sn=>simp[cl]at h1
       | own=>cases xs<;>simp[cl]at h1;rw[←h1.1];rfl
      | agg=>simp[AV.aX]at hcc
      | bK=>simp[AV.aX]at hcc
     | hdr r off len=>
      simp only[cl]at h1;split at h1
      ·split at h1
       ·simp at h1;rw[←h1.1];rfl
       ·cases h1
      ·cases h1
     | agg=>simp[AV.aX]at hcc
     | bK=>simp[AV.aX]at hcc
     | dead=>simp[AV.aX]at hcc
     | _=>simp[cl]at h1
    ·exact ih hc.2 h2 x hx
   ·cases h
  ·cases h
theorem uF{d:D}(h:d.aX=true):d.cells=[d]:=by cases d<;>simp_all[D.aX,D.cells]
theorem D1{N:Nat→Prop}{o d v F}(h:cb w S N d v F):cb w S N (dn o d) v F:=by
 unfold dn;split
 ·cases h;exact .nil
 ·exact h
theorem AB{o d:D}(h:d.cells=[d]):(dn o d).cells=[dn o d]:=by
 unfold dn;split
 ·rfl
 ·exact h
theorem wk{N:Nat→Prop}:∀(os:List D) {ds vs F},aW w S N ds vs F→aW w S N (br os ds) vs F
 | [],ds,vs,F,h=>by cases ds<;>simpa [br]using h
 | o::os,[],vs,F,h=>by simpa [br]using h
 | o::os,d::ds,vs,F,h=>by
  cases h with|cons h t=>exact .cons (D1 h) (wk os t)
theorem rX:∀(os ds:List D),(∀d∈ds,d.cells=[d])→∀d∈br os ds,d.cells=[d]
 | [],ds,h=>by cases ds<;>simpa [br]using h
 | o::os,[],h=>by simp[br]
 | o::os,d::ds,h=>by
  intro x hx;simp only[br,List.mem_cons]at hx;rcases hx with rfl|hx
  ·exact AB (h d (by simp))
  ·exact rX os ds (fun d hd=>h d (by simp[hd])) x hx
theorem yn{o d:D}(h:d.aX=true):(dn o d).aX=true:=by
 unfold dn;split
 ·rfl
 ·exact h
theorem pU:∀(os ds:List D),(∀d∈ds,d.aX=true)→∀d∈br os ds,d.aX=true
 | [],ds,h=>by cases ds<;>simpa [br]using h
 | o::os,[],h=>by simp[br]
 | o::os,d::ds,h=>by
  intro x hx;simp only[br,List.mem_cons]at hx;rcases hx with rfl|hx
  ·exact yn (h d (by simp))
  ·exact pU os ds (fun d hd=>h d (by simp[hd])) x hx
theorem gy:∀(os ds:List D),(br os ds).length=ds.length
 | [],ds=>by cases ds<;>simp[br]
 | o::os,[]=>by simp[br]
 | o::os,d::ds=>by simp[br,gy os ds]
theorem yA{x:D}{j:Nat}{ds:List D}(h:j+ds.length≤x.cells.length)(h0:0<ds.length)(hd:∀d∈ds,d.cells=[d]):(bJ x j ds).cells=splice x.cells j ds:=by
 have key:∀(y:D),y.cells=[y]→j+ds.length≤y.cells.length→(∃d,ds=[d]∧j=0):=by
  intro y hy hl;rw[hy]at hl;simp at hl
  match ds,h0,hl with
  | [d],_,hl=>exact⟨d,rfl,by simp at hl;omega⟩
  | _::_::_,_,hl=>simp at hl;omega
 cases x with
 | agg cs=>simp[bJ,D.cells]
 | v x=>obtain⟨d,rfl,rfl⟩:=key _ rfl h;simp[bJ,hd,D.cells,Go.splice];exact hd d (by simp)
 | row m k xs=>obtain⟨d,rfl,rfl⟩:=key _ rfl h;simp[bJ,hd,D.cells,Go.splice];exact hd d (by simp)
 | bK es=>obtain⟨d,rfl,rfl⟩:=key _ rfl h;simp[bJ,hd,D.cells,Go.splice];exact hd d (by simp)
theorem BS{xs:List D}{i k:Nat}{x y:D}(hx:xs[i]?=some x)(hk:∀x∈xs,Fits k x){j:Nat}{ds:List D}(hj:j+ds.length≤k)(hy:y.cells=splice x.cells j ds) :
    flat (xs.set i y)=splice (flat xs) (i*k+j) ds:=by
 induction xs generalizing i with
 | nil=>simp at hx
 | cons z zs ih=>
  have hz:=(hk z (by simp)).1
  cases i with
  | zero=>
   simp at hx;subst hx;simp only[List.set_cons_zero,flat,List.flatMap_cons,hy,Nat.zero_mul,Nat.zero_add,Go.splice];rw[List.take_append_of_le_length (by omega),List.drop_append_of_le_length (by omega)];simp
  | succ i=>
   have:=ih (by simpa using hx) (fun x hx=>hk x (by simp[hx]));simp only[flat]at this;simp only[List.set_cons_succ,flat,List.flatMap_cons,this,Go.splice];have e1:(i+1)*k+j=z.cells.length+(i*k+j):=by rw[hz,Nat.add_mul];omega
   have e2:(i+1)*k+j+ds.length=z.cells.length+(i*k+j+ds.length):=by omega
   rw[e2,e1,List.take_length_add_append,List.drop_length_add_append];simp
theorem wO(hM:bm B w S objs gs om){a va x vx}(ha:a8 w S (Inner B w om) gs a va)(hx:a8 w S (Inner B w om) gs x vx){t aj}(h:u3 P objs t a x=some aj) :
    ∃w' bz,(Instr.storeAt t va vx).run P w = .ok () w'∧Ext B w gs om w' gs bz∧bm B w' S aj gs bz:=by
 unfold u3 at h;split at h
 ·rename_i T vs r i j hT hvs;split at h
  ·rename_i hlen;obtain⟨hcv,hone,hcell⟩:=mb hx hvs;have hsz:vx.cells.size=T.size:=by rw[←hlen,hcv.length];simp
   have hpre:∀ad,va = .pointer (some ad)→(Instr.storeAt t va vx).run P w=(storeCells ad vx.cells.toList).run P w:=by
    rintro ad rfl;simp[Instr.storeAt,Instr.sureAddr,storeVar,dB hT,hsz]
   cases ha with
   | @ptr _ _ _ g b hg hb=>
    rw[hpre _ rfl];split at h
    ·rename_i U cs hr;split at h
     ·rename_i hij;obtain⟨rfl,hj⟩:=hij;simp only[Option.some.injEq]at h;subst h
      cases hM.obj r _ hr with
      | @var _ _ g' b' vals hg' hb' hB ho hw hv=>
       obtain rfl:g=g':=by simpa using hg.symm.trans hg'
       obtain rfl:b=b':=by simpa using hb.symm.trans hb'
       have hl:=hv.length;have hl2:=hcv.length;have hrun:=run_storeCells_at P b (0*g.k+j) U vx.cells.toList 0 vals w hw (by simp at hl hl2 ⊢;omega) hone;rw[hrun]
       obtain⟨e,m⟩:=hM.Bi (vals':=(vals.toList.take (0*g.k+j+0)++vx.cells.toList++vals.toList.drop (0*g.k+j+0+vx.cells.toList.length)).toArray) hr hg hb hw (cs':=splice cs j vs) (by
         rw [List.toList_toArray, ny]
         simpa using hv.splice hcv j)
       exact⟨_,om,rfl,e,m⟩
     ·cases h
    ·rename_i k xs hr;split at h
     ·rename_i ds fh hcl;split at h
      ·rename_i k' xs' hr';split at h
       ·rename_i y hy;split at h
        ·rename_i hjl;simp only[Option.some.injEq]at h;subst h;obtain⟨G,hds,E5⟩:=nK vs hM hcv hcl
         cases E5.pj.obj r _ hr' with
         | row0=>simp at hy
         | @row _ _ _ g' b' cur vs' F hg' dP hb' hB ho hw hcs hn hk DQ hl hF dT=>
          obtain rfl:g=g':=by simpa using hg.symm.trans hg'
          obtain rfl:b=b':=by simpa using hb.symm.trans hb'
          have hyk:=(hk y (List.mem_of_getElem? hy)).1;have hdl:=hds.length
          have hi:i<xs'.length:=by
           rcases Nat.lt_or_ge i xs'.length with h'|h'
           ·exact h'
           ·simp[List.getElem?_eq_none h']at hy
          have hfit:i*k'+j+ds.length≤xs'.length*k':=by
           have:(i+1)*k'≤xs'.length*k':=Nat.mul_le_mul_right _ hi;rw[Nat.add_mul]at this;omega
          have hdc:=Cb vs hcell hcl;have hcells:=yA (x:=y) (j:=j) (ds:=br (y.cells.drop j) ds) (by rw[gy];exact hjl.1) (by rw[gy];exact hjl.2) (rX _ _ hdc);have vQ:=BS hy hk (j:=j) (ds:=br (y.cells.drop j) ds) (by rw[gy];omega) hcells;have hrun:=run_storeCells_at P b (i*g.k+j) _ vx.cells.toList 0 cur w hw (by simp only[dP,Nat.add_zero,←hdl,hcs];omega) hone;rw[hrun]
          obtain⟨e,m⟩:=bm.uf E5 hr' hg hb hw (wk (y.cells.drop j) hds) (p:=i*k'+j) (xs':=xs'.set i (bJ y j (br (y.cells.drop j) ds)))
           (by rw[gy,bP hk];exact hfit) vQ (by simp) (by
             intro z hz
             rcases List.mem_or_eq_of_mem_set hz with hz | rfl
             · exact hk z hz
             · refine ⟨by rw [hcells, length_splice _ _ _ (by rw [gy]; exact hjl.1)]; exact hyk, fun c hc => ?_⟩
               rw [hcells] at hc
               simp only [Go.splice, List.mem_append] at hc
               have Oi := (hk y (List.mem_of_getElem? hy)).2
               rcases hc with hc | hc | hc
               · exact Oi c (List.mem_of_mem_take hc)
               · exact pU _ _ (zt vs hcell hcl) c hc
               · exact Oi c (List.mem_of_mem_drop hc))
          rw[ny,dP];exact⟨_,_,rfl,e,m⟩
        ·cases h
       ·cases h
      ·cases h
     ·cases h
    ·rename_i c zs hr;split at h
     ·rename_i z;split at h
      ·rename_i hc;obtain⟨rfl,hic,hil⟩:=hc;simp only[Option.some.injEq]at h;subst h
       cases hM.obj r _ hr with
       | jW hg' _ hb'=>rw[hg]at hg';simp at hg';subst hg';rw[hb]at hb';cases hb'
       | @grow _ _ _ g' b' cur hg' dP hb' hB ho hw hcs hgc hn DQ=>
        obtain rfl:g=g':=by simpa using hg.symm.trans hg'
        obtain rfl:b=b':=by simpa using hb.symm.trans hb'
        have hl2:=hcv.length
        have Df:vx.cells.toList=[.int .u8 z]:=by
         generalize vx.cells.toList=us at hcv
         cases hcv with
         | cons a t=>cases t with
          | nil=>cases a with
           | d a=>cases a with
            | v=>rfl
        have hrun:=run_storeCells_at P b (i*g.k+0) _ vx.cells.toList 0 cur w hw (by rw[Df];simp[dP];omega) hone;rw[hrun];have e:=Ext.setRow (w:=w) (gs:=gs) (om:=om) hB ho (cur.toList.take (i*g.k+0+0)++vx.cells.toList++cur.toList.drop (i*g.k+0+0+vx.cells.toList.length)).toArray;refine⟨_,om,rfl,e,hM.step e (by simp[hM.len]) fun r1 o1 h1'=>?_⟩;rcases eg h1' with ⟨rfl,rfl⟩|⟨hne,h1'⟩
        ·right
         have hsz:(cur.toList.take (i*g.k+0+0)++vx.cells.toList++cur.toList.drop (i*g.k+0+0+vx.cells.toList.length)).toArray.size=g.cap:=by
          rw[Df,←hcs];simp[dP];omega
         refine .grow hg dP hb hB ho (setRow_heap w b _ _ _ _ hw) hsz hgc ?_ ?_
         ·simp;omega
         ·rw[Df];simpa [dP]using wT (z:=z) DQ hil (by simp[hcs,hgc];exact hic)
        ·left;refine⟨h1',fun b1 c1 hbc _=>⟨hbc,setRow_other w b b1 _ fun e=>?_⟩⟩;subst e;rw[ho]at hbc;simp at hbc;exact hne hbc.1.symm
      ·cases h
     ·cases h
    ·cases h
  ·cases h
 ·cases h
end
end Go.aN
/- The operations on abstract states are sound: addresses, parts, numbers. Lemmas alone. -/
namespace Go.aN
open Go.RowKit
section
variable {P:Program} {B:Nat} {w:World} {S:Nat→Prop} {objs:List Obj} {gs:List G1} {om:Nat→Option (Nat×Bool)}
theorem wX{s:TypeId}{T:Ty}{fs}(hT:ty P s=some T)(hk:T.k = .struct fs){f:Nat}{t off}(hf:fs[f]?=some (t,off)) :
    ∃a fd,P.underlying s=some (.struct a)∧a[f]?=some fd∧fd.type=t∧fd.offset=off:=by
 obtain⟨d,h1,h2⟩:=d6 hT;rw[hk]at h2;obtain⟨a,rfl,rfl⟩:=pz h2;simp only[List.getElem?_map,Array.getElem?_toList]at hf
 cases hfa:a[f]? with
 | none=>simp[hfa]at hf
 | some fd=>simp[hfa]at hf;exact⟨a,fd,h1,hfa,hf.1,hf.2⟩
theorem qc{a va}(ha:a8 w S (Inner B w om) gs a va){s f av}(h:kK P s a f=some av) :
    ∃v,(Instr.fieldAt s va f).run P w = .ok v w∧a8 w S (Inner B w om) gs av v:=by
 unfold kK at h;split at h
 ·rename_i size bytes fs zero hT;split at h
  ·rename_i t off hf;split at h
   ·rename_i T Pj;split at h
    ·cases h
    ·rename_i hsz;obtain⟨A,fd,h1,h2,rfl,rfl⟩:=wX hT rfl hf
     have key:∀b o,va = .pointer (some ⟨b,o,none⟩)→(Instr.fieldAt s va f).run P w = .ok (.pointer (some ⟨b,o+fd.offset,none⟩)) w:=by
      rintro b o rfl;simp[Instr.fieldAt,bD h1,h2,Instr.sureAddr,fieldPlace,dB Pj,hsz,iQ]
     split at h
     ·rename_i r i j;simp only[Option.some.injEq]at h;subst h
      cases ha with
      | ptr hg hb=>
       rw[key _ _ rfl];refine⟨_,rfl,?_⟩;rw[Nat.add_assoc];exact .ptr hg hb
     ·rename_i cs j;simp only[Option.some.injEq]at h;subst h
      cases ha with
      | rp hb hS hvs hl h=>
       rw[key _ _ rfl];refine⟨_,rfl,?_⟩;rw[Nat.add_assoc];exact .rp hb hS hvs hl h
     ·cases h
   ·cases h
  ·cases h
 ·cases h
theorem eV{t e:TypeId}{T:Ty}(ht:P.underlying t=some (.slice e))(hT:ty P e=some T)(b o len c:Nat)(k:IntKind)(i:Int)(h0:0≤i)(hl:i<len) :
    (Instr.indexAt t (.slice (some ⟨b,o,none⟩) len c) (.int k i)).run P w = .ok (.pointer (some ⟨b,o+i.toNat*T.size,none⟩)) w:=by
 simp[Instr.indexAt,asIntOf,bD ht,dB hT,h0,hl,iQ]
theorem a8.AE{m k xs v}(h:a8 w S (Inner B w om) gs (.d (.row m k xs)) v)(hm:m ≠ .own){i:Nat}(hi:i<xs.length) :
    ∃b off c cur T fz,v = .slice (some ⟨b,off,none⟩) xs.length c∧w.heap[b]?=some (.cells cur T fz)∧(S b∨Inner B w om b)∧(∀x∈xs,Fits k x) ∧
     aW w S (Inner B w om) (flat xs) ((cur.toList.drop off).take (xs.length*k)) []:=by
 cases h with
 | d h=>
  cases h with
  | nil=>simp at hi
  | empty=>simp at hi
  | @old _ _ _ b off c cur T fz vs hm' hb h1 h2 hq hk hvs hl h=>
   refine⟨b,off,c,cur,T,fz,rfl,hb,?_,hk,hvs▸h⟩
   cases m with
   | ro=>exact .inl (h1 rfl)
   | sn=>exact .inr (h2 rfl)
   | own=>exact absurd rfl hm
theorem a8.Aj{k xs v}(h:a8 w S (Inner B w om) gs (.cut k xs) v){i:Nat}(hi:i<xs.length) :
    ∃b off c cur T fz,v = .slice (some ⟨b,off,none⟩) xs.length c∧w.heap[b]?=some (.cells cur T fz)∧(S b∨Inner B w om b)∧(∀x∈xs,Fits k x) ∧
     aW w S (Inner B w om) (flat xs) ((cur.toList.drop off).take (xs.length*k)) []:=by
 cases h with
 | gK=>simp at hi
 | dU=>simp at hi
 | @cut _ _ b off cur T fz vs hb hS hk hvs hl h=>exact⟨b,off,_,cur,T,fz,rfl,hb,hS,hk,hvs▸h⟩
theorem Cy{b off:Nat}{cur:Array Value}{T fz k}{xs:List D}(hb:w.heap[b]?=some (.cells cur T fz))(hS:S b∨Inner B w om b)(hk:∀x∈xs,Fits k x)
    (h:aW w S (Inner B w om) (flat xs) ((cur.toList.drop off).take (xs.length*k)) []) {i:Nat} {x:D} (hx:xs[i]?=some x) :
    a8 w S (Inner B w om) gs (.rp x.cells 0) (.pointer (some ⟨b,off+i*k,none⟩)):=by
 obtain⟨G,h1,h2⟩:=h.elem hk hx;obtain rfl:G=[]:=List.eq_nil_iff_forall_not_mem.2 (fun b hb=>by simpa using h2 b hb);have hl:=h1.length;have hxk:=(hk x (List.mem_of_getElem? hx)).1
 have hi:i<xs.length:=by
  rcases Nat.lt_or_ge i xs.length with h'|h'
  ·exact h'
  ·simp[List.getElem?_eq_none h']at hx
 have e:((List.take (xs.length*k) (List.drop off cur.toList)).drop (i*k)).take k=(cur.toList.drop (off+i*k)).take x.cells.length:=by
  have hfit:i*k+k≤xs.length*k:=by
   have:(i+1)*k≤xs.length*k:=Nat.mul_le_mul_right _ hi
   rwa [Nat.add_mul,Nat.one_mul]at this
  apply List.ext_getElem?;intro j;simp only[List.getElem?_take,List.getElem?_drop,hxk];by_cases hj:j<k
  ·simp only[if_pos hj];rw[if_pos (by omega)];congr 1;omega
  ·simp only[if_neg hj]
 rw[e]at h1 hl;exact .rp (j:=0) hb hS rfl hl.symm h1
theorem qf(hM:bm B w S objs gs om){a va}(ha:a8 w S (Inner B w om) gs a va){t av}{k:IntKind}{i:Int}(h:cL P objs t a i=some av) :
    ∃v,(Instr.indexAt t va (.int k i)).run P w = .ok v w∧a8 w S (Inner B w om) gs av v:=by
 unfold cL at h;split at h
 ·rename_i size bytes e zero hT;have ht:=kt hT rfl;split at h
  ·rename_i T hTe
   have old:∀ {xs:List D} {kk:Nat} {b off c cur U fz},va = .slice (some ⟨b,off,none⟩) xs.length c→w.heap[b]?=some (.cells cur U fz)→(S b∨Inner B w om b)→(∀x∈xs,Fits kk x) →
       aW w S (Inner B w om) (flat xs) ((cur.toList.drop off).take (xs.length*kk)) []→kk=T.size→0≤i→i<xs.length→∀x,xs[i.toNat]?=some x →
       ∃v,(Instr.indexAt t va (.int k i)).run P w = .ok v w∧a8 w S (Inner B w om) gs (.rp x.cells 0) v:=by
    rintro xs kk b off c cur U fz rfl hb hS hk hL rfl h0 h1 x hx;rw[eV ht hTe _ _ _ _ _ _ h0 h1];exact⟨_,rfl,Cy hb hS hk hL hx⟩
   split at h
   ·rename_i r off len;split at h
    ·rename_i kk xs hr;split at h
     ·rename_i hc;obtain⟨hk,h0,h1⟩:=hc;simp only[Option.some.injEq]at h;subst h
      cases ha with
      | @hdr _ _ _ g b o c hg hb hcap hoff hlc hm=>
       have dP:g.k=kk:=by
        cases hM.obj r _ hr with
        | row0 hg' hk' _=>rw[hg]at hg';simp at hg';subst hg';exact hk'
        | row hg' dP hb' hB ho hw hcs hn hk' hvs hl hF dT=>rw[hg]at hg';simp at hg';subst hg';exact dP
       rw[eV ht hTe _ _ _ _ _ _ h0 h1];refine⟨_,rfl,?_⟩;have ho:o=off*g.k:=hoff.resolve_right (by omega);subst ho;rw[show off*g.k+i.toNat*T.size=(off+i.toNat)*g.k+0 by rw[←hk,dP,Nat.add_mul];rfl];exact .ptr hg hb
      | fP=>simp at h1;omega
     ·cases h
    ·rename_i i1 r1 len1 xs hr;split at h
     ·rename_i hc;obtain⟨hk,h0,h1⟩:=hc;simp at h;subst h
      cases ha with
      | @hdr _ _ _ g b o c hg hb hcap hoff hlc hm=>
       have dP:g.k=1:=by
        cases hM.obj r _ hr with
        | hole ho=>exact ho.NI hg
       rw[eV ht hTe _ _ _ _ _ _ h0 h1];refine⟨_,rfl,?_⟩;have ho:o=off*g.k:=hoff.resolve_right (by omega);subst ho;rw[show off*g.k+i.toNat*T.size=(off+i.toNat)*g.k+0 by rw[←hk,dP,Nat.add_mul];rfl];exact .ptr hg hb
      | fP=>simp at h1;omega
     ·cases h
    ·rename_i i1 r1 len1 xs hr;split at h
     ·rename_i hc;obtain⟨hk,h0,h1⟩:=hc;simp at h;subst h
      cases ha with
      | @hdr _ _ _ g b o c hg hb hcap hoff hlc hm=>
       have dP:g.k=1:=by
        cases hM.obj r _ hr with
        | dG ho=>exact ho.K0 hg
       rw[eV ht hTe _ _ _ _ _ _ h0 h1];refine⟨_,rfl,?_⟩;have ho:o=off*g.k:=hoff.resolve_right (by omega);subst ho;rw[show off*g.k+i.toNat*T.size=(off+i.toNat)*g.k+0 by rw[←hk,dP,Nat.add_mul];rfl];exact .ptr hg hb
      | fP=>simp at h1;omega
     ·cases h
    ·rename_i c1 zs1 hr;split at h
     ·rename_i hc;obtain⟨hk,h0,h1⟩:=hc;simp at h;subst h
      cases ha with
      | @hdr _ _ _ g b o c hg hb hcap hoff hlc hm=>
       have dP:g.k=1:=((hM.obj r _ hr).tG hg).1;rw[eV ht hTe _ _ _ _ _ _ h0 h1];refine⟨_,rfl,?_⟩;have ho:o=off*g.k:=hoff.resolve_right (by omega);subst ho;rw[show off*g.k+i.toNat*T.size=(off+i.toNat)*g.k+0 by rw[←hk,dP,Nat.add_mul];rfl];exact .ptr hg hb
      | fP=>simp at h1;omega
     ·cases h
    ·cases h
   ·cases h
   ·rename_i m kk xs hm;split at h
    ·rename_i hc;obtain⟨hk,h0,h1⟩:=hc
     cases hx:xs[i.toNat]? with
     | none=>simp[hx]at h
     | some x=>
      simp[hx]at h;subst h;have hm':m ≠ .own:=fun e=>hm e
      obtain⟨b,off,c,cur,U,fz,h2,h3,h4,h5,h6⟩:=ha.AE hm' (i:=i.toNat) (by omega);exact old h2 h3 h4 h5 h6 hk h0 h1 x hx
    ·cases h
   ·rename_i kk xs;split at h
    ·rename_i hc;obtain⟨hk,h0,h1⟩:=hc
     cases hx:xs[i.toNat]? with
     | none=>simp[hx]at h
     | some x=>
      simp[hx]at h;subst h;obtain⟨b,off,c,cur,U,fz,h2,h3,h4,h5,h6⟩:=ha.Aj (i:=i.toNat) (by omega);exact old h2 h3 h4 h5 h6 hk h0 h1 x hx
    ·cases h
   ·cases h
  ·cases h
 ·rename_i size bytes n e zero hT;obtain⟨d,hu,hd⟩:=d6 hT;have:=sV hd;subst this;split at h
  ·rename_i T hTe
   have key:∀b o,va = .pointer (some ⟨b,o,none⟩)→0≤i→i<n→(Instr.indexAt t va (.int k i)).run P w = .ok (.pointer (some ⟨b,o+i.toNat*T.size,none⟩)) w:=by
    rintro b o rfl h0 h1;simp[Instr.indexAt,asIntOf,bD hu,Instr.sureAddr,dB hTe,h0,h1,iQ]
   split at h
   ·rename_i r p j;split at h
    ·rename_i hc;simp only[Option.some.injEq]at h;subst h
     cases ha with
     | ptr hg hb=>rw[key _ _ rfl hc.1 hc.2];refine⟨_,rfl,?_⟩;rw[Nat.add_assoc];exact .ptr hg hb
    ·cases h
   ·rename_i cs j;split at h
    ·rename_i hc;simp only[Option.some.injEq]at h;subst h
     cases ha with
     | rp hb hS hvs hl h=>rw[key _ _ rfl hc.1 hc.2];refine⟨_,rfl,?_⟩;rw[Nat.add_assoc];exact .rp hb hS hvs hl h
    ·cases h
   ·cases h
  ·cases h
 ·cases h
theorem se{cs vs}(hv:aQ w S (Inner B w om) gs cs vs){t off av}(h:pW P t cs off=some av) :
    ∃v,(part t vs.toArray off).run P w = .ok v w∧a8 w S (Inner B w om) gs av v:=by
 unfold pW at h;split at h
 ·rename_i T hT;simp only[part,Sem.run_bind,yY hT,Result.andThen_ok];split at h
  ·rename_i hagg;split at h
   ·rename_i hl;simp only[Option.some.injEq]at h;subst h;simp only[hagg,if_true,Sem.run_bind,dB hT,Result.andThen_ok,Sem.run_pure];refine⟨_,rfl,?_⟩;have:=(hv.drop off).take T.size
    have e:vs.toArray.extract off (off+T.size)=((vs.drop off).take T.size).toArray:=by
     apply Array.ext';simp[List.take_drop]
    rw[e];exact .agg this
   ·cases h
  ·rename_i hagg;obtain⟨v,h1,h2⟩:=hv.get h;simp[hagg,h1];exact h2
 ·cases h
theorem vA{x vx}(hx:a8 w S (Inner B w om) gs x vx){s f av}(h:xD P s x f=some av) :
    ∃v,(Instr.field s vx f).run P w = .ok v w∧a8 w S (Inner B w om) gs av v:=by
 unfold xD at h;split at h
 ·rename_i size bytes fs zero cs hT;split at h
  ·rename_i t off hf;obtain⟨A,fd,h1,h2,rfl,rfl⟩:=wX hT rfl hf
   cases hx with
   | @agg _ vs hv=>
    obtain⟨v,h3,h4⟩:=se hv h;exact⟨v,by simp[Instr.field,bD h1,h2,asAgg,h3],h4⟩
  ·cases h
 ·cases h
theorem vR{x vx}(hx:a8 w S (Inner B w om) gs x vx){t av}{k:IntKind}{i:Int}(h:kO P t x i=some av) :
    ∃v,(Instr.index t vx (.int k i)).run P w = .ok v w∧a8 w S (Inner B w om) gs av v:=by
 unfold kO at h;split at h
 ·rename_i size bytes zero s hT;obtain⟨d,hu,hd⟩:=d6 hT;have:=sW hd;subst this;split at h
  ·rename_i hi;simp only[Option.some.injEq]at h;subst h
   cases hx with
   | d h=>
    cases h with
    | v h=>
     have hlt:i.toNat<s.size:=by omega
     have e:s[i.toNat]?=some (s.data.toList.getD i.toNat 0):=by
      have h2:i.toNat<s.data.toList.length:=by simpa using hlt
      rw[List.getD_eq_getElem?_getD,List.getElem?_eq_getElem h2];simp[getElem?_pos,hlt];rfl
     refine⟨_,?_,.d (.v rfl)⟩;simp[Instr.index,asIntOf,bD hu,hi.1,e]
  ·cases h
 ·rename_i size bytes n e zero cs hT;obtain⟨d,hu,hd⟩:=d6 hT;have:=sV hd;subst this;split at h
  ·rename_i T hTe;split at h
   ·rename_i hi
    cases hx with
    | @agg _ vs hv=>
     obtain⟨v,h3,h4⟩:=se hv h;exact⟨v,by simp[Instr.index,asIntOf,bD hu,dB hTe,hi.1,hi.2,h3],h4⟩
   ·cases h
  ·cases h
 ·cases h
end
end Go.aN
/- Slicing, making, building: what they do to an abstract state, and that it is so. Lemmas alone. -/
namespace Go.aN
open Go.RowKit
def ie(P:Program)(objs:List Obj)(t:TypeId)(x:AV)(lo hi mx:Option Int):Option AV:=
 match ty P t with
 | some {k:=.str,..}=>match x with
  | .d (.v (.string s))=>
   if 0≤lo.getD 0∧lo.getD 0≤hi.getD s.size∧hi.getD s.size≤s.size∧mx=none then some (.str (s.extract (lo.getD 0).toNat (hi.getD s.size).toNat))else none
  | _=>none
 | some {k:=.slice e,..}=>match ty P e with
  | some T=>match x with
   | .d (.v (.slice none 0 0))=>if lo.getD 0=0∧hi.getD 0=0∧mx=none then some x else none
   | .hdr r off len=>match objs[r]? with
    | some (.row k xs)=>
     if k=T.size∧0≤lo.getD 0∧lo.getD 0≤hi.getD len∧(hi.getD len≤len∨0<k∧off+hi.getD len≤xs.length)∧mx=none then some (.hdr r (off+(lo.getD 0).toNat) ((hi.getD len).toNat-(lo.getD 0).toNat))else none
    | some (.grow c _)=>
     if 1=T.size∧off=0∧lo.getD 0=0∧0≤hi.getD len∧hi.getD len≤c∧mx=none then some (.hdr r 0 (hi.getD len).toNat)else none
    | _=>none
   | .d (.row .own ..)=>none
   | .d (.row m k xs)=>
    if k=T.size∧0≤lo.getD 0∧lo.getD 0≤hi.getD xs.length∧hi.getD xs.length≤xs.length then
     (match mx with
     | none => some (.d (.row m k ((xs.drop (lo.getD 0).toNat).take ((hi.getD xs.length).toNat - (lo.getD 0).toNat))))
     | some q => if hi = some q then some (.cut k ((xs.drop (lo.getD 0).toNat).take ((hi.getD xs.length).toNat - (lo.getD 0).toNat))) else none)
    else none
   | _=>none
  | none=>none
 | _=>none
def kinds(P:Program):Nat→TypeId→List (Option Nat)
 | 0,_=>[]
 | n+1,t=>match ty P t with
  | some T=>match T.k with
   | .struct fs=>fs.flatMap fun f=>kinds P n f.1
   | .array m e=>(List.replicate m (kinds P n e)).flatten
   | .slice e=>match ty P e with
    | some E=>[some E.size]
    | none=>[none]
   | _=>List.replicate T.size none
  | none=>[]
def kD:Option Nat→Value→D
 | some k,.slice none 0 0=>.row .own k []
 | _,z=>.v z
def w9:List (Option Nat)→List Value→List D
 | q::qs,z::zs=>kD q z::w9 qs zs
 | _,zs=>zs.map .v
def wj:Option Nat→D→D
 | some k,.v (.slice none 0 0)=>.row .own k []
 | _,d=>d
def jC:List (Option Nat)→List D→List D
 | q::qs,d::ds=>wj q d::jC qs ds
 | _,ds=>ds
def tx(agg:Bool)(ds:List D):Option D:=if agg then some (.agg ds)else match ds with
 | [d]=>some d
 | _=>none
def jk(P:Program)(objs:List Obj)(t:TypeId)(l c:Int):Bj:=
 match ty P t with
 | some {k:=.slice e,..}=>match ty P e with
  | some T=>match tx T.agg (w9 (kinds P 5 e) T.zero)with
   | some z=>if 0<T.size∧T.zero.length=T.size∧T.zero.all Value.oneCell'=true∧0≤l∧l≤c∧T.bytes*c≤140737488355328∧c≤140737488355328 then some (.hdr objs.length 0 l.toNat,objs++[.row T.size (List.replicate c.toNat z)])else none
   | none=>none
  | none=>none
 | _=>none
section
variable {P:Program} {B:Nat} {w:World} {S:Nat→Prop} {objs:List Obj} {gs:List G1} {om:Nat→Option (Nat×Bool)}
def NG(kx:IntKind):Option Int→Option Value:=fun x=>x.map (.int kx)
theorem gr(Nm:Bool)(len cap:Nat)(lo hi:Option Value)(l h:Int)(hlo:(lo=none∧l=0)∨∃k,lo=some (.int k l))(hhi:(hi=none∧h=len)∨∃k,hi=some (.int k h))
    (h0:0≤l) (h1:l≤h) (h2:h≤cap):(Instr.sliceBounds Nm len cap lo hi none).run P w = .ok (l.toNat,h.toNat,cap) w:=by
 have hb:∀(k:IntKind) (i:Int) (y:Nat) (c:BoundsCode),0≤i→i≤y→(Instr.sliceBound (.int k i) y c).run P w = .ok i.toNat w:=by
  intro k i y c a b;simp[Instr.sliceBound,asIntOf,a,b]
 have hc:h≤((h.toNat:Nat):Int):=by omega
 rcases hlo with ⟨rfl,rfl⟩|⟨k,rfl⟩<;>rcases hhi with ⟨rfl,rfl⟩|⟨k',rfl⟩
 ·simp[Instr.sliceBounds]
 ·simp[Instr.sliceBounds,hb k' h cap _ (by omega) h2]
 ·simp[Instr.sliceBounds,hb k l len _ h0 h1]
 ·simp[Instr.sliceBounds,hb k' h cap _ (by omega) h2,hb k l h.toNat _ h0 (by omega)]
theorem wK(Nm:Bool)(len cap:Nat)(lo:Option Value)(l h:Int)(k1 k2:IntKind)(hlo:(lo=none∧l=0)∨∃k,lo=some (.int k l))
    (h0:0≤l) (h1:l≤h) (h2:h≤cap):(Instr.sliceBounds Nm len cap lo (some (.int k1 h)) (some (.int k2 h))).run P w = .ok (l.toNat,h.toNat,h.toNat) w:=by
 have hb:∀(k:IntKind) (i:Int) (y:Nat) (c:BoundsCode),0≤i→i≤y→(Instr.sliceBound (.int k i) y c).run P w = .ok i.toNat w:=by
  intro k i y c a b;simp[Instr.sliceBound,asIntOf,a,b]
 have hc:h≤((h.toNat:Nat):Int):=by omega
 rcases hlo with ⟨rfl,rfl⟩|⟨k,rfl⟩
 ·simp[Instr.sliceBounds,hb k2 h cap _ (by omega) h2,hb k1 h h.toNat _ (by omega) hc]
 ·simp[Instr.sliceBounds,hb k2 h cap _ (by omega) h2,hb k1 h h.toNat _ (by omega) hc,hb k l h.toNat _ h0 (by omega)]
theorem CW{S N k}{xs:List D}{vs:List Value}(h:aW w S N (flat xs) vs [])(hk:∀x∈xs,Fits k x)(l n:Nat)(hl:l+n≤xs.length) :
    aW w S N (flat ((xs.drop l).take n)) ((vs.drop (l*k)).take (n*k)) []:=by
 have e:flat xs=flat (xs.take l)++(flat ((xs.drop l).take n)++flat (xs.drop (l+n))):=by
  simp only[flat];rw[←List.flatMap_append,←List.flatMap_append,←List.drop_drop,List.take_append_drop,List.take_append_drop]
 rw[e]at h;obtain⟨F1,F2,hF,h1,h2⟩:=h.split;obtain⟨rfl,rfl⟩:=List.append_eq_nil_iff.1 hF.symm;obtain⟨F3,F4,hF2,h3,h4⟩:=h2.split;obtain⟨rfl,rfl⟩:=List.append_eq_nil_iff.1 hF2.symm;rw[bP (fun x hx=>hk x (List.mem_of_mem_take hx)),bP (fun x hx=>hk x (List.mem_of_mem_drop (List.mem_of_mem_take hx)))]at h3;simpa [show min l xs.length=l by omega,show min n (xs.length-l)=n by omega]using h3
theorem wL(hM:bm B w S objs gs om){x vx}(hx:a8 w S (Inner B w om) gs x vx){t av}{lo hi mx:Option Int}{u7 vb HJ:Option Value}
    (hlo:(lo=none∧u7=none)∨∃k i,lo=some i∧u7=some (.int k i)) (hhi:(hi=none∧vb=none)∨∃k i,hi=some i∧vb=some (.int k i))
    (hmx:(mx=none∧HJ=none)∨∃k i,mx=some i∧HJ=some (.int k i)) (h:ie P objs t x lo hi mx=some av) :
    ∃v,(Instr.sliceAt t vx u7 vb HJ).run P w = .ok v w∧a8 w S (Inner B w om) gs av v:=by
 have hl0:(u7=none∧lo.getD 0=0)∨∃k,u7=some (.int k (lo.getD 0)):=by
  rcases hlo with ⟨rfl,rfl⟩|⟨k,i,rfl,rfl⟩
  ·exact .inl ⟨rfl,rfl⟩
  ·exact .inr ⟨k,rfl⟩
 have hh0:∀n:Nat,(vb=none∧hi.getD n=n)∨∃k,vb=some (.int k (hi.getD n)):=by
  intro n;rcases hhi with ⟨rfl,rfl⟩|⟨k,i,rfl,rfl⟩
  ·exact .inl ⟨rfl,rfl⟩
  ·exact .inr ⟨k,rfl⟩
 have hmn:mx=none→HJ=none:=by
  rintro rfl;rcases hmx with ⟨_,h⟩|⟨k,i,h,_⟩
  ·exact h
  ·cases h
 unfold ie at h;split at h
 ·rename_i size bytes zero hT;obtain⟨d,hu,hd⟩:=d6 hT;have:=sW hd;subst this;split at h
  ·rename_i s;split at h
   ·rename_i hc;obtain⟨h0,h1,h2,rfl⟩:=hc;simp only[Option.some.injEq]at h;subst h;obtain rfl:=hmn rfl
    cases hx with
    | d hx=>
     cases hx with
     | v hx=>
      refine⟨_,?_,.d (.v rfl)⟩;simp[Instr.sliceAt,Instr.slice,bD hu,gr (P:=P) (w:=w) false s.size s.size u7 vb _ _ hl0 (hh0 s.size) h0 h1 h2]
   ·cases h
  ·cases h
 ·rename_i size bytes e zero hT;have ht:=kt hT rfl;split at h
  ·rename_i T hTe
   have old:∀ {m:M} {kk:Nat} {xs:List D},m ≠ .own→kk=T.size→cb w S (Inner B w om) (.row m kk xs) vx []→0≤lo.getD 0→lo.getD 0≤hi.getD xs.length→hi.getD xs.length≤xs.length →
       (mx=none→∃v,(Instr.sliceAt t vx u7 vb HJ).run P w = .ok v w∧a8 w S (Inner B w om) gs (.d (.row m kk ((xs.drop (lo.getD 0).toNat).take ((hi.getD xs.length).toNat-(lo.getD 0).toNat)))) v) ∧
       (∀q,mx=some q→hi=some q→∃v,(Instr.sliceAt t vx u7 vb HJ).run P w = .ok v w∧a8 w S (Inner B w om) gs (.cut kk ((xs.drop (lo.getD 0).toNat).take ((hi.getD xs.length).toNat-(lo.getD 0).toNat))) v):=by
    intro m kk xs hm hk hx h0 h1 h2;have zC:xs=[]→((xs.drop (lo.getD 0).toNat).take ((hi.getD xs.length).toNat-(lo.getD 0).toNat))=[]:=by rintro rfl;simp
    have hv:∃a n c,vx = .slice a n c∧n=xs.length∧n≤c∧(a=none→xs=[]):=by
     cases hx with
     | nil=>exact⟨_,_,_,rfl,rfl,by simp,fun _=>rfl⟩
     | empty=>exact⟨_,_,_,rfl,rfl,by simp,fun _=>rfl⟩
     | old _ _ _ _ hq=>exact⟨_,_,_,rfl,rfl,hq,by simp⟩
    obtain⟨a,n,c,rfl,rfl,hc,ha⟩:=hv
    have hsub:∀c',(hi.getD xs.length).toNat-(lo.getD 0).toNat≤c'→cb w S (Inner B w om) (.row m kk ((xs.drop (lo.getD 0).toNat).take ((hi.getD xs.length).toNat-(lo.getD 0).toNat)))
        (.slice (a.map (·.add ((lo.getD 0).toNat*T.size))) ((hi.getD xs.length).toNat-(lo.getD 0).toNat) c') []:=by
     intro c' hc'
     cases hx with
     | nil=>simp at h1 h2;rw[zC rfl,show (hi.getD (([]:List D).length:Int)).toNat-(lo.getD 0).toNat=0 by simp;omega];exact .empty hm
     | empty=>simp at h1 h2;rw[zC rfl,show (hi.getD (([]:List D).length:Int)).toNat-(lo.getD 0).toNat=0 by simp;omega];exact .empty hm
     | @old _ _ _ b off c cur U fz vs hm' hb hS hN hq hk' hvs hl hL=>
      have hlen:((xs.drop (lo.getD 0).toNat).take ((hi.getD xs.length).toNat-(lo.getD 0).toNat)).length=(hi.getD xs.length).toNat-(lo.getD 0).toNat:=by simp;omega
      have:=CW hL hk' (lo.getD 0).toNat ((hi.getD xs.length).toNat-(lo.getD 0).toNat) (by omega)
      have e:((vs.drop ((lo.getD 0).toNat*kk)).take (((hi.getD xs.length).toNat-(lo.getD 0).toNat)*kk))=(cur.toList.drop (off+(lo.getD 0).toNat*kk)).take (((hi.getD xs.length).toNat-(lo.getD 0).toNat)*kk):=by
       subst hvs;have hfit:((lo.getD 0).toNat+((hi.getD xs.length).toNat-(lo.getD 0).toNat))*kk≤xs.length*kk:=Nat.mul_le_mul_right _ (by omega);rw[Nat.add_mul]at hfit;apply List.ext_getElem?;intro j;simp only[List.getElem?_take,List.getElem?_drop];split
       ·rw[if_pos (by omega)];congr 1;omega
       ·rfl
      rw[e]at this;have hl2:=this.length;rw[bP (fun x hx=>hk' x (List.mem_of_mem_drop (List.mem_of_mem_take hx))),hlen]at hl2;have:=cb.old (m:=m) (c:=c') hm' hb hS hN (by rw[hlen];exact hc') (fun x hx=>hk' x (List.mem_of_mem_drop (List.mem_of_mem_take hx))) rfl (by rw[hlen];exact hl2.symm) (by rw[hlen];exact this);rw[hlen]at this;simpa [iQ,←hk]using this
    have hempty:∀c',(hi.getD xs.length).toNat-(lo.getD 0).toNat=0→cb w S (Inner B w om) (.row m kk ((xs.drop (lo.getD 0).toNat).take ((hi.getD xs.length).toNat-(lo.getD 0).toNat)))
        (.slice a ((hi.getD xs.length).toNat-(lo.getD 0).toNat) c') []:=by
     intro c' h0;rw[h0];simp only[List.take_zero];exact .empty hm
    constructor
    ·intro M7;obtain rfl:=hmn M7;have hr:=gr (P:=P) (w:=w) true xs.length c u7 vb _ _ hl0 (hh0 xs.length) h0 h1 (by omega)
     have:(Instr.sliceAt t (.slice a xs.length c) u7 vb none).run P w = .ok (.slice (if c=(lo.getD 0).toNat then a else a.map (·.add ((lo.getD 0).toNat*T.size))) ((hi.getD xs.length).toNat-(lo.getD 0).toNat) (c-(lo.getD 0).toNat)) w:=by
      simp[Instr.sliceAt,Instr.slice,bD ht,hr,dB hTe]
     rw[this];refine⟨_,rfl,.d ?_⟩;by_cases hcl:c=(lo.getD 0).toNat
     ·rw[if_pos hcl];exact hempty _ (by omega)
     ·rw[if_neg hcl];exact hsub _ (by omega)
    ·rintro q rfl rfl;simp only[Option.getD_some]at h1 h2 hsub hempty ⊢
     obtain⟨k2,rfl⟩:∃k2,HJ=some (.int k2 q):=by
      rcases hmx with ⟨h,_⟩|⟨k,i,h,h'⟩
      ·cases h
      ·cases h;exact⟨k,h'⟩
     obtain⟨k1,rfl⟩:∃k1,vb=some (.int k1 q):=by
      rcases hhi with ⟨h,_⟩|⟨k,i,h,h'⟩
      ·cases h
      ·cases h;exact⟨k,h'⟩
     have hr:=wK (P:=P) (w:=w) true xs.length c u7 _ q k1 k2 hl0 h0 h1 (by omega)
     have:(Instr.sliceAt t (.slice a xs.length c) u7 (some (.int k1 q)) (some (.int k2 q))).run P w = .ok (.slice (if q.toNat=(lo.getD 0).toNat then a else a.map (·.add ((lo.getD 0).toNat*T.size))) (q.toNat-(lo.getD 0).toNat) (q.toNat-(lo.getD 0).toNat)) w:=by
      simp[Instr.sliceAt,Instr.slice,bD ht,hr,dB hTe]
     rw[this];refine⟨_,rfl,?_⟩;by_cases hcl:q.toNat=(lo.getD 0).toNat
     ·rw[if_pos hcl,show q.toNat-(lo.getD 0).toNat=0 by omega];simp only[List.take_zero];exact .dU
     ·rw[if_neg hcl];have hs:=hsub (q.toNat-(lo.getD 0).toNat) (Nat.le_refl _);have hlen:((xs.drop (lo.getD 0).toNat).take (q.toNat-(lo.getD 0).toNat)).length=q.toNat-(lo.getD 0).toNat:=by simp;omega
      generalize (xs.drop (lo.getD 0).toNat).take (q.toNat-(lo.getD 0).toNat)=ys at hs hlen ⊢;generalize q.toNat-(lo.getD 0).toNat=n at hs hlen ⊢;generalize a.map (·.add ((lo.getD 0).toNat*T.size))=aa at hs ⊢
      cases hs with
      | nil=>exact .gK
      | empty=>exact .dU
      | @old _ _ _ b off c cur U fz vs hm' hb hS hN hq hk' hvs hl hL=>
       refine .cut hb ?_ hk' hvs hl hL
       cases m with
       | ro=>exact .inl (hS rfl)
       | sn=>exact .inr (hN rfl)
       | own=>exact absurd rfl hm
   split at h
   ·split at h
    ·rename_i hc;obtain⟨h0,h1,rfl⟩:=hc;simp only[Option.some.injEq]at h;subst h;obtain rfl:=hmn rfl
     cases hx with
     | d hx=>
      cases hx with
      | v hx=>
       have hr:=gr (P:=P) (w:=w) true 0 0 u7 vb _ _ hl0 (hh0 0) (by omega) (by simp;omega) (by simp;omega);refine⟨_,?_,.d (.v hx)⟩;have e0:(lo.getD 0).toNat=0:=by omega
       have e1:(hi.getD ((0:Nat):Int)).toNat=0:=by simp;omega
       rw[e0,e1]at hr;simp[Instr.sliceAt,Instr.slice,bD ht,hr,dB hTe]
    ·cases h
   ·rename_i r off len;split at h
    ·rename_i kk xs hr;split at h
     ·rename_i hc;obtain⟨hk,h0,h1,h2,rfl⟩:=hc;simp only[Option.some.injEq]at h;subst h;obtain rfl:=hmn rfl
      cases hx with
      | @hdr _ _ _ g b o c hg hb hcap hoff hlc hm=>
       have dP:g.k=kk∧xs.length*kk≤g.cap:=by
        cases hM.obj r _ hr with
        | row0 hg' hk' _=>rw[hg]at hg';simp at hg';subst hg';exact⟨hk',by simp⟩
        | row hg' dP hb' hB ho hw hcs hn hk' hvs hl hF dT=>rw[hg]at hg';simp at hg';subst hg';exact⟨dP,hn⟩
       obtain⟨dP,hxc⟩:=dP
       have h2:hi.getD len≤c:=by
        rcases h2 with h2|⟨q0,q1⟩
        ·omega
        ·rw[dP]at hcap;have:xs.length≤off+c:=Nat.le_of_mul_le_mul_right (by rw[hcap];exact hxc) q0;omega
       have hr:=gr (P:=P) (w:=w) true len c u7 vb _ _ hl0 (hh0 len) h0 h1 h2
       have:(Instr.sliceAt t (.slice (some ⟨b,o,none⟩) len c) u7 vb none).run P w = .ok (.slice (some (if c=(lo.getD 0).toNat then ⟨b,o,none⟩else ⟨b,o+(lo.getD 0).toNat*T.size,none⟩)) ((hi.getD len).toNat-(lo.getD 0).toNat) (c-(lo.getD 0).toNat)) w:=by
        simp[Instr.sliceAt,Instr.slice,bD ht,hr,dB hTe,iQ];split<;>rfl
       rw[this];refine⟨_,rfl,?_⟩;by_cases hcl:c=(lo.getD 0).toNat
       ·rw[if_pos hcl];refine .hdr hg hb (by rw[←hcap];congr 1;omega) ?_ (by omega) (by omega);by_cases hz:off+(lo.getD 0).toNat=0
        ·left;rcases hoff with h|⟨_,h⟩
         ·rw[h,show off=0 by omega,show (lo.getD 0).toNat=0 by omega]
         ·omega
        ·exact .inr ⟨by omega,hz⟩
       ·rw[if_neg hcl];refine .hdr hg hb (by rw[←hcap];congr 1;omega) (.inl ?_) (by omega) (by omega);rw[←hk,←dP,Nat.add_mul];rcases hoff with h|⟨h,_⟩
        ·rw[h]
        ·omega
      | fP hg hb=>
       have h2:hi.getD ((0:Nat):Int)≤((0:Nat):Int):=by
        rcases h2 with h2|⟨_,q1⟩
        ·exact h2
        ·have hx0:xs=[]:=by
          cases hM.obj r _ hr with
          | row0=>rfl
          | row hg' dP hb'=>rw[hg]at hg';simp at hg';subst hg';rw[hb]at hb';cases hb'
         subst hx0;simpa using q1
       have hr:=gr (P:=P) (w:=w) true 0 0 u7 vb _ _ hl0 (hh0 0) h0 h1 (by omega);have e0:(lo.getD 0).toNat=0:=by omega
       have e1:(hi.getD ((0:Nat):Int)).toNat=0:=by omega
       rw[e0,e1]at hr;refine⟨_,by simp[Instr.sliceAt,Instr.slice,bD ht,hr,dB hTe];rfl,?_⟩;rw[e0,e1];exact .fP hg hb
     ·cases h
    ·rename_i cc zs hr;split at h
     ·rename_i hc;obtain⟨hk,Kl,hlo0,h1,h2,rfl⟩:=hc;simp only[Option.some.injEq]at h;subst h;subst Kl;obtain rfl:=hmn rfl
      cases hx with
      | @hdr _ _ _ g b o c hg hb hcap hoff hlc hm=>
       obtain⟨dP,hgc,_⟩:=(hM.obj r _ hr).tG hg;have hgc:=hgc (by rw[hb];simp);have hcc:c=cc:=by rw[dP,Nat.mul_one,Nat.zero_add,hgc]at hcap;exact hcap
       have ho:o=0:=by rcases hoff with h|⟨_,h⟩<;>simp_all
       subst ho;subst hcc;have hr:=gr (P:=P) (w:=w) true len c u7 vb _ _ hl0 (hh0 len) (by omega) (by omega) h2
       have:(Instr.sliceAt t (.slice (some ⟨b,0,none⟩) len c) u7 vb none).run P w = .ok (.slice (some ⟨b,0,none⟩) (hi.getD len).toNat c) w:=by
        simp[Instr.sliceAt,Instr.slice,bD ht,hr,dB hTe,iQ,hlo0]
       rw[this];exact⟨_,rfl,.hdr hg hb hcap (.inl (by simp)) (by omega) hm⟩
      | fP hg hb=>
       have hcc:=((hM.obj r _ hr).tG hg).2.2 hb;have hr:=gr (P:=P) (w:=w) true 0 0 u7 vb _ _ hl0 (hh0 0) (by omega) (by omega) (by omega);have e1:(hi.getD ((0:Nat):Int)).toNat=0:=by omega
       rw[hlo0,e1]at hr;refine⟨_,by simp[Instr.sliceAt,Instr.slice,bD ht,hr,dB hTe];rfl,?_⟩;rw[e1];exact .fP hg hb
     ·cases h
    ·cases h
   ·cases h
   ·rename_i m kk xs hm;split at h
    ·rename_i hc;obtain⟨hk,h0,h1,h2⟩:=hc;have hm':m ≠ .own:=fun e=>hm e
     cases hx with
     | d hx=>
      have:=old hm' hk hx h0 h1 h2;split at h
      ·simp only[Option.some.injEq]at h;subst h;exact this.1 rfl
      ·split at h
       ·rename_i q hq;simp only[Option.some.injEq]at h;subst h;exact this.2 _ rfl hq
       ·cases h
    ·cases h
   ·cases h
  ·cases h
 ·cases h
end
end Go.aN
/- New variables, made and built slices, append, copy: what they do to an abstract state, and that it is so. Lemmas alone. -/
namespace Go.aN
open Go.RowKit
def qH(P:Program)(objs:List Obj)(t:TypeId):Bj:=
 match ty P t with
 | some T=>if T.zero.all Value.oneCell'=true then some (.ptr objs.length 0 0,objs++[.var t (T.zero.map fun z=>.d (.v z))])else none
 | none=>none
def gX(objs:List Obj)(t:TypeId)(x:AV):Bj:=
 match x.cells with
 | some cs=>some (.ptr objs.length 0 0,objs++[.var t cs])
 | none=>none
def pI(P:Program)(place:Nat→Option (Nat×Nat)):List AV→List (Nat×AV)→Option (List AV)
 | cs,[]=>some cs
 | cs,(i,a)::ps=>match place i,a.cells with
  | some (off,size),some as=>if as.length=size∧off+as.length≤cs.length then pI P place (splice cs off as) ps else none
  | _,_=>none
def placesOf(P:Program):List (TypeId×Nat)→Option (List (Nat×Nat))
 | []=>some []
 | (t,off)::fs=>match ty P t,placesOf P fs with
  | some F,some l=>some ((off,F.size)::l)
  | _,_=>none
def um(P:Program)(t:TypeId)(ps:List (Nat×AV)):Option AV:=
 match ty P t with
 | some T => if T.zero.all Value.oneCell' = true then
  match T.k with
  | .struct fs=>match placesOf P fs with
   | some pl=>(pI P (fun i=>pl[i]?) (T.zero.map fun z=>.d (.v z)) ps).map .agg
   | none=>none
  | .array _ e=>match ty P e with
   | some E=>(pI P (fun i=>some (i*E.size,E.size)) (T.zero.map fun z=>.d (.v z)) ps).map .agg
   | none=>none
  | _=>none
  else none
 | none=>none
def iq(size:Nat):Nat→List (Nat×AV)→Option (List AV)
 | _,[]=>some []
 | i,(j,a)::ps=>match a.cells,iq size (i+1) ps with
  | some as,some rest=>if i=j∧as.length=size then some (as++rest)else none
  | _,_=>none
def oQ(agg:Bool)(k:Nat)(qs:List (Option Nat)):Nat→List D→Option (List D)
 | 0,_=>some []
 | n+1,ds=>match tx agg (jC qs (ds.take k)),oQ agg k qs n (ds.drop k)with
  | some x,some xs=>some (x::xs)
  | _,_=>none
def iy(P:Program)(objs:List Obj)(t:TypeId)(len:Nat)(ps:List (Nat×AV)):Bj:=
 match ty P t with
 | some {k:=.slice e,..}=>match ty P e with
  | some E=>match iq E.size 0 ps with
   | some cs=>match cls objs cs with
    | some (ds,aj)=>match oQ E.agg E.size (kinds P 5 e) len ds with
     | some xs=>if ps.length=len∧E.zero.length=E.size∧0<E.size∧len*E.size≤16777216 then some (.hdr aj.length 0 len,aj++[.row E.size xs])else none
     | none=>none
    | none=>none
   | none=>none
  | none=>none
 | _=>none
section
variable {P:Program} {B:Nat} {w:World} {S:Nat→Prop} {objs:List Obj} {gs:List G1} {om:Nat→Option (Nat×Bool)}
theorem aQ.zF{N:Nat→Prop}{zs:List Value}(h:zs.all Value.oneCell'=true):aQ w S N gs (zs.map fun z=>.d (.v z)) zs:=by
 induction zs with
 | nil=>exact .nil
 | cons z zs ih=>
  simp only[List.all_cons,Bool.and_eq_true]at h;exact .cons (.d (.v h.1)) (ih h.2)
theorem vd(hM:bm B w S objs gs om){t av aj}(h:qH P objs t=some (av,aj)) :
    ∃v w' gs' bz,(Instr.alloc t true (.tuple #[])).run P w = .ok v w'∧Ext B w gs om w' gs' bz∧bm B w' S aj gs' bz∧a8 w' S (Inner B w' bz) gs' av v:=by
 unfold qH at h;split at h
 ·rename_i T hT;split at h
  ·rename_i hz;simp only[Option.some.injEq,Prod.mk.injEq]at h;obtain⟨rfl,rfl⟩:=h;obtain⟨i,d,z,h1,h2,h3,h4,h5,h6,h7⟩:=gQ hT;obtain⟨e,m⟩:=hM.wC t (cs:=T.zero.map fun z=>.d (.v z)) (vs:=z.cells) (by rw[h7];exact .zF hz);refine⟨_,_,_,_,?_,e,m,.ptr (g:=⟨some w.heap.size,0,0⟩) (b:=w.heap.size) (cY _ _ hM.len) rfl⟩;simp[Instr.alloc,zeroValue,typeInfo,h1,h3,newVar,newRow]
  ·cases h
 ·cases h
theorem Ad(hM:bm B w S objs gs om){x vx}(hx:a8 w S (Inner B w om) gs x vx){t av aj}(h:gX objs t x=some (av,aj)) :
    ∃v w' gs' bz,(Instr.box t vx).run P w = .ok v w'∧Ext B w gs om w' gs' bz∧bm B w' S aj gs' bz∧a8 w' S (Inner B w' bz) gs' av v:=by
 unfold gX at h;split at h
 ·rename_i cs hcs;simp only[Option.some.injEq,Prod.mk.injEq]at h;obtain⟨rfl,rfl⟩:=h;obtain⟨h1,h2,h3⟩:=mb hx hcs;obtain⟨e,m⟩:=hM.wC t (cs:=cs) (vs:=vx.cells) h1;exact⟨_,_,_,_,by simp[Instr.box,newVar,newRow],e,m,.ptr (g:=⟨some w.heap.size,0,0⟩) (b:=w.heap.size) (cY _ _ hM.len) rfl⟩
 ·cases h
theorem G6{N:Nat→Prop}(q:Option Nat){z:Value}(h:z.oneCell'=true):cb w S N (kD q z) z []:=by
 unfold kD;split
 ·exact .nil
 ·exact .v h
theorem uG{N:Nat→Prop}:∀(qs:List (Option Nat)) {zs:List Value},zs.all Value.oneCell'=true→aW w S N (w9 qs zs) zs []
 | [],[],_=>.nil
 | _::_,[],_=>by simp only[w9];exact .nil
 | [],z::zs,h=>by
  simp only[List.all_cons,Bool.and_eq_true]at h;have:=uG (N:=N) [] h.2
  cases zs with
  | nil=>simpa [w9]using aW.cons (F:=[]) (G:=[]) (.v h.1) .nil
  | cons y ys=>simpa [w9]using aW.cons (F:=[]) (G:=[]) (.v h.1) this
 | q::qs,z::zs,h=>by
  simp only[List.all_cons,Bool.and_eq_true]at h;simp only[w9];exact aW.cons (F:=[]) (G:=[]) (G6 q h.1) (uG qs h.2)
theorem Av(q z):(kD q z).aX=true:=by unfold kD;split<;>rfl
theorem rG:∀(qs zs),∀d∈w9 qs zs,d.aX=true
 | [],zs=>by cases zs<;>simp[w9,D.aX]
 | q::qs,[]=>by simp[w9]
 | q::qs,z::zs=>by
  intro d hd;simp only[w9,List.mem_cons]at hd;rcases hd with rfl|hd
  ·exact Av q z
  ·exact rG qs zs d hd
theorem rH:∀(qs zs),(w9 qs zs).length=zs.length
 | [],zs=>by cases zs<;>simp[w9]
 | q::qs,[]=>by simp[w9]
 | q::qs,z::zs=>by simp[w9,rH qs zs]
theorem jy{agg:Bool}{ds:List D}{x:D}(h:tx agg ds=some x)(hd:∀d∈ds,d.aX=true):x.cells=ds:=by
 unfold tx at h;split at h
 ·simp at h;subst h;rfl
 ·split at h
  ·simp at h;subst h;exact uF (hd _ (by simp))
  ·cases h
theorem qY{agg:Bool}{ds:List D}{x:D}(h:tx agg ds=some x)(hd:∀d∈ds,d.aX=true):Fits ds.length x:=
 ⟨by rw[jy h hd],fun c hc=>hd c (by rwa [jy h hd]at hc)⟩
theorem aW.replicate{N:Nat→Prop}{ds:List D}{vs:List Value}(h:aW w S N ds vs [])(n:Nat):aW w S N (List.replicate n ds).flatten (List.replicate n vs).flatten []:=by
 induction n with
 | zero=>exact .nil
 | succ n ih=>simpa [List.replicate_succ]using h.append ih
theorem tg(z:Array Value)(k n:Nat)(hz:z.size=k)(hk:0<k):(madeCells z (n*k)).toList=(List.replicate n z.toList).flatten:=by
 apply List.ext_getElem?;intro j;by_cases hj:j<n*k
 ·have h1:(madeCells z (n*k)).toList[j]?=some (z[j%z.size]!):=by
   simp[madeCells,hj]
  rw[h1];clear h1
  induction n generalizing j with
  | zero=>simp at hj
  | succ n ih=>
   rw[List.replicate_succ,List.flatten_cons];by_cases hjk:j<k
   ·rw[List.getElem?_append_left (by simpa [hz]using hjk),Nat.mod_eq_of_lt (by omega)];simp[hz,hjk]
   ·rw[List.getElem?_append_right (by simp[hz];omega)];have:=ih (j-k) (by rw[Nat.add_mul]at hj;omega);simp only[Array.length_toList,hz];rw[←this,hz];congr 1;rw[Nat.mod_eq_sub_mod (by omega)]
 ·rw[List.getElem?_eq_none (by simp[size_madeCells];omega),List.getElem?_eq_none (by simp[hz];omega)]
theorem rj(n:Nat)(x:D):flat (List.replicate n x)=(List.replicate n x.cells).flatten:=by
 simp[flat,List.flatMap_replicate]
theorem qh(hM:bm B w S objs gs om){t av aj}{kl kc:IntKind}{l c:Int}(h:jk P objs t l c=some (av,aj)) :
    ∃v w' gs' bz,(Instr.makeSlice t (.int kl l) (.int kc c)).run P w = .ok v w'∧Ext B w gs om w' gs' bz∧bm B w' S aj gs' bz∧a8 w' S (Inner B w' bz) gs' av v:=by
 unfold jk at h;split at h
 ·rename_i size bytes e zero hT;have ht:=kt hT rfl;split at h
  ·rename_i T hTe;split at h
   ·rename_i x hx;split at h
    ·rename_i hc;obtain⟨hs,hzl,hone,h0,hlc,hby,hcm⟩:=hc;simp only[Option.some.injEq,Prod.mk.injEq]at h;obtain⟨rfl,rfl⟩:=h;obtain⟨i,d,z,h1,h2,h3,h4,h5,h6,h7⟩:=gQ hTe;have hrun:=run_make (P:=P) w t e i z ht h1 h3 kl kc l c h0 hlc (by rw[h5];omega) (by omega);have hcell:=rG (kinds P 5 e) T.zero;have hfit:=qY hx hcell;rw[rH,hzl]at hfit;have Ng:z.cells.size=T.size:=by rw[←Array.length_toList,h7,hzl]
     have hle:l.toNat*T.size≤c.toNat*T.size:=Nat.mul_le_mul_right _ (by omega)
     obtain⟨ee,m⟩:=hM.CH e (k:=T.size) (c:=c.toNat) (xs:=List.replicate c.toNat x) (cur:=madeCells z.cells (c.toNat*i.size)) (by rw[size_madeCells,h4]) (by simp)
      (by intro y hy;rw[(List.mem_replicate.1 hy).2];exact hfit) (by
        rw [h4, tg z.cells T.size c.toNat Ng hs, List.length_replicate, rj, jy hx hcell, h7]
        have hr := (uG (w := w) (S := S) (N := Inner B w om) (kinds P 5 e) hone).replicate c.toNat
        rw [List.take_of_length_le (by simp [hzl])]; exact hr)
     refine⟨_,_,_,_,hrun,ee,m,?_⟩;exact .hdr (g:=⟨some w.heap.size,T.size,c.toNat*T.size⟩) (b:=w.heap.size) (o:=0) (c:=c.toNat) (cY _ _ hM.len) rfl (by simp) (.inl (by simp)) (by omega) (by simp[maxLen];omega)
    ·cases h
   ·cases h
  ·cases h
 ·cases h
end
end Go.aN
/- Building structs and slices: it is so. Lemmas alone. -/
namespace Go.aN
open Go.RowKit
theorem foldl_set(off:Nat):∀(vs:List Value) (k:Nat) (cells:Array Value),off+k+vs.length≤cells.size →
    ((vs.zipIdx k).foldl (fun cs (p:Value×Nat)=>cs.setIfInBounds (off+p.2) p.1) cells).toList=splice cells.toList (off+k) vs
 | [],k,cells,h=>by simp[splice]
 | v::vs,k,cells,h=>by
  simp only[List.zipIdx_cons,List.foldl_cons];simp only[List.length_cons]at h;rw[foldl_set off vs (k+1) _ (by simp;omega)];apply List.ext_getElem?;intro i;simp only[splice,List.getElem?_append,List.getElem?_take,List.getElem?_drop,Array.toList_setIfInBounds,List.length_take,List.length_set,Array.length_toList,List.length_cons];have e1:min (off+(k+1)) cells.size=off+(k+1):=by omega
  have e2:min (off+k) cells.size=off+k:=by omega
  rw[e1,e2];by_cases h1:i<off+k
  ·rw[if_pos (by omega),if_pos (by omega),if_pos h1,if_pos h1,List.getElem?_set_ne (by omega)]
  ·by_cases h2:i=off+k
   ·subst h2;rw[if_pos (by omega),if_pos (by omega),if_neg (by omega),if_pos (by omega),List.getElem?_set_self (by simp;omega)];simp
   ·rw[if_neg (show ¬i<off+(k+1) by omega),if_neg h1];by_cases h3:i-(off+k)<vs.length+1
    ·have h4:i-(off+(k+1))<vs.length:=by omega
     rw[if_pos h4,if_pos h3];have e3:i-(off+k)=(i-(off+(k+1)))+1:=by omega
     rw[e3];simp
    ·have h4:¬i-(off+(k+1))<vs.length:=by omega
     rw[if_neg h4,if_neg h3,List.getElem?_set_ne (by omega)];congr 1;omega
theorem Am(off:Nat)(vs:Array Value)(cells:Array Value)(h:off+vs.size≤cells.size) :
    (vs.zipIdx.foldl (fun cs (p:Value×Nat)=>cs.setIfInBounds (off+p.2) p.1) cells).toList=splice cells.toList off vs.toList:=by
 have:=foldl_set off vs.toList 0 cells (by simpa using h);simp only[Nat.add_zero]at this;rw[←this,←Array.foldl_toList,Array.toList_zipIdx]
section
variable {P:Program} {B:Nat} {w:World} {S:Nat→Prop} {objs:List Obj} {gs:List G1} {om:Nat→Option (Nat×Bool)}
inductive qE (w:World) (S N:Nat→Prop) (gs:List G1):List (Nat×AV)→List (Nat×Value)→Prop
 | nil:qE w S N gs [] []
 | cons {i a v ps vs} (h:a8 w S N gs a v) (t:qE w S N gs ps vs):qE w S N gs ((i,a)::ps) ((i,v)::vs)
theorem tD(place:Nat→Option (Nat×Nat))(cells:Array Value)(i:Nat)(v:Value)(rest:List (Nat×Value)){off size:Nat}(hp:place i=some (off,size))(h1:v.cells.size=size)(h2:off+v.cells.size≤cells.size) :
    Instr.fill place cells ((i,v)::rest)=Instr.fill place (splice cells.toList off v.cells.toList).toArray rest:=by
 rw[Instr.fill];simp only[hp];rw[if_neg (by simp;exact⟨h1,h2⟩)];congr 1;apply Array.ext';rw[List.toList_toArray];exact Am off v.cells cells h2
theorem rf{place:Nat→Option (Nat×Nat)}:∀ {ps:List (Nat×AV)} {vs:List (Nat×Value)} {cs:List AV} {us:List Value} {cs'},qE w S (Inner B w om) gs ps vs→aQ w S (Inner B w om) gs cs us →
    pI P place cs ps=some cs'→∃us',Instr.fill place us.toArray vs=some us'.toArray∧aQ w S (Inner B w om) gs cs' us'
 | [],_,cs,us,cs',.nil,h,hf=>by
  simp only[pI,Option.some.injEq]at hf;subst hf;exact⟨us,rfl,h⟩
 | (i,a)::ps,_,cs,us,cs',.cons ha hp,h,hf=>by
  simp only[pI]at hf;split at hf
  ·rename_i off size as hpl hac;split at hf
   ·rename_i hc;obtain⟨c1,c2,c3⟩:=mb ha hac;have l1:=c1.length;have l2:=h.length;obtain⟨us',h1,h2⟩:=rf hp (h.splice c1 off) hf;refine⟨us',?_,h2⟩;rw[tD place _ _ _ _ hpl (by rw[←Array.length_toList,←l1];exact hc.1) (by rw[←Array.length_toList,←l1];simp;omega)];simpa using h1
   ·cases hf
  ·cases hf
theorem sf:∀(l:List Field) {pl},placesOf P (l.map fun f=>(f.type,f.offset))=some pl→l.mapM (fun f=>(P.info? f.type).map fun i=>(f.offset,i.size))=some pl
 | [],pl,h=>by simpa [placesOf]using h
 | f::l,pl,h=>by
  simp only[List.map_cons,placesOf]at h;split at h
  ·rename_i F l' hF hl;simp only[Option.some.injEq]at h;subst h;obtain⟨i,d,z,h1,h2,h3,h4,h5,h6,h7⟩:=gQ hF;simp[List.mapM_cons,h1,h4,sf l hl]
  ·cases h
theorem vh{t}{ps:List (Nat×AV)}{vs:List (Nat×Value)}{av}(hp:qE w S (Inner B w om) gs ps vs)(h:um P t ps=some av) :
    ∃v,(Instr.build t vs.toArray).run P w = .ok v w∧a8 w S (Inner B w om) gs av v:=by
 unfold um at h;split at h
 ·rename_i T hT;split at h
  ·rename_i hz;obtain⟨i,d,z,h1,h2,h3,h4,h5,h6,h7⟩:=gQ hT;have hz0:aQ w S (Inner B w om) gs (T.zero.map fun z=>.d (.v z)) T.zero:=.zF hz;have hzc:z.cells=T.zero.toArray:=by rw[←h7]
   have fin:∀(pl:Nat→Option (Nat×Nat)),(pI P pl (T.zero.map fun z=>.d (.v z)) ps).map .agg=some av→(∀us,Instr.fill pl T.zero.toArray vs=some us→P.built t vs=some us) →
       ∃v,(Instr.build t vs.toArray).run P w = .ok v w∧a8 w S (Inner B w om) gs av v:=by
    intro pl hf hb;obtain⟨cs,hcs,rfl⟩:=Option.map_eq_some_iff.1 hf;obtain⟨us,f1,f2⟩:=rf hp hz0 hcs;exact⟨_,run_build w t vs.toArray us.toArray (by rw[List.toList_toArray];exact hb _ f1),.agg f2⟩
   split at h
   ·rename_i fs hk;rw[hk]at h6;obtain⟨A,rfl,rfl⟩:=pz h6;split at h
    ·rename_i pl hpl;refine fin _ h fun us Nb=>?_
     simp only[Program.built,h1,h2,h3,sf _ hpl,hzc];simpa using Nb
    ·cases h
   ·rename_i n e hk;rw[hk]at h6;have:=sV h6;subst this;split at h
    ·rename_i E hE;refine fin _ h fun us Nb=>?_
     obtain⟨i',d',z',g1,g2,g3,g4,g5,g6,g7⟩:=gQ hE;simp only[Program.built,h1,h2,h3,g1,g4,hzc];exact Nb
    ·cases h
   ·cases h
  ·cases h
 ·cases h
theorem nS{size:Nat}:∀ {ps:List (Nat×AV)} {vs:List (Nat×Value)} {i:Nat} {cs:List AV} {cells:Array Value},qE w S (Inner B w om) gs ps vs→iq size i ps=some cs →
    i*size+cs.length≤cells.size→cs.length=ps.length*size∧cs.all AV.aX=true∧∃us,aQ w S (Inner B w om) gs cs us∧(∀u∈us,u.oneCell'=true) ∧
     Instr.fill (fun i=>some (i*size,size)) cells vs=some (splice cells.toList (i*size) us).toArray
 | [],_,i,cs,cells,.nil,h,hl=>by
  simp only[iq,Option.some.injEq]at h;subst h;exact⟨by simp,by simp,[],.nil,by simp,by simp[Instr.fill,splice]⟩
 | (j,a)::ps,_,i,cs,cells,.cons (v:=v) (vs:=vs) ha hp,h,hl=>by
  simp only[iq]at h;split at h
  ·rename_i as rest hac hr;split at h
   ·rename_i hc;obtain⟨rfl,hsz⟩:=hc;simp only[Option.some.injEq]at h;subst h;obtain⟨c1,c2,c3⟩:=mb ha hac;have l1:=c1.length;simp only[List.length_append]at hl;have hv:v.cells.size=size:=by rw[←Array.length_toList,←l1,hsz]
    have hsp:(splice cells.toList (i*size) v.cells.toList).length=cells.size:=by
     rw[length_splice _ _ _ (by rw[←l1];simp;omega)];simp
    obtain⟨h0,hcc,us,h1,h2,h3⟩:=nS (cells:=(splice cells.toList (i*size) v.cells.toList).toArray) hp hr (by simp[hsp,Nat.add_mul];omega);refine⟨by simp[h0,hsz,Nat.add_mul];omega,by simp[c3,hcc],v.cells.toList++us,c1.append h1,fun u hu=>?_,?_⟩
    ·rcases List.mem_append.1 hu with hu|hu
     ·exact c2 u hu
     ·exact h2 u hu
    ·rw[tD _ cells i v vs (off:=i*size) (size:=size) rfl hv (by omega),h3];have Og:=h1.length;congr 2;apply List.ext_getElem?;intro n;have ev:v.cells.toList.length=size:=by simpa using hv
     simp only[splice,List.toList_toArray,Nat.add_mul,Nat.one_mul,List.getElem?_append,List.getElem?_take,List.getElem?_drop,List.length_take,List.length_append,Array.length_toList,List.length_drop];have e1:min (i*size) cells.size=i*size:=by omega
     simp only[e1,hv];have e2:min (i*size+size) (i*size+(size+(cells.size-(i*size+size))))=i*size+size:=by omega
     rw[e2];by_cases q1:n<i*size
     ·rw[if_pos (by omega),if_pos (by omega),if_pos q1,if_pos q1,if_pos q1]
     ·by_cases q2:n<i*size+size
      ·rw[if_pos q2,if_pos q2,if_neg q1,if_neg q1,if_pos (by omega),if_pos (by omega),if_pos (by omega)]
      ·rw[if_neg q2,if_neg q1];by_cases q3:n-(i*size+size)<us.length
       ·rw[if_pos q3,if_pos (by omega),if_neg (by omega)];congr 1;omega
       ·rw[if_neg q3,if_neg (by omega),if_neg (by omega),if_neg (by omega)];congr 1;omega
   ·cases h
  ·cases h
theorem rW{N:Nat→Prop}{q d v F}(h:cb w S N d v F):cb w S N (wj q d) v F:=by
 unfold wj;split
 ·cases h;exact .nil
 ·exact h
theorem tV{N:Nat→Prop}:∀(qs:List (Option Nat)) {ds vs F},aW w S N ds vs F→aW w S N (jC qs ds) vs F
 | [],ds,vs,F,h=>by cases ds<;>simpa [jC]using h
 | q::qs,[],vs,F,h=>by simpa [jC]using h
 | q::qs,d::ds,vs,F,h=>by
  cases h with|cons h t=>exact .cons (rW h) (tV qs t)
theorem ob:∀(qs:List (Option Nat)) (ds:List D),(∀d∈ds,d.aX=true)→∀d∈jC qs ds,d.aX=true
 | [],ds,h=>by cases ds<;>simpa [jC]using h
 | q::qs,[],h=>by simp[jC]
 | q::qs,d::ds,h=>by
  intro x hx;simp only[jC,List.mem_cons]at hx;rcases hx with rfl|hx
  ·unfold wj;split
   ·rfl
   ·exact h d (by simp)
  ·exact ob qs ds (fun d hd=>h d (by simp[hd])) x hx
theorem oc:∀(qs:List (Option Nat)) (ds:List D),(jC qs ds).length=ds.length
 | [],ds=>by cases ds<;>simp[jC]
 | q::qs,[]=>by simp[jC]
 | q::qs,d::ds=>by simp[jC,oc qs ds]
theorem qZ{N:Nat→Prop}{agg:Bool}{k:Nat}{qs}:∀ {n:Nat} {ds:List D} {xs:List D} {vs:List Value} {F},oQ agg k qs n ds=some xs→ds.length=n*k→(∀d∈ds,d.aX=true)→aW w S N ds vs F →
    xs.length=n∧(∀x∈xs,Fits k x)∧aW w S N (flat xs) vs F
 | 0,ds,xs,vs,F,h,hl,hc,hr=>by
  simp only[oQ,Option.some.injEq]at h;subst h;have:ds=[]:=List.length_eq_zero_iff.1 (by simpa using hl);subst this;exact⟨rfl,by simp,by simpa [flat]using hr⟩
 | n+1,ds,xs,vs,F,h,hl,hc,hr=>by
  simp only[oQ]at h;split at h
  ·rename_i x xs' hx hxs;simp only[Option.some.injEq]at h;subst h;rw[Nat.add_mul]at hl;have hc1:∀d∈ds.take k,d.aX=true:=fun d hd=>hc d (List.mem_of_mem_take hd)
   have hk:(ds.take k).length=k:=by simp;omega
   rw[←List.take_append_drop k ds]at hr;obtain⟨F1,F2,rfl,h1,h2⟩:=hr.split;obtain⟨g1,g2,g3⟩:=qZ hxs (by simp;omega) (fun d hd=>hc d (List.mem_of_mem_drop hd)) h2;have hq:=ob qs _ hc1;have hf:=qY hx hq;rw[oc,hk]at hf;refine⟨by simp[g1],fun y hy=>?_,?_⟩
   ·rcases List.mem_cons.1 hy with rfl|hy
    ·exact hf
    ·exact g2 y hy
   ·have:=(tV qs h1).append g3;rw[List.take_append_drop]at this;simpa [flat,jy hx hq]using this
  ·cases h
theorem bm.AQ{aj:List Obj}{G:List Nat}(ht:lC B w S objs gs om aj G)(T:TypeId){k c:Nat}{xs:List D}{cur:Array Value}(hc:cur.size=c*k)(hn:xs.length≤c)
    (hk:∀x∈xs,Fits k x) (hv:aW w S (Inner B w om) (flat xs) (cur.toList.take (xs.length*k)) G) :
    Ext B w gs om (w.alloc (.cells cur T)) (gs++[⟨some w.heap.size,k,c*k⟩]) (mark (mark om [w.heap.size] (aj.length,true)) G (aj.length,false)) ∧
    bm B (w.alloc (.cells cur T)) S (aj++[.row k xs]) (gs++[⟨some w.heap.size,k,c*k⟩]) (mark (mark om [w.heap.size] (aj.length,true)) G (aj.length,false)):=by
 have hM:=ht.pj;have hsz:∀b∈G,b≠w.heap.size:=fun b hb e=>by have:=(ht.src b hb).2.1;omega
 have e:Ext B w gs om (w.alloc (.cells cur T)) (gs++[⟨some w.heap.size,k,c*k⟩]) (mark (mark om [w.heap.size] (aj.length,true)) G (aj.length,false)):=by
  refine⟨List.prefix_append _ _,(eH _ _).mono hM.hB,fun b ⟨h1,h2,h3⟩=>⟨⟨h1,by simp;omega,fun r=>?_⟩,heap_alloc_old _ _ _ h2⟩⟩;by_cases hb:b∈G
  ·rw[da hb];simp
  ·rw[bS hb,eS b h2];exact h3 r
 refine⟨e,hM.step e (by simp[hM.len]) fun r o hr=>?_⟩;rcases eC _ _ _ _ hr with h'|⟨rfl,rfl⟩
 ·by_cases hd:o = .dead
  ·subst hd;exact .inr .dead
  ·refine .inl ⟨h',fun b c' hbc hlt=>⟨?_,heap_alloc_old _ _ _ hlt⟩⟩;rw[bS (fun hG=>?_),eS b hlt];exact hbc;obtain⟨_,_,r'',c'',h1,_,h2⟩:=ht.src b hG;rw[hbc]at h1;simp at h1;obtain⟨rfl,rfl⟩:=h1;rw[h']at h2;simp at h2;exact hd h2
 ·right
  refine .row (F:=G) (cY _ _ hM.len) rfl rfl hM.hB (by rw[bS (fun h=>hsz _ h rfl)];exact da (by simp)) (heap_alloc_new _ _) hc (Nat.mul_le_mul_right _ hn) hk rfl
   (hM.AS e hv (fun b hb=>heap_alloc_old _ _ _ (ht.src b hb).2.1)) ht.nodup (fun b hb=>⟨(ht.src b hb).1,by have:=(ht.src b hb).2.1;simp;omega,da hb⟩)
theorem oK(hM:bm B w S objs gs om){t len}{ps:List (Nat×AV)}{vs:List (Nat×Value)}{av aj}(hp:qE w S (Inner B w om) gs ps vs)(h:iy P objs t len ps=some (av,aj)) :
    ∃v w' gs' bz,(Instr.buildSlice t len vs.toArray).run P w = .ok v w'∧Ext B w gs om w' gs' bz∧bm B w' S aj gs' bz∧a8 w' S (Inner B w' bz) gs' av v:=by
 unfold iy at h;split at h
 ·rename_i size bytes e zero hT;have ht:=kt hT rfl;split at h
  ·rename_i E hE;split at h
   ·rename_i cs hcs;split at h
    ·rename_i ds fh hcl;split at h
     ·rename_i xs hxs;split at h
      ·rename_i hc;obtain⟨hpl,hz,hsz,hsm⟩:=hc;simp only[Option.some.injEq,Prod.mk.injEq]at h;obtain⟨rfl,rfl⟩:=h;obtain⟨i,d,z,h1,h2,h3,h4,h5,h6,h7⟩:=gQ hE;have hzs:z.cells.size=E.size:=by rw[←Array.length_toList,h7,hz]
       obtain⟨f0,f1,us,f2,f3,f4⟩:=nS (cells:=(Array.range (len*E.size)).map (z.cells[· % z.cells.size]!)) hp hcs (by
         have : ∀ {ps : List (Nat × AV)} {i cs}, iq E.size i ps = some cs → cs.length = ps.length * E.size := by
           intro ps
           induction ps with
           | nil => intro i cs h; simp [iq] at h; simp [← h]
           | cons p ps ih =>
             intro i cs h
             obtain ⟨j, a⟩ := p
             simp only [iq] at h
             split at h
             · rename_i as rest ha hr
               split at h
               · rename_i hq
                 simp at h; subst h
                 simp [ih hr, hq.2, Nat.add_mul]; omega
               · cases h
             · cases h
         simp [this hcs, hpl])
       have Og:=f2.length;have DP:us.length=len*E.size:=by rw[←Og,f0,hpl]
       have hsp:splice ((Array.range (len*E.size)).map (z.cells[· % z.cells.size]!)).toList (0*E.size) us=us:=by
        simp[splice,DP]
       rw[hsp]at f4;obtain⟨G,g1,g2⟩:=nK cs hM f2 hcl;obtain⟨k1,k2,k3⟩:=qZ hxs (by rw[g1.length,DP]) (zt cs f1 hcl) g1
       obtain⟨ee,m⟩:=bm.AQ g2 e (k:=E.size) (c:=len) (xs:=xs) (cur:=us.toArray) (by simp[DP]) (by omega) k2 (by
         rw [k1, List.toList_toArray, List.take_of_length_le (by omega)]; exact k3)
       refine⟨_,_,_,_,?_,ee,m,.hdr (g:=⟨some w.heap.size,E.size,len*E.size⟩) (b:=w.heap.size) (o:=0) (c:=len) (cY _ _ g2.pj.len) rfl (by simp) (.inl (by simp)) (Nat.le_refl _) (by
         have : len * 1 ≤ len * E.size := Nat.mul_le_mul_left _ hsz
         simp [maxLen]; omega)⟩
       by_cases h0:len=0
       ·subst h0;have:us=[]:=List.length_eq_zero_iff.1 (by simpa using DP);subst this;have:ps=[]:=List.length_eq_zero_iff.1 hpl;subst this;cases hp;simp[Instr.buildSlice,bD ht,dB hE,Instr.fill,newRow,show Array.range 0 = #[] from by decide]
       ·have hne:¬(len*E.size=0):=by
         intro h;rcases Nat.mul_eq_zero.1 h with h|h<;>omega
        have O8:Instr.fill (fun i=>some (i*E.size,E.size)) ((Array.range (len*E.size)).map (z.cells[· % z.cells.size]!)) vs=some us.toArray:=f4;have hne1:¬len=0:=h0;have hne2:¬E.size=0:=by omega
        have M9:¬(16777216<len*E.size):=by omega
        simp[Instr.buildSlice,bD ht,dB hE,zeroValue,typeInfo,h1,h3,M9,hne,hne1,hne2,O8,newRow]
      ·cases h
     ·cases h
    ·cases h
   ·cases h
  ·cases h
 ·cases h
end
end Go.aN
/- Append, copy, conversions: what they do to an abstract state, and that it is so. Lemmas alone. -/
namespace Go.aN
open Go.RowKit
def D.cE:D→Bool
 | .v _=>true
 | .row m _ xs=>decide (m ≠ .own)&&xs.attach.all fun⟨x,_⟩=>x.cE
 | .agg cs=>cs.attach.all fun⟨x,_⟩=>x.cE
 | .bK cs=>cs.attach.all fun⟨x,_⟩=>x.cE
theorem zD(x):(D.v x).cE=true:=by simp[D.cE]
theorem kg(m k xs):(D.row m k xs).cE=(decide (m ≠ .own)&&xs.all D.cE):=by simp[D.cE]
theorem mi(xs):(D.agg xs).cE=xs.all D.cE:=by simp[D.cE]
theorem tU(xs):(D.bK xs).cE=xs.all D.cE:=by simp[D.cE]
def Lo:List D→Bool
 | [.row .own _ _]=>true
 | _=>false
def tk(objs:List Obj):AV→Option (Nat×List D×List Obj)
 | .d (.row .own k [])=>some (k,[],objs)
 | .d (.row .own ..)=>none
 | .d (.row _ k xs)=>some (k,xs,objs)
 | .cut k xs=>some (k,xs,objs)
 | .hdr r off len=>match objs[r]? with
  | some (.row k xs)=>
   if ¬off+len≤xs.length then none
   else if ((xs.drop off).take len).all D.cE=true then some (k,(xs.drop off).take len,objs)
   else if off=0∧len=xs.length∧(r+1=objs.length∨Lo xs=true)then some (k,xs,objs.set r .dead)
   else some (k,((xs.drop off).take len).map D.snap,objs)
  | _=>none
 | _=>none
def DD(objs:List Obj)(e:TypeId)(k:Nat):AV→Option (List D×List Obj)
 | .d (.v (.slice none 0 0))=>some ([],objs)
 | .d (.row .own _ [])=>some ([],objs)
 | .hdr r off len=>match objs[r]? with
  | some (.row k' xs)=>if off=0∧len=xs.length∧k'=k then some (xs,objs.set r .dead)else none
  | _=>none
 | _=>none
def ql(s:ByteArray):List D:=s.data.toList.map fun b=>.v (.int .u8 b.toNat)
def ya:AV→Bool
 | .d (.v (.slice none 0 0))=>true
 | _=>false
def qq(P:Program)(objs:List Obj)(t:TypeId)(x y:AV):Bj:=
 match ty P t with
 | some {k:=.slice e,..}=>match ty P e with
  | some E=>
   if E.zero.length=E.size∧0<E.size then
    (if ya y then (match x with
      | .hdr .. => some (x, objs)
      | .d (.v (.slice none 0 0)) => some (x, objs)
      | _ => none)
    else match tk objs y with
    | some (k, ys, o1) =>
      if k = E.size then
        (match x with
        | .cut k' xs => if k' = E.size ∧ 0 < ys.length ∧ (xs.length + ys.length) * E.bytes ≤ 140737488355328 ∧ xs.length + ys.length ≤ 140737488355328 then some (.hdr o1.length 0 (xs.length + ys.length), o1 ++ [.row E.size (xs ++ ys)]) else none
        | _ => match DD o1 e E.size x with
          | some (xs, o2) => if (xs.length + ys.length) * E.bytes ≤ 140737488355328 ∧ xs.length + ys.length ≤ 140737488355328 then some (.hdr o2.length 0 (xs.length + ys.length), o2 ++ [.row E.size (xs ++ ys)]) else none
          | none => none)
      else none
    | none => none)
   else none
  | none=>none
 | _=>none
section
variable {P:Program} {B:Nat} {w:World} {S:Nat→Prop} {objs:List Obj} {gs:List G1} {om:Nat→Option (Nat×Bool)}
mutual
theorem AA{S N:Nat→Prop}:∀ {d:D} {v F},cb w S N d v F→d.cE=true→F=[]
 | _,_,_,.v _,_=>rfl
 | _,_,_,.nil,_=>rfl
 | _,_,_,.empty _,_=>rfl
 | _,_,_,.old ..,_=>rfl
 | _,_,_,.own ..,h=>by rw[kg]at h;simp at h
 | _,_,_,.agg hl,h=>jl hl (by rw[mi]at h;exact h)
 | _,_,_,.bK hl,h=>jl hl (by rw[tU]at h;exact h)
theorem jl{S N:Nat→Prop}:∀ {ds:List D} {vs F},aW w S N ds vs F→ds.all D.cE=true→F=[]
 | _,_,_,.nil,_=>rfl
 | _,_,_,.cons hd tl,h=>by
  simp only[List.all_cons,Bool.and_eq_true]at h;rw[AA hd h.1,jl tl h.2];rfl
end
theorem rT{xs:List D}(h:xs.all D.cE=true):(flat xs).all D.cE=true:=by
 simp only[flat,List.all_flatMap,List.all_eq_true]at h ⊢;intro x hx c hc;have:=h x hx
 cases x with
 | agg cs=>rw[mi]at this;exact List.all_eq_true.1 this c hc
 | _=>simp[D.cells]at hc;subst hc;exact this
theorem ti{N:Nat→Prop}{d v F}(h:cb w S N d v F)(hc:d.aX=true):v.oneCell'=true:=by
 cases h<;>simp_all[D.aX,Value.oneCell']
theorem lZ{N:Nat→Prop}{ds:List D}{vs F}(h:aW w S N ds vs F)(hc:∀d∈ds,d.aX=true):∀v∈vs,v.oneCell'=true:=by
 induction ds generalizing vs F with
 | nil=>cases h;simp
 | cons d ds ih=>
  cases h with
  | cons h t=>
   intro v hv;rcases List.mem_cons.1 hv with rfl|hv
   ·exact ti h (hc d (by simp))
   ·exact ih t (fun d hd=>hc d (by simp[hd])) v hv
theorem pL{k:Nat}{xs:List D}(h:∀x∈xs,Fits k x):∀d∈flat xs,d.aX=true:=by
 intro d hd;simp only[flat,List.mem_flatMap]at hd;obtain⟨x,hx,hd⟩:=hd;exact(h x hx).2 d hd
theorem mr{S N k}{xs:List D}{vs:List Value}{F}(h:aW w S N (flat xs) vs F)(hk:∀x∈xs,Fits k x)(l n:Nat)(hl:l+n≤xs.length) :
    ∃G,aW w S N (flat ((xs.drop l).take n)) ((vs.drop (l*k)).take (n*k)) G∧∀b∈G,b∈F:=by
 have e:flat xs=flat (xs.take l)++(flat ((xs.drop l).take n)++flat (xs.drop (l+n))):=by
  simp only[flat];rw[←List.flatMap_append,←List.flatMap_append,←List.drop_drop,List.take_append_drop,List.take_append_drop]
 rw[e]at h;obtain⟨F1,F2,rfl,h1,h2⟩:=h.split;obtain⟨F3,F4,rfl,h3,h4⟩:=h2.split;rw[bP (fun x hx=>hk x (List.mem_of_mem_take hx)),bP (fun x hx=>hk x (List.mem_of_mem_drop (List.mem_of_mem_take hx)))]at h3;exact⟨F3,by simpa [show min l xs.length=l by omega,show min n (xs.length-l)=n by omega]using h3,fun b hb=>by simp[hb]⟩
structure Src (B:Nat) (w:World) (S:Nat→Prop) (objs:List Obj) (gs:List G1) (om:Nat→Option (Nat×Bool)) (k:Nat) (ys:List D) (o1:List Obj) (v:Value):Prop where
 fits:∀x∈ys,Fits k x
 ex:∃news G,aW w S (Inner B w om) (flat ys) news G∧lC B w S objs gs om o1 G ∧
  ((ys=[]∧∃a c,v = .slice a 0 c)∨∃ad c,v = .slice (some ad) ys.length c∧∀(j:Nat) u,news[j]?=some u→w.cell? (ad.add j)=some u)
theorem zO{N:Nat→Prop}{m k xs v}(h:cb w S N (.row m k xs) v [])(hm:m ≠ .own) :
    (∀x∈xs,Fits k x)∧∃news,aW w S N (flat xs) news []∧((xs=[]∧∃a c,v = .slice a 0 c)∨∃ad c,v = .slice (some ad) xs.length c∧∀(j:Nat) u,news[j]?=some u→w.cell? (ad.add j)=some u):=by
 cases h with
 | nil=>exact⟨by simp,[],.nil,.inl ⟨rfl,_,_,rfl⟩⟩
 | empty=>exact⟨by simp,[],.nil,.inl ⟨rfl,_,_,rfl⟩⟩
 | @old _ _ _ b off c cur T fz vs hm' hb h1 h2 hq hk hvs hl h=>
  refine⟨hk,vs,h,.inr ⟨_,_,rfl,fun j u hu=>?_⟩⟩;rw[ip hb];subst hvs;simp only[List.getElem?_take,List.getElem?_drop]at hu;split at hu
  ·simpa using hu
  ·cases hu
theorem u0{k xs v}(h:a8 w S (Inner B w om) gs (.cut k xs) v) :
    (∀x∈xs,Fits k x)∧∃news,aW w S (Inner B w om) (flat xs) news []∧((xs=[]∧∃a c,v = .slice a 0 c)∨∃ad c,v = .slice (some ad) xs.length c∧∀(j:Nat) u,news[j]?=some u→w.cell? (ad.add j)=some u):=by
 cases h with
 | gK=>exact⟨by simp,[],.nil,.inl ⟨rfl,_,_,rfl⟩⟩
 | dU=>exact⟨by simp,[],.nil,.inl ⟨rfl,_,_,rfl⟩⟩
 | @cut _ _ b off cur T fz vs hb hS hk hvs hl h=>
  refine⟨hk,vs,h,.inr ⟨_,_,rfl,fun j u hu=>?_⟩⟩;rw[ip hb];subst hvs;simp only[List.getElem?_take,List.getElem?_drop]at hu;split at hu
  ·simpa using hu
  ·cases hu
theorem t9(hM:bm B w S objs gs om){y vy}(hy:a8 w S (Inner B w om) gs y vy){k ys o1}(h:tk objs y=some (k,ys,o1)):Src B w S objs gs om k ys o1 vy:=by
 unfold tk at h;split at h
 ·simp only[Option.some.injEq,Prod.mk.injEq]at h;obtain⟨rfl,rfl,rfl⟩:=h
  cases hy with
  | d hy=>cases hy with
   | nil=>exact⟨by simp,[],[],.nil,.refl hM,.inl ⟨rfl,_,_,rfl⟩⟩
   | empty hm=>exact absurd rfl hm
   | old hm=>exact absurd rfl hm
 ·cases h
 ·rename_i m k' xs hm;simp only[Option.some.injEq,Prod.mk.injEq]at h;obtain⟨rfl,rfl,rfl⟩:=h
  cases hy with
  | d hy=>
   obtain⟨h1,news,h2,h3⟩:=zO hy (fun e=>hm e);exact⟨h1,news,[],h2,.refl hM,h3⟩
 ·simp only[Option.some.injEq,Prod.mk.injEq]at h;obtain⟨rfl,rfl,rfl⟩:=h;obtain⟨h1,news,h2,h3⟩:=u0 hy;exact⟨h1,news,[],h2,.refl hM,h3⟩
 ·rename_i r off len;split at h
  ·rename_i k' xs hr;have ho:=hM.obj r _ hr
   cases hy with
   | fP hg hb=>
    cases ho with
    | row0 hg' hk' hb'=>
     simp at h;obtain⟨rfl,rfl,rfl⟩:=h;exact⟨by simp,[],[],.nil,.refl hM,.inl ⟨rfl,_,_,rfl⟩⟩
    | row hg' dP hb'=>rw[hg]at hg';simp at hg';subst hg';rw[hb]at hb';cases hb'
   | @hdr _ _ _ g b o c hg hb hcap hoff hlc hm=>
    cases ho with
    | row0 hg' hk' hb'=>rw[hg]at hg';simp at hg';subst hg';rw[hb]at hb';cases hb'
    | @row _ _ _ g' b' cur vs F hg' dP hb' hB ho hw hcs hn hk hvs hl hF dT=>
     obtain rfl:g=g':=by simpa using hg.symm.trans hg'
     obtain rfl:b=b':=by simpa using hb.symm.trans hb'
     by_cases B1:len=0
     ·subst B1;simp only[List.take_zero,List.all_nil,if_true]at h;split at h
      ·cases h
      ·simp only[Option.some.injEq,Prod.mk.injEq]at h;obtain⟨rfl,rfl,rfl⟩:=h;exact⟨by simp,[],[],.nil,.refl hM,.inl ⟨rfl,_,_,rfl⟩⟩
     ·split at h
      ·cases h
      rename_i hfit;simp only[Nat.not_le,Nat.not_lt]at hfit;obtain⟨G,g1,g2⟩:=mr hl hk off len hfit;have hlen:((xs.drop off).take len).length=len:=by simp;omega
      have hcells:∀(j:Nat) u,((vs.drop (off*k')).take (len*k'))[j]?=some u→w.cell? ((⟨b,o,none⟩:Addr).add j)=some u:=by
       intro j u hu;have ho:o=off*g.k:=hoff.resolve_right (by omega);rw[ip hw,ho,dP];subst hvs;simp only[List.getElem?_take,List.getElem?_drop]at hu;split at hu
       ·split at hu
        ·simpa using hu
        ·cases hu
       ·cases hu
      have hsub:∀x∈(xs.drop off).take len,Fits k' x:=fun x hx=>hk x (List.mem_of_mem_drop (List.mem_of_mem_take hx))
      split at h
      ·rename_i hno;simp only[Option.some.injEq,Prod.mk.injEq]at h;obtain⟨rfl,rfl,rfl⟩:=h;obtain rfl:=jl g1 (rT hno);exact⟨hsub,_,[],g1,.refl hM,.inr ⟨_,_,by rw[hlen],hcells⟩⟩
      ·split at h
       ·rename_i hc;obtain⟨rfl,rfl,_⟩:=hc;simp only[Option.some.injEq,Prod.mk.injEq]at h;obtain⟨rfl,rfl,rfl⟩:=h;refine⟨hk,vs,F,hl,.one hM hr hF (fun x hx=>⟨(dT x hx).1,(dT x hx).2.1,_,(dT x hx).2.2⟩),.inr ⟨_,_,rfl,fun j u hu=>hcells j u ?_⟩⟩;have:vs.length=xs.length*k':=by rw[←hl.length,bP hk]
        simp only[Nat.zero_mul,List.drop_zero];rw[List.take_of_length_le (by omega)];exact hu
       ·simp only[Option.some.injEq,Prod.mk.injEq]at h;obtain⟨rfl,rfl,rfl⟩:=h;have hs:=g1.snap (fun b hb=>⟨(dT b (g2 b hb)).1,(dT b (g2 b hb)).2.1,fun r' e=>by have:=(dT b (g2 b hb)).2.2;rw[e]at this;simp at this⟩);rw[←oU]at hs;exact⟨m9 kG lS hsub,_,[],hs,.refl hM,.inr ⟨_,_,by rw[List.length_map,hlen],hcells⟩⟩
  ·cases h
 ·cases h
theorem bm.sg{aZ:List Obj}{G:List Nat}(ht:lC B w S objs gs om aZ G){w':World}{row:Option Nat}(hg:w.grownBy w' row)(hrow:∀b,row=some b→b∈G∧∃r,om b=some (r,true))
    {T:TypeId} {k c b':Nat} {xs:List D} {cur:Array Value} {N':List Nat} (hb':row=some b'∨(w.heap.size≤b'∧b'<w'.heap.size)) (hN:∀b∈N',b∈G∧row≠some b) (hnd:N'.Nodup)
    (hw':w'.heap[b']?=some (.cells cur T (0,0))) (hc:cur.size=c*k) (hn:xs.length≤c) (hk:∀x∈xs,Fits k x) (hv:aW w S (Inner B w om) (flat xs) (cur.toList.take (xs.length*k)) N') :
    Ext B w gs om w' (gs++[⟨some b',k,c*k⟩]) (mark (mark om N' (aZ.length,false)) [b'] (aZ.length,true)) ∧
    bm B w' S (aZ++[.row k xs]) (gs++[⟨some b',k,c*k⟩]) (mark (mark om N' (aZ.length,false)) [b'] (aZ.length,true)):=by
 have hM:=ht.pj
 have hBb:B≤b':=by
  rcases hb' with h|⟨h,_⟩
  ·exact(ht.src b' (hrow b' h).1).1
  ·exact Nat.le_trans hM.hB h
 have hsame:∀b,b<w.heap.size→row≠some b→w'.heap[b]?=w.heap[b]?:=fun b h1 h2=>hg.block b h1 (fun e=>h2 e.symm)
 have hbelow:Below B w w':=⟨hg.os,hg.tape,hg.output,hg.size,fun b hb=>hsame b (Nat.lt_of_lt_of_le hb hM.hB) (fun e=>by have:=(ht.src b (hrow b e).1).1;omega)⟩
 have MV:b'∉N':=fun h=>by
  rcases hb' with e|⟨e,_⟩
  ·exact(hN b' h).2 e
  ·have:=(ht.src b' (hN b' h).1).2.1;omega
 have e:Ext B w gs om w' (gs++[⟨some b',k,c*k⟩]) (mark (mark om N' (aZ.length,false)) [b'] (aZ.length,true)):=by
  refine⟨List.prefix_append _ _,hbelow,fun b ⟨h1,h2,h3⟩=>?_⟩;have hr:row≠some b:=fun e=>by obtain⟨_,r,hr⟩:=hrow b e;exact h3 r hr
  have hne:b≠b':=fun e=>by
   subst e;rcases hb' with e|⟨e,_⟩
   ·exact hr e
   ·omega
  refine⟨⟨h1,Nat.lt_of_lt_of_le h2 hg.size,fun r=>?_⟩,hsame b h2 hr⟩;rw[bS (by simpa using hne)];by_cases hb:b∈N'
  ·rw[da hb];simp
  ·rw[bS hb];exact h3 r
 refine⟨e,hM.step e (by simp[hM.len]) fun r o hr=>?_⟩;rcases eC _ _ _ _ hr with h'|⟨rfl,rfl⟩
 ·by_cases hd:o = .dead
  ·subst hd;exact .inr .dead
  ·have Hn:∀b c',om b=some (r,c')→b∉G:=fun b c' hbc hG=>by
    obtain⟨_,_,r'',c'',h1,_,h2⟩:=ht.src b hG;rw[hbc]at h1;simp at h1;obtain⟨rfl,rfl⟩:=h1;rw[h']at h2;simp at h2;exact hd h2
   refine .inl ⟨h',fun b c' hbc hlt=>⟨?_,hsame b hlt (fun e=>Hn b c' hbc (hrow b e).1)⟩⟩;rw[bS,bS (fun h=>Hn b c' hbc (hN b h).1)]
   ·exact hbc
   ·simp only[List.mem_singleton];rintro rfl;rcases hb' with e|⟨e,_⟩
    ·exact Hn b c' hbc (hrow b e).1
    ·omega
 ·right
  refine .row (F:=N') (cY _ _ hM.len) rfl rfl hBb (da (by simp)) hw' hc (Nat.mul_le_mul_right _ hn) hk rfl (hM.AS e hv (fun b hb=>hsame b (ht.src b (hN b hb).1).2.1 (hN b hb).2)) hnd
   (fun b hb=>⟨(ht.src b (hN b hb).1).1,Nat.lt_of_lt_of_le (ht.src b (hN b hb).1).2.1 hg.size,?_⟩)
  rw[bS (by simp;rintro rfl;exact MV hb),da hb]
end
end Go.aN
/- Append, copy, conversions: it is so. Lemmas alone. -/
namespace Go.aN
open Go.RowKit
section
variable {P:Program} {B:Nat} {w:World} {S:Nat→Prop} {objs:List Obj} {gs:List G1} {om:Nat→Option (Nat×Bool)}
structure NQ (B:Nat) (w:World) (S:Nat→Prop) (objs:List Obj) (gs:List G1) (om:Nat→Option (Nat×Bool)) (e:TypeId) (k:Nat) (xs:List D) (o2:List Obj) (v:Value):Prop where
 fits:∀x∈xs,Fits k x
 ex:∃e' vals F G,aW w S (Inner B w om) (flat xs) vals F∧w.ownsRow B e' k v xs.length vals∧lC B w S objs gs om o2 G∧(∀b∈F,b∈G∧v.ownBlock≠some b)∧F.Nodup ∧
  (∀b,v.ownBlock=some b→b∈G∧∃r,om b=some (r,true))
theorem zj(hM:bm B w S objs gs om){e k}:NQ B w S objs gs om e k [] objs (.slice none 0 0):=
 ⟨by simp,e,[],[],[],.nil,World.ownsRow_nil _ _ _ _,.refl hM,by simp,List.nodup_nil,by simp[Value.ownBlock]⟩
theorem Al(hM:bm B w S objs gs om){x vx}(hx:a8 w S (Inner B w om) gs x vx){e k xs o2}(h:DD objs e k x=some (xs,o2)):NQ B w S objs gs om e k xs o2 vx:=by
 unfold DD at h;split at h
 ·simp only[Option.some.injEq,Prod.mk.injEq]at h;obtain⟨rfl,rfl⟩:=h;cases hx with|d hx=>cases hx;exact zj hM
 ·simp only[Option.some.injEq,Prod.mk.injEq]at h;obtain⟨rfl,rfl⟩:=h
  cases hx with
  | d hx=>cases hx with
   | nil=>exact zj hM
   | empty hm=>exact absurd rfl hm
   | old hm=>exact absurd rfl hm
 ·rename_i r off len;split at h
  ·rename_i k' ys hr;split at h
   ·rename_i hc;obtain⟨rfl,rfl,rfl⟩:=hc;simp only[Option.some.injEq,Prod.mk.injEq]at h;obtain⟨rfl,rfl⟩:=h;have ho:=hM.obj r _ hr;generalize hn:ys.length=n at hx
    cases hx with
    | fP hg hb=>
     have:ys=[]:=List.length_eq_zero_iff.1 hn;subst this;exact⟨by simp,e,[],[],[],.nil,World.ownsRow_nil _ _ _ _,.one hM hr List.nodup_nil (by simp),by simp,List.nodup_nil,by simp[Value.ownBlock]⟩
    | @hdr _ _ _ g b o c hg hb hcap hoff hlc hm=>
     cases ho with
     | row0 hg' hk' hb'=>rw[hg]at hg';simp at hg';subst hg';rw[hb]at hb';cases hb'
     | @row _ _ _ g' b' cur vs F hg' dP hb' hB ho hw hcs hn' hk hvs hl hF dT=>
      obtain rfl:g=g':=by simpa using hg.symm.trans hg'
      obtain rfl:b=b':=by simpa using hb.symm.trans hb'
      obtain rfl:o=0:=by simpa using hoff
      subst dP;have De:b∉F:=fun h=>by have:=(dT b h).2.2;rw[ho]at this;simp at this
      have hcc:cur.size=c*g.k:=by rw[hcs,←hcap];simp
      refine⟨hk,_,vs,F,b::F,hl,⟨?_,.inr ⟨b,c,cur,?_,hB,hw,?_,hm,hcc,hvs.symm⟩⟩,.one hM hr (List.nodup_cons.2 ⟨De,hF⟩) (fun x hx=>?_),fun x hx=>⟨by simp[hx],?_⟩,hF,?_⟩
      ·rw[←hl.length,bP hk]
      ·rw[hn]
      ·rw[hn];exact hlc
      ·rcases List.mem_cons.1 hx with rfl|hx
       ·exact⟨hB,(Array.getElem?_eq_some_iff.1 hw).1,_,ho⟩
       ·exact⟨(dT x hx).1,(dT x hx).2.1,_,(dT x hx).2.2⟩
      ·simp only[Value.ownBlock,ne_eq,Option.some.injEq];rintro rfl;exact De hx
      ·intro x hx;simp only[Value.ownBlock,Option.some.injEq]at hx;subst hx;exact⟨by simp,_,ho⟩
   ·cases h
  ·cases h
 ·cases h
theorem sI{t ty' e e':TypeId}{i:TypeInfo}{z:Value}{size bytes:Nat}(ht:P.underlying t=some (.slice e))(hi:P.info? e=some i)(hz:i.zero=some z)
    (hsize:i.size=size) (hby:i.bytes=bytes) (hzs:z.cells.size=size) (hsz:0<size) {v vy:Value} {n m:Nat} {xs news:List Value} (hown:w.ownsRow B e' size v n xs) (hl:news.length=m*size) (h1:∀u∈news,u.oneCell'=true)
    (hy:(m=0∧∃a c,vy = .slice a 0 c)∨∃ad c,vy = .slice (some ad) m c∧∀(j:Nat) u,news[j]?=some u→w.cell? (ad.add j)=some u)
    (h63:n+m≤maxLen) (hbytes:(n+m)*bytes≤140737488355328) (hbase:B≤w.heap.size) :
    ∃e'' v' w',(Builtin.append_ #[t,t] ty' #[v,vy]).run P w = .ok v' w'∧w'.ownsRow B e'' size v' (n+m) (xs++news)∧w.grownBy w' v.ownBlock∧(v'.ownBlock=v.ownBlock∨∃b,v'.ownBlock=some b∧w.heap.size≤b):=by
 by_cases hm:m=0∧∃a c,vy = .slice a 0 c
 ·obtain⟨rfl,a,c,rfl⟩:=hm;have:news=[]:=List.length_eq_zero_iff.1 (by simpa using hl);subst this;refine⟨e',v,w,?_,by simpa using hown,⟨rfl,rfl,rfl,Nat.le_refl _,fun _ _ _=>rfl⟩,.inl rfl⟩
  have hfc:(Builtin.firstCells i.size 0 (.slice a 0 c)).run P w = .ok #[] w:=by
   cases a with
   | none=>simp[Builtin.firstCells]
   | some a=>simpa [Builtin.firstCells]using run_loadCells_list (P:=P) w a [] (by simp)
  rcases hown.2 with ⟨rfl,rfl⟩|⟨g,cap,cur,rfl,_,_,hnc,_⟩
  ·simp[Builtin.append_,run_underlying ht,sizeOf,typeInfo,hi,Builtin.lenOf,hfc]
  ·simp[Builtin.append_,run_underlying ht,sizeOf,typeInfo,hi,Builtin.lenOf,hfc,hnc,storeCells]
 ·obtain⟨ad,c,rfl,hc⟩:=hy.resolve_left hm;rcases hown.2 with ⟨rfl,rfl⟩|⟨g,cap,cur,rfl,hB,hg,hnc,hcm,hcs,htake⟩
  ·have hx:xs=[]:=List.length_eq_zero_iff.1 (by simpa using hown.1);subst hx;obtain⟨v',w',a1,a2,a3,_,a4⟩:=run_append_own_at (P:=P) w B t ty' e i z size bytes ht hi hz hsize hby hzs hsz _ 0 [] (World.ownsRow_nil w B e size) ad m c news hl hc h1 h63 hbytes hbase;exact⟨e,v',w',a1,a2,a3,a4.imp id (fun h=>⟨_,h,Nat.le_refl _⟩)⟩
  ·by_cases hroom:n+m≤cap
   ·subst hsize;have hfit:n*i.size+news.length≤cur.size:=by rw[hl,hcs,←Nat.add_mul];exact Nat.mul_le_mul_right _ hroom
    have hf:=run_firstCells_some (P:=P) w i.size m ad m c news hl hc;have hst:=run_storeCells_at P g (n*i.size) e' news 0 cur w hg (by simpa using hfit) h1;simp only[Nat.add_zero]at hst;refine⟨e',.slice (some ⟨g,0,none⟩) (n+m) cap,w.setRow g (cur.toList.take (n*i.size)++news++cur.toList.drop (n*i.size+news.length)).toArray,?_,⟨?_,.inr ⟨g,cap,_,rfl,hB,setRow_heap w g cur _ e' _ hg,hroom,hcm,?_,?_⟩⟩,⟨rfl,rfl,rfl,by simp,fun k _ hk=>setRow_other w g k _ (fun e=>hk (by simp[Value.ownBlock,e]))⟩,.inl rfl⟩
    ·simp[Builtin.append_,run_underlying ht,sizeOf,typeInfo,hi,Builtin.lenOf,hroom,hf,Addr.add_lit,hst]
    ·rw[List.length_append,hown.1,hl,Nat.add_mul]
    ·rw[←hcs];simp;omega
    ·have hxl:=hown.1;rw[Nat.add_mul,←hl,List.toList_toArray,htake,List.take_append_of_le_length (by simp;omega),List.take_of_length_le (by simp;omega)]
   ·obtain⟨v',w',a1,a2,a3⟩:=run_append_arg_grows (P:=P) w t ty' e i z size bytes ht hi hz hsize hby hzs hsz ⟨g,0,none⟩ n cap xs hown.1 (fun j u hu=>by
      rw [ip hg]
      subst htake
      rw [List.getElem?_take] at hu
      split at hu
      · simpa using hu
      · cases hu) ad m c news hl hc (by omega) h63 hbytes
    refine⟨e,v',w',a1,⟨a2.1,?_⟩,⟨a3.os,a3.tape,a3.output,a3.size,fun k hk _=>a3.block k hk (by simp)⟩,?_⟩
    ·rcases a2.2 with h|⟨g',cap',cur',h,h2,h3⟩
     ·exact .inl h
     ·exact .inr ⟨g',cap',cur',h,Nat.le_trans hbase h2,h3⟩
    ·rcases a2.2 with ⟨rfl,h⟩|⟨g',cap',cur',rfl,h2,h3⟩
     ·omega
     ·exact .inr ⟨g',rfl,h2⟩
theorem jK{t e:TypeId}{ty':TypeId}{E:Ty}(ht:P.underlying t=some (.slice e))(hE:ty P e=some E)(a:Option Addr)(n c:Nat)(h:n≤c)(ha:a=none→n=0) :
    (Builtin.append_ #[t,t] ty' #[.slice a n c,.slice none 0 0]).run P w = .ok (.slice a n c) w:=by
 cases a with
 | none=>simp[Builtin.append_,bD ht,dB hE,Builtin.lenOf,Builtin.firstCells,ha rfl,h]
 | some a=>simp[Builtin.append_,bD ht,dB hE,Builtin.lenOf,Builtin.firstCells,h,storeCells]
theorem Ap{aZ:List Obj}{G:List Nat}(ht:lC B w S objs gs om aZ G){e k:Nat}{E:Ty}(hk0:0<k){v v':Value}{w':World}{xs ys:List D}{vals news F1 F2}
    (hfx:∀x∈xs++ys,Fits k x) (hl:aW w S (Inner B w om) (flat (xs++ys)) (vals++news) (F1++F2)) (hown:w'.ownsRow B e k v' (xs++ys).length (vals++news)) (hg:w.grownBy w' v.ownBlock)
    (qe:v'.ownBlock=v.ownBlock∨∃b,v'.ownBlock=some b∧w.heap.size≤b) (hrow:∀b,v.ownBlock=some b→b∈G∧∃r,om b=some (r,true)) (hF:∀b∈F1++F2,b∈G∧v.ownBlock≠some b) (hnd:(F1++F2).Nodup) :
    ∃gs' bz,Ext B w gs om w' gs' bz∧bm B w' S (aZ++[.row k (xs++ys)]) gs' bz∧a8 w' S (Inner B w' bz) gs' (.hdr aZ.length 0 (xs++ys).length) v':=by
 rcases hown.2 with ⟨rfl,h0⟩|⟨b',c,cur,rfl,hB,hw',hnc,hcm,hcs,htake⟩
 ·have hxy:xs++ys=[]:=List.length_eq_zero_iff.1 h0;obtain⟨rfl,rfl⟩:=List.append_eq_nil_iff.1 hxy
  have hrow':v.ownBlock=none:=by
   rcases qe with h|h
   ·exact h.symm
   ·simp[Value.ownBlock]at h
  have hFn:F1++F2=[]:=by
   have hl2:aW w S (Inner B w om) [] (vals++news) (F1++F2):=hl;generalize F1++F2=FF at hl2 ⊢;generalize vals++news=VV at hl2;cases hl2;rfl
  rw[hrow']at hg;have hbel:Below w.heap.size w w':=⟨hg.os,hg.tape,hg.output,hg.size,fun b hb=>hg.block b hb (by simp)⟩;obtain⟨ee,m⟩:=ht.pj.push (w':=w') (g:=⟨none,k,0⟩) (o:=.row k []) (bz:=om) hbel (fun _ _=>rfl) (.row0 (cY _ _ ht.pj.len) rfl rfl);exact⟨_,_,ee,m,.fP (g:=⟨none,k,0⟩) (cY _ _ ht.pj.len) rfl⟩
 ·have hsub:cur.toList.take ((xs++ys).length*k)=vals++news:=htake
  obtain⟨ee,m⟩:=bm.sg ht hg hrow (T:=e) (k:=k) (c:=c) (b':=b') (xs:=xs++ys) (cur:=cur) (N':=F1++F2) (by
      rcases qe with h | h
      · exact .inl (by rw [← h]; rfl)
      · obtain ⟨b, hb, hle⟩ := h
        simp [Value.ownBlock] at hb; subst hb; exact .inr ⟨hle, (Array.getElem?_eq_some_iff.1 hw').1⟩) hF hnd hw' hcs hnc hfx (by rw [hsub]; exact hl)
  exact⟨_,_,ee,m,.hdr (g:=⟨some b',k,c*k⟩) (b:=b') (o:=0) (c:=c) (cY _ _ ht.pj.len) rfl (by simp) (.inl (by simp)) hnc hcm⟩
theorem uj(hM:bm B w S objs gs om){x vx y vy}(hx:a8 w S (Inner B w om) gs x vx)(hy:a8 w S (Inner B w om) gs y vy){t ty' av aj}(h:qq P objs t x y=some (av,aj)) :
    ∃v w' gs' bz,(Builtin.append_ #[t,t] ty' #[vx,vy]).run P w = .ok v w'∧Ext B w gs om w' gs' bz∧bm B w' S aj gs' bz∧a8 w' S (Inner B w' bz) gs' av v:=by
 unfold qq at h;split at h
 ·rename_i size bytes e zero hT;have ht:=kt hT rfl;split at h
  ·rename_i E hE;split at h
   ·rename_i hz;obtain⟨hzl,hsz⟩:=hz;obtain⟨i,d,z,h1,h2,h3,h4,h5,h6,h7⟩:=gQ hE;have hzs:z.cells.size=E.size:=by rw[←Array.length_toList,h7,hzl]
    split at h
    ·rename_i hnil
     have Pw:vy = .slice none 0 0:=by
      unfold ya at hnil;split at hnil
      ·cases hy with|d hy=>cases hy;rfl
      ·cases hnil
     subst Pw;split at h
     ·simp only[Option.some.injEq,Prod.mk.injEq]at h;obtain⟨rfl,rfl⟩:=h;have hx0:=hx
      cases hx with
      | hdr hg hb hcap hoff hlc hm=>exact⟨_,w,gs,om,jK ht hE _ _ _ hlc (by simp),.refl ..,hM,hx0⟩
      | fP hg hb=>exact⟨_,w,gs,om,jK ht hE _ _ _ (by simp) (by simp),.refl ..,hM,hx0⟩
     ·simp only[Option.some.injEq,Prod.mk.injEq]at h;obtain⟨rfl,rfl⟩:=h;have hx0:=hx;cases hx with|d hx=>cases hx with|v hx=>exact⟨_,w,gs,om,jK ht hE _ _ _ (by simp) (by simp),.refl ..,hM,hx0⟩
     ·cases h
    ·split at h
     ·rename_i k ys o1 hsrc;obtain⟨Lz,news,G1,g1,g2,g3⟩:=t9 hM hy hsrc;split at h
      ·rename_i hk;subst hk;have hnl:news.length=ys.length*E.size:=by rw[←g1.length,bP Lz]
       have hone:=lZ g1 (pL Lz)
       have hy':(ys.length=0∧∃a c,vy = .slice a 0 c)∨∃ad c,vy = .slice (some ad) ys.length c∧∀(j:Nat) u,news[j]?=some u→w.cell? (ad.add j)=some u:=
        g3.imp (fun⟨a,b⟩=>⟨by simp[a],b⟩) id
       have vG:∀(xs:List D),flat (xs++ys)=flat xs++flat ys:=fun xs=>by simp[flat]
       split at h
       ·rename_i k' xs;split at h
        ·rename_i hc;obtain⟨rfl,h0,hb1,hb2⟩:=hc;simp only[Option.some.injEq,Prod.mk.injEq]at h;obtain⟨rfl,rfl⟩:=h;obtain⟨hfx,olds,q1,q2⟩:=u0 hx;have hol:olds.length=xs.length*E.size:=by rw[←q1.length,bP hfx]
         obtain⟨ad,c,rfl,hcy⟩:∃ad c,vy = .slice (some ad) ys.length c∧∀(j:Nat) u,news[j]?=some u→w.cell? (ad.add j)=some u:=by
          rcases g3 with ⟨h,_⟩|h
          ·subst h;simp at h0
          ·exact h
         have hf:∀x∈xs++ys,Fits E.size x:=fun x hx=>(List.mem_append.1 hx).elim (hfx x) (Lz x)
         have hll:=q1.append g1;rw[←vG]at hll
         have fin:∀(v':Value) (w':World),w'.ownsRow w.heap.size e E.size v' (xs.length+ys.length) (olds++news)→w.grownBy w' none →
             ∃gs' bz,Ext B w gs om w' gs' bz∧bm B w' S (o1++[.row E.size (xs++ys)]) gs' bz∧a8 w' S (Inner B w' bz) gs' (.hdr o1.length 0 (xs.length+ys.length)) v':=by
          intro v' w' ho hg;rcases ho.2 with ⟨rfl,hn0⟩|⟨b',c',cur,rfl,hB,hw',hnc,hcm,hcs,htake⟩
          ·omega
          ·obtain⟨ee,m⟩:=bm.sg g2 hg (by simp) (T:=e) (k:=E.size) (c:=c') (b':=b') (xs:=xs++ys) (cur:=cur) (N':=[]++G1) (.inr ⟨hB,(Array.getElem?_eq_some_iff.1 hw').1⟩) (by simp) (by simpa using g2.nodup) hw' hcs (by simpa using hnc) hf (by
             rw [List.length_append, htake]; exact hll)
           exact⟨_,_,ee,m,.hdr (g:=⟨some b',E.size,c'*E.size⟩) (b:=b') (o:=0) (c:=c') (cY _ _ g2.pj.len) rfl (by simp) (.inl (by simp)) hnc hcm⟩
         rcases q2 with ⟨rfl,a,c2,Df⟩|⟨NW,c2,Df,hcx⟩
         ·have:olds=[]:=List.length_eq_zero_iff.1 (by simpa using hol);subst this
          have Nd:vx = .slice none 0 0∨∃a,vx = .slice (some a) 0 0:=by
           cases hx with
           | gK=>exact .inl rfl
           | @dU _ a=>cases a with
            | none=>exact .inl rfl
            | some a=>exact .inr ⟨a,rfl⟩
           | cut=>exact .inr ⟨_,rfl⟩
          rcases Nd with rfl|⟨a,rfl⟩
          ·have hown0:=World.ownsRow_nil w w.heap.size e E.size;obtain⟨v',w',a1,a2,a3,_,_⟩:=run_append_own_at (P:=P) w w.heap.size t ty' e i z E.size E.bytes ht h1 h3 h4 h5 hzs hsz _ 0 [] hown0 ad ys.length c news hnl hcy hone (by simp[maxLen];omega) (by simpa using hb1) (Nat.le_refl _);obtain⟨gs',bz,b1,b2,b3⟩:=fin v' w' (by simpa using a2) a3;exact⟨v',w',gs',bz,a1,b1,b2,b3⟩
          ·obtain⟨v',w',a1,a2,a3⟩:=run_append_arg_grows (P:=P) w t ty' e i z E.size E.bytes ht h1 h3 h4 h5 hzs hsz a 0 0 [] (by simp) (by simp) ad ys.length c news hnl hcy (by omega) (by simp[maxLen];omega) (by simpa using hb1);obtain⟨gs',bz,b1,b2,b3⟩:=fin v' w' (by simpa using a2) a3;exact⟨v',w',gs',bz,a1,b1,b2,b3⟩
         ·have hc2:vx = .slice (some NW) xs.length xs.length:=by
           cases hx with
           | gK=>cases Df
           | dU=>simp at Df;simp[Df]
           | cut=>simp at Df;simp[Df]
          rw[hc2];obtain⟨v',w',a1,a2,a3⟩:=run_append_arg_grows (P:=P) w t ty' e i z E.size E.bytes ht h1 h3 h4 h5 hzs hsz NW xs.length xs.length olds hol hcx ad ys.length c news hnl hcy (by omega) (by simp[maxLen];omega) hb1;obtain⟨gs',bz,b1,b2,b3⟩:=fin v' w' a2 a3;exact⟨v',w',gs',bz,a1,b1,b2,b3⟩
        ·cases h
       ·split at h
        ·rename_i xs o2 hdst;split at h
         ·rename_i hc;simp only[Option.some.injEq,Prod.mk.injEq]at h;obtain⟨rfl,rfl⟩:=h;obtain⟨hfx,e',vals,F1,G2,q1,q2,q3,q4,q5,q6⟩:=Al g2.pj hx hdst;obtain⟨e'',v',w',a1,a2,a3,a4⟩:=sI (P:=P) (B:=B) (t:=t) (ty':=ty') ht h1 h3 h4 h5 hzs hsz q2 hnl hone hy' (by simp[maxLen];omega) hc.1 hM.hB;have hf:∀x∈xs++ys,Fits E.size x:=fun x hx=>(List.mem_append.1 hx).elim (hfx x) (Lz x)
          have hll:=q1.append g1;rw[←vG]at hll;have htk:=g2.trans q3;have x4:=htk.nodup
          obtain⟨gs',bz,b1,b2,b3⟩:=Ap (E:=E) htk hsz hf hll (by simpa using a2) a3 a4 (fun b hb=>⟨by simp[(q6 b hb).1],(q6 b hb).2⟩) (fun b hb=>by
              rcases List.mem_append.1 hb with hb | hb
              · exact ⟨by simp [(q4 b hb).1], (q4 b hb).2⟩
              · refine ⟨by simp [hb], fun e => ?_⟩
                have := (List.nodup_append.1 x4).2.2 b hb b (q6 b e).1
                exact this rfl) (by
              refine List.nodup_append.2 ⟨q5, (List.nodup_append.1 x4).1, fun a ha b hb e => ?_⟩
              subst e
              exact (List.nodup_append.1 x4).2.2 a hb a (q4 a ha).1 rfl)
          rw[List.length_append]at b3;exact⟨v',w',gs',bz,a1,b1,b2,b3⟩
         ·cases h
        ·cases h
      ·cases h
     ·cases h
   ·cases h
  ·cases h
 ·cases h
end
end Go.aN
