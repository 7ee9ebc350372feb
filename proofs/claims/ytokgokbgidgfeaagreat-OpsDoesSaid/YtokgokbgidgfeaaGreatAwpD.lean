/- Lemmas of a walk over abstract states: data, objects, operations, regions, loops, contracts; no condition but those that each lemma names. -/
import Derived.Test.YtokgokbgidgfeaaGreatAwpC
import Derived.RangeFuncRecord
import Derived.RangeFuncIn
import Derived.RangeFuncLeaves
set_option linter.all false
/- The walk over abstract states, in a round's frame and with marks among the deferred calls: ranges over functions. Lemmas alone. -/
namespace Go.aN
open Go.RowKit Go.Lib
def FI(ro:Option Nat):Fence := {Fence.wide with round:=ro}
def rS(ops:Array Oper):Bool:=ops.all fun o=>match o.op with | .defer _=>false|_=>true
def up(ds:List Deferred)(a:Act):Act := {a with defers:=a.defers++ds}
theorem mw(ds:List Deferred)(a:Act):(up ds a).eval=a.eval:=funext fun x=>by cases x<;>rfl
theorem qB(ds:List Deferred)(a:Act):(up ds a).tmps=a.tmps:=rfl
theorem iL(ds:List Deferred)(a:Act)(d:Option Tmp)(v:Value):(up ds a).put d v=up ds (a.put d v):=by cases d<;>rfl
section
variable {P:Program} {ops:Array Oper} {ro:Option Nat} {n:Nat} {ds:List Deferred}
theorem kF{f:FuncId}{args:Array Value}{w:World}{R:Ending→World→Prop}:CallsIn (FI ro) n P f args w R↔Calls P f args w R:=
 callsIn_wide (n:=n) (P:=P) (f:=f) (args:=args) (w:=w) (R:=R)
theorem t7{row:String}{args:Array Value}{w:World}{R:Value→World→Prop}(h:Rows P row args w R):RowsIn (FI ro) n P row args w R:=
 fun c cs _=>let ⟨v,w',r,s⟩:=h c cs;⟨v,w',r,stepsIn_wide.2 s⟩
def NU(ds:List Deferred)(Q:Exit→Act→World→Prop):Exit→Act→World→Prop:=fun e a w=>∃a0,a=up ds a0∧Q e a0 w
theorem C9(hd:rS ops=true){Q:Exit→Act→World→Prop}(hQ:¬LetsOut Q):∀(l:List Nat) (a:Act) (w:World),wpOps P ops Q l a w→wpOpsIn (FI ro) n P ops (NU ds Q) l (up ds a) w:=by
 intro l
 induction l with
 | nil=>exact fun a w h=>⟨a,rfl,h⟩
 | cons i rest ih=>
  intro a w h;simp only[wpOps]at h;simp only[wpOpsIn]
  cases ho:ops[i]? with
  | none=>simp only[ho]at h ⊢;exact ih a w h
  | some o=>
   have hnd:∀c,o.op ≠ .defer c:=by
    have:=(Array.all_eq_true'.1 hd) o (Array.mem_of_getElem? ho);intro c hc;rw[hc]at this;cases this
   simp only[ho]at h ⊢;rw[qB];split
   ·rename_i hw;rw[if_pos hw]at h;rcases h with h|⟨_,h⟩
    ·refine⟨fun _ _=>trivial,?_⟩;rw[show (FI ro).round=ro from rfl,Oper.semAt_eq _ _ _ hnd,mw];simp only[Oper.wp]at h;generalize (execOp a.eval o).run P w=r at h
     cases r with
     | ok x w'=>
      cases x with
      | value v=>simp only[Oper.upon,Oper.uponIn]at h ⊢;rw[iL];exact ih _ _ h
      | skip=>simp only[Oper.upon,Oper.uponIn]at h ⊢;rw[iL];exact ih _ _ h
      | «defer» d=>simp only[Oper.upon,Oper.uponIn]at h ⊢;exact(show ({up ds a with defers:=d::(up ds a).defers}.put o.dst undef)=up ds ({a with defers:=d::a.defers}.put o.dst undef) from by cases o.dst<;>rfl)▸ih _ _ h
      | enter f args=>
       simp only[Oper.upon,Oper.uponIn]at h ⊢;refine⟨fun q=>by simp[FI,Fence.wide]at q,kF.2 fun cs=>?_⟩;obtain⟨e,w'',fr,hR,hc⟩:=h cs;refine⟨e,w'',fr,?_,hc⟩
       cases e with
       | returned v=>show wpOpsIn _ _ _ _ _ _ _ _;rw[iL];exact ih _ _ hR
       | panicked ch=>exact⟨a,rfl,hR⟩
       | outgrown=>exact absurd hR hQ
      | row row args=>
       simp only[Oper.upon,Oper.uponIn]at h ⊢;exact⟨fun q=>by simp[FI,Fence.wide]at q,t7 (h.mono fun v w'' hR=>by rw[iL];exact ih _ _ hR)⟩
      | _=>exact h.elim
     | halt x w'=>
      cases x with
      | panic v=>exact⟨a,rfl,h⟩
      | _=>exact h.elim
    ·exact absurd h hQ
   ·rename_i hw;rw[if_neg hw]at h;refine⟨fun _ _=>trivial,?_⟩;rw[iL];exact ih _ _ h
end
abbrev Qd:=List Deferred→Qt
def WI(P:Program)(g:Gl)(B:Nat)(S:Nat→Prop)(n:Nat)(fl:Fl)(ro:Option Nat)(ds:List Deferred)(c:Code)(s:Nat→AV)(objs:List Obj)(Q:Qd):Prop:=
 ∀a w gs om,g.G w→g.N≤B→bm B w S objs gs om→eo n s a w S (Inner B w om) gs→fl.n≤objs.length →
  c.wpIn (FI ro) 0 P (fun e a' w'=>∃a0 ds',a'=up ds' a0∧Post B S n fl w gs om (Q ds') e a0 w') (up ds a) w
def Bo(P:Program)(g:Gl)(B:Nat)(S:Nat→Prop)(n:Nat)(fl:Fl)(ro:Option Nat)(c:Code)(Q:Qd):Qd:=fun ds e s objs=>match e with
 | .normal=>fl.n≤objs.length→WI P g B S n fl ro ds c s objs Q
 | e=>Q ds e s objs
def qD(id:Nat)(Q:Qd):Qd:=fun ds=>pB id (Q ds)
section
variable {P:Program} {g:Gl} {B:Nat} {S:Nat→Prop} {n:Nat} {fl:Fl} {ro:Option Nat} {ds:List Deferred} {s:Nat→AV} {objs:List Obj} {Q:Qd} {ops:Array Oper}
theorem kz(h:Q ds .normal s objs):WI P g B S n fl ro ds .skip s objs Q:=fun a w gs om h1 h2 h3 h4 h5=>wpIn_skip ⟨a,ds,rfl,s,objs,gs,om,h,h3,h4,(Ext.refl ..).take⟩
theorem y8{id}(h:Q ds (.exit id) s objs):WI P g B S n fl ro ds (.exit id) s objs Q:=fun a w gs om h1 h2 h3 h4 h5=>wpIn_exit ⟨a,ds,rfl,s,objs,gs,om,h,h3,h4,(Ext.refl ..).take⟩
theorem mO(h:Q ds .ret s objs):WI P g B S n fl ro ds .ret s objs Q:=fun a w gs om h1 h2 h3 h4 h5=>wpIn_ret ⟨a,ds,rfl,s,objs,gs,om,h,h3,h4,(Ext.refl ..).take⟩
theorem cd{c d}(h:WI P g B S n fl ro ds c s objs (Bo P g B S n fl ro d Q)):WI P g B S n fl ro ds (.seq c d) s objs Q:=fun a w gs om h1 h2 h3 h4 h5=>
 wpIn_seq (wpIn_mono (h a w gs om h1 h2 h3 h4 h5) fun e a' w1 ⟨a0,ds',e1,s',o',g',m',q,r1,r2,x⟩=>by
   subst e1
   have hl : fl.n ≤ gs.length := by rw [h3.len]; exact h5
   have hl' : fl.n ≤ o'.length := by rw [← r1.len]; exact x.len hl
   cases e with
   | normal =>
     refine wpIn_mono (q hl' a0 w1 g' m' (gU h1 h2 x.below) h2 r1 r2 hl') ?_
     rintro e2 a2 w2 ⟨a3, ds3, e3, hp⟩
     exact ⟨a3, ds3, e3, hp.trans x hl⟩
   | _ => exact ⟨a0, ds', rfl, s', o', g', m', q, r1, r2, x⟩)
theorem fM{id c}(h:WI P g B S n fl ro ds c s objs (qD id Q)):WI P g B S n fl ro ds (.block id c) s objs Q:=fun a w gs om h1 h2 h3 h4 h5=>
 wpIn_block (wpIn_mono (h a w gs om h1 h2 h3 h4 h5) fun e a' w1 ⟨a0,ds',e1,s',o',g',m',q,r1,r2,x⟩=>by
   subst e1
   cases e with
   | exit j =>
     simp only [qD, pB] at q
     simp only [Exit.inBlock]
     split
     · rename_i hj; rw [if_pos hj] at q; exact ⟨a0, ds', rfl, s', o', g', m', q, r1, r2, x⟩
     · rename_i hj; rw [if_neg hj] at q; exact ⟨a0, ds', rfl, s', o', g', m', q, r1, r2, x⟩
   | _ => exact ⟨a0, ds', rfl, s', o', g', m', q, r1, r2, x⟩)
theorem fY{c:Operand}{x y:Code}{t:Bool}(hc:bu s c = .d (.v (.bool t)))(h1:t=true→WI P g B S n fl ro ds x s objs Q)(h2:t=false→WI P g B S n fl ro ds y s objs Q):WI P g B S n fl ro ds (.cond c x y) s objs Q:=by
 intro a w gs om g1 g2 g3 g4 g5;have hr:=eB g4 c;rw[hc]at hr;exact wpIn_cond_split (by rw[mw];exact cj hr) (fun ht=>h1 ht a w gs om g1 g2 g3 g4 g5) (fun ht=>h2 ht a w gs om g1 g2 g3 g4 g5)
theorem kA{c s2 aZ}(hw:Weak B S n fl s objs s2 aZ)(h:WI P g B S n fl ro ds c s2 aZ Q):WI P g B S n fl ro ds c s objs Q:=fun a w gs om h1 h2 h3 h4 h5=>by
 obtain⟨gs2,lB,m,f,x⟩:=hw w a gs om h3 h4 h5;have hl:fl.n≤gs.length:=by rw[h3.len];exact h5
 exact wpIn_mono (h a w gs2 lB h1 h2 m f (by rw[←m.len];exact x.len hl)) fun e a w' ⟨a0,ds',e1,hp⟩=>⟨a0,ds',e1,hp.trans x hl⟩
theorem Aa{id l}(hd:rS ops=true)(hl:List.range ops.size=l){s' o'}(h:WR P g B S n fl ops l s objs (fun e s2 o2=>e = .normal∧s2=s'∧o2=o')){L}(hL:∀j,slots L j = .dead∨slots L j=s' j)(hQ:Q ds .normal (slots L) o') :
    WI P g B S n fl ro ds (.region id ops false) s objs Q:=fun a w gs om h1 h2 h3 h4 h5=>
 wpIn_mono (wpIn_region (Q:=NU ds (Post B S n fl w gs om (fun e s2 o2=>e = .normal∧s2=s'∧o2=o'))) (by
   rw [hl]
   exact C9 (ro := ro) (n := 0) (ds := ds) hd (by rintro ⟨a0, w0, s2, o2, g2, m2, q, _⟩; cases q.1) l a w (h a w gs om h1 h2 h3 h4 h5)))
  (by
    rintro e a' w' ⟨a0, e1, s2, o2, g2, m2, ⟨rfl, rfl, rfl⟩, m, f, x⟩
    exact ⟨a0, ds, e1, slots L, o2, g2, m2, hQ, m, f.less hL, x⟩)
theorem cB{id l}(hl:Got (List.range ops.size) l)(h:Run P g n ops l l s allT objs (Ends (Q ds)))(hd:rS ops=true:=by decide):WI P g B S n fl ro ds (.region id ops false) s objs Q:=by
 obtain⟨s',c',o',t,L,h1,h2⟩:=h;rw[cA]at t;refine Aa hd hl (s':=told s' c') (o':=o') ?_ h1 h2;have:=la (B:=B) (S:=S) (fl:=fl) (l2:=[]) (Q:=fun e s2 o2=>e = .normal∧s2=told s' c'∧o2=o') (nW hl) t (ja ⟨rfl,rfl,rfl⟩)
 rwa [List.append_nil]at this
end
end Go.aN
/- Ranges over functions: the record and the block among the objects. Lemmas alone. -/
namespace Go.aN
open Go.RowKit Go.Lib
section
variable {P:Program} {g:Gl} {B:Nat} {S:Nat→Prop} {n:Nat} {fl:Fl} {ro:Option Nat} {ds:List Deferred} {w:World} {gs:List G1} {om:Nat→Option (Nat×Bool)} {s:Nat→AV} {objs:List Obj} {Q:Qd} {ops:Array Oper}
theorem bm.Lb(hM:bm B w S objs gs om){r b:Nat}{x:Go.Obj}{o':Obj}(hB:B≤b)(hlt:b<w.heap.size)(ho:om b=some (r,true))
    (hn:Ext B w gs om (w.putObj b x) gs om→eA B (w.putObj b x) S gs om r o'):Ext B w gs om (w.putObj b x) gs om∧bm B (w.putObj b x) S (objs.set r o') gs om:=by
 have other:∀k,k≠b→(w.putObj b x).heap[k]?=w.heap[k]?:=fun k hk=>World.putObj_heap_other hk
 have e:Ext B w gs om (w.putObj b x) gs om:=⟨List.prefix_rfl,⟨rfl,rfl,rfl,by simp,fun k hk=>other k (by omega)⟩,fun k hk=>⟨⟨hk.1,by simpa using hk.2.1,hk.2.2⟩,other k (fun e=>hk.2.2 r (by rw[e];exact ho))⟩⟩;refine⟨e,hM.step e (by simp[hM.len]) fun r' o ho'=>?_⟩;rcases eg ho' with ⟨rfl,rfl⟩|⟨hne,h'⟩
 ·exact .inr (hn e)
 ·refine .inl ⟨h',fun k c hk _=>⟨hk,other k (fun e=>?_)⟩⟩;subst e;rw[ho]at hk;simp at hk;exact hne hk.1.symm
theorem bm.zJ(hM:bm B w S objs gs om){r l c L st p}(hr:objs[r]?=some (.lp l c L st p)) :
    ∃tmps dk,w.heap[l]?=some (.loop {state:=st,pending:=p,fn:=c.fn,tmps:=tmps,params:=c.params,assign:=c.assign,body:=c.body,defers:=dk})∧tmps.size=c.n ∧
     (∀q∈L,a8 w S (Inner B w om) gs q.2 (tmps.getD q.1 undef)) ∧
     ∀st' p',let w':=w.putObj l (.loop {state:=st',pending:=p',fn:=c.fn,tmps:=tmps,params:=c.params,assign:=c.assign,body:=c.body,defers:=dk})
      Ext B w gs om w' gs om∧bm B w' S (objs.set r (.lp l c L st' p')) gs om:=by
 cases hM.obj r _ hr with
 | @lp _ _ _ _ _ g' tmps dk hg hb hB ho hw hs hv=>
  refine⟨tmps,dk,hw,hs,hv,fun st' p'=>?_⟩;have hlt:l<w.heap.size:=(Array.getElem?_eq_some_iff.1 hw).1;exact hM.Lb hB hlt ho fun e=>.lp hg hb hB ho (World.putObj_heap_same hlt) hs (fun q hq=>hM.iD e (hv q hq))
theorem bm.shut(hM:bm B w S objs gs om){r b}(hr:objs[r]?=some (.blk b)) :
    (Instr.takeDeferred b).run P w = .ok [] (w.putObj b (.deferred none))∧Ext B w gs om (w.putObj b (.deferred none)) gs om∧bm B (w.putObj b (.deferred none)) S (objs.set r .dead) gs om:=by
 cases hM.obj r _ hr with
 | blk hg hb hB ho hw=>
  have hlt:b<w.heap.size:=(Array.getElem?_eq_some_iff.1 hw).1;exact⟨run_takeDeferred hw,hM.Lb hB hlt ho fun e=>.dead⟩
theorem bm.DF(hM:bm B w S objs gs om){a:Act}(hF:eo n s a w S (Inner B w om) gs){fn ps assign body}{L:List (Nat×AV)}(hL:∀p∈L,p.2=s p.1) :
    ∃w' gs' bz,(Instr.enterLoop fn a.tmps ps assign body none).run P w = .ok (w.heap.size+1,[{target:=.collected w.heap.size,args := #[]}]) w'∧Ext B w gs om w' gs' bz ∧
     bm B w' S (objs++[.blk w.heap.size,.lp (w.heap.size+1) ⟨fn,n,ps,assign,body⟩ L .ready none]) gs' bz:=by
 have hb:=eH w (Go.Obj.deferred (some []))
 obtain⟨e1,m1⟩:=hM.push (w':=w.alloc (.deferred (some []))) (g:=⟨some w.heap.size,0,0⟩) (o:=.blk w.heap.size) (bz:=mark om [w.heap.size] (objs.length,true)) hb eS
  (.blk (cY _ _ hM.len) rfl hM.hB (da (by simp)) (heap_alloc_new _ _))
 have hsz:(w.alloc (.deferred (some []))).heap.size=w.heap.size+1:=World.size_alloc ..;obtain⟨x,hx⟩:∃x:Go.Obj,x = .loop {state:=.ready,pending:=none,fn,tmps:=a.tmps,params:=ps,assign,body,defers:=w.heap.size}:=⟨_,rfl⟩;have hb2:=eH (w.alloc (.deferred (some []))) x
 obtain⟨e2,m2⟩:=m1.push (w':=(w.alloc (.deferred (some []))).alloc x) (g:=⟨some (w.heap.size+1),0,0⟩) (o:=.lp (w.heap.size+1) ⟨fn,n,ps,assign,body⟩ L .ready none)
  (bz:=mark (mark om [w.heap.size] (objs.length,true)) [(w.alloc (.deferred (some []))).heap.size] ((objs++[Obj.blk w.heap.size]).length,true)) hb2 eS
  (by
    have e3 : Ext B (w.alloc (.deferred (some []))) (gs ++ [⟨some w.heap.size, 0, 0⟩]) (mark om [w.heap.size] (objs.length, true)) ((w.alloc (.deferred (some []))).alloc x) (gs ++ [⟨some w.heap.size, 0, 0⟩] ++ [⟨some (w.heap.size + 1), 0, 0⟩]) (mark (mark om [w.heap.size] (objs.length, true)) [(w.alloc (.deferred (some []))).heap.size] ((objs ++ [Obj.blk w.heap.size]).length, true)) :=
      .grow (List.prefix_append _ _) hb2 m1.hB eS
    refine .lp (dk := w.heap.size) (tmps := a.tmps) (cY _ _ m1.len) rfl ?_ (da (by simp [hsz])) ?_ hF.size fun p hp => ?_
    · have := hM.hB; omega
    · have := heap_alloc_new (w.alloc (.deferred (some []))) x
      rw [hsz] at this; rw [this, hx]
    · rw [hL p hp]; exact m1.iD e3 (hM.iD e1 (hF.rel p.1)))
 rw[List.append_assoc]at m2;refine⟨_,_,_,?_,e1.trans e2,m2⟩;rw[run_enterLoop_outer,hx]
end
end Go.aN
/- Ranges over functions: loops in a round's frame, a function's end with marks. Lemmas alone. -/
namespace Go.aN
open Go.RowKit Go.Lib
theorem tm{F:Fence}{n:Nat}{P:Program}{c:Code}{Q:Exit→Act→World→Prop}{a:Act}{w:World}(I:Nat→Act→World→Prop)(m0:Nat)(h₀:I m0 a w)
    (round:∀m a w,I m a w→c.wpIn F n P (Exit.then (fun a' w'=>∃m',m'<m∧I m' a' w') Q) a w):(Code.loop c).wpIn F n P Q a w:=by
 intro b k cs hro hb hr
 have key:∀m a w,I m a w→∃e a' w',Q e a' w'∧ArrivesIn (Machine.fenced P F) P (lone (b.atR a (.code c :: .inLoop c::k)) cs w) b k cs e a' w':=by
  intro m
  induction m using Nat.strongRecOn with
  | _ m ih=>
   intro a w hI;obtain⟨e,a₁,w₁,hq,harr⟩:=round m a w hI b (.inLoop c::k) cs hro hb hr
   cases e with
   | normal=>
    obtain⟨m',hlt,hI₁⟩:=hq;obtain⟨e₂,a₂,w₂,hq₂,harr₂⟩:=ih m' hlt a₁ w₁ hI₁;exact⟨e₂,a₂,w₂,hq₂,.of_steps (StepsIn.trans harr (.one (fenced_calm hb hr rfl) stepR_inLoop)) harr₂⟩
   | exit id=>exact⟨_,a₁,w₁,hq,.pass (x:=.inLoop c) rfl (fun _ _=>.inl (by simp)) harr⟩
   | goto l=>exact⟨_,a₁,w₁,hq,.pass (x:=.inLoop c) rfl (fun _ _=>.inl (by simp)) harr⟩
   | ret=>exact⟨_,a₁,w₁,hq,.pass (x:=.inLoop c) rfl (fun _ _=>.inl (by simp)) harr⟩
   | panic ch=>exact⟨_,a₁,w₁,hq,.pass (x:=.inLoop c) rfl (fun _ _=>.inl (by simp)) harr⟩
   | outgrown=>exact⟨_,a₁,w₁,hq,.pass (x:=.inLoop c) rfl (fun _ _=>.inl (by simp)) harr⟩
 obtain⟨e,a',w',hq,harr⟩:=key _ a w h₀;exact⟨e,a',w',hq,.of_steps (.one (fenced_calm hb hr rfl) stepR_loop) harr⟩
def qo(B:Nat)(S:Nat→Prop)(n:Nat)(fl:Fl)(ds:List Deferred)(I:Nat→(Nat→AV)→List Obj→Prop)(m:Nat)(Q:Qd):Qd:=fun ds' e s' o'=>match e with
 | .normal=>ds'=ds∧∃m',m'<m∧∃s2 o2,Weak B S n fl s' o' s2 o2∧I m' s2 o2
 | e=>Q ds' e s' o'
inductive Shut:List Deferred→List Obj→List Obj→Prop
 | nil {o}:Shut [] o o
 | cons {b a ds o o2 r} (hr:o[r]?=some (.blk b)) (t:Shut ds (o.set r .dead) o2):Shut ({target:=.collected b,args:=a}::ds) o o2
def uh(P:Program)(fn:Func)(fl:Nat)(K:AV→List Obj→Prop):Qd:=fun ds e s objs=>match e with
 | .normal | .ret=>∃aZ,Shut ds objs aZ∧∃as m,eU P s aZ fn.results.toList=some as∧fl≤m∧(gT as).lt m=true∧bE m (aZ.take m)=true∧K (gT as) (aZ.take m)
 | _=>False
section
variable {P:Program} {g:Gl} {B:Nat} {S:Nat→Prop} {n:Nat} {fl:Fl} {ro:Option Nat} {ds:List Deferred} {w:World} {gs:List G1} {om:Nat→Option (Nat×Bool)} {s:Nat→AV} {objs:List Obj} {Q:Qd} {ops:Array Oper}
theorem tn{c}(I:Nat→(Nat→AV)→List Obj→Prop)(m0:Nat){s0 mG}(hw:Weak B S n fl s objs s0 mG)(h0:I m0 s0 mG)
    (round:∀m s objs,I m s objs→fl.n≤objs.length→WI P g B S n fl ro ds c s objs (qo B S n fl ds I m Q)):WI P g B S n fl ro ds (.loop c) s objs Q:=by
 refine kA hw fun a w gs om h1 h2 h3 h4 h5=>?_
 have hl:fl.n≤gs.length:=by rw[h3.len];exact h5
 refine tm (fun m a' w'=>∃a0 s' o' gs' bz,a'=up ds a0∧I m s' o'∧bm B w' S o' gs' bz∧eo n s' a0 w' S (Inner B w' bz) gs'∧iO fl B w gs om w' gs' bz) m0 ⟨a,s0,mG,gs,om,rfl,h0,h3,h4,(Ext.refl ..).take⟩ ?_;rintro m a' w' ⟨a0,s',o',gs',bz,rfl,hI,m1,f1,x1⟩;have hl1:fl.n≤o'.length:=by rw[←m1.len];exact x1.len hl
 refine wpIn_mono (round m s' o' hI hl1 a0 w' gs' bz (gU h1 h2 x1.below) h2 m1 f1 hl1) fun e a2 w2 h=>?_
 obtain⟨a3,ds3,rfl,hp⟩:=h;have hp:=hp.trans x1 hl;obtain⟨s2,o2,gs2,lB,q,m2,f2,x2⟩:=hp
 cases e with
 | normal=>
  obtain⟨rfl,m',hlt,s3,o3,hw3,MT⟩:=q;obtain⟨MB,Nw,m3,f3,x3⟩:=hw3 w2 a3 gs2 lB m2 f2 (by rw[←m2.len];exact x2.len hl);exact⟨m',hlt,a3,s3,o3,MB,Nw,rfl,MT,m3,f3,x2.dM x3 hl⟩
 | _=>exact⟨a3,ds3,rfl,s2,o2,gs2,lB,q,m2,f2,x2⟩
theorem uo{kp:Bool}{fn code f as K}(hf:P.funcs[f]?=some fn)(hb:fn.body=some code)(hn:as.length≤fn.ntmps)
    (h:∀B S,WI P g B S fn.ntmps ⟨objs.length,kp⟩ none [] code (nD as) objs (uh P fn objs.length K)):∀B S,a7 P g B S ⟨objs.length,kp⟩ f as objs K:=by
 intro B S vs w gs om h1 h2 h3 h4 h5;refine(kF (ro:=none) (n:=0)).1 (callsIn_of_wp_marks (F:=FI none) hf hb trivial (wpIn_mono (h B S _ w gs om h1 h2 h3 (.init h4 hn) (Nat.le_refl _)) ?_));rintro e a' w' ⟨a0,ds',rfl,s',o',g',m',q,M,F,X⟩;have hup:(up ds' a0).defers=ds':=by simp[up,F.defers]
 have hgl:objs.length≤gs.length:=by rw[h3.len];exact Nat.le_refl _
 have key:∀ds' o' o2,Shut ds' o' o2→∀w',bm B w' S o' g' m'→eo fn.ntmps s' a0 w' S (Inner B w' m') g'→iO ⟨objs.length,kp⟩ B w gs om w' g' m' →
     (∃as m,eU P s' o2 fn.results.toList=some as∧objs.length≤m∧(gT as).lt m=true∧bE m (o2.take m)=true∧K (gT as) (o2.take m)) →
     LeavesInM (FI none) 0 P fn a0.tmps (fun e w'=>∃v av aj gs' bz,e = .returned v∧K av aj∧bm B w' S aj gs' bz∧a8 w' S (Inner B w' bz) gs' av v∧iO ⟨objs.length,kp⟩ B w gs om w' gs' bz) ds' .returning w':=by
  intro ds' o' o2 hS
  induction hS with
  | nil=>
   rintro w' M F X ⟨as',m,hr,hm,e1,e2,hK⟩;obtain⟨v,r1,r2⟩:=jP M F hr;exact⟨v,r1,v,_,_,g'.take m,m',rfl,hK,M.take e2,a8.take r2 e1,X.dM (.yV hm) hgl⟩
  | cons hr t ih=>
   rintro w' M F X hE;obtain⟨k1,k2,k3⟩:=M.shut (P:=P) hr;exact⟨by simp,.inl ⟨_,_,rfl,k1,ih _ k3 ⟨F.size,F.defers,fun i=>M.iD k2 (F.rel i)⟩ (X.dM k2.dm hgl) hE⟩⟩
 cases e with
 | normal=>obtain⟨o2,hS,hE⟩:=q;show LeavesInM _ _ _ _ _ _ _ _ _;rw[hup];exact key _ _ _ hS _ M F X hE
 | ret=>obtain⟨o2,hS,hE⟩:=q;show LeavesInM _ _ _ _ _ _ _ _ _;rw[hup];exact key _ _ _ hS _ M F X hE
 | _=>exact q.elim
end
end Go.aN
/- Ranges over functions: the call of yield, the statement. Lemmas alone. -/
namespace Go.aN
open Go.RowKit Go.Lib
section
variable {P:Program} {g:Gl} {B:Nat} {S:Nat→Prop} {n:Nat} {fl:Fl} {ro:Option Nat} {ds:List Deferred} {w:World} {gs:List G1} {om:Nat→Option (Nat×Bool)} {s:Nat→AV} {objs:List Obj} {Q:Qd} {ops:Array Oper}
theorem nA(hd:rS ops=true){Q K:Exit→Act→World→Prop}(hQ:¬LetsOut Q)(hP:∀ch a0 w,Q (.panic ch) a0 w→K (.panic ch) (up ds a0) w)(l2:List Nat)(hk:∀a0 w,Q .normal a0 w→wpOpsIn (FI ro) n P ops K l2 (up ds a0) w) :
    ∀(l:List Nat) (a:Act) (w:World),wpOps P ops Q l a w→wpOpsIn (FI ro) n P ops K (l++l2) (up ds a) w:=by
 intro l
 induction l with
 | nil=>exact fun a w h=>hk a w h
 | cons i rest ih=>
  intro a w h;simp only[wpOps]at h;simp only[List.cons_append,wpOpsIn]
  cases ho:ops[i]? with
  | none=>simp only[ho]at h ⊢;exact ih a w h
  | some o=>
   have hnd:∀c,o.op ≠ .defer c:=by
    have:=(Array.all_eq_true'.1 hd) o (Array.mem_of_getElem? ho);intro c hc;rw[hc]at this;cases this
   simp only[ho]at h ⊢;rw[qB];split
   ·rename_i hw;rw[if_pos hw]at h;rcases h with h|⟨_,h⟩
    ·refine⟨fun _ _=>trivial,?_⟩;rw[show (FI ro).round=ro from rfl,Oper.semAt_eq _ _ _ hnd,mw];simp only[Oper.wp]at h;generalize (execOp a.eval o).run P w=r at h
     cases r with
     | ok x w'=>
      cases x with
      | value v=>simp only[Oper.upon,Oper.uponIn]at h ⊢;rw[iL];exact ih _ _ h
      | skip=>simp only[Oper.upon,Oper.uponIn]at h ⊢;rw[iL];exact ih _ _ h
      | «defer» d=>simp only[Oper.upon,Oper.uponIn]at h ⊢;exact(show ({up ds a with defers:=d::(up ds a).defers}.put o.dst undef)=up ds ({a with defers:=d::a.defers}.put o.dst undef) from by cases o.dst<;>rfl)▸ih _ _ h
      | enter f args=>
       simp only[Oper.upon,Oper.uponIn]at h ⊢;refine⟨fun q=>by simp[FI,Fence.wide]at q,kF.2 fun cs=>?_⟩;obtain⟨e,w'',fr,hR,hc⟩:=h cs;refine⟨e,w'',fr,?_,hc⟩
       cases e with
       | returned v=>show wpOpsIn _ _ _ _ _ _ _ _;rw[iL];exact ih _ _ hR
       | panicked ch=>exact hP _ _ _ hR
       | outgrown=>exact absurd hR hQ
      | row row args=>
       simp only[Oper.upon,Oper.uponIn]at h ⊢;exact⟨fun q=>by simp[FI,Fence.wide]at q,t7 (h.mono fun v w'' hR=>by rw[iL];exact ih _ _ hR)⟩
      | _=>exact h.elim
     | halt x w'=>
      cases x with
      | panic v=>exact hP _ _ _ h
      | _=>exact h.elim
    ·exact absurd h hQ
   ·rename_i hw;rw[if_neg hw]at h;refine⟨fun _ _=>trivial,?_⟩;rw[iL];exact ih _ _ h
def uV(ps:List Tmp)(as:List AV)(s:Nat→AV):Nat→AV:=(ps.zip as).foldl (fun s p=>upd s p.1 p.2) s
theorem sr{N:Nat→Prop}:∀ {ps:List Tmp} {as:List AV} {vs:List Value} {s:Nat→AV} {T:Array Value},(∀p∈ps,p<n)→aQ w S N gs as vs→eo n s {tmps:=T,defers:=[]} w S N gs →
    eo n (uV ps as s) {tmps:=(ps.zip vs).foldl (fun t p=>t.setIfInBounds p.1 p.2) T,defers:=[]} w S N gs
 | [],_,_,_,_,_,_,h=>by simpa [uV]using h
 | p::ps,_,_,_,_,_,.nil,h=>by simpa [uV]using h
 | p::ps,_,_,s,T,hp,.cons (a:=a) (v:=v) hv t,h=>by
  have:=eo.put (d:=some p) h hv (s':=upd s p a) (by simp[fU,hp p (by simp)]);exact sr (ps:=ps) (fun q hq=>hp q (by simp[hq])) t this
def ky(P:Program)(g:Gl)(B:Nat)(S:Nat→Prop)(lb r:Nat)(c:vc)(L:List (Nat×AV))(as:List AV)(objs:List Obj)(J:Bool→List Obj→Prop):Prop:=
 WI P g B S c.n ⟨objs.length,true⟩ (some lb) [] c.assign (uV c.params.toList as (slots L)) objs (fun ds e s o=>e = .normal∧ds=[]∧o[r]?=some (.lp lb c L .ready none) ∧
   (objs.length ≤ o.length → WI P g B S c.n ⟨objs.length, true⟩ (some lb) [] c.body s (o.set r (.lp lb c L .busy none)) (fun _ e _ o => o[r]? = some (.lp lb c L .busy none) ∧ match e with
     | .normal => J true (o.set r (.lp lb c L .ready none))
     | .ret => J false (o.set r (.lp lb c L .done (some .ret)))
     | .exit id => J false (o.set r (.lp lb c L .done (some (.exit id))))
     | _ => False)))
theorem A5{N:Nat→Prop}{L:List (Nat×AV)}{T:Array Value}(h:∀q∈L,a8 w S N gs q.2 (T.getD q.1 undef))(i:Nat):a8 w S N gs (slots L i) (T.getD i undef):=by
 induction L with
 | nil=>exact .dead
 | cons p L ih=>
  obtain⟨j,v⟩:=p;simp only[slots];split
  ·rename_i e;subst e;exact h (i,v) (by simp)
  ·exact ih fun q hq=>h q (by simp[hq])
theorem pZ(hG:g.G w)(hN:g.N≤B)(hM:bm B w S objs gs om){lb r c L as vs J}{R:Ending→World→Prop}(hr:objs[r]?=some (.lp lb c L .ready none))(hv:aQ w S (Inner B w om) gs as vs)(hp:c.params.size=as.length)(hpn:∀p∈c.params.toList,p<c.n)
    (h:ky P g B S lb r c L as objs J)
    (hR:∀b w' o gs' bz,J b o→bm B w' S o gs' bz→iO ⟨objs.length,true⟩ B w gs om w' gs' bz→R (.returned (.bool b)) w') :
    ∃f tmps,(Instr.yield lb vs.toArray).run P w = .ok (.round lb f tmps c.assign c.body) w∧RoundIn (FI ro) 0 P lb f tmps c.assign c.body w R:=by
 obtain⟨T,dk,hw,hs,hq,hset⟩:=hM.zJ hr;have hlv:as.length=vs.length:=hv.length;refine⟨c.fn,_,run_yield hw (by simp[hp,hlv]),roundIn_of_wpIn trivial ?_⟩;have Pc:eo c.n (slots L) {tmps:=T,defers:=[]} w S (Inner B w om) gs:=⟨hs,rfl,A5 hq⟩;have hF:=sr (ps:=c.params.toList) hpn hv Pc;have hgl:objs.length≤gs.length:=by rw[hM.len];exact Nat.le_refl _
 have e0:((c.params.zip vs.toArray).foldl (fun tmps (x:Tmp×Value)=>tmps.setIfInBounds x.1 x.2) T)=(c.params.toList.zip vs).foldl (fun t p=>t.setIfInBounds p.1 p.2) T:=by
  rw[←Array.foldl_toList];simp
 have h1:=h _ w gs om hG hN hM hF (Nat.le_refl _);rw[show (up [] ({tmps:=(c.params.toList.zip vs).foldl (fun t p=>t.setIfInBounds p.1 p.2) T,defers:=[]}:Act)) = {tmps:=(c.params.toList.zip vs).foldl (fun t p=>t.setIfInBounds p.1 p.2) T,defers:=[]} from rfl,←e0]at h1;refine wpIn_mono h1 ?_;rintro e a' w1 ⟨a0,ds',rfl,s',o',g',m',⟨rfl,rfl,hro,hbody⟩,M,F,X⟩;obtain⟨T1,dk1,hw1,hs1,hq1,Ku⟩:=M.zJ hro;have hlo:objs.length≤o'.length:=by rw[←M.len];exact X.len hgl
 refine⟨_,run_beginRound hw1 rfl,?_⟩;obtain⟨e1,m1⟩:=Ku .busy none;have X1:=X.dM (e1.dm (fl:=⟨objs.length,true⟩)) hgl;refine wpIn_mono (hbody hlo a0 _ g' m' (gU hG hN X1.below) hN m1 ⟨F.size,F.defers,fun i=>M.iD e1 (F.rel i)⟩ (by simpa using hlo)) ?_;rintro e a2 w2 ⟨a3,ds3,rfl,s3,o3,g3,m3,⟨hr3,hJ⟩,M3,F3,X3⟩;obtain⟨T3,dk3,hw3,hs3,hq3,B5⟩:=M3.zJ hr3;have X4:=X1.dM X3 hgl
 cases e with
 | normal=>
  obtain⟨e4,m4⟩:=B5 .ready none;exact⟨_,_,run_endRound none hw3,hR true _ _ _ _ hJ m4 (X4.dM e4.dm hgl)⟩
 | ret=>
  obtain⟨e4,m4⟩:=B5 .done (some .ret);exact⟨_,_,run_endRound (some .ret) hw3,hR false _ _ _ _ hJ m4 (X4.dM e4.dm hgl)⟩
 | exit id=>
  obtain⟨e4,m4⟩:=B5 .done (some (.exit id));exact⟨_,_,run_endRound (some (.exit id)) hw3,hR false _ _ _ _ hJ m4 (X4.dM e4.dm hgl)⟩
 | _=>exact hJ.elim
end
end Go.aN
/- Ranges over functions: a region with a call of yield; the statement. Lemmas alone. -/
namespace Go.aN
open Go.RowKit Go.Lib
section
variable {P:Program} {g:Gl} {B:Nat} {S:Nat→Prop} {n:Nat} {fl:Fl} {ro:Option Nat} {ds:List Deferred} {w:World} {gs:List G1} {om:Nat→Option (Nat×Bool)} {s:Nat→AV} {c:Nat→Bool} {objs:List Obj} {Q:Qd} {ops:Array Oper}
theorem ug{ρ:Operand→AV}{ε:Operand→Value}{N:Nat→Prop}(hr:∀x,a8 w S N gs (ρ x) (ε x)){o:Oper}{cl:Call}(ho:o.op = .call cl){x lb}(hc:cl.callee = .value x)(hx:ρ x = .fn (.yield lb) [] []) :
    (execOp ε o).run P w=(Instr.yield lb (cl.args.toList.map ε).toArray).run P w:=by
 have hf:=hr x;rw[hx]at hf;generalize hv:ε x=v at hf
 cases hf with
 | fn h1 h2=>
  cases h1;cases h2;obtain⟨callee,args,argTypes⟩:=cl;simp only at hc;subst hc;simp only[execOp,ho,resolve,hv,Deferred.ofValue,Sem.run_bind,Sem.run_pure,Result.andThen_ok,invoke];congr 2;apply Array.ext';simp
def IB(P:Program)(g:Gl)(n:Nat)(ops:Array Oper)(i:Nat)(l2:List Nat)(K:(Nat→AV)→(Nat→Bool)→List Obj→Prop):(Nat→AV)→(Nat→Bool)→List Obj→Prop:=fun s1 c1 o1=>
 ∃(o:Oper) (cl:Call) (x:Operand) (as:List AV) (lb r:Nat) (c:vc) (L:List (Nat×AV)) (J:Bool→List Obj→Prop),ops[i]?=some o∧o.guard=none∧cP n o.dst=true∧o.op = .call cl∧cl.callee = .value x ∧
  bu (told s1 c1) x = .fn (.yield lb) [] []∧cl.args.toList.map (bu (told s1 c1))=as∧o1[r]?=some (.lp lb c L .ready none)∧c.params.size=as.length∧(∀p∈c.params.toList,p<c.n) ∧
  (∀B S,ky P g B S lb r c L as o1 J)∧∀b o2,J b o2→Run P g n ops (List.range ops.size) l2 (put s1 o.dst (.d (.v (.bool b)))) (ju c1 o.dst true) o2 K
theorem Dk{id}(l1:List Nat)(i:Nat)(l2:List Nat)(hl:Got (List.range ops.size) (l1++i::l2))(h:Run P g n ops (List.range ops.size) l1 s allT objs (IB P g n ops i l2 (Ends (Q ds))))(hd:rS ops=true:=by decide) :
    WI P g B S n fl ro ds (.region id ops false) s objs Q:=fun a w gs om h1 h2 h3 h4 h5=>by
 have hl:List.range ops.size=l1++i::l2:=hl;have hgl:fl.n≤gs.length:=by rw[h3.len];exact h5
 obtain⟨s',c',o',t,o,cl,x,as,lb,r,c,L,J,ho,hg,hdst,hop,uD,hx,has,hr,hps,hpn,hrnd,hnext⟩:=h;rw[cA]at t;have hnd:∀c,o.op ≠ .defer c:=fun c hc=>by rw[hop]at hc;cases hc
 have hko:gW fl ops (List.range ops.size):=fun _ i hi=>by simpa using hi
 have w1:=la (B:=B) (S:=S) (fl:=fl) (l2:=[]) (Q:=fun e s2 o2=>e = .normal∧s2=told s' c'∧o2=o') hko t (ja ⟨rfl,rfl,rfl⟩);rw[List.append_nil]at w1;refine wpIn_region ?_;rw[hl];refine nA (n:=0) (ds:=ds) hd (Q:=Post B S n fl w gs om (fun e s2 o2=>e = .normal∧s2=told s' c'∧o2=o')) (by rintro⟨_,_,_,_,_,_,q,_⟩;cases q.1) (by rintro ch a0 w0 ⟨_,_,_,_,q,_⟩;cases q.1) (i::l2) ?_ l1 a w (w1 a w gs om h1 h2 h3 h4 h5);rintro a0 w0 ⟨s2,o2,g2,m2,⟨-,rfl,rfl⟩,M,F,X⟩;simp only[wpOpsIn,ho];rw[qB,if_pos (jf F (by simp[gA,hg]))];refine⟨fun _ _=>trivial,?_⟩;rw[show (FI ro).round=ro from rfl,Oper.semAt_eq _ _ _ hnd,mw,ug (eB F) hop uD hx];have hvs:aQ w0 S (Inner B w0 m2) g2 as (cl.args.toList.map a0.eval):=by rw[←has];exact aQ.of (eB F)
 have hG0:=gU h1 h2 X.below;have hl0:fl.n≤g2.length:=X.len hgl
 obtain⟨f,T,hy,iK⟩:=pZ (ro:=ro) (P:=P) hG0 h2 M hr hvs hps hpn (hrnd B S) (R:=fun e w''=>match e with
     | .returned v => wpOpsIn (FI ro) 0 P ops (fun e a' w' => ∃ a0 ds', a' = up ds' a0 ∧ Post B S n fl w gs om (Q ds') e a0 w') l2 ((up ds a0).put o.dst v) w''
     | _ => False) (by
   intro b w3 o3 g3 m3 hJ M3 X3
   show wpOpsIn _ _ _ _ _ _ _ _
   have IA : Ext B w0 g2 m2 w3 g3 m3 := ⟨by have := X3.gs; rwa [← M.len, List.take_length] at this, X3.below, X3.inner rfl⟩
   have X4 := X.dM IA.dm hgl
   obtain ⟨s4, c4, o4, t4, L4, e1, e2⟩ := hnext b o3 hJ
   have w4 := la (B := B) (S := S) (fl := fl) (l2 := []) (Q := fun e s2 o2 => e = .normal ∧ s2 = told s4 c4 ∧ o2 = o4) hko t4 (ja ⟨rfl, rfl, rfl⟩)
   rw [List.append_nil] at w4
   have F4 : eo n (told (put s' o.dst (.d (.v (.bool b)))) (ju c' o.dst true)) (a0.put o.dst (.bool b)) w3 S (Inner B w3 m3) g3 := by
     rw [iJ]
     exact eo.put ⟨F.size, F.defers, fun i => M.iD IA (F.rel i)⟩ (.d (.v rfl)) (ez hdst)
   have h5' := w4 _ w3 g3 m3 (gU h1 h2 X4.below) h2 M3 F4 (by rw [← M3.len]; exact X4.len hgl)
   rw [iL, ← List.append_nil l2]
   refine nA (n := 0) (ds := ds) hd (by rintro ⟨_, _, _, _, _, _, q, _⟩; cases q.1) (by rintro ch a0 w0 ⟨_, _, _, _, q, _⟩; cases q.1) [] ?_ l2 _ w3 h5'
   rintro a5 w5 ⟨s5, o5, g5, m5, ⟨-, rfl, rfl⟩, M5, F5, X5⟩
   exact ⟨a5, ds, rfl, slots L4, o5, g5, m5, e2, M5, F5.less e1, X4.dM X5 hgl⟩)
 rw[hy];refine⟨fun q=>by simp[FI,Fence.wide]at q,iK.mono ?_⟩;rintro e w3 hR
 cases e with
 | returned v=>exact hR
 | _=>exact hR.elim
theorem yJ{K:(Nat→AV)→(Nat→Bool)→List Obj→Prop}{hard:List Nat}{i l2}{o:Oper}{cl:Call}{x as lb r c1 L}(J:Bool→List Obj→Prop)(ho:ops[i]?=some o)(hg:o.guard=none)(hd:cP n o.dst=true)(hop:o.op = .call cl)(uD:cl.callee = .value x)
    (hxs:fb true c o.op.operands.toList) (hx:Got (bu s x) (.fn (.yield lb) [] [])) (has:Got (cl.args.toList.map (bu s)) as) (hr:objs[r]?=some (.lp lb c1 L .ready none)) (hps:c1.params.size=as.length) (hpn:∀p∈c1.params.toList,p<c1.n)
    (hrnd:∀B S,ky P g B S lb r c1 L as objs J) (k:∀b o2,J b o2→Run P g n ops (List.range ops.size) l2 (put s o.dst (.d (.v (.bool b)))) (ju c o.dst true) o2 K):Run P g n ops hard [] s c objs (IB P g n ops i l2 K):=by
 have he:=g8 (s:=s) rfl hxs;refine jF ⟨o,cl,x,as,lb,r,c1,L,J,ho,hg,hd,hop,uD,?_,?_,hr,hps,hpn,hrnd,k⟩
 ·rw[←(show bu s x=_ from hx)];exact(he x (by rw[hop];simp[Op.operands,Call.operands,uD])).symm
 ·rw[←(show cl.args.toList.map (bu s)=_ from has)];refine List.map_congr_left fun y hy=>(he y ?_).symm
  rw[hop];simp only[Op.operands,Call.operands,uD];simp;right;simpa using hy
end
end Go.aN
/- Ranges over functions: the statement. Lemmas alone. -/
namespace Go.aN
open Go.RowKit Go.Lib
abbrev zx(b:Nat):Deferred := {target:=.collected b,args := #[]}
section
variable {P:Program} {g:Gl} {B:Nat} {S:Nat→Prop} {n:Nat} {fl:Fl} {ro:Option Nat} {ds:List Deferred} {w:World} {gs:List G1} {om:Nat→Option (Nat×Bool)} {s:Nat→AV} {c:Nat→Bool} {objs:List Obj} {Q:Qd} {ops:Array Oper}
def Pending(Q:Qt)(s:Nat→AV)(o:List Obj):Option Code→Prop
 | none=>Q .normal s o
 | some .ret=>Q .ret s o
 | some (.exit id)=>Q (.exit id) s o
 | _=>False
theorem AP{live:List Nat}{p:Nat×AV}(h:p∈eu s live):p.2=s p.1:=by
 induction live with
 | nil=>cases h
 | cons t ts ih=>
  simp only[eu,List.mem_cons]at h;rcases h with rfl|h
  ·rfl
  ·exact ih h
theorem nC{J8:Operand}{ps:Array Tmp}{assign body:Code}{f:FuncId}{first caps:List AV}(live:List Nat){L}(hx:Got (bu s J8) (.fn (.func f) first caps))(hE:Enters P f)(hL:Got (eu s live) L)(K:FuncId→Nat→Nat→AV→List Obj→Prop)
    (hcall:∀fn b l B S,a7 P g B S ⟨objs.length+2,true⟩ f (first++[.fn (.yield l) [] []]++caps) (objs++[.blk b,.lp l ⟨fn,n,ps,assign,body⟩ L .ready none]) (K fn b l))
    (hk:∀fn b l av o,K fn b l av o→∃st pend,o[objs.length+1]?=some (.lp l ⟨fn,n,ps,assign,body⟩ L st pend)∧st ≠ .busy∧Pending (Q (zx b::ds)) s (o.set (objs.length+1) .dead) pend) :
    WI P g B S n fl none ds (.rangeFunc J8 ps assign body) s objs Q:=fun a w gs om h1 h2 h3 h4 h5=>by
 have hgl:fl.n≤gs.length:=by rw[h3.len];exact h5
 have hL:eu s live=L:=hL;refine wpIn_rangeFunc fun fn _=>?_
 obtain⟨w',gs',bz,hent,e,M⟩:=h3.DF (P:=P) h4 (fn:=fn) (ps:=ps) (assign:=assign) (body:=body) (L:=L) (fun p hp=>AP (by rw[hL];exact hp));have hf:=eB h4 J8;rw[show bu s J8=_ from hx]at hf;generalize hv:a.eval J8=v at hf
 cases hf with
 | @fn _ _ _ vs us r1 r2=>
  obtain⟨Qb,e1,e2,e3⟩:=hE;have hup:({up ds a with defers:=[zx w.heap.size]++(up ds a).defers}:Act)=up (zx w.heap.size::ds) a:=by simp[up,h4.defers]
  refine⟨w.heap.size+1,[zx w.heap.size],w',{target:=.fn (.func f) us.toArray,args:=vs.toArray ++ #[Value.func (.yield (w.heap.size+1)) #[] #[]]},w',f,(vs++[Value.func (.yield (w.heap.size+1)) #[] #[]]++us).toArray,w',hent,?_,fun _ _=>trivial,?_,fun q=>by simp[FI,Fence.wide]at q,?_⟩
  ·rw[mw];simp only[resolve,rangeCall,hv,Deferred.ofValue,Sem.run_pure];simp[Act.eval]
  ·simp only[invoke,callFunc,run_program,Sem.run_bind,Sem.run_pure,Result.andThen_ok,e1,e2,e3,Bool.false_eq_true,if_false];congr 2;apply Array.ext';simp
  ·have X0:=e.dm (fl:=fl)
   have hargs:aQ w' S (Inner B w' bz) gs' (first++[.fn (.yield (w.heap.size+1)) [] []]++caps) (vs++[Value.func (.yield (w.heap.size+1)) #[] #[]]++us):=
    ((h3.wI e r1).append (.cons (.fn .nil .nil) .nil)).append (h3.wI e r2)
   refine kF.2 ((hcall fn w.heap.size (w.heap.size+1) B S _ w' gs' bz (gU h1 h2 X0.below) h2 M hargs (by simp)).mono ?_);rintro e w2 ⟨v2,av,o2,g2,m2,rfl,hK,M2, -,X2⟩;have NV:Ext B w' gs' bz w2 g2 m2:=⟨by have:=X2.gs;rwa [show objs.length+2=gs'.length by rw[M.len];simp,List.take_length]at this,X2.below,X2.inner rfl⟩;obtain⟨st,pend,hr,hb,hp⟩:=hk _ _ _ _ _ hK;obtain⟨T,dk,hw,hs,hq,hset⟩:=M2.zJ hr;obtain⟨e4,m4⟩:=hset .exhausted pend;have m5:=m4.kill (objs.length+1);rw[List.set_set]at m5;have X5:=(X0.dM NV.dm hgl).dM (e4.dm (fl:=fl)) hgl;have F5:eo n s a _ S (Inner B _ m2) g2:=⟨h4.size,h4.defers,fun i=>M2.iD e4 (M.iD NV (h3.iD e (h4.rel i)))⟩;refine⟨pend,_,run_endLoop hw hb,?_⟩;rw[hup]
   cases pend with
   | none=>exact⟨a,_,rfl,s,_,g2,m2,hp,m5,F5,X5⟩
   | some c=>
    cases c with
    | ret=>exact wpIn_ret ⟨a,_,rfl,s,_,g2,m2,hp,m5,F5,X5⟩
    | exit id=>exact wpIn_exit ⟨a,_,rfl,s,_,g2,m2,hp,m5,F5,X5⟩
    | _=>exact hp.elim
theorem ma{kp:Bool}{fn code f as K}(hf:P.funcs[f]?=some fn)(hb:fn.body=some code)(hn:as.length≤fn.ntmps)
    (h:∀B S,WI P g B S fn.ntmps ⟨objs.length,kp⟩ none [] code (nD as) objs (uh P fn objs.length K)):∀B S,a7 P g B S ⟨objs.length,kp⟩ f as objs K:=uo hf hb hn h
end
end Go.aN
/- Ranges over functions: rounds of loops, calls in place behind a guard that is known, a function's end. Lemmas alone. -/
namespace Go.aN
open Go.RowKit Go.Lib
section
variable {P:Program} {g:Gl} {B:Nat} {S:Nat→Prop} {n:Nat} {fl:Fl} {ro:Option Nat} {ds:List Deferred} {s:Nat→AV} {objs:List Obj} {Q:Qd} {ops:Array Oper} {hard:List Nat}
theorem bQ{id}:qD id Q ds .ret s objs=Q ds .ret s objs:=rfl
theorem cn{id j}:qD id Q ds (.exit j) s objs=if j=id then Q ds .normal s objs else Q ds (.exit j) s objs:=rfl
theorem cm{c}:Bo P g B S n fl ro c Q ds .ret s objs=Q ds .ret s objs:=rfl
theorem cM{c j}:Bo P g B S n fl ro c Q ds (.exit j) s objs=Q ds (.exit j) s objs:=rfl
theorem cp{Mv:List Deferred}{I:Nat→(Nat→AV)→List Obj→Prop}{m}:qo B S n fl Mv I m Q ds .ret s objs=Q ds .ret s objs:=rfl
theorem bY{Mv:List Deferred}{I:Nat→(Nat→AV)→List Obj→Prop}{m j}:qo B S n fl Mv I m Q ds (.exit j) s objs=Q ds (.exit j) s objs:=rfl
theorem bN{id}:qD id Q ds .normal s objs=Q ds .normal s objs:=rfl
theorem oo{Q:Qt}:Pending Q s objs none=Q .normal s objs:=rfl
theorem pX{Q:Qt}:Pending Q s objs (some .ret)=Q .ret s objs:=rfl
theorem sH{I:Nat→(Nat→AV)→List Obj→Prop}{m}(h:Rounds B S n fl I m (fun _ _ _=>False) .normal s objs):qo B S n fl ds I m Q ds .normal s objs:=⟨rfl,h⟩
theorem gZ{fn:Func}{f:Nat}{K:AV→List Obj→Prop}(m:Nat){rs aZ}(hS:Shut ds objs aZ)(h1:Got (eU P s aZ fn.results.toList) (some rs))(h4:f≤m)(h5:(gT rs).lt m=true)(h6:bE m (aZ.take m)=true)
    (hK:K (gT rs) (aZ.take m)):uh P fn f K ds .ret s objs:=⟨aZ,hS,rs,m,h1,h4,h5,h6,hK⟩
theorem cG{fn:Func}{f:Nat}{K:AV→List Obj→Prop}(m:Nat){rs aZ}(hS:Shut ds objs aZ)(h1:Got (eU P s aZ fn.results.toList) (some rs))(h4:f≤m)(h5:(gT rs).lt m=true)(h6:bE m (aZ.take m)=true)
    (hK:K (gT rs) (aZ.take m)):uh P fn f K ds .normal s objs:=⟨aZ,hS,rs,m,h1,h4,h5,h6,hK⟩
theorem CN{K:(Nat→AV)→(Nat→Bool)→List Obj→Prop}{c:Nat→Bool}{i l}{o:Oper}{cl:Call}{f as av aj}(ho:ops[i]?=some o)(hg:Got (jg ops s c o.guard) (some true))(hd:cP n o.dst=true)(hc:o.op = .call cl)(hx:fb true c o.op.operands.toList)
    (h:Got (c8 (bu s) cl) (some (f,as))) (hE:Enters P f) (hk:∀B S,a7 P g B S ⟨objs.length,true⟩ f as objs (fun a o=>a=av∧o=aj)) (hx2:i∈hard∨∃l,aj=objs++l)
    (k:Run P g n ops hard l (put s o.dst av) (ju c o.dst true) aj K):Run P g n ops hard (i::l) s c objs K:=by
 refine Run.cons (s1:=put s o.dst av) (c1:=ju c o.dst true) ?_ k;rw[iJ];exact .inl ho (iU hg) hc (by rw[←eZ (by have:=g8 (s:=s) rfl hx;rw[hc]at this;exact this)];exact h) hE hk hx2 (ez hd)
theorem mo{K:(Nat→AV)→(Nat→Bool)→List Obj→Prop}{c:Nat→Bool}{i l}{o:Oper}{av:AV}(ho:ops[i]?=some o)(hg:Got (jg ops s c o.guard) (some false))(hd:cP n o.dst=true)
    (k:Run P g n ops hard l (put s o.dst av) (ju c o.dst false) objs K):Run P g n ops hard (i::l) s c objs K:=by
 refine Run.cons (s1:=put s o.dst av) (c1:=ju c o.dst false) ?_ k;rw[iJ];exact .skip ho (iU hg) (ez hd)
end
end Go.aN
/- What the walk's lines unfold. -/
namespace Go.aN
open Go.RowKit
attribute [simp] gX AV.cells AV.aX qH Value.oneCell' um pI placesOf u3 jk tx maxLen kinds w9 kD BR xx nc jL CV nU nV rE LV iy iq cls cl oQ jC qq tk Lo DD ya c8 fF lI oS gj ji D.fp D.dS qi rY wj
/- The rules again, their easy parts left to their own tactics. -/
section
variable {P:Program} {g:Gl} {B:Nat} {S:Nat→Prop} {n:Nat} {fl:Fl} {s:Nat→AV} {c:Nat→Bool} {objs:List Obj} {Q:Qt} {ops:Array Oper} {hard:List Nat} {K:(Nat→AV)→(Nat→Bool)→List Obj→Prop}
theorem xO{i l}{o:Oper}{av aj}(k:Run P g n ops hard l (put s o.dst av) allT aj K)(ho:ops[i]?=some o:=by exact rfl)(hg:o.guard=none:=by exact rfl)(hd:cP n o.dst=true:=by exact rfl)
    (h:Got (eM P (bu s) objs o.op) (some (av,aj)):=by simp;exact .mk):Run P g n ops hard (i::l) s allT objs K:=kV ho hg hd h k
theorem xI{i l}{o:Oper}{b av}(k:Run P g n ops hard l (put s o.dst av) (ju c o.dst b) objs K)(ho:ops[i]?=some o:=by exact rfl)(hg:Got (jg ops s c o.guard) (some b):=by simp;exact .mk)(hd:cP n o.dst=true:=by exact rfl)
    (hx:fb b c o.op.operands.toList:=by simp<;>first|omega|grind) (h:b=true→Got (eM P (bu s) objs o.op) (some (av,objs)):=by intro hb;simp;exact .mk):Run P g n ops hard (i::l) s c objs K:=bg ho hg hd hx h k
theorem xB{i l}{o:Oper}{av aj}(k:Run P g n ops hard l (put s o.dst av) (ju c o.dst true) aj K)(ho:ops[i]?=some o:=by exact rfl)(hg:o.guard=none:=by exact rfl)(hd:cP n o.dst=true:=by exact rfl)
    (hx:fb true c o.op.operands.toList:=by simp<;>first|omega|grind) (h:Got (eM P (bu s) objs o.op) (some (av,aj)):=by simp;exact .mk):Run P g n ops hard (i::l) s c objs K:=bM ho hg hd hx h k
theorem xP{i l}{o:Oper}{x y z b t av b'}(k:Run P g n ops hard l (put s o.dst av) (ju c o.dst b') objs K)(ho:ops[i]?=some o:=by exact rfl)(hg:Got (jg ops s c o.guard) (some b):=by simp;exact .mk)(hd:cP n o.dst=true:=by exact rfl)(hp:o.op = .pick x y z:=by exact rfl)
    (hx:fb b c [x]:=by simp<;>first|assumption|omega|grind) (ht:Got (bu s x) (.d (.v (.bool t))):=by simp;exact .mk) (BZ:Got (bif t then bu s y else bu s z) av:=by simp;exact .mk) (hb:Got (b&&(bif t then mR c y else mR c z)) b':=by simp;exact .mk) :
    Run P g n ops hard (i::l) s c objs K:=fB ho hg hd hp hx ht BZ hb k
theorem xE(live:List Nat){L}(h:Q .normal (slots L) objs)(hc:ld c live:=by simp<;>first|omega|grind)(hL:Got (eu s live) L:=by simp;exact .mk):Run P g n ops hard [] s c objs (Ends Q):=run_end live hc hL h
theorem xT{id l d}(h:Run P g n ops l l s allT objs (Ends (Then P g B S n fl d Q)))(hl:Got (List.range ops.size) l:=by exact .mk):Then P g B S n fl (.seq (.region id ops false) d) Q .normal s objs:=fun _=>ab (Bq hl h)
theorem xU{id l d}(h:Run P g n ops l l s allT objs (Ends (Then P g B S n fl d Q)))(hl:Got (List.range ops.size) l:=by exact .mk):W P g B S n fl (.seq (.region id ops false) d) s objs Q:=ab (Bq hl h)
theorem xR{fn:Func}{r as d aj}(h1:Got (eU P s objs fn.results.toList) (some as))(h3:(qi (fF P fn.resultTypes.toList) d).1=r)(h2:Got (cl objs (gT as)) (some (d,aj)):=by simp;exact .mk)(h4:r.dS=true:=by simp):mN P fn r .ret s objs:=aG h1 h2 h3 h4
end
end Go.aN
/- Ways that part and meet again: a drawn region with ties, and a piece of code whose branches come to one state. Lemmas alone. -/
namespace Go.aN
open Go.RowKit Go.Lib
section
variable {P:Program} {g:Gl} {B:Nat} {S:Nat→Prop} {n:Nat} {fl:Fl} {s:Nat→AV} {objs:List Obj} {Q:Qt} {ops:Array Oper} {hard:List Nat}
theorem qF{id c}(A:List Nat)(hko:gW fl ops hard)(hm:P.follows .mixedOrders=true)(d:Nat)(o1:List Nat)(os:List (List Nat))(hos:(jE A).all (fun π=>nE ops A π||(o1::os).any fun o=>fw ops hard (fR π) d o)=true)
    (h:Run P g n ops hard o1 s allT objs (Ends fun _ s' o'=>∃L,s'=slots L∧qb (fun o=>Run P g n ops hard o s allT objs (Ends fun _ s2 o2=>Weak B S n fl s2 o2 (slots L) o')) os∧Then P g B S n fl c Q .normal (slots L) o')) :
    W P g B S n fl (.region id ops true) s objs (Then P g B S n fl c Q):=by
 obtain⟨s1,c1,o',t1,L1,e1,L,e2,h2,hc⟩:=h;refine(iP A hko hm d (o1::os) hos (Q:=fun e s' o2=>e = .normal∧Weak B S n fl s' o2 (slots L) o') ⟨⟨s1,c1,o',t1,L1,e1,rfl,by rw[e2];exact Weak.refl⟩,?_⟩).mono fun e s' o' ⟨h1,h2⟩=>?_
 ·have:∀ {os:List (List Nat)},qb (fun o=>Run P g n ops hard o s allT objs (Ends fun _ s' o2=>Weak B S n fl s' o2 (slots L) o')) os→qb (fun o=>Run P g n ops hard o s allT objs (Ends fun e s' o2=>e = .normal∧Weak B S n fl s' o2 (slots L) o')) os:=by
   intro os
   induction os with
   | nil=>intro _;trivial
   | cons o os ih=>
    rintro⟨⟨s1,c1,o1,t1,L1,e1,e2⟩,h⟩;exact⟨⟨s1,c1,o1,t1,L1,e1,rfl,e2⟩,ih h⟩
  exact this h2
 ·subst h1;exact gF h2 hc
end
end Go.aN
/- A call's rule again, its easy parts left to their own tactics. Lemmas alone. -/
namespace Go.aN
open Go.RowKit Go.Lib
section
variable {P:Program} {g:Gl} {n:Nat} {s:Nat→AV} {objs:List Obj} {ops:Array Oper} {hard:List Nat} {K:(Nat→AV)→(Nat→Bool)→List Obj→Prop}
theorem xC{i l}{o:Oper}{cl:Call}{f as ds q r av aj}(ct:a9 P g f ds r)(k:Run P g n ops hard l (put s o.dst av) allT aj K)(ho:ops[i]?=some o:=by exact rfl)(hg:o.guard=none:=by exact rfl)(hd:cP n o.dst=true:=by exact rfl)
    (hc:o.op = .call cl:=by exact rfl) (h:Got (c8 (bu s) cl) (some (f,as)):=by simp;exact .mk) (he:Got (lI objs (fF P cl.argTypes.toList) as) (some (ds,q)):=by simp;exact .mk) (hn:r.fp=true:=by simp)
    (hi:Got (gj objs r) (some (av,aj)):=by simp;exact .mk):Run P g n ops hard (i::l) s allT objs K:=bA ho hg hd hc h he ct hn hi k
end
end Go.aN
/- A piece of code whose branches come to one state, up to what is not needed any more. Lemmas alone. -/
namespace Go.aN
open Go.RowKit Go.Lib
section
variable {P:Program} {g:Gl} {B:Nat} {S:Nat→Prop} {n:Nat} {fl:Fl} {s:Nat→AV} {objs:List Obj} {Q:Qt}
theorem y9{c d}(L2:List (Nat×AV))(aZ:List Obj)(h1:W P g B S n fl c s objs (fun e s' o'=>e = .normal∧Weak B S n fl s' o' (slots L2) aZ))(h2:Then P g B S n fl d Q .normal (slots L2) aZ):W P g B S n fl c s objs (Then P g B S n fl d Q):=
 h1.mono fun e s' o' ⟨e1,e2⟩=>by subst e1;exact gF e2 h2
end
end Go.aN
/- Two lines of a walk in one. Lemmas alone. -/
namespace Go.aN
open Go.RowKit Go.Lib
section
variable {P:Program} {g:Gl} {B:Nat} {S:Nat→Prop} {n:Nat} {fl:Fl} {s:Nat→AV} {c:Nat→Bool} {objs:List Obj} {Q:Qt} {ops:Array Oper} {hard:List Nat}
theorem xF(live:List Nat){L d}(h:W P g B S n fl d (slots L) objs Q)(hc:ld c live:=by simp<;>first|omega|grind)(hL:Got (eu s live) L:=by simp;exact .mk):Run P g n ops hard [] s c objs (Ends (Then P g B S n fl d Q)):=xE live (fun _=>h) hc hL
theorem xG(live:List Nat){L id l d Hs}(h:Run P g n Hs l l (slots L) allT objs (Ends (Then P g B S n fl d Q)))(hc:ld c live:=by simp<;>first|omega|grind)(hL:Got (eu s live) L:=by simp;exact .mk)(hl:Got (List.range Hs.size) l:=by exact .mk) :
    Run P g n ops hard [] s c objs (Ends (Then P g B S n fl (.seq (.region id Hs false) d) Q)):=xE live (xT h hl) hc hL
theorem xK{d}(h:W P g B S n fl d s objs Q):W P g B S n fl .skip s objs (Then P g B S n fl d Q):=af fun _=>h
end
end Go.aN
/- Several lines of a walk in one. Lemmas alone. -/
namespace Go.aN
open Go.RowKit Go.Lib
section
variable {P:Program} {g:Gl} {B:Nat} {S:Nat→Prop} {n:Nat} {fl:Fl} {s:Nat→AV} {c:Nat→Bool} {objs:List Obj} {Q:Qt} {ops:Array Oper} {hard:List Nat} {K:(Nat→AV)→(Nat→Bool)→List Obj→Prop}
theorem ay{l i1 p1 v1 b1 i2 p2 v2 b2}(k:Run P g n ops hard l (put (put s p1.dst v1) p2.dst v2) allT b2 K)(o1:ops[i1]?=some p1:=by exact rfl)(g1:p1.guard=none:=by exact rfl)(d1:cP n p1.dst=true:=by exact rfl)(h1:Got (eM P (bu s) objs p1.op) (some (v1,b1)):=by simp;exact .mk)(o2:ops[i2]?=some p2:=by exact rfl)(g2:p2.guard=none:=by exact rfl)(d2:cP n p2.dst=true:=by exact rfl)(h2:Got (eM P (bu (put s p1.dst v1)) b1 p2.op) (some (v2,b2)):=by simp;exact .mk):Run P g n ops hard (i1::i2::l) s allT objs K:=xO (xO (k) o2 g2 d2 h2) o1 g1 d1 h1
theorem aT{l i1 p1 v1 b1 i2 p2 v2 b2 i3 p3 v3 b3}(k:Run P g n ops hard l (put (put (put s p1.dst v1) p2.dst v2) p3.dst v3) allT b3 K)(o1:ops[i1]?=some p1:=by exact rfl)(g1:p1.guard=none:=by exact rfl)(d1:cP n p1.dst=true:=by exact rfl)(h1:Got (eM P (bu s) objs p1.op) (some (v1,b1)):=by simp;exact .mk)(o2:ops[i2]?=some p2:=by exact rfl)(g2:p2.guard=none:=by exact rfl)(d2:cP n p2.dst=true:=by exact rfl)(h2:Got (eM P (bu (put s p1.dst v1)) b1 p2.op) (some (v2,b2)):=by simp;exact .mk)(o3:ops[i3]?=some p3:=by exact rfl)(g3:p3.guard=none:=by exact rfl)(d3:cP n p3.dst=true:=by exact rfl)(h3:Got (eM P (bu (put (put s p1.dst v1) p2.dst v2)) b2 p3.op) (some (v3,b3)):=by simp;exact .mk):Run P g n ops hard (i1::i2::i3::l) s allT objs K:=xO (xO (xO (k) o3 g3 d3 h3) o2 g2 d2 h2) o1 g1 d1 h1
theorem bx{l i1 p1 v1 b1 i2 p2 v2 b2 i3 p3 v3 b3 i4 p4 v4 b4}(k:Run P g n ops hard l (put (put (put (put s p1.dst v1) p2.dst v2) p3.dst v3) p4.dst v4) allT b4 K)(o1:ops[i1]?=some p1:=by exact rfl)(g1:p1.guard=none:=by exact rfl)(d1:cP n p1.dst=true:=by exact rfl)(h1:Got (eM P (bu s) objs p1.op) (some (v1,b1)):=by simp;exact .mk)(o2:ops[i2]?=some p2:=by exact rfl)(g2:p2.guard=none:=by exact rfl)(d2:cP n p2.dst=true:=by exact rfl)(h2:Got (eM P (bu (put s p1.dst v1)) b1 p2.op) (some (v2,b2)):=by simp;exact .mk)(o3:ops[i3]?=some p3:=by exact rfl)(g3:p3.guard=none:=by exact rfl)(d3:cP n p3.dst=true:=by exact rfl)(h3:Got (eM P (bu (put (put s p1.dst v1) p2.dst v2)) b2 p3.op) (some (v3,b3)):=by simp;exact .mk)(o4:ops[i4]?=some p4:=by exact rfl)(g4:p4.guard=none:=by exact rfl)(d4:cP n p4.dst=true:=by exact rfl)(h4:Got (eM P (bu (put (put (put s p1.dst v1) p2.dst v2) p3.dst v3)) b3 p4.op) (some (v4,b4)):=by simp;exact .mk):Run P g n ops hard (i1::i2::i3::i4::l) s allT objs K:=xO (xO (xO (xO (k) o4 g4 d4 h4) o3 g3 d3 h3) o2 g2 d2 h2) o1 g1 d1 h1
theorem cW{l i1 p1 v1 b1 i2 p2 v2 b2 i3 p3 v3 b3 i4 p4 v4 b4 i5 p5 v5 b5}(k:Run P g n ops hard l (put (put (put (put (put s p1.dst v1) p2.dst v2) p3.dst v3) p4.dst v4) p5.dst v5) allT b5 K)(o1:ops[i1]?=some p1:=by exact rfl)(g1:p1.guard=none:=by exact rfl)(d1:cP n p1.dst=true:=by exact rfl)(h1:Got (eM P (bu s) objs p1.op) (some (v1,b1)):=by simp;exact .mk)(o2:ops[i2]?=some p2:=by exact rfl)(g2:p2.guard=none:=by exact rfl)(d2:cP n p2.dst=true:=by exact rfl)(h2:Got (eM P (bu (put s p1.dst v1)) b1 p2.op) (some (v2,b2)):=by simp;exact .mk)(o3:ops[i3]?=some p3:=by exact rfl)(g3:p3.guard=none:=by exact rfl)(d3:cP n p3.dst=true:=by exact rfl)(h3:Got (eM P (bu (put (put s p1.dst v1) p2.dst v2)) b2 p3.op) (some (v3,b3)):=by simp;exact .mk)(o4:ops[i4]?=some p4:=by exact rfl)(g4:p4.guard=none:=by exact rfl)(d4:cP n p4.dst=true:=by exact rfl)(h4:Got (eM P (bu (put (put (put s p1.dst v1) p2.dst v2) p3.dst v3)) b3 p4.op) (some (v4,b4)):=by simp;exact .mk)(o5:ops[i5]?=some p5:=by exact rfl)(g5:p5.guard=none:=by exact rfl)(d5:cP n p5.dst=true:=by exact rfl)(h5:Got (eM P (bu (put (put (put (put s p1.dst v1) p2.dst v2) p3.dst v3) p4.dst v4)) b4 p5.op) (some (v5,b5)):=by simp;exact .mk):Run P g n ops hard (i1::i2::i3::i4::i5::l) s allT objs K:=xO (xO (xO (xO (xO (k) o5 g5 d5 h5) o4 g4 d4 h4) o3 g3 d3 h3) o2 g2 d2 h2) o1 g1 d1 h1
theorem xH(live:List Nat){L d i1 p1 v1 b1}(k:W P g B S n fl d (slots L) b1 Q)(o1:ops[i1]?=some p1:=by exact rfl)(g1:p1.guard=none:=by exact rfl)(d1:cP n p1.dst=true:=by exact rfl)(h1:Got (eM P (bu s) objs p1.op) (some (v1,b1)):=by simp;exact .mk)(hc:ld allT live:=by simp<;>first|omega|grind)(hL:Got (eu (put s p1.dst v1) live) L:=by simp;exact .mk):Run P g n ops hard (i1::[]) s allT objs (Ends (Then P g B S n fl d Q)):=xO (xF live k hc hL) o1 g1 d1 h1
theorem bU(live:List Nat){L d i1 p1 v1 b1 i2 p2 v2 b2}(k:W P g B S n fl d (slots L) b2 Q)(o1:ops[i1]?=some p1:=by exact rfl)(g1:p1.guard=none:=by exact rfl)(d1:cP n p1.dst=true:=by exact rfl)(h1:Got (eM P (bu s) objs p1.op) (some (v1,b1)):=by simp;exact .mk)(o2:ops[i2]?=some p2:=by exact rfl)(g2:p2.guard=none:=by exact rfl)(d2:cP n p2.dst=true:=by exact rfl)(h2:Got (eM P (bu (put s p1.dst v1)) b1 p2.op) (some (v2,b2)):=by simp;exact .mk)(hc:ld allT live:=by simp<;>first|omega|grind)(hL:Got (eu (put (put s p1.dst v1) p2.dst v2) live) L:=by simp;exact .mk):Run P g n ops hard (i1::i2::[]) s allT objs (Ends (Then P g B S n fl d Q)):=xO (xO (xF live k hc hL) o2 g2 d2 h2) o1 g1 d1 h1
theorem dC(live:List Nat){L d i1 p1 v1 b1 i2 p2 v2 b2 i3 p3 v3 b3}(k:W P g B S n fl d (slots L) b3 Q)(o1:ops[i1]?=some p1:=by exact rfl)(g1:p1.guard=none:=by exact rfl)(d1:cP n p1.dst=true:=by exact rfl)(h1:Got (eM P (bu s) objs p1.op) (some (v1,b1)):=by simp;exact .mk)(o2:ops[i2]?=some p2:=by exact rfl)(g2:p2.guard=none:=by exact rfl)(d2:cP n p2.dst=true:=by exact rfl)(h2:Got (eM P (bu (put s p1.dst v1)) b1 p2.op) (some (v2,b2)):=by simp;exact .mk)(o3:ops[i3]?=some p3:=by exact rfl)(g3:p3.guard=none:=by exact rfl)(d3:cP n p3.dst=true:=by exact rfl)(h3:Got (eM P (bu (put (put s p1.dst v1) p2.dst v2)) b2 p3.op) (some (v3,b3)):=by simp;exact .mk)(hc:ld allT live:=by simp<;>first|omega|grind)(hL:Got (eu (put (put (put s p1.dst v1) p2.dst v2) p3.dst v3) live) L:=by simp;exact .mk):Run P g n ops hard (i1::i2::i3::[]) s allT objs (Ends (Then P g B S n fl d Q)):=xO (xO (xO (xF live k hc hL) o3 g3 d3 h3) o2 g2 d2 h2) o1 g1 d1 h1
theorem xQ(live:List Nat){L}{e:Operand}{x y:Code}{t:Bool}(h1:t=true→W P g B S n fl x (slots L) objs Q)(h2:t=false→W P g B S n fl y (slots L) objs Q)(hc:ld c live:=by simp<;>first|omega|grind)(hL:Got (eu s live) L:=by simp;exact .mk)(he:bu (slots L) e = .d (.v (.bool t)):=by exact rfl):Run P g n ops hard [] s c objs (Ends (Then P g B S n fl (.cond e x y) Q)):=xF live (bd he h1 h2) hc hL
theorem aH{i l}{o:Oper}{av aj}(k:Run P g n ops hard l (put s o.dst av) allT aj K)(ho:ops[i]?=some o:=by exact rfl)(hg:o.guard=none:=by exact rfl)(hd:cP n o.dst=true:=by exact rfl)(h:Got (eM P (bu s) objs o.op) (some (av,aj)):=by simp[splice];exact .mk):Run P g n ops hard (i::l) s allT objs K:=kV ho hg hd h k
theorem xY{id l}(h:Run P g n ops l l s allT objs (Ends Q))(hl:Got (List.range ops.size) l:=by exact .mk):W P g B S n fl (.region id ops false) s objs Q:=Bq hl h
theorem xZ{fn:Func}{r as d aj}(h3:(qi (fF P fn.resultTypes.toList) d).1=r)(hq:Q .ret s objs=mN P fn r .ret s objs:=by exact rfl)(h1:Got (eU P s objs fn.results.toList) (some as):=by simp;exact .mk)(h2:Got (cl objs (gT as)) (some (d,aj)):=by simp;exact .mk)(h4:r.dS=true:=by simp):W P g B S n fl .ret s objs Q:=ar (hq▸aG h1 h2 h3 h4)
end
theorem xA{P:Program}{g:Gl}{f fn c ds r}(hf:P.funcs[f]?=some fn)(h:∀B S,W P g B S fn.ntmps ⟨0,false⟩ c (nD (ds.map qJ)) [] (mN P fn r))(hb:fn.body=some c:=by exact rfl)(hnm:(fn.name == "runtime.NumGoroutine")=false:=by exact rfl)(hl:ds.length≤fn.ntmps:=by exact Nat.le_of_ble_eq_true rfl):a9 P g f ds r:=Ai hf hb hnm hl h
end Go.aN
/- Ranges over functions: a region with several calls of yield. Lemmas alone. -/
namespace Go.aN
open Go.RowKit Go.Lib
def HM(P:Program)(g:Gl)(B:Nat)(S:Nat→Prop)(n:Nat)(fl:Fl)(ro:Option Nat)(ds:List Deferred)(ops:Array Oper)(l:List Nat)(s:Nat→AV)(c:Nat→Bool)(objs:List Obj)(Q:Qd):Prop:=
 ∀a w gs om,g.G w→g.N≤B→bm B w S objs gs om→eo n (told s c) a w S (Inner B w om) gs→fl.n≤objs.length →
  ∀K:Exit→Act→World→Prop,(∀e a0 ds' w',Post B S n fl w gs om (Q ds') e a0 w'→K e (up ds' a0) w')→wpOpsIn (FI ro) 0 P ops K l (up ds a) w
section
variable {P:Program} {g:Gl} {B:Nat} {S:Nat→Prop} {n:Nat} {fl:Fl} {ro:Option Nat} {ds:List Deferred} {w:World} {gs:List G1} {om:Nat→Option (Nat×Bool)} {s:Nat→AV} {c:Nat→Bool} {objs:List Obj} {Q:Qd} {ops:Array Oper}
theorem qp{id l}(hl:Got (List.range ops.size) l)(h:HM P g B S n fl ro ds ops l s allT objs Q):WI P g B S n fl ro ds (.region id ops false) s objs Q:=fun a w gs om h1 h2 h3 h4 h5=>by
 refine wpIn_region ?_;rw[show List.range ops.size=l from hl];exact h a w gs om h1 h2 h3 (by rw[cA];exact h4) h5 _ fun e a0 ds' w' hp=>⟨a0,ds',rfl,hp⟩
theorem kB(l1 l2:List Nat){l}(hl:Got l (l1++l2))(hd:rS ops=true)(h:Run P g n ops (List.range ops.size) l1 s c objs (fun s1 c1 o1=>HM P g B S n fl ro ds ops l2 s1 c1 o1 Q)):HM P g B S n fl ro ds ops l s c objs Q:=fun a w gs om h1 h2 h3 h4 h5 K hK=>by
 have hl:l=l1++l2:=hl;subst hl;have hgl:fl.n≤gs.length:=by rw[h3.len];exact h5
 obtain⟨s',c',o',t,hr⟩:=h;have hko:gW fl ops (List.range ops.size):=fun _ i hi=>by simpa using hi
 have w1:=la (B:=B) (S:=S) (fl:=fl) (l2:=[]) (Q:=fun e s2 o2=>e = .normal∧s2=told s' c'∧o2=o') hko t (ja ⟨rfl,rfl,rfl⟩);rw[List.append_nil]at w1;refine nA (n:=0) (ds:=ds) hd (Q:=Post B S n fl w gs om (fun e s2 o2=>e = .normal∧s2=told s' c'∧o2=o')) (by rintro⟨_,_,_,_,_,_,q,_⟩;cases q.1) (by rintro ch a0 w0 ⟨_,_,_,_,q,_⟩;cases q.1) l2 ?_ l1 a w (w1 a w gs om h1 h2 h3 h4 h5);rintro a0 w0 ⟨s2,o2,g2,m2,⟨-,rfl,rfl⟩,M,F,X⟩;exact hr a0 w0 g2 m2 (gU h1 h2 X.below) h2 M F (by rw[←M.len];exact X.len hgl) K fun e a1 ds' w' hp=>hK e a1 ds' w' (hp.trans X hgl)
theorem fN(l:List Nat)(hd:rS ops=true)(h:Run P g n ops (List.range ops.size) l s c objs (Ends (Q ds))):HM P g B S n fl ro ds ops l s c objs Q:=by
 refine kB l [] (by rw[List.append_nil];exact .mk) hd ?_;obtain⟨s',c',o',t,L,e1,e2⟩:=h;refine⟨s',c',o',t,fun a w gs om h1 h2 h3 h4 h5 K hK=>?_⟩;exact hK .normal a ds w ⟨slots L,o',gs,om,e2,h3,h4.less e1,⟨List.take_prefix _ _,.refl _ _,fun _ _ h=>⟨h,rfl⟩⟩⟩
theorem iY{i l2}{o:Oper}{cl:Call}{x as lb r c1 L}(J:Bool→List Obj→Prop)(ho:ops[i]?=some o)(hg:Got (jg ops s c o.guard) (some true))(hd:cP n o.dst=true)(hop:o.op = .call cl)(uD:cl.callee = .value x)
    (hxs:fb true c o.op.operands.toList) (hx:Got (bu s x) (.fn (.yield lb) [] [])) (has:Got (cl.args.toList.map (bu s)) as) (hr:objs[r]?=some (.lp lb c1 L .ready none)) (hps:c1.params.size=as.length) (hpn:∀p∈c1.params.toList,p<c1.n)
    (hrnd:∀B S,ky P g B S lb r c1 L as objs J) (k:∀b o2,J b o2→HM P g B S n fl ro ds ops l2 (put s o.dst (.d (.v (.bool b)))) (ju c o.dst true) o2 Q):HM P g B S n fl ro ds ops (i::l2) s c objs Q:=fun a w gs om h1 h2 h3 h4 h5 K hK=>by
 have hgl:fl.n≤gs.length:=by rw[h3.len];exact h5
 have hnd:∀c,o.op ≠ .defer c:=fun c hc=>by rw[hop]at hc;cases hc
 have he:=g8 (s:=s) rfl hxs
 have hx':bu (told s c) x = .fn (.yield lb) [] []:=by
  rw[←(show bu s x=_ from hx)];exact(he x (by rw[hop];simp[Op.operands,Call.operands,uD])).symm
 have has':cl.args.toList.map (bu (told s c))=as:=by
  rw[←(show cl.args.toList.map (bu s)=_ from has)];refine List.map_congr_left fun y hy=>(he y ?_).symm
  rw[hop];simp only[Op.operands,Call.operands,uD];simp;right;simpa using hy
 simp only[wpOpsIn,ho];rw[qB,if_pos (jf h4 (iU hg))];refine⟨fun _ _=>trivial,?_⟩;rw[show (FI ro).round=ro from rfl,Oper.semAt_eq _ _ _ hnd,mw,ug (eB h4) hop uD hx'];have hvs:aQ w S (Inner B w om) gs as (cl.args.toList.map a.eval):=by rw[←has'];exact aQ.of (eB h4)
 obtain⟨f,T,hy,iK⟩:=pZ (ro:=ro) (P:=P) h1 h2 h3 hr hvs hps hpn (hrnd B S) (R:=fun e w''=>match e with
     | .returned v => wpOpsIn (FI ro) 0 P ops K l2 ((up ds a).put o.dst v) w''
     | _ => False) (by
   intro b w3 o3 g3 m3 hJ M3 X3
   show wpOpsIn _ _ _ _ _ _ _ _
   have IA : Ext B w gs om w3 g3 m3 := ⟨by have := X3.gs; rwa [← h3.len, List.take_length] at this, X3.below, X3.inner rfl⟩
   have X4 := IA.dm (fl := fl)
   have F4 : eo n (told (put s o.dst (.d (.v (.bool b)))) (ju c o.dst true)) (a.put o.dst (.bool b)) w3 S (Inner B w3 m3) g3 := by
     rw [iJ]
     exact eo.put ⟨h4.size, h4.defers, fun i => h3.iD IA (h4.rel i)⟩ (.d (.v rfl)) (ez hd)
   rw [iL]
   exact k b o3 hJ _ w3 g3 m3 (gU h1 h2 X4.below) h2 M3 F4 (by rw [← M3.len]; exact X4.len hgl) K fun e a1 ds' w' hp => hK e a1 ds' w' (hp.trans X4 hgl))
 rw[hy];refine⟨fun q=>by simp[FI,Fence.wide]at q,iK.mono ?_⟩;rintro e w3 hR
 cases e with
 | returned v=>exact hR
 | _=>exact hR.elim
theorem tf{f:FuncId}{fn:Func}{c:Code}{ds:List D}{av:AV}{d:D}(hf:P.funcs[f]?=some fn)(hb:fn.body=some c)(hnm:(fn.name == "runtime.NumGoroutine")=false)
    (h:∀B S,a7 P g B S ⟨0,true⟩ f (ds.map qJ) [] (fun x r=>x=av∧r=[])) (hc:cl [] av=some (d,[])) (hn:d.dS=true):a9 P g f ds d:=by
 refine⟨⟨fn,hf,hnm,by simp[hb]⟩,fun w vs S ds' r hG hN hS hds hr=>?_⟩;unfold sP at hr;split at hr
 ·rename_i e;cases hr;subst e
  let om:Nat→Option (Nat×Bool):=fun _=>none
  have hM:bm w.heap.size w S [] [] om:=⟨rfl,by simp,hS,Nat.le_refl _⟩;have hds':aW w S (Inner w.heap.size w om) ds' vs []:=aW.mono (fun b hb=>⟨hb,rfl⟩) (fun b hb=>hb.elim) hds (by simp);refine(h w.heap.size S vs w [] om hG hN hM (oH hds') (by simp)).mono ?_;rintro e w' ⟨v,Da,aj,gs',bz,rfl,⟨rfl,rfl⟩,m,r2,x⟩;obtain⟨F,c1,c2⟩:=xk _ m r2 hc;exact⟨v,F,rfl,cb.ku c1 hn,c2.nodup,fun b hb=>⟨(c2.src b hb).1,(c2.src b hb).2.1⟩,x.below⟩
 ·cases hr
end
end Go.aN
/- Calls of which the objects that they leave are not needed. Lemmas alone. -/
namespace Go.aN
open Go.RowKit Go.Lib
section
variable {P:Program} {g:Gl} {B:Nat} {S:Nat→Prop} {n:Nat} {fl:Fl} {w:World} {gs:List G1} {om:Nat→Option (Nat×Bool)} {s:Nat→AV} {objs:List Obj}
end
end Go.aN
/- Rows of bytes written over in all of their room. Lemmas alone. -/
namespace Go.aN
open Go.RowKit Go.Lib
section
variable {P:Program} {g:Gl} {B:Nat} {S:Nat→Prop} {n:Nat} {fl:Fl} {w:World} {gs:List G1} {om:Nat→Option (Nat×Bool)} {s:Nat→AV} {objs:List Obj} {Q:Qt} {ops:Array Oper}
theorem zb{α:Type}{c:Code}{p:α→Prop}{s':α→Nat→AV}{aj:α→List Obj}
    (hw:∀w a gs om,bm B w S objs gs om→eo n s a w S (Inner B w om) gs→fl.n≤objs.length→∃x,p x∧∃gs2 lB,bm B w S (aj x) gs2 lB∧eo n (s' x) a w S (Inner B w lB) gs2∧iO fl B w gs om w gs2 lB)
    (h:∀x,p x→W P g B S n fl c (s' x) (aj x) Q):W P g B S n fl c s objs Q:=fun a w gs om h1 h2 h3 h4 h5=>by
 obtain⟨x,hp,gs2,lB,m,f,e⟩:=hw w a gs om h3 h4 h5;have hl:fl.n≤gs.length:=by rw[h3.len];exact h5
 exact wp_mono (h x hp a w gs2 lB h1 h2 m f (by rw[←m.len];exact e.len hl)) fun e' a w' h=>h.trans e hl
theorem zI{N:Nat→Prop}:∀ {ys:List Value} {vs F},aW w S N (flat (ys.map D.v)) vs F→F=[]
 | [],_,_,h=>by cases h;rfl
 | y::ys,vs,F,h=>by
  have h':aW w S N (D.v y::flat (ys.map D.v)) vs F:=h
  cases h' with
  | cons a t=>cases a;rw[zI t];rfl
def rF:NE→Bool
 | .row .. => true
 | _=>false
theorem n9{N:Nat→Prop}:∀ {xs:List D} {vs F},aW w S N (flat xs) vs F→(∀x∈xs,∃ys:List Value,x = .row .own 1 (ys.map .v))→∃L:List NE,L.length=xs.length∧L.all rF=true∧gu w L vs F
 | [],vs,F,h,_=>by cases h;exact⟨[],rfl,rfl,.nil⟩
 | x::xs,vs,F,h,hx=>by
  obtain⟨ys,rfl⟩:=hx x (by simp);have h':aW w S N (D.row .own 1 (ys.map D.v)::flat xs) vs F:=h
  cases h' with
  | @cons _ v F1 _ vs' G a t=>
   obtain⟨L,h1,h2,h3⟩:=n9 t (fun y hy=>hx y (by simp[hy]));generalize hz:ys.map D.v=zs at a
   cases a with
   | nil=>exact⟨.row 0 0 false::L,by simp[h1],by simp[rF,h2],.zero h3⟩
   | empty hm=>exact absurd rfl hm
   | old hm=>exact absurd rfl hm
   | @own _ _ b c cur T us F9 hb hc hn hm hk hvs h9=>
    subst hz;obtain rfl:F9=[]:=zI h9;exact⟨.row _ _ false::L,by simp[h1],by simp[rF,h2],.row hb (by rw[hc,Nat.mul_one]) hn hm (by simp) h3⟩
theorem FD(r:Nat){xs:List D}(hr:objs[r]?=some (.row 1 xs))(hx:∀x∈xs,∃ys:List Value,x = .row .own 1 (ys.map .v)){c:Code}
    (h:∀L:List NE,L.length=xs.length→L.all rF=true→W P g B S n fl c s (objs.set r (.nest L)) Q):W P g B S n fl c s objs Q:=
 zb (p:=fun L:List NE=>L.length=xs.length∧L.all rF=true) (s':=fun _=>s) (aj:=fun L=>objs.set r (.nest L)) (fun w a gs om hM hF hl=>by
   cases hM.obj r _ hr with
   | row0 hg hk hb =>
     refine ⟨[], ⟨rfl, rfl⟩, gs, om, ⟨by simp [hM.len], fun r1 o1 h1 => ?_, hM.hS, hM.hB⟩, hF, (Ext.refl ..).take⟩
     rcases eg h1 with ⟨rfl, rfl⟩ | ⟨_, h1⟩
     · exact .kf hg hk hb
     · exact hM.obj _ _ h1
   | row hg dP hb hB ho hw hc hn hk hvs hl hF' dT =>
     obtain ⟨L, h1, h2, h3⟩ := n9 hl hx
     refine ⟨L, ⟨h1, h2⟩, gs, om, ⟨by simp [hM.len], fun r1 o1 h1' => ?_, hM.hS, hM.hB⟩, hF, (Ext.refl ..).take⟩
     rcases eg h1' with ⟨rfl, rfl⟩ | ⟨_, h1'⟩
     · exact .nest hg dP hb hB ho hw hc (by rw [h1]; simpa using hn) (by rw [hvs, h1, Nat.mul_one]) h3 hF' dT
     · exact hM.obj _ _ h1') fun L hL => h L hL.1 hL.2
def xb(w:World)(len c:Nat)(full:Bool)(v:Value)(Fx:List Nat):Prop:=
 (v = .slice none 0 0∧len=0∧c=0∧Fx=[]) ∨
 ∃b cur T,v = .slice (some ⟨b,0,none⟩) len c∧Fx=[b]∧w.heap[b]?=some (.cells cur T (0,0))∧cur.size=c∧len≤c∧c≤maxLen∧(full=true→∃zs:List Int,cur.toList=zs.map (Value.int .u8))
theorem kQ:∀ {L:List NE} {vs F} {i len c full},gu w L vs F→L[i]?=some (.row len c full) →
    ∃v Fx F1 F2,vs[i]?=some v∧F=F1++(Fx++F2)∧gu w (L.set i (.raw v)) vs (F1++F2)∧xb w len c full v Fx
 | _,_,_,_,_,_,_,.nil,h=>by simp at h
 | _,_,_,0,_,_,_,.raw t,h=>by simp at h
 | _,_,_,0,_,_,_,.zero t,h=>by
  simp at h;obtain⟨rfl,rfl,rfl⟩:=h;exact⟨_,[],[],_,rfl,rfl,.raw t,.inl ⟨rfl,rfl,rfl,rfl⟩⟩
 | _,_,_,0,_,_,_,.row hb hc hl hm hf t,h=>by
  simp at h;obtain⟨rfl,rfl,rfl⟩:=h;exact⟨_,[_],[],_,rfl,rfl,.raw t,.inr ⟨_,_,_,rfl,rfl,hb,hc,hl,hm,hf⟩⟩
 | _,_,_,i+1,_,_,_,.raw t,h=>by
  obtain⟨v,Fx,F1,F2,h1,h2,h3,h4⟩:=kQ t (by simpa using h);exact⟨v,Fx,F1,F2,by simpa using h1,h2,.raw h3,h4⟩
 | _,_,_,i+1,_,_,_,.zero t,h=>by
  obtain⟨v,Fx,F1,F2,h1,h2,h3,h4⟩:=kQ t (by simpa using h);exact⟨v,Fx,F1,F2,by simpa using h1,h2,.zero h3,h4⟩
 | _,_,_,i+1,_,_,_,.row (b:=b) hb hc hl hm hf t,h=>by
  obtain⟨v,Fx,F1,F2,h1,h2,h3,h4⟩:=kQ t (by simpa using h);exact⟨v,Fx,b::F1,F2,by simpa using h1,by rw[h2];rfl,.row hb hc hl hm hf h3,h4⟩
theorem mh:∀ {L:List NE} {vs F} {i len c full v Fx},gu w L vs F→L[i]?=some (.raw v)→xb w len c full v Fx →
    ∃F1 F2,F=F1++F2∧gu w (L.set i (.row len c full)) vs (F1++(Fx++F2))
 | _,_,_,_,_,_,_,_,_,.nil,h,_=>by simp at h
 | _,_,_,0,_,_,_,_,_,.raw t,h,ha=>by
  simp at h;subst h;rcases ha with ⟨rfl,rfl,rfl,rfl⟩|⟨b,cur,T,rfl,rfl,hb,hc,hl,hm,hf⟩
  ·exact⟨[],_,rfl,.zero t⟩
  ·exact⟨[],_,rfl,.row hb hc hl hm hf t⟩
 | _,_,_,0,_,_,_,_,_,.zero t,h,_=>by simp at h
 | _,_,_,0,_,_,_,_,_,.row hb hc hl hm hf t,h,_=>by simp at h
 | _,_,_,i+1,_,_,_,_,_,.raw t,h,ha=>by
  obtain⟨F1,F2,h2,h3⟩:=mh t (by simpa using h) ha;exact⟨F1,F2,h2,.raw h3⟩
 | _,_,_,i+1,_,_,_,_,_,.zero t,h,ha=>by
  obtain⟨F1,F2,h2,h3⟩:=mh t (by simpa using h) ha;exact⟨F1,F2,h2,.zero h3⟩
 | _,_,_,i+1,_,_,_,_,_,.row (b:=b) hb hc hl hm hf t,h,ha=>by
  obtain⟨F1,F2,h2,h3⟩:=mh t (by simpa using h) ha;exact⟨b::F1,F2,by rw[h2];rfl,.row hb hc hl hm hf h3⟩
theorem za{sl:List (Nat×AV)}(r i:Nat){L:List NE}{len cap:Nat}{full:Bool}(hkeep:fl.keep=false)(hr:objs[r]?=some (.nest L))(hx:L[i]?=some (.row len cap full))(hs:jq sl=true)(hf:dA objs=true){c:Code}
    (h:∀zs:List Int,(full=true→zs.length=cap)→(full=false→zs=[])→len≤cap→cap≤maxLen→W P g B S n fl c (slots sl) (objs.set r (.dG i objs.length len L)++[.grow cap zs]) Q):W P g B S n fl c (slots sl) objs Q:=
 zb (p:=fun zs:List Int=>(full=true→zs.length=cap)∧(full=false→zs=[])∧len≤cap∧cap≤maxLen) (s':=fun _=>slots sl) (aj:=fun zs=>objs.set r (.dG i objs.length len L)++[.grow cap zs]) (fun w a gs om hM hF B1=>by
   have hi : i < L.length := (List.getElem?_eq_some_iff.1 hx).1
   have hrl : r < objs.length := (List.getElem?_eq_some_iff.1 hr).1
   cases hM.obj r _ hr with
   | kf => simp at hx
   | @nest T _ g' b cur vs F hg dP hb hB ho hw hc hn hvs hl hFn dT =>
     obtain ⟨v, Fx, F1, F2, h1, e2, h3, h4⟩ := kQ hl hx
     subst e2
     obtain ⟨bz, gn, zs, hz, hmk, hrow, Gw⟩ : ∃ (bz : Nat → Option (Nat × Bool)) (gn : G1) (zs : List Int), ((full = true → zs.length = cap) ∧ (full = false → zs = []) ∧ len ≤ cap ∧ cap ≤ maxLen) ∧ (∀ x, bz x = om x ∨ (x ∈ Fx ∧ om x = some (r, false))) ∧
         eA B w S (gs ++ [gn]) bz objs.length (.grow cap zs) ∧ (∀ N, a8 w S N (gs ++ [gn]) (.hdr objs.length 0 len) v) := by
       rcases h4 with ⟨rfl, rfl, rfl, rfl⟩ | ⟨b', cur', T', rfl, rfl, hb', hc', hl', hm', hf'⟩
       · exact ⟨om, ⟨none, 1, 0⟩, [], ⟨fun _ => rfl, fun _ => rfl, Nat.le_refl _, Nat.zero_le _⟩, fun x => .inl rfl, .jW (cY _ _ hM.len) rfl rfl rfl, fun N => .fP (cY _ _ hM.len) rfl⟩
       · have hin := dT b' (by simp)
         have hz : ∃ zs : List Int, (full = true → zs.length = cap) ∧ (full = false → zs = []) ∧ zs.length ≤ cap ∧ cur'.toList.take zs.length = zs.map (Value.int .u8) := by
           cases full with
           | false => exact ⟨[], by simp, fun _ => rfl, by simp, by simp⟩
           | true =>
             obtain ⟨zs, hzs⟩ := hf' rfl
             have hzl : zs.length = cap := by have := congrArg List.length hzs; simp at this; omega
             exact ⟨zs, fun _ => hzl, by simp, by omega, by rw [← hzs, List.take_of_length_le (by simp; omega)]⟩
         obtain ⟨zs, z1, z2, z3, z4⟩ := hz
         refine ⟨mark om [b'] (objs.length, true), ⟨some b', 1, cap⟩, zs, ⟨z1, z2, hl', hm'⟩, fun x => ?_, ?_, fun N => ?_⟩
         · by_cases hx1 : x ∈ [b']
           · simp at hx1; subst hx1; exact .inr ⟨by simp, hin.2.2⟩
           · exact .inl (bS hx1)
         · exact .grow (cY _ _ hM.len) rfl rfl hin.1 (da (by simp)) hb' hc' rfl z3 z4
         · exact .hdr (cY _ _ hM.len) rfl (by simp) (.inl (by simp)) hl' hm'
     have hpre : gs <+: gs ++ [gn] := List.prefix_append _ _
     have hoth : ∀ (r1 : Nat), r1 ≠ r → ∀ b c, om b = some (r1, c) → bz b = some (r1, c) := fun r1 hne b c hb => by
       rcases hmk b with e | ⟨_, e⟩
       · rw [e]; exact hb
       · rw [hb] at e; simp at e; exact absurd e.1 hne
     have B3 : ∀ x, x ∉ Fx → bz x = om x := fun x hx => (hmk x).resolve_right (fun h => hx h.1)
     have Gv : ∀ x ∈ F1 ++ F2, x ∉ Fx := by
       intro x hx hx2
       simp only [List.nodup_append, List.mem_append] at hFn
       simp at hx
       rcases hx with hx | hx
       · exact hFn.2.2 x hx x (.inl hx2) rfl
       · exact hFn.2.1.2.2 x hx2 x hx rfl
     have hbx : b ∉ Fx := fun hx => by have := (dT b (by simp [hx])).2.2; rw [ho] at this; simp at this
     refine ⟨zs, hz, gs ++ [gn], bz, ⟨by simp [hM.len], fun r1 o1 h1' => ?_, hM.hS, hM.hB⟩, ⟨hF.size, hF.defers, fun j => a8.gV (fun _ _ => rfl) hpre (hF.rel j) (kY hs j)⟩, ⟨(List.take_prefix _ _).trans hpre, .refl _ _, fun hk => by rw [hkeep] at hk; cases hk⟩⟩
     rcases eC _ _ _ _ h1' with h1' | ⟨rfl, rfl⟩
     · rcases eg h1' with ⟨rfl, rfl⟩ | ⟨hne, h1'⟩
       · refine .dG (v := v) ?_ hi (by omega) (Gw _)
         refine .nest (F := F1 ++ F2) (dj hpre hg) dP hb hB (by rw [B3 _ hbx]; exact ho) hw hc (by simpa using hn) (by rw [List.length_set]; exact hvs) h3 ?_ ?_
         · have := hFn
           simp only [List.nodup_append, List.mem_append] at this ⊢
           exact ⟨this.1, this.2.1.2.1, fun x hx y hy => this.2.2 x hx y (.inr hy)⟩
         · intro x hx
           have hm : x ∈ F1 ++ (Fx ++ F2) := by simp at hx ⊢; rcases hx with hx | hx <;> simp [hx]
           exact ⟨(dT x hm).1, (dT x hm).2.1, by rw [B3 _ (Gv x hx)]; exact (dT x hm).2.2⟩
       · exact eA.gV hpre (hM.obj r1 o1 h1') (lY hf h1') (hoth r1 hne)
     · have hlen' : (objs.set r (.dG i objs.length len L)).length = objs.length := by simp
       rw [hlen']
       exact hrow) fun zs hz => h zs hz.1 hz.2.1 hz.2.2.1 hz.2.2.2
theorem Weak.Co(r:Nat){i r' len c:Nat}{L:List NE}{zs:List Int}(full:Bool)(hr:objs[r]?=some (.dG i r' len L))(hr':objs[r']?=some (.grow c zs))(hfull:full=true→zs.length=c) :
    Weak B S n fl s objs s ((objs.set r (.nest (L.set i (.row len c full)))).set r' .dead):=fun w a gs om hM hF hlen=>by
 cases hM.obj r _ hr with
 | @dG _ _ _ _ v ho hi hne hv=>
  obtain⟨Fx,hat,HT⟩:∃Fx,xb w len c full v Fx∧∀x∈Fx,Fx=[x]∧B≤x∧x<w.heap.size∧om x=some (r',true):=by
   have hg0:=hM.obj r' _ hr'
   cases hv with
   | @hdr _ _ _ g' b' o c' hg hb hcap hoff hlc hm=>
    cases hg0 with
    | jW hg2 _ hb2=>rw[hg]at hg2;simp at hg2;subst hg2;rw[hb]at hb2;cases hb2
    | @grow _ _ _ g2 b2 cur hg2 dP hb2 hB ho2 hw2 hc2 hgc hn2 Nc=>
     obtain rfl:g'=g2:=by simpa using hg.symm.trans hg2
     obtain rfl:b'=b2:=by simpa using hb.symm.trans hb2
     have hcc:c'=c:=by rw[dP,Nat.mul_one,Nat.zero_add,hgc]at hcap;exact hcap
     have ho0:o=0:=by rcases hoff with h|⟨_,h⟩<;>simp_all
     subst ho0;subst hcc;refine⟨[b'],.inr ⟨b',cur,_,rfl,rfl,hw2,by rw[hc2,hgc],hlc,hm,fun hfl=>⟨zs,?_⟩⟩,fun x hx=>?_⟩
     ·rw[←Nc,hfull hfl];rw[List.take_of_length_le (by simp;omega)]
     ·simp at hx;subst hx;exact⟨rfl,hB,(Array.getElem?_eq_some_iff.1 hw2).1,ho2⟩
   | fP hg hb=>
    have:=(hg0.tG hg).2.2 hb;subst this;exact⟨[],.inl ⟨rfl,rfl,rfl,rfl⟩,by simp⟩
  have e:Ext B w gs om w gs (mark om Fx (r,false)):=⟨List.prefix_rfl,.refl _ _,fun x ⟨h1,h2,h3⟩=>⟨⟨h1,h2,fun r1=>by
    by_cases hx : x ∈ Fx
    · rw [da hx]; simp
    · rw [bS hx]; exact h3 r1⟩, rfl⟩⟩
  have hrl:r<objs.length:=(List.getElem?_eq_some_iff.1 hr).1;generalize hq:L.set i (.raw v)=L1 at ho
  cases ho with
  | kf=>exfalso;have:=congrArg List.length hq;simp at this;subst this;simp at hi
  | @nest T _ g' b cur vs F hg dP hb hB ho hw hc hn hvs hl hFn dT=>
   have hx1:L1[i]?=some (.raw v):=by rw[←hq];simp[hi]
   obtain⟨F1,F2,rfl,h3⟩:=mh hl hx1 hat;have hlx:L1.length=L.length:=by rw[←hq];simp
   have hset:L1.set i (.row len c full)=L.set i (.row len c full):=by rw[←hq];simp
   rw[hset]at h3;refine⟨gs,mark om Fx (r,false),hM.step e (by simp[hM.len]) fun r1 o1 h1'=>?_,⟨hF.size,hF.defers,fun j=>hM.iD e (hF.rel j)⟩,e.dm⟩;rcases eg h1' with ⟨rfl,rfl⟩|⟨hne1,h1'⟩
   ·exact .inr .dead
   rcases eg h1' with ⟨rfl,rfl⟩|⟨hne2,h1'⟩
   ·right
    have hgd:∀x∈Fx,x∉F1++F2:=fun x hx hx2=>by
     have a1:=(HT x hx).2.2.2;have a2:=(dT x hx2).2.2;rw[a1]at a2;simp at a2
    have MW:b∉Fx:=fun hb=>by
     have a1:=(HT b hb).2.2.2;rw[ho]at a1;simp at a1;exact hne a1.symm
    refine .nest (F:=F1++(Fx++F2)) hg dP hb hB (by rw[bS MW];exact ho) hw hc (by simpa [hlx]using hn) (by rw[List.length_set,←hlx];exact hvs) h3 ?_ ?_
    ·have:=hFn
     have hGn:Fx.Nodup:=by
      cases Fx with
      | nil=>simp
      | cons x t=>rw[(HT x (by simp)).1];simp
     simp only[List.nodup_append,List.mem_append]at this ⊢;refine⟨this.1,⟨hGn,this.2.1,fun x hx y hy e=>hgd x hx (by subst e;simp[hy])⟩,fun x hx y hy e=>?_⟩;subst e;rcases hy with hy|hy
     ·exact hgd x hy (by simp[hx])
     ·exact this.2.2 x hx x hy rfl
    ·intro x hx;by_cases E6:x∈Fx
     ·exact⟨(HT x E6).2.1,(HT x E6).2.2.1,da E6⟩
     ·have hm:x∈F1++F2:=by simp at hx ⊢;rcases hx with hx|hx|hx<;>simp_all
      exact⟨(dT x hm).1,(dT x hm).2.1,by rw[bS E6];exact(dT x hm).2.2⟩
   ·left;refine⟨h1',fun b c hbc _=>⟨?_,rfl⟩⟩;by_cases hx:b∈Fx
    ·have:=(HT b hx).2.2.2;rw[hbc]at this;simp at this;exact absurd this.1 hne1
    ·rw[bS hx];exact hbc
end
end Go.aN
/- Objects behind others that are told by a name alone; an object that falls away. Lemmas alone. -/
namespace Go.aN
open Go.RowKit Go.Lib
@[simp] theorem N5{α:Type}(os l:List α):(os++l)[os.length]?=l[0]?:=by rw[List.getElem?_append_right (Nat.le_refl _),Nat.sub_self]
@[simp] theorem Pa{α:Type}(os l:List α)(k:Nat):(os++l)[os.length+k]?=l[k]?:=by rw[List.getElem?_append_right (Nat.le_add_right _ _),Nat.add_sub_cancel_left]
@[simp] theorem Oz{α:Type}(os l:List α)(x:α):(os++l).set os.length x=os++l.set 0 x:=by rw[List.set_append_right _ _ (Nat.le_refl _),Nat.sub_self]
@[simp] theorem PH{α:Type}(os l:List α)(k:Nat)(x:α):(os++l).set (os.length+k) x=os++l.set k x:=by rw[List.set_append_right _ _ (Nat.le_add_right _ _),Nat.add_sub_cancel_left]
theorem gf:∀ {a b:List Obj},dA (a++b)=(dA a&&dA b)
 | [],b=>by simp
 | x::a,b=>by simp[gf (a:=a) (b:=b),Bool.and_assoc]
theorem jm{m:Nat}:∀ {a b:List Obj},bE m (a++b)=(bE m a&&bE m b)
 | [],b=>by simp
 | x::a,b=>by simp[jm (a:=a) (b:=b),Bool.and_assoc]
mutual
theorem uK{m m':Nat}(h:m≤m'):∀ {a:AV},a.lt m=true→a.lt m'=true
 | .d _,_=>rfl
 | .hdr r _ _,q=>by simp only[AV.lt,decide_eq_true_eq]at q ⊢;omega
 | .cut ..,_=>rfl
 | .ptr r _ _,q=>by simp only[AV.lt,decide_eq_true_eq]at q ⊢;omega
 | .rp ..,_=>rfl
 | .agg cs,q=>by simp only[AV.lt]at q ⊢;exact kb h q
 | .bK cs,q=>by simp only[AV.lt]at q ⊢;exact kb h q
 | .fn _ a b,q=>by simp only[AV.lt,Bool.and_eq_true]at q ⊢;exact⟨kb h q.1,kb h q.2⟩
 | .tH _ x,q=>by simp only[AV.lt]at q ⊢;exact uK h q
 | .dead,_=>rfl
theorem kb{m m':Nat}(h:m≤m'):∀ {a:List AV},AV.wa m a=true→AV.wa m' a=true
 | [],_=>rfl
 | a::as,q=>by simp only[AV.wa,Bool.and_eq_true]at q ⊢;exact⟨uK h q.1,kb h q.2⟩
end
theorem yo{m m':Nat}(h:m≤m'):∀ {o:Obj},o.lt m=true→o.lt m'=true
 | .var _ cs,q=>by simp only[Obj.lt]at q ⊢;exact kb h q
 | .hole _ r' _ _,q=>by simp only[Obj.lt,decide_eq_true_eq]at q ⊢;omega
 | .dG _ r' _ _,q=>by simp only[Obj.lt,decide_eq_true_eq]at q ⊢;omega
 | .lp _ _ L _ _,q=>by
  simp only[Obj.lt,List.all_eq_true]at q ⊢;exact fun p hp=>uK h (q p hp)
 | .row ..,_=>rfl
 | .it ..,_=>rfl
 | .blk ..,_=>rfl
 | .nest ..,_=>rfl
 | .grow ..,_=>rfl
 | .dead,_=>rfl
theorem r7{m m':Nat}(h:m≤m'):∀ {l:List Obj},bE m l=true→bE m' l=true
 | [],_=>rfl
 | a::as,q=>by simp only[bE,Bool.and_eq_true]at q ⊢;exact⟨yo h q.1,r7 h q.2⟩
section
variable {P:Program} {g:Gl} {B:Nat} {S:Nat→Prop} {n:Nat} {fl:Fl} {s:Nat→AV} {objs:List Obj} {Q:Qt}
theorem Weak.qw(r:Nat):Weak B S n fl s objs s (objs.set r .dead):=fun w a gs om hM hF hlen=>⟨gs,om,hM.kill r,hF,(Ext.refl ..).dm⟩
theorem p6{s2:Nat→AV}{aZ:List Obj}{I:Nat→(Nat→AV)→List Obj→Prop}{m}(hw:Weak B S n fl s objs s2 aZ)(h:Rounds B S n fl I m (fun _ _ _=>False) .normal s2 aZ):Rounds B S n fl I m (fun _ _ _=>False) .normal s objs:=by
 obtain⟨m',hm',s3,o3,hw2,hI⟩:=h;exact⟨m',hm',s3,o3,hw.trans hw2 (fun w gs om q1 q2=>by rw[←q1.len];exact q2),hI⟩
theorem Fv{α:Type}(os tl ds:List α)(x:α):(os++x::(tl++ds)).take (os.length+1+tl.length)=os++x::tl:=by
 rw[show os++x::(tl++ds)=(os++x::tl)++ds by simp,List.take_left' (by simp;omega)]
theorem q8{f:Nat}{fn:Func}{as av}{x:Obj}(os tl ds:List Obj)(h1:Got (eU P s objs fn.results.toList) (some as))(h2:gT as=av)(ho:objs=os++x::(tl++ds))(hf:f≤os.length+1+tl.length)(BZ:av.lt (os.length+1+tl.length)=true)
    (hx:x.lt (os.length+1+tl.length)=true) (hlo:bE (os.length+1+tl.length) os=true) (hlt:bE (os.length+1+tl.length) tl=true):qC P fn f av (os++x::tl) .ret s objs:=by
 subst ho;exact aK (os.length+1+tl.length) h1 h2 (Fv ..).symm hf BZ (by rw[Fv,jm];simp[bE,hx,hlo,hlt])
theorem vw{f:Nat}{fn:Func}{as av}{x y z:Obj}(os tl ds:List Obj)(h1:Got (eU P s objs fn.results.toList) (some as))(h2:gT as=av)(ho:objs=os++x::y::z::(tl++ds))(hf:f≤os.length+3+tl.length)(BZ:av.lt (os.length+3+tl.length)=true)
    (hx:x.lt (os.length+3+tl.length)=true) (hy:y.lt (os.length+3+tl.length)=true) (hz:z.lt (os.length+3+tl.length)=true) (hlo:bE (os.length+3+tl.length) os=true) (hlt:bE (os.length+3+tl.length) tl=true):qC P fn f av (os++x::y::z::tl) .normal s objs:=by
 subst ho
 have e:(os++x::y::z::(tl++ds)).take (os.length+3+tl.length)=os++x::y::z::tl:=by
  rw[show os++x::y::z::(tl++ds)=(os++x::y::z::tl)++ds by simp,List.take_left' (by simp;omega)]
 exact vv (os.length+3+tl.length) h1 h2 e.symm hf BZ (by rw[e,jm];simp[bE,hx,hy,hz,hlo,hlt])
end
end Go.aN
/- A row of which only the front is told any more. Lemmas alone. -/
namespace Go.aN
open Go.RowKit Go.Lib
section
variable {P:Program} {g:Gl} {B:Nat} {S:Nat→Prop} {n:Nat} {fl:Fl} {s:Nat→AV} {objs:List Obj} {Q:Qt}
theorem Weak.FY(r m:Nat){k:Nat}{xs ys:List D}(hr:objs[r]?=some (.row k xs))(hy:ys=xs.take m):Weak B S n fl s objs s (objs.set r (.row k ys)):=fun w a gs om hM hF hlen=>by
 have hO:=hM.obj r _ hr;refine⟨gs,om,⟨by simp[hM.len],fun r1 o1 h1=>?_,hM.hS,hM.hB⟩,hF,(Ext.refl ..).dm⟩;rcases eg h1 with ⟨rfl,rfl⟩|⟨_,h1⟩
 ·subst hy
  cases hO with
  | row0 hg hk hb=>simp only[List.take_nil];exact .row0 hg hk hb
  | @row T _ _ gg b cur vs F hg dP hb hB ho hw hc hn hk hvs hl hF' dT=>
   have e:flat xs=flat (xs.take m)++flat (xs.drop m):=by simp only[flat];rw[←List.flatMap_append,List.take_append_drop]
   have hfl:(flat (xs.take m)).length=(xs.take m).length*k:=bP (fun x hx=>hk x (List.mem_of_mem_take hx));rw[e]at hl;obtain⟨F1,F2,Pf,h1,_⟩:=hl.split;have hle:(xs.take m).length*k≤xs.length*k:=Nat.mul_le_mul_right _ (by simp;omega);subst Pf;refine .row hg dP hb hB ho hw hc (Nat.le_trans hle hn) (fun x hx=>hk x (List.mem_of_mem_take hx)) (vs:=vs.take (flat (xs.take m)).length) (F:=F1) ?_ h1 (List.nodup_append.1 hF').1 (fun b hb=>dT b (by simp[hb]));rw[hvs,hfl,List.take_take,Nat.min_eq_left hle]
 ·exact hM.obj _ _ h1
end
end Go.aN
