/- The statement OpsDoes, up to what closes it: called with any arguments it returns true; no condition. -/
import Derived.Test.YtokgokbgidgfeaaGreatCA
import Derived.Test.YtokgokbgidgfeaaGreatCL
import Derived.WalkKit
import Derived.ProofKit
import Derived.OpenShut
import Derived.ShutString
import Derived.ChangeOld
import Derived.Below
import Derived.SizedLaws
set_option linter.all false
namespace Go.Proofs.YtokgokbgidgfeaaGreat.opsDoes
open Go.ChangeShapes Go.WideShapes Go.ChangeAt Go.RowKit Go.aN
set_option maxRecDepth 100000 in
theorem lifted(os:Os)(started:os.Started)(H:Type)(enc:TypeId×Value→H) :
    ReturnsInHanded {} Tryz.checked os 13 .any (Rows.opsDoesSpec.pre6 enc Tryz.prog Tryz.f13 Rows.opsDoesRow.domain false) (Rows.opsDoesSpec.post enc Tryz.prog Tryz.f13 false true false false):=by
 refine returnsInHanded_of_change_sized (C:=Tryz.checked) own started (by kernel_rfl) Tryz.func13
  (ChangeSpec.witness6 (enc:=enc) (C:=Tryz.checked) false ⟨#[],#[.agg #[.int .i64 0,.int .i64 0,.int .i64 0,.int .i64 0,.int .i64 0,.int .i64 0,.slice none 0 0,.slice none 0 0,.slice none 0 0],.agg #[.int .i64 0,.int .i64 0,.int .i64 0,.int .i64 0,.int .i64 0,.slice none 0 0,.string ⟨#[]⟩]],[]⟩ 8 (by kernel_rfl) (by kernel_rfl) (by kernel_rfl) (by kernel_rfl)) ?_
 intro W base args ds gs before hval0 hW hcnd hsz0 _;have hval:∀(j:Nat) t v,Tryz.f13.params[j]?=some t→args[j]?=some v→Value.okWide Tryz.prog W .any base t v:=hval0;have hW':=hW;obtain⟨p,q,hA0,hV,rfl,hfz,hnd⟩:=hW;have hA:DataW.TrodAll enc Tryz.prog W 0 (fun _=>true) true Tryz.f13.params.toList args.toList ds p:=hA0;rw[Tryz.params13]at hA hval;obtain⟨v0,P7,d0,ds0,p0,q0,hargs,rfl,rfl,h0,r0⟩:=trodAll_cons hA;obtain⟨v1,vs1,d1,ds1,p1,q1,rfl,rfl,rfl,h1,r1⟩:=trodAll_cons r0;obtain⟨rfl,rfl,rfl⟩:=trodAll_nil r1;obtain rfl:args = #[v0,v1]:=by cases args;simp_all
 obtain⟨rfl,rfl⟩:=trodVars_none hV;have k0:=h0;have Np:∀x∈p0,x.block<W.heap.size:=by obtain⟨m,hm⟩:=k0;exact DataW.trod_lt m _ _ _ hm
 obtain⟨a0,e0⟩:=Opens.agg K7 Tryz.underlying28 (hval 0 28 v0 rfl rfl) h0;have k1:=h1;have Nq:∀x∈p1,x.block<W.heap.size:=by obtain⟨m,hm⟩:=k1;exact DataW.trod_lt m _ _ _ hm
 obtain⟨a1,e1⟩:=Opens.agg La Tryz.underlying73 (hval 1 73 v1 rfl rfl) h1;clear hA0 hval0 hsz0;have hc:=(L5 N6 a0 a1).sound W [v0,v1] (fun b=>b<W.heap.size) _ _ trivial (Nat.zero_le _) (fun _ h=>h) (aW.cons (F:=[]) (G:=[]) e0 (aW.cons (F:=[]) (G:=[]) e1 aW.nil)) jG;refine Calls.mono hc fun e W' ⟨v,F,he,hr,_,_,FK⟩=>?_
 subst he;cases hr;exact⟨_,rfl,_,_,_,[],_,[],hW',trodAll_mk1 (shut_bool Tryz.underlying4 _),(trodAll_cons_mk (Below.trod laidOut (by kernel_rfl) (of_decide_eq_true (by kernel_rfl)) k0 FK Np) (trodAll_cons_mk (Below.trod laidOut (by kernel_rfl) (of_decide_eq_true (by kernel_rfl)) k1 FK Nq) trodAll_mk0)),rfl,FK.frame _,fun h=>by cases h⟩
end Go.Proofs.YtokgokbgidgfeaaGreat.opsDoes
